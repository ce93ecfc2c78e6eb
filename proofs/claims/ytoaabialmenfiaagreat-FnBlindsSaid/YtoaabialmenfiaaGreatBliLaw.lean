/- The law FnBlinds as plain functions on data returns true for all arguments. No conditions. -/
import Derived.Test.YtoaabialmenfiaaGreatBliMod
set_option linter.unusedVariables false
set_option linter.unusedSimpArgs false
set_option linter.unusedSectionVars false
set_option linter.unnecessarySimpa false
namespace Go.Proofs.YtoaabialmenfiaaGreat.Vd
open Go.IntWalk

theorem i64_succ {i : Nat} (h : i < 2 ^ 62) : IntKind.wrap .i64 ((i : Int) + 1) = ((i + 1 : Nat) : Int) := by
  rw [i64_in _ (by omega)]
  rfl

theorem lt_yes {i n : Nat} (h : i < n) : decide ((i : Int) < (n : Int)) = true := by simp [h]

theorem lt_no (n : Nat) : decide ((n : Int) < (n : Int)) = false := by simp

/-- A walk over a list by its numbers, with no other state. -/
def walk {α β : Type} (step : Nat → α → Option β → Option β) (fin : Option β) : Nat → List α → Option β
  | _, [] => fin
  | i, a :: r => step i a (walk step fin (i + 1) r)

theorem loop_walk {α β : Type} {body : (Int → Option β) → Int → Option β} (l : List α) (step : Nat → α → Option β → Option β) (fin : Option β)
    (h : ∀ (again : Int → Option β) (i : Nat) a, l[i]? = some a → i < l.length → body again (i : Int) = step i a (again ((i + 1 : Nat) : Int)))
    (hend : ∀ again : Int → Option β, body again (l.length : Int) = fin) (hl : l.length < 2 ^ 64) : loopO body 0 = walk step fin 0 l := by
  refine (loopO_for (σ := Unit) (fun i _ => (i : Int)) l.length (fun i _ => walk step fin i (l.drop i)) (fun _ _ => True) (fun again _ _ => ?_) (fun again i _ hi _ ih => ?_) hl (i := 0) (s := ()) (Nat.zero_le _) trivial).trans rfl
  · simp [hend, walk]
  · rw [h again i l[i] (List.getElem?_eq_getElem hi) hi, ih () trivial, List.drop_eq_getElem_cons hi, walk]

/-- A walk over a list by its numbers, with a state (before the number). -/
def walkS {α β σ : Type} (step : Nat → α → σ → (σ → Option β) → Option β) (fin : σ → Option β) : Nat → List α → σ → Option β
  | _, [], s => fin s
  | i, a :: r, s => step i a s (walkS step fin (i + 1) r)

/-- The same, where the states keep something. -/
theorem loop_walkI {α β σ τ : Type} {body : (τ → Option β) → τ → Option β} (enc : Int → σ → τ) (l : List α) (step : Nat → α → σ → (σ → Option β) → Option β) (fin : σ → Option β) (Inv : Nat → σ → Prop)
    (hc : ∀ (i : Nat) a s (k k' : σ → Option β), l[i]? = some a → Inv i s → (∀ s', Inv (i + 1) s' → k s' = k' s') → step i a s k = step i a s k')
    (h : ∀ (again : τ → Option β) (i : Nat) a s, l[i]? = some a → i < l.length → Inv i s → body again (enc i s) = step i a s fun s' => again (enc ((i + 1 : Nat) : Int) s'))
    (hend : ∀ (again : τ → Option β) s, Inv l.length s → body again (enc l.length s) = fin s) (hl : l.length < 2 ^ 64) (s : σ) (h0 : Inv 0 s) : loopO body (enc 0 s) = walkS step fin 0 l s := by
  refine (loopO_for (σ := σ) (fun i s => enc (i : Int) s) l.length (fun i s => walkS step fin i (l.drop i) s) Inv (fun again s hs => ?_) (fun again i s hi hs ih => ?_) hl (i := 0) (s := s) (Nat.zero_le _) h0).trans rfl
  · simp [hend _ _ hs, walkS]
  · rw [h again i l[i] s (List.getElem?_eq_getElem hi) hi hs, List.drop_eq_getElem_cons hi, walkS]
    exact hc i l[i] s _ _ (List.getElem?_eq_getElem hi) hs fun s' hs' => ih s' hs'

theorem walk_any {α : Type} (p : α → Bool) : ∀ (l : List α) (i : Nat), walk (fun _ a k => if p a = true then some true else k) (some false) i l = some (l.any p)
  | [], _ => rfl
  | a :: l, i => by
    rw [walk, walk_any p l]
    cases h : p a <;> simp [h]

theorem walk_all {α : Type} (p : α → Bool) : ∀ (l : List α) (i : Nat), walk (fun _ a k => if p a = true then k else some false) (some true) i l = some (l.all p)
  | [], _ => rfl
  | a :: l, i => by
    rw [walk, walk_all p l]
    cases h : p a <;> simp [h]

theorem walk_index {α : Type} (p : α → Bool) : ∀ (l : List α) (i : Nat), ∃ j : Int, walk (fun i a k => if p a = true then some (i : Int) else k) (some (-1)) i l = some j ∧ decide (j ≥ 0) = l.any p
  | [], _ => ⟨-1, rfl, rfl⟩
  | a :: l, i => by
    obtain ⟨j, h1, h2⟩ := walk_index p l (i + 1)
    cases h : p a
    · exact ⟨j, by simp [walk, h, h1], by simp [h, h2]⟩
    · exact ⟨i, by simp [walk, h], by simp [h]⟩

theorem has_eq {l : List Int} {n : Int} (hl : l.length < 2 ^ 62) : M_S_l1Has (l, n) = some (l.any (· == n)) := by
  unfold M_S_l1Has
  refine (loop_walk l (fun _ a k => if (a == n) = true then some true else k) (some false) (fun again i a ha hi => ?_) (fun again => ?_) (by omega)).trans (walk_any _ l 0)
  · simp only [getI_nat, ha, bindO_some', i64_succ (show i < 2 ^ 62 by omega)]
    cases h : a == n <;> simp [h, hi]
  · simp

theorem index_eq {l : List Int} {n : Int} (hl : l.length < 2 ^ 62) : ∃ j : Int, M_slices_Index_sint_int (l, n) = some j ∧ decide (j ≥ 0) = l.any (· == n) := by
  obtain ⟨j, h1, h2⟩ := walk_index (fun a : Int => a == n) l 0
  refine ⟨j, ?_, h2⟩
  unfold M_slices_Index_sint_int
  refine (loop_walk l (fun i a k => if (a == n) = true then some (i : Int) else k) (some (-1)) (fun again i a ha hi => ?_) (fun again => ?_) (by omega)).trans h1
  · simp only [getI_nat, ha, bindO_some', i64_succ (show i < 2 ^ 62 by omega), lt_yes hi, cond_true]
    rw [show (n == a) = (a == n) from BEq.comm]
    cases h : a == n <;> simp [h]
  · simp

theorem lenOk_of {n : Nat} (h : n ≤ 68719476736) : lenOk n = true := by simp [lenOk, lim_eq, h]

theorem contains_eq {l : List Int} {n : Int} (hl : l.length < 2 ^ 62) : M_slices_Contains_sint_int (l, n) = some (l.any (· == n)) := by
  obtain ⟨j, h1, h2⟩ := index_eq (n := n) hl
  unfold M_slices_Contains_sint_int
  dsimp only
  rw [h1, bindO_some', h2]

/-- A loop whose states go down: a property of its answer. -/
theorem loopO_ind {σ β : Type} {body : (σ → Option β) → σ → Option β} (Q : σ → Option β → Prop) (Inv : σ → Prop) (μ : σ → Nat)
    (step : ∀ (again : σ → Option β) s, Inv s → (∀ s', Inv s' → μ s' < μ s → Q s' (again s')) → Q s (body again s)) {s : σ} (h0 : Inv s) (hm : μ s < 2 ^ 64) : Q s (loopO body s) := by
  rw [loopO_eq]
  have H : ∀ (n : Nat) (s : σ), Inv s → μ s < n → Q s (iter body n s) := by
    intro n
    induction n with
    | zero => intro s _ h; exact absurd h (Nat.not_lt_zero _)
    | succ n ih => intro s hs h; exact step _ s hs fun s' hs' h' => ih s' hs' (by omega)
  exact H many s h0 hm

theorem in_eq (x a b : Int) : M_S_l1In (x, a, b) = some (decide (a ≤ x ∧ x ≤ b)) := by
  by_cases h : a ≤ x <;> by_cases h2 : x ≤ b <;> simp [M_S_l1In, h, h2]

theorem within_eq (x a b : Int) : M_I_within (x, a, b) = some (decide (a ≤ x ∧ x ≤ b)) := by
  by_cases h : a ≤ x <;> by_cases h2 : x ≤ b <;> simp [M_I_within, h, h2]

theorem isModulus_eq (x : Int) : M_I_isModulus x = some (decide (2 ≤ x ∧ x ≤ 2000000000)) := by
  unfold M_I_isModulus
  rw [within_eq]
  rfl

def IsP (n : Int) : Prop := 2 ≤ n ∧ ∀ d, 2 ≤ d → d * d ≤ n → n % d ≠ 0

noncomputable def isP (n : Int) : Bool := @decide (IsP n) (Classical.propDecidable _)

/-- No divisor from d on. -/
def NoDiv (n s : Int) : Prop := ∀ d, s ≤ d → d * d ≤ n → n % d ≠ 0

noncomputable def noDiv (n s : Int) : Bool := @decide (NoDiv n s) (Classical.propDecidable _)

theorem noDiv_end {n s : Int} (hs : 0 ≤ s) (h : n < s * s) : noDiv n s = true := by
  simp only [noDiv, decide_eq_true_eq]
  intro d hd hdd
  have := Int.mul_le_mul hd hd hs (by omega)
  omega

theorem noDiv_hit {n s : Int} (h : s * s ≤ n) (h2 : n % s = 0) : noDiv n s = false := by
  simp only [noDiv, decide_eq_false_iff_not]
  intro hn
  exact hn s (Int.le_refl _) h h2

theorem noDiv_step {n s : Int} (h2 : s * s ≤ n → n % s ≠ 0) : noDiv n s = noDiv n (s + 1) := by
  simp only [noDiv, decide_eq_decide]
  constructor
  · intro h d hd hdd
    exact h d (by omega) hdd
  · intro h d hd hdd
    by_cases he : d = s
    · subst he
      exact h2 hdd
    · exact h d (by omega) hdd

theorem sq_lt {s : Int} (h0 : 0 ≤ s) (h : s * s ≤ 2000000000) : s ≤ 44721 := by
  refine Int.not_lt.1 fun hlt => ?_
  have := Int.mul_le_mul (show (44722 : Int) ≤ s by omega) (show (44722 : Int) ≤ s by omega) (by omega) h0
  omega

theorem sq_le {s k : Int} (h0 : 0 ≤ s) (h : s ≤ k) : s * s ≤ k * k := Int.mul_le_mul h h h0 (by omega)

theorem nPrime_eq {n : Int} (hn : n ≤ 2000000000) : M_S_nPrime n = some (isP n) := by
  unfold M_S_nPrime
  by_cases h2 : n < 2
  · have : isP n = false := by simp only [isP, decide_eq_false_iff_not]; intro h; have := h.1; omega
    simp [h2, this]
  · have hb : decide (n < 2) = false := by simpa using h2
    rw [hb, cond_false]
    have h1 : isP n = noDiv n 2 := by
      simp only [isP, noDiv, decide_eq_decide]
      exact ⟨fun h => h.2, fun h => ⟨by omega, h⟩⟩
    rw [h1]
    refine loopO_spec (fun s => some (noDiv n s)) (fun s => 2 ≤ s ∧ s ≤ 50000) (fun s => (50000 - s).toNat) (fun again s hs ih => ?_) ⟨by omega, by omega⟩ (by omega)
    obtain ⟨hs1, hs2⟩ := hs
    have hq := sq_le (by omega) hs2
    have hq0 : 0 ≤ s * s := Int.mul_nonneg (by omega) (by omega)
    simp only [bindO_some', i64_in _ (show (-9223372036854775808 : Int) ≤ s * s ∧ s * s ≤ 9223372036854775807 by omega)]
    by_cases hle : s * s ≤ n
    · have := sq_lt (by omega) (show s * s ≤ 2000000000 by omega)
      have hgs : guardO (s != 0) = some () := guardO_of (by simp; omega)
      simp only [hle, decide_true, cond_true, hgs, bindO_some', tmod_nn (show 0 ≤ n by omega)]
      by_cases h0 : n % s = 0
      · simp [h0, noDiv_hit hle h0]
      · have hb : (n % s == 0) = false := by simpa using h0
        have hw := i64_in (s + 1) (by omega)
        have hi := ih (s + 1) ⟨by omega, by omega⟩ (by omega)
        have hn := noDiv_step (n := n) (s := s) (fun _ => h0)
        rw [hb, cond_false, hw, hi, hn]
    · simp [hle, noDiv_end (by omega) (show n < s * s by omega)]

theorem odd_loop {n : Int} (hn : n ≤ 2000000000) (h2 : 2 ≤ n) (hodd : n % 2 = 1 ∨ n = 2) : loopO (fun (again9 : (Int → (Option Bool))) => (fun (s10 : Int) => (bindO (some (IntKind.wrap .i64 (s10 * s10))) (fun (a11 : Int) => (cond (decide (a11 ≤ n)) (bindO (guardO (s10 != (0 : Int))) (fun (a12 : Unit) => (bindO (some (Int.tmod n s10)) (fun (a13 : Int) => (cond (a13 == (0 : Int)) (some false) (bindO (some (IntKind.wrap .i64 (s10 + (2 : Int)))) (fun (a14 : Int) => (again9 a14)))))))) (some true)))))) (3 : Int) = some (noDiv n 3) := by
  refine loopO_spec (fun s => some (noDiv n s)) (fun s => 3 ≤ s ∧ s ≤ 50000 ∧ s % 2 = 1) (fun s => (50000 - s).toNat) (fun again s hs ih => ?_) ⟨by omega, by omega, by omega⟩ (by omega)
  obtain ⟨hs1, hs2, hs3⟩ := hs
  have hq := sq_le (by omega) hs2
  have hq0 : 0 ≤ s * s := Int.mul_nonneg (by omega) (by omega)
  simp only [bindO_some', i64_in _ (show (-9223372036854775808 : Int) ≤ s * s ∧ s * s ≤ 9223372036854775807 by omega)]
  by_cases hle : s * s ≤ n
  · have := sq_lt (by omega) (show s * s ≤ 2000000000 by omega)
    have h9 := sq_le (show (0 : Int) ≤ 3 by omega) hs1
    have hgs : guardO (s != 0) = some () := guardO_of (by simp; omega)
    simp only [hle, decide_true, cond_true, hgs, bindO_some', tmod_nn (show 0 ≤ n by omega)]
    by_cases h0 : n % s = 0
    · simp [h0, noDiv_hit hle h0]
    · have hb : (n % s == 0) = false := by simpa using h0
      have hw := i64_in (s + 2) (by omega)
      have hi := ih (s + 2) ⟨by omega, by omega, by omega⟩ (by omega)
      have hn1 := noDiv_step (n := n) (s := s) (fun _ => h0)
      have hn2 := noDiv_step (n := n) (s := s + 1) (fun h8 h1 => by
        have := Int.emod_emod_of_dvd n (show (2 : Int) ∣ (s + 1) by omega)
        rw [h1] at this
        have h3 : n ≠ 2 := fun h => by subst h; omega
        omega)
      rw [hb, cond_false, hw, hi, hn1, hn2, show s + 1 + 1 = s + 2 by omega]
  · simp [hle, noDiv_end (by omega) (show n < s * s by omega)]

theorem isPrime_eq {n : Int} (hn : n ≤ 2000000000) : M_I_isPrime n = some (isP n) := by
  unfold M_I_isPrime
  rw [isModulus_eq]
  by_cases h2 : 2 ≤ n
  · have h1 : isP n = noDiv n 2 := by
      simp only [isP, noDiv, decide_eq_decide]
      exact ⟨fun h => h.2, fun h => ⟨h2, h⟩⟩
    have hg2 : guardO ((2 : Int) != 0) = some () := rfl
    by_cases ho : n % 2 = 1 ∨ n = 2
    · rw [odd_loop hn h2 ho, hg2]
      simp only [bindO_some', h2, hn, and_self, decide_true, Bool.not_true, cond_false, tmod_nn (show 0 ≤ n by omega), h1]
      rcases ho with ho | rfl
      · have hb : (n % 2 == 0) = false := by simp [ho]
        rw [hb, cond_false, noDiv_step (n := n) (s := 2) (fun _ => by omega)]
        rfl
      · rw [noDiv_end (n := 2) (s := 2) (by omega) (by omega), noDiv_end (n := 2) (s := 3) (by omega) (by omega)]
        rfl
    · have he : n % 2 = 0 := by omega
      have hn2 : n ≠ 2 := fun h => ho (.inr h)
      have hb : (n != 2) = true := by simpa using hn2
      simp only [bindO_some', hg2, h2, hn, and_self, decide_true, Bool.not_true, cond_false, tmod_nn (show 0 ≤ n by omega), he, beq_self_eq_true, cond_true, hb, h1]
      rw [noDiv_hit (by omega) he]
  · have : isP n = false := by simp only [isP, decide_eq_false_iff_not]; intro h; have := h.1; omega
    simp [h2, this]

theorem pow_mod (a m : Int) : ∀ k : Nat, (a % m) ^ k % m = a ^ k % m
  | 0 => by simp
  | k + 1 => by rw [Int.pow_succ, Int.pow_succ, Int.mul_emod, pow_mod a m k, ← Int.mul_emod, Int.mul_emod, Int.emod_emod_of_dvd _ (Int.dvd_refl m), ← Int.mul_emod]

theorem sq_pow (a : Int) (k : Nat) : (a * a) ^ k = a ^ (2 * k) := by
  rw [show a * a = a ^ 2 by rw [Int.pow_succ, Int.pow_succ, Int.pow_zero, Int.one_mul], ← Int.pow_mul]

/-- One round of the power loop. -/
theorem pow_round {out a m : Int} {e : Int} (he : 0 < e) : ((if e % 2 = 1 then out * a % m else out) * (a * a % m) ^ (e / 2).toNat) % m = (out * a ^ e.toNat) % m := by
  have hk : e.toNat = 2 * (e / 2).toNat + (e % 2).toNat := by omega
  rw [Int.mul_emod, pow_mod, ← Int.mul_emod, sq_pow]
  by_cases h : e % 2 = 1
  · rw [if_pos h, hk, h, Int.pow_add, show (1 : Int).toNat = 1 by rfl, Int.pow_succ, Int.pow_zero, Int.one_mul, Int.mul_emod, Int.emod_emod_of_dvd _ (Int.dvd_refl m), ← Int.mul_emod]
    congr 1
    rw [Int.mul_assoc, Int.mul_comm a]
  · rw [if_neg h, hk, show e % 2 = 0 by omega]
    rfl

theorem mul_in {a b : Int} (ha : 0 ≤ a) (ha2 : a ≤ 3000000000) (hb : 0 ≤ b) (hb2 : b ≤ 3000000000) : 0 ≤ a * b ∧ a * b ≤ 9000000000000000000 :=
  ⟨Int.mul_nonneg ha hb, by have := Int.mul_le_mul ha2 hb2 hb (by omega); omega⟩

theorem nPower_eq {a e m : Int} (ha : 0 ≤ a) (ha2 : a ≤ 3000000000) (he : 0 ≤ e) (he2 : e ≤ 9223372036854775807) (hm : 1 ≤ m) (hm2 : m ≤ 3000000000) : M_S_nPower (a, e, m) = some (a ^ e.toNat % m) := by
  unfold M_S_nPower
  dsimp only
  have hg : guardO (m != 0) = some () := guardO_of (by simp; omega)
  have hg2 : guardO ((2 : Int) != 0) = some () := rfl
  rw [hg, bindO_some', bindO_some', tmod_nn (by omega)]
  have hfin : a ^ e.toNat % m = (1 % m * a ^ e.toNat) % m := by rw [Int.mul_emod, Int.emod_emod_of_dvd _ (Int.dvd_refl m), ← Int.mul_emod, Int.one_mul]
  rw [hfin]
  refine loopO_spec (fun (s : Int × Int × Int) => some ((s.2.2 * s.1 ^ s.2.1.toNat) % m)) (fun s => 0 ≤ s.1 ∧ s.1 ≤ 3000000000 ∧ 0 ≤ s.2.1 ∧ s.2.1 ≤ 9223372036854775807 ∧ 0 ≤ s.2.2 ∧ s.2.2 < m) (fun s => s.2.1.toNat) (fun again s hs ih => ?_)
    (⟨ha, ha2, he, he2, Int.emod_nonneg _ (by omega), Int.emod_lt_of_pos _ (by omega)⟩) (show e.toNat < 2 ^ 64 by omega)
  obtain ⟨a, e, out⟩ := s
  obtain ⟨h1, h2, h3, h4, h5, h6⟩ := hs
  dsimp only at h1 h2 h3 h4 h5 h6 ih ⊢
  have hoa := mul_in h5 (show out ≤ 3000000000 by omega) h1 h2
  have haa := mul_in h1 h2 h1 h2
  by_cases hpos : e > 0
  · have hr := pow_round (out := out) (a := a) (m := m) hpos
    have haam := Int.emod_nonneg (a * a) (show m ≠ 0 by omega)
    have haam2 := Int.emod_lt_of_pos (a * a) (show 0 < m by omega)
    have hoam := Int.emod_nonneg (out * a) (show m ≠ 0 by omega)
    have hoam2 := Int.emod_lt_of_pos (out * a) (show 0 < m by omega)
    simp only [hpos, decide_true, cond_true, hg, hg2, bindO_some', tmod_nn h3, tdiv_nn h3, i64_in _ (show (-9223372036854775808 : Int) ≤ out * a ∧ out * a ≤ 9223372036854775807 by omega), i64_in _ (show (-9223372036854775808 : Int) ≤ a * a ∧ a * a ≤ 9223372036854775807 by omega),
      tmod_nn hoa.1, tmod_nn haa.1, i64_in _ (show (-9223372036854775808 : Int) ≤ e / 2 ∧ e / 2 ≤ 9223372036854775807 by omega)]
    by_cases ho : e % 2 = 1
    · rw [if_pos ho] at hr
      rw [show (e % 2 == 1) = true by simp [ho], cond_true, ih (a * a % m, e / 2, out * a % m) ⟨haam, by dsimp only; omega, by dsimp only; omega, by dsimp only; omega, hoam, hoam2⟩ (by dsimp only; omega)]
      exact congrArg some hr
    · rw [if_neg ho] at hr
      rw [show (e % 2 == 1) = false by simp [ho], cond_false, ih (a * a % m, e / 2, out) ⟨haam, by dsimp only; omega, by dsimp only; omega, by dsimp only; omega, h5, h6⟩ (by dsimp only; omega)]
      exact congrArg some hr
  · have : e = 0 := by omega
    subst this
    simp [Int.emod_eq_of_lt h5 h6]

theorem bits_one {x : Int} (h : 0 ≤ x) : Vd.bits .and .i64 x 1 = x % 2 := by
  obtain ⟨n, rfl⟩ := Int.eq_ofNat_of_zero_le h
  have h1 : (BitVec.ofInt 64 ((n : Nat) : Int) &&& BitVec.ofInt 64 1).toNat = n % 2 := by
    rw [BitVec.toNat_and]
    have e1 : (BitVec.ofInt 64 ((n : Nat) : Int)).toNat = n % 2 ^ 64 := by simp
    have e2 : (BitVec.ofInt 64 1).toNat = 1 := by decide
    rw [e1, e2, Nat.and_one_is_mod]
    omega
  show IntKind.wrap .i64 (((BitVec.ofInt 64 ((n : Nat) : Int) &&& BitVec.ofInt 64 1).toNat : Nat) : Int) = _
  rw [h1, i64_in _ (by omega)]
  omega

theorem shr_one {x : Int} : Vd.shr .i64 x 1 = x / 2 := by
  show x.fdiv (2 ^ (min (1 : Int).toNat 64)) = x / 2
  rw [show ((2 : Int) ^ (min (1 : Int).toNat 64)) = 2 by decide, fdiv_pos (by omega)]

theorem power_eq {a e m : Int} (he : e ≤ 9223372036854775807) : M_I_power (a, e, m) = M_S_nPower (a, e, m) := by
  unfold M_I_power M_S_nPower
  congr 1
  funext _
  congr 1
  funext out
  refine loopO_congr (fun s => s.2.1 ≤ 9223372036854775807) (fun a1 a2 s hs ih => ?_) he
  by_cases hpos : s.2.1 > 0
  · have hg2 : guardO ((2 : Int) != 0) = some () := rfl
    have hg3 : guardO (decide ((0 : Int) ≤ 1)) = some () := rfl
    have hw : ∀ (x : Int) y, a1 (x, s.2.1 / 2, y) = a2 (x, s.2.1 / 2, y) := fun x y => ih _ (by dsimp only; omega)
    simp only [hpos, decide_true, cond_true, hg2, hg3, bindO_some', bits_one (show 0 ≤ s.2.1 by omega), shr_one, tmod_nn (show 0 ≤ s.2.1 by omega), tdiv_nn (show 0 ≤ s.2.1 by omega),
      i64_in _ (show (-9223372036854775808 : Int) ≤ s.2.1 / 2 ∧ s.2.1 / 2 ≤ 9223372036854775807 by omega), hw]
  · simp [hpos]

theorem l1All_eq {l : List Int} {lo hi : Int} (hl : l.length < 2 ^ 62) : M_S_l1All (l, lo, hi) = some (l.all fun n => decide (lo ≤ n ∧ n ≤ hi)) := by
  unfold M_S_l1All
  refine (loop_walk l (fun _ a k => if (decide (lo ≤ a ∧ a ≤ hi)) = true then k else some false) (some true) (fun again i a ha hi' => ?_) (fun again => ?_) (by omega)).trans (walk_all (fun n => decide (lo ≤ n ∧ n ≤ hi)) l 0)
  · simp only [getI_nat, ha, bindO_some', i64_succ (show i < 2 ^ 62 by omega), lt_yes hi', cond_true, in_eq]
    cases decide (lo ≤ a ∧ a ≤ hi) <;> rfl
  · simp

theorem walk_index_mem {α : Type} (p : α → Bool) (f : α → Option Bool) : ∀ (l : List α) (i : Nat), (∀ a ∈ l, f a = some (p a)) →
    ∃ j : Int, walk (fun i a k => bindO (f a) fun b => cond b (some (i : Int)) k) (some (-1)) i l = some j ∧ decide (j ≥ 0) = l.any p
  | [], _, _ => ⟨-1, rfl, rfl⟩
  | a :: l, i, hf => by
    obtain ⟨j, h1, h2⟩ := walk_index_mem p f l (i + 1) fun b hb => hf b (List.mem_cons_of_mem _ hb)
    have ha := hf a (List.mem_cons_self ..)
    cases h : p a
    · exact ⟨j, by simp [walk, ha, h, h1], by simp [h, h2]⟩
    · exact ⟨i, by simp [walk, ha, h], by simp [h]⟩

theorem containsFunc_eq {l : List Int} {f : Int → Option Bool} {p : Int → Bool} (hl : l.length < 2 ^ 62) (hf : ∀ a ∈ l, f a = some (p a)) : M_slices_ContainsFunc_sint_int (l, f) = some (l.any p) := by
  obtain ⟨j, h1, h2⟩ := walk_index_mem p f l 0 hf
  unfold M_slices_ContainsFunc_sint_int
  have : M_slices_IndexFunc_sint_int (l, f) = some j := by
    unfold M_slices_IndexFunc_sint_int
    refine (loop_walk l _ _ (fun again i a ha hi => ?_) (fun again => ?_) (by omega)).trans h1
    · simp only [getI_nat, ha, bindO_some', i64_succ (show i < 2 ^ 62 by omega), lt_yes hi, cond_true]
    · simp
  dsimp only
  rw [this, bindO_some', h2]

theorem areAll_eq {l : List Int} {f : Int → Option Bool} {p : Int → Bool} (hl : l.length < 2 ^ 62) (hf : ∀ a ∈ l, f a = some (p a)) : M_I_areAll (l, f) = some (l.all p) := by
  unfold M_I_areAll
  dsimp only
  rw [containsFunc_eq (p := fun a => !p a) hl fun a ha => by simp [M_I_areAll_1, hf a ha], bindO_some']
  congr 1
  rw [List.any_eq_not_all_not]
  simp

noncomputable def okG (p q g : Int) : Bool := decide (3 ≤ p ∧ p ≤ 2000000000) && (decide (2 ≤ q ∧ q ≤ p - 1) && ((p - 1) % q == 0 && (decide (2 ≤ g ∧ g ≤ p - 1) && (g ^ q.toNat % p == 1 && (isP q && isP p)))))

theorem l2Good_eq (p q g : Int) : M_S_l2Good (p, q, g) = some (okG p q g) := by
  unfold M_S_l2Good okG
  simp only [in_eq, bindO_some']
  by_cases h1 : 3 ≤ p ∧ p ≤ 2000000000
  · rw [i64_in (p - 1) (by omega)]
    simp only [h1, and_self, decide_true, cond_true, Bool.true_and]
    by_cases h2 : 2 ≤ q ∧ q ≤ p - 1
    · have hq : guardO (q != 0) = some () := guardO_of (by simp; omega)
      simp only [h2, and_self, decide_true, cond_true, Bool.true_and, hq, bindO_some', tmod_nn (show 0 ≤ p - 1 by omega)]
      by_cases h3 : (p - 1) % q = 0
      · simp only [h3, beq_self_eq_true, cond_true, Bool.true_and]
        by_cases h4 : 2 ≤ g ∧ g ≤ p - 1
        · simp only [h4, and_self, decide_true, cond_true, Bool.true_and, nPower_eq (show 0 ≤ g by omega) (show g ≤ 3000000000 by omega) (show 0 ≤ q by omega) (show q ≤ 9223372036854775807 by omega) (show 1 ≤ p by omega) (show p ≤ 3000000000 by omega), bindO_some',
            nPrime_eq (show q ≤ 2000000000 by omega), nPrime_eq (show p ≤ 2000000000 by omega)]
          cases (g ^ q.toNat % p == 1) <;> cases isP q <;> cases isP p <;> rfl
        · simp [h4]
      · have hb : ((p - 1) % q == 0) = false := by simpa using h3
        simp [hb]
    · simp [h2]
  · simp [h1]

theorem IsValidGroup_eq (p q g : Int) : M_I_IsValidGroup (p, q, g) = some (okG p q g) := by
  unfold M_I_IsValidGroup okG
  simp only [within_eq, bindO_some']
  by_cases h1 : 3 ≤ p ∧ p ≤ 2000000000
  · rw [i64_in (p - 1) (by omega)]
    simp only [h1, and_self, decide_true, cond_true, Bool.true_and]
    by_cases h2 : 2 ≤ q ∧ q ≤ p - 1
    · have hq : guardO (q != 0) = some () := guardO_of (by simp; omega)
      simp only [h2, and_self, decide_true, cond_true, Bool.true_and, hq, bindO_some', tmod_nn (show 0 ≤ p - 1 by omega)]
      by_cases h3 : (p - 1) % q = 0
      · simp only [h3, beq_self_eq_true, cond_true, Bool.true_and]
        by_cases h4 : 2 ≤ g ∧ g ≤ p - 1
        · simp only [h4, and_self, decide_true, cond_true, Bool.true_and, power_eq (show q ≤ 9223372036854775807 by omega), nPower_eq (show 0 ≤ g by omega) (show g ≤ 3000000000 by omega) (show 0 ≤ q by omega) (show q ≤ 9223372036854775807 by omega) (show 1 ≤ p by omega) (show p ≤ 3000000000 by omega), bindO_some',
            isPrime_eq (show q ≤ 2000000000 by omega), isPrime_eq (show p ≤ 2000000000 by omega)]
          cases (g ^ q.toNat % p == 1) <;> cases isP q <;> cases isP p <;> rfl
        · simp [h4]
      · have hb : ((p - 1) % q == 0) = false := by simpa using h3
        simp [hb]
    · simp [h2]
  · simp [h1]

/-- What a valid group fulfils. -/
structure Gr (p q g : Int) : Prop where
  p3 : 3 ≤ p
  pm : p ≤ 2000000000
  q2 : 2 ≤ q
  qp : q ≤ p - 1
  dv : (p - 1) % q = 0
  g2 : 2 ≤ g
  gp : g ≤ p - 1
  gq : g ^ q.toNat % p = 1
  pq : isP q = true
  pp : isP p = true

theorem okG_spec {p q g : Int} (h : okG p q g = true) : Gr p q g := by
  simp only [okG, Bool.and_eq_true, decide_eq_true_eq, beq_iff_eq] at h
  obtain ⟨⟨h1, h2⟩, ⟨h3, h4⟩, h5, ⟨h6, h7⟩, h8, h9, h10⟩ := h
  exact ⟨h1, h2, h3, h4, h5, h6, h7, h8, h9, h10⟩

theorem nMod_eq {a m : Int} (hm : 1 ≤ m) (hm2 : m ≤ 4611686018427387903) : M_S_nMod (a, m) = some (a % m) := by
  unfold M_S_nMod
  have hg : guardO (m != 0) = some () := guardO_of (by simp; omega)
  have h1 := Int.tmod_lt_of_pos a (show 0 < m by omega)
  have h2 : -m < a.tmod m := Int.lt_tmod_of_pos a (by omega)
  simp only [hg, bindO_some', i64_in (a.tmod m + m) (by omega), tmod_nn (show 0 ≤ a.tmod m + m by omega)]
  congr 1
  rw [Int.add_emod_right]
  have h3 := Int.mul_tdiv_add_tmod a m
  have : a % m = (m * a.tdiv m + a.tmod m) % m := by rw [h3]
  rw [this, Int.mul_add_emod_self_left]

theorem mod_eq {x : Int × Int} : M_I_mod x = M_S_nMod x := rfl

theorem gExp_eq {p q g x e : Int} (h : Gr p q g) (hx : 0 ≤ x) (hx2 : x ≤ p) : M_S_gExp ((p, q, g), x, e) = some (x ^ (e % q).toNat % p) := by
  unfold M_S_gExp
  have := h.p3; have := h.pm; have := h.q2; have := h.qp
  have h1 := Int.emod_nonneg e (show q ≠ 0 by omega)
  have h2 := Int.emod_lt_of_pos e (show 0 < q by omega)
  dsimp only
  rw [nMod_eq (by omega) (by omega), bindO_some', nPower_eq hx (by omega) h1 (by omega) (by omega) (by omega), bindO_some']

theorem Group_pow_eq {p q g x e : Int} (h : Gr p q g) (hx : 0 ≤ x) (hx2 : x ≤ p) : M_I_Group_pow ((p, q, g), x, e) = some (x ^ (e % q).toNat % p) := by
  unfold M_I_Group_pow
  have := h.p3; have := h.pm; have := h.q2; have := h.qp
  have h1 := Int.emod_nonneg e (show q ≠ 0 by omega)
  have h2 := Int.emod_lt_of_pos e (show 0 < q by omega)
  dsimp only
  rw [mod_eq, nMod_eq (by omega) (by omega), bindO_some', power_eq (by omega), nPower_eq hx (by omega) h1 (by omega) (by omega) (by omega), bindO_some']

theorem isExp_eq {p q g e : Int} (h : Gr p q g) : M_I_Group_isExp ((p, q, g), e) = some (decide (0 ≤ e ∧ e ≤ q - 1)) := by
  unfold M_I_Group_isExp
  have := h.pm; have := h.q2; have := h.qp
  simp only [bindO_some', i64_in (q - 1) (by omega), within_eq]

theorem gExps_eq {p q g : Int} {l : List Int} (h : Gr p q g) (hl : l.length < 2 ^ 62) : M_S_gExps ((p, q, g), l) = some (l.all fun e => decide (0 ≤ e ∧ e ≤ q - 1)) := by
  unfold M_S_gExps
  have := h.pm; have := h.q2; have := h.qp
  simp only [bindO_some', i64_in (q - 1) (by omega), l1All_eq hl]

/-- Is a number an element? -/
def isEl (p q x : Int) : Bool := decide (1 ≤ x ∧ x ≤ p - 1) && x ^ q.toNat % p == 1

theorem has_eq' {p q g x : Int} (h : Gr p q g) : M_I_Group_has ((p, q, g), x) = some (isEl p q x) := by
  unfold M_I_Group_has isEl
  have := h.p3; have := h.pm; have := h.q2; have := h.qp
  simp only [bindO_some', i64_in (p - 1) (by omega), within_eq]
  by_cases hx : 1 ≤ x ∧ x ≤ p - 1
  · simp [hx, power_eq (show q ≤ 9223372036854775807 by omega), nPower_eq (show 0 ≤ x by omega) (show x ≤ 3000000000 by omega) (show 0 ≤ q by omega) (show q ≤ 9223372036854775807 by omega) (show 1 ≤ p by omega) (show p ≤ 3000000000 by omega)]
  · simp [hx]

theorem gIs_eq {p q g : Int} {l : List Int} (h : Gr p q g) (hl : l.length < 2 ^ 62) : M_S_gIs ((p, q, g), l) = some (l.all (isEl p q)) := by
  unfold M_S_gIs
  have := h.p3; have := h.pm; have := h.q2; have := h.qp
  refine (loop_walk l (fun _ a k => if (isEl p q a) = true then k else some false) (some true) (fun again i a ha hi' => ?_) (fun again => ?_) (by omega)).trans (walk_all (isEl p q) l 0)
  · simp only [getI_nat, ha, bindO_some', i64_succ (show i < 2 ^ 62 by omega), lt_yes hi', cond_true, in_eq, i64_in (p - 1) (by omega)]
    by_cases hx : 1 ≤ a ∧ a ≤ p - 1
    · simp only [isEl, hx, and_self, decide_true, Bool.not_true, cond_false, Bool.true_and, nPower_eq (show 0 ≤ a by omega) (show a ≤ 3000000000 by omega) (show 0 ≤ q by omega) (show q ≤ 9223372036854775807 by omega) (show 1 ≤ p by omega) (show p ≤ 3000000000 by omega), bindO_some']
      by_cases h1 : a ^ q.toNat % p = 1 <;> simp [h1, bne_dec]
    · simp [isEl, hx]
  · simp

theorem isEl_range {p q x : Int} (h : isEl p q x = true) : 1 ≤ x ∧ x ≤ p - 1 ∧ x ^ q.toNat % p = 1 := by
  simp only [isEl, Bool.and_eq_true, decide_eq_true_eq, beq_iff_eq] at h
  exact ⟨h.1.1, h.1.2, h.2⟩

/-- A product of residues. -/
def prodM (p : Int) : Int → List Int → Int
  | out, [] => out
  | out, x :: l => prodM p (out * x % p) l

theorem prodM_range {p : Int} (hp : 1 ≤ p) : ∀ (l : List Int) (out : Int), 0 ≤ out → out < p ∨ l ≠ [] → 0 ≤ prodM p out l ∧ (prodM p out l < p)
  | [], out, h, h2 => ⟨h, h2.resolve_right (by simp)⟩
  | x :: l, out, h, _ => prodM_range hp l _ (Int.emod_nonneg _ (by omega)) (.inl (Int.emod_lt_of_pos _ (by omega)))

theorem gMul_loop {p : Int} (hp : 1 ≤ p) (hp2 : p ≤ 3000000000) (l : List Int) (hx : ∀ x ∈ l, 0 ≤ x ∧ x ≤ 3000000000) (hl : l.length < 2 ^ 62) {body : (Int × Int → Option Int) → Int × Int → Option Int} 
    (h : ∀ (again : Int × Int → Option Int) (s : Int × Int), body again s = (cond (decide (s.2 < ((l.length : Nat) : Int))) (bindO (getI l s.2) fun a => bindO (some (IntKind.wrap .i64 (s.1 * a))) fun b => bindO (guardO (p != 0)) fun _ => bindO (some (b.tmod p)) fun c => bindO (some (IntKind.wrap .i64 (s.2 + 1))) fun d => again (c, d)) (some s.1))) :
    loopO body (1, 0) = some (prodM p 1 l) := by
  have hg : guardO (p != 0) = some () := guardO_of (by simp; omega)
  refine (loopO_for (σ := Int) (fun i s => (s, (i : Int))) l.length (fun i s => some (prodM p s (l.drop i))) (fun _ s => 0 ≤ s ∧ s ≤ 3000000000) (fun again s hs => ?_) (fun again i s hi hs ih => ?_) (by omega) (i := 0) (s := 1) (Nat.zero_le _) ⟨by omega, by omega⟩).trans (by simp)
  · rw [h]; simp [prodM]
  · have hm := hx l[i] (List.getElem_mem hi)
    have hb := mul_in hs.1 hs.2 hm.1 hm.2
    have h1 := Int.emod_nonneg (s * l[i]) (show p ≠ 0 by omega)
    have h2 := Int.emod_lt_of_pos (s * l[i]) (show 0 < p by omega)
    rw [h]
    simp only [lt_yes hi, cond_true, getI_nat, List.getElem?_eq_getElem hi, bindO_some', hg, i64_succ (show i < 2 ^ 62 by omega), i64_in (s * l[i]) (by omega), tmod_nn hb.1]
    rw [ih _ ⟨h1, by omega⟩, List.drop_eq_getElem_cons hi, prodM]

theorem gMul_eq {p q g : Int} {l : List Int} (h : Gr p q g) (hx : ∀ x ∈ l, 0 ≤ x ∧ x ≤ 3000000000) (hl : l.length < 2 ^ 62) : M_S_gMul ((p, q, g), l) = some (prodM p 1 l) := by
  unfold M_S_gMul
  have := h.p3; have := h.pm
  exact gMul_loop (by omega) (by omega) l hx hl fun _ _ => rfl

theorem Group_mul_eq {p q g : Int} {l : List Int} (h : Gr p q g) (hx : ∀ x ∈ l, 0 ≤ x ∧ x ≤ 3000000000) (hl : l.length < 2 ^ 62) : M_I_Group_mul ((p, q, g), l) = some (prodM p 1 l) := by
  unfold M_I_Group_mul
  have := h.p3; have := h.pm
  exact gMul_loop (by omega) (by omega) l hx hl fun _ _ => rfl

def hstep (c s k : Int) : Int := (c * s + k + 1) % 2147483647

def absorb (s : Int × Int) (x : Int) : Int × Int :=
  (hstep 48271 (hstep 48271 s.1 (x % 2147483648)) (x / 2147483648), hstep 69621 (hstep 69621 s.2 (x % 2147483648)) (x / 2147483648))

def digest (l : List Int) : Int := ((l.foldl absorb (absorb (1, 2) (l.length : Int))).1) * 2147483648 + (l.foldl absorb (absorb (1, 2) (l.length : Int))).2

def HOk (s : Int × Int) : Prop := 0 ≤ s.1 ∧ s.1 < 2147483648 ∧ 0 ≤ s.2 ∧ s.2 < 2147483648

theorem hstep_range (c s k : Int) : 0 ≤ hstep c s k ∧ hstep c s k < 2147483647 :=
  ⟨Int.emod_nonneg _ (by omega), Int.emod_lt_of_pos _ (by omega)⟩

theorem absorb_ok (s : Int × Int) (x : Int) : HOk (absorb s x) := by
  have h1 := hstep_range 48271 (hstep 48271 s.1 (x % 2147483648)) (x / 2147483648)
  have h2 := hstep_range 69621 (hstep 69621 s.2 (x % 2147483648)) (x / 2147483648)
  exact ⟨h1.1, by show hstep _ _ _ < _; omega, h2.1, by show hstep _ _ _ < _; omega⟩

theorem foldl_ok : ∀ (l : List Int) (s : Int × Int), HOk s → HOk (l.foldl absorb s)
  | [], _, h => h
  | x :: l, s, _ => foldl_ok l _ (absorb_ok s x)

theorem digest_range (l : List Int) : 0 ≤ digest l ∧ digest l ≤ 4611686018427387903 := by
  have h := foldl_ok l _ (absorb_ok (1, 2) (l.length : Int))
  obtain ⟨h1, h2, h3, h4⟩ := h
  unfold digest
  omega

theorem hstep_walk {c s k : Int} (hc : c = 48271 ∨ c = 69621) (hs : 0 ≤ s ∧ s < 2147483648) (hk : 0 ≤ k ∧ k < 2147483648) :
    (IntKind.wrap .i64 (IntKind.wrap .i64 (IntKind.wrap .i64 (c * s) + k) + 1)).tmod 2147483647 = hstep c s k := by
  have h1 : 0 ≤ c * s ∧ c * s ≤ 69621 * 2147483648 := ⟨Int.mul_nonneg (by omega) hs.1, Int.mul_le_mul (by omega) (by omega) hs.1 (by omega)⟩
  rw [i64_in (c * s) (by omega), i64_in (c * s + k) (by omega), i64_in (c * s + k + 1) (by omega), tmod_nn (by omega)]
  rfl

theorem absorb_eq {s : Int × Int} {x : Int} (hs : HOk s) (h0 : 0 ≤ x) (h1 : x ≤ 4611686018427387903) : M_S_l3State_absorb (s, x) = some (absorb s x) := by
  unfold M_S_l3State_absorb
  obtain ⟨h2, h3, h4, h5⟩ := hs
  have hg : guardO ((2147483648 : Int) != 0) = some () := rfl
  have hg2 : guardO ((2147483647 : Int) != 0) = some () := rfl
  dsimp only
  rw [hg]
  simp only [bindO_some', tmod_nn h0, tdiv_nn h0]
  rw [i64_in (x / 2147483648) (by omega)]
  have hb : 0 ≤ x % 2147483648 ∧ x % 2147483648 < 2147483648 := by omega
  have ha : 0 ≤ x / 2147483648 ∧ x / 2147483648 < 2147483648 := by omega
  have hm : ∀ k ∈ [x % 2147483648, x / 2147483648], 0 ≤ k ∧ k < 2147483648 := fun k hk => by
    simp only [List.mem_cons, List.not_mem_nil, or_false] at hk
    rcases hk with rfl | rfl
    · exact hb
    · exact ha
  have hg3 : ∀ (c s k : Int), 0 ≤ hstep c s k ∧ hstep c s k < 2147483648 := fun c s k => by have := hstep_range c s k; omega
  refine (loop_walkI (fun i (s : Int × Int) => (i, (s.1, s.2))) [x % 2147483648, x / 2147483648] (fun _ k s c => c (hstep 48271 s.1 k, hstep 69621 s.2 k)) (fun s => some (s.1, s.2)) (fun _ s => HOk s)
    (fun i a s k k' ha hs hk => hk _ ⟨(hg3 _ _ _).1, (hg3 _ _ _).2, (hg3 _ _ _).1, (hg3 _ _ _).2⟩) (fun again i a t ha hi ht => ?_) (fun again s hs => ?_) (by show (2 : Nat) < 2 ^ 64; omega) (s.1, s.2) ⟨h2, h3, h4, h5⟩).trans rfl
  · have hk := hm a (List.mem_of_getElem? ha)
    have hi2 : i < 2 := hi
    simp only [lt_yes hi, cond_true, getI_nat, ha, hg2, bindO_some', hstep_walk (.inl rfl) ⟨ht.1, ht.2.1⟩ hk, hstep_walk (.inr rfl) ⟨ht.2.2.1, ht.2.2.2⟩ hk, i64_succ (show i < 2 ^ 62 by omega)]
  · simp only [lt_no, cond_false]

theorem hInts_eq {l : List Int} (hl : l.length < 2 ^ 40) (hx : ∀ x ∈ l, 0 ≤ x ∧ x ≤ 4611686018427387903) : M_S_hInts l = some (digest l) := by
  unfold M_S_hInts
  rw [absorb_eq (⟨by omega, by omega, by omega, by omega⟩ : HOk (1, 2)) (by omega) (by omega), bindO_some']
  refine (loopO_for (σ := Int × Int) (fun i s => ((i : Int), (s.1, s.2))) l.length (fun i s => some (((l.drop i).foldl absorb s).1 * 2147483648 + ((l.drop i).foldl absorb s).2)) (fun _ s => HOk s) (fun again s hs => ?_) (fun again i s hi hs ih => ?_) (by omega) (i := 0) (s := absorb (1, 2) (l.length : Int)) (Nat.zero_le _) (absorb_ok _ _)).trans rfl
  · obtain ⟨h1, h2, h3, h4⟩ := hs
    simp only [lt_no, cond_false, List.drop_length, List.foldl_nil, bindO_some']
    rw [i64_in (s.1 * 2147483648) (by omega), i64_in (s.1 * 2147483648 + s.2) (by omega)]
  · have hm := hx l[i] (List.getElem_mem hi)
    simp only [lt_yes hi, cond_true, getI_nat, List.getElem?_eq_getElem hi, bindO_some', absorb_eq (s := (s.1, s.2)) hs hm.1 hm.2, i64_succ (show i < 2 ^ 62 by omega)]
    rw [ih _ (absorb_ok _ _), List.drop_eq_getElem_cons hi, List.foldl_cons]

theorem bits_mask {x : Int} (h : 0 ≤ x) (h2 : x ≤ 9223372036854775807) : Vd.bits .and .i64 x 2147483647 = x % 2147483648 := by
  obtain ⟨n, rfl⟩ := Int.eq_ofNat_of_zero_le h
  have h1 : (BitVec.ofInt 64 ((n : Nat) : Int) &&& BitVec.ofInt 64 2147483647).toNat = n % 2147483648 := by
    rw [BitVec.toNat_and]
    have e1 : (BitVec.ofInt 64 ((n : Nat) : Int)).toNat = n % 2 ^ 64 := by simp
    have e2 : (BitVec.ofInt 64 2147483647).toNat = 2 ^ 31 - 1 := by decide
    rw [e1, e2, Nat.and_two_pow_sub_one_eq_mod]
    omega
  show IntKind.wrap .i64 (((BitVec.ofInt 64 ((n : Nat) : Int) &&& BitVec.ofInt 64 2147483647).toNat : Nat) : Int) = _
  rw [h1, i64_in _ (by omega)]
  omega

theorem shr_31 {x : Int} : Vd.shr .i64 x 31 = x / 2147483648 := by
  show x.fdiv (2 ^ (min (31 : Int).toNat 64)) = _
  rw [show ((2 : Int) ^ (min (31 : Int).toNat 64)) = 2147483648 by decide, fdiv_pos (by omega)]

theorem shl_31 {x : Int} : Vd.shl .i64 x 31 = IntKind.wrap .i64 (x * 2147483648) := by
  show IntKind.wrap .i64 (x * (2 ^ (min (31 : Int).toNat 64))) = _
  rw [show ((2 : Int) ^ (min (31 : Int).toNat 64)) = 2147483648 by decide]

theorem hash_eq {l : List Int} (hl : l.length < 2 ^ 30) (hx : ∀ x ∈ l, 0 ≤ x ∧ x ≤ 4611686018427387903) : M_I_hash l = some (digest l) := by
  unfold M_I_hash
  have hg31 : guardO (decide ((0 : Int) ≤ 31)) = some () := rfl
  have hg2 : guardO ((2147483647 : Int) != 0) = some () := rfl
  rw [guardO_of (lenOk_of (by simp; omega)), bindO_some', bindO_some']
  have hL : ∀ x ∈ ((l.length : Int) :: l), 0 ≤ x ∧ x ≤ 4611686018427387903 := fun x h => by
    rcases List.mem_cons.1 h with rfl | h
    · omega
    · exact hx x h
  have e : [((l.length : Nat) : Int)] ++ l = ((l.length : Int) :: l) := rfl
  rw [e]
  have hlen : ((l.length : Int) :: l).length = l.length + 1 := rfl
  generalize hLL : ((l.length : Int) :: l) = L at hL hlen
  refine (loopO_for (σ := Int × Int) (fun i s => (s.1, (s.2, (i : Int)))) L.length (fun i s => some (((L.drop i).foldl absorb s).1 * 2147483648 + ((L.drop i).foldl absorb s).2)) (fun _ s => HOk s) (fun again s hs => ?_) (fun again i s hi hs ih => ?_) (by omega) (i := 0) (s := (1, 2)) (Nat.zero_le _) ⟨by decide, by decide, by decide, by decide⟩).trans (by rw [← hLL]; rfl)
  · obtain ⟨h1, h2, h3, h4⟩ := hs
    simp only [lt_no, cond_false, List.drop_length, List.foldl_nil, bindO_some', hg31, shl_31]
    rw [i64_in (s.1 * 2147483648) (by omega), i64_in (s.1 * 2147483648 + s.2) (by omega)]
  · have hm := hL L[i] (List.getElem_mem hi)
    obtain ⟨h1, h2, h3, h4⟩ := hs
    have hb : 0 ≤ L[i] % 2147483648 ∧ L[i] % 2147483648 < 2147483648 := by omega
    have ha : 0 ≤ L[i] / 2147483648 ∧ L[i] / 2147483648 < 2147483648 := by omega
    have r1 := hstep_range 48271 s.1 (L[i] % 2147483648)
    have r2 := hstep_range 69621 s.2 (L[i] % 2147483648)
    simp only [lt_yes hi, cond_true, getI_nat, List.getElem?_eq_getElem hi, bindO_some', hg31, hg2, shr_31, bits_mask hm.1 (by omega), hstep_walk (.inl rfl) ⟨h1, h2⟩ hb, hstep_walk (.inr rfl) ⟨h3, h4⟩ hb,
      hstep_walk (.inl rfl) (⟨r1.1, by omega⟩ : 0 ≤ hstep 48271 s.1 (L[i] % 2147483648) ∧ _) ha, hstep_walk (.inr rfl) (⟨r2.1, by omega⟩ : 0 ≤ hstep 69621 s.2 (L[i] % 2147483648) ∧ _) ha, i64_succ (show i < 2 ^ 62 by omega)]
    rw [List.drop_eq_getElem_cons hi, List.foldl_cons, ← ih (absorb s L[i]) (absorb_ok _ _)]
    rfl

def lab (s : ByteArray) (l : List Int) : List Int := (s.size : Int) :: (ofStr s ++ l)

theorem ofStr_length (s : ByteArray) : (ofStr s).length = s.size := by
  unfold ofStr
  rw [List.length_map, Array.length_toList]
  rfl

theorem ofStr_get {s : ByteArray} {i : Nat} (h : i < s.size) : ∃ b : UInt8, s[i]? = some b ∧ (ofStr s)[i]? = some ((b.toNat : Nat) : Int) := by
  refine ⟨s[i], by simp [h], ?_⟩
  have h' : i < s.data.size := h
  simp only [ofStr, List.getElem?_map]
  rw [List.getElem?_eq_getElem (by simpa using h')]
  rfl

theorem ofStr_range {s : ByteArray} {x : Int} (h : x ∈ ofStr s) : 0 ≤ x ∧ x ≤ 255 := by
  simp only [ofStr, List.mem_map] at h
  obtain ⟨b, _, rfl⟩ := h
  have := b.toNat_lt
  omega

theorem label_loop {s : ByteArray} {l : List Int} (hs : s.size < 2 ^ 30) (hl : l.length < 2 ^ 30) : M_S_l3With (s, l) = some (lab s l) := by
  unfold M_S_l3With
  refine (loopO_for (σ := List Int) (fun i a => (a, (i : Int))) s.size (fun i a => some (lab s l)) (fun i a => a = (s.size : Int) :: (ofStr s).take i) (fun again a ha => ?_) (fun again i a hi ha ih => ?_) (by omega) (i := 0) (s := [(s.size : Int)]) (Nat.zero_le _) (by simp)).trans rfl
  · subst ha
    have ht : (ofStr s).take s.size = ofStr s := by rw [← ofStr_length, List.take_length]
    have hlen := ofStr_length s
    simp only [lt_no, cond_false, ht]
    rw [guardO_of (lenOk_of (by simp [hlen]; omega))]
    rfl
  · subst ha
    obtain ⟨b, h1, h2⟩ := ofStr_get hi
    have hb := b.toNat_lt
    have hlen := ofStr_length s
    simp only [lt_yes hi, cond_true, Int.toNat_natCast, h1]
    rw [if_pos (by omega)]
    simp only [bindO_some', i64_in ((b.toNat : Nat) : Int) (by omega), i64_succ (show i < 2 ^ 62 by omega)]
    rw [guardO_of (lenOk_of (by simp; omega)), bindO_some']
    refine ih _ ?_
    rw [List.take_add_one, h2]
    simp

theorem labelled_eq (x : ByteArray × List Int) : M_I_labelled x = M_S_l3With x := rfl

/-- What can be hashed. -/
def okD (l : List Int) : Bool := l.all fun n => decide (0 ≤ n ∧ n ≤ 4611686018427387903)

theorem okD_spec {l : List Int} (h : okD l = true) : ∀ x ∈ l, 0 ≤ x ∧ x ≤ 4611686018427387903 := fun x hx => by
  simpa using List.all_eq_true.1 h x hx

theorem lab_range {s : ByteArray} {l : List Int} (hs : s.size < 2 ^ 30) (h : okD l = true) : ∀ x ∈ lab s l, 0 ≤ x ∧ x ≤ 4611686018427387903 := fun x hx => by
  rcases List.mem_cons.1 hx with rfl | hx
  · omega
  · rcases List.mem_append.1 hx with hx | hx
    · have := ofStr_range hx
      omega
    · exact okD_spec h x hx

theorem lab_okD {s : ByteArray} {l : List Int} (hs : s.size < 2 ^ 30) : okD (lab s l) = okD l := by
  have h1 : ∀ x ∈ ofStr s, decide (0 ≤ x ∧ x ≤ 4611686018427387903) = true := fun x hx => by
    have := ofStr_range hx
    simp only [decide_eq_true_eq]
    omega
  unfold okD lab
  rw [List.all_cons, List.all_append, List.all_eq_true.2 h1]
  have : decide (0 ≤ ((s.size : Nat) : Int) ∧ ((s.size : Nat) : Int) ≤ 4611686018427387903) = true := by
    simp only [decide_eq_true_eq]
    omega
  rw [this]
  rfl

/-- What HashLabelled answers. -/
def hashL (s : ByteArray) (l : List Int) : Int × Bool := if s.size ≤ 40 ∧ okD l = true ∧ 1 + s.size + l.length ≤ 400 then (digest (lab s l), true) else (0, false)

theorem hLabelled_eq {s : ByteArray} {l : List Int} (hs : s.size < 2 ^ 30) (hl : l.length < 2 ^ 30) (h : okD l = true) : M_S_hLabelled (s, l) = some (digest (lab s l)) := by
  unfold M_S_hLabelled
  have hlen : (lab s l).length < 2 ^ 40 := by simp [lab, ofStr_length]; omega
  simp only [label_loop hs hl, bindO_some', hInts_eq hlen (lab_range hs h)]

theorem areDigests_eq {l : List Int} : M_I_areDigests l = some (decide (l.length ≤ 400) && okD l) := by
  unfold M_I_areDigests
  by_cases h : l.length ≤ 400
  · have e1 : decide (((l.length : Nat) : Int) ≤ 400) = true := by simp; omega
    rw [e1, cond_true, areAll_eq (p := fun n => decide (0 ≤ n ∧ n ≤ 4611686018427387903)) (by omega) fun a _ => by simp [M_I_isDigest, within_eq], bindO_some']
    simp [h, okD]
  · have e1 : decide (((l.length : Nat) : Int) ≤ 400) = false := by simp; omega
    simp [e1, h]

theorem I_HashInts_eq {l : List Int} : M_I_HashInts l = some (if l.length ≤ 400 ∧ okD l = true then (digest l, true) else (0, false)) := by
  unfold M_I_HashInts
  rw [areDigests_eq, bindO_some']
  by_cases h : l.length ≤ 400 ∧ okD l = true
  · rw [if_pos h, hash_eq (by omega) (okD_spec h.2)]
    simp [h.1, h.2]
  · rw [if_neg h]
    have : (decide (l.length ≤ 400) && okD l) = false := by
      rw [Bool.and_eq_false_iff, decide_eq_false_iff_not]
      by_cases h1 : l.length ≤ 400
      · right
        cases h2 : okD l
        · rfl
        · exact absurd ⟨h1, h2⟩ h
      · exact .inl h1
    rw [this]
    rfl

theorem I_HashLabelled_eq {s : ByteArray} {l : List Int} : M_I_HashLabelled (s, l) = some (hashL s l) := by
  unfold M_I_HashLabelled hashL
  by_cases h1 : s.size ≤ 40
  · by_cases h2 : l.length ≤ 400
    · have e1 : decide (((s.size : Nat) : Int) > 40) = false := by simp; omega
      have e2 : decide (((l.length : Nat) : Int) > 400) = false := by simp; omega
      simp only [e1, e2, cond_false]
      rw [labelled_eq, label_loop (by omega) (by omega), bindO_some', I_HashInts_eq, bindO_some', lab_okD (by omega)]
      have e3 : ((lab s l).length ≤ 400 ∧ okD l = true) ↔ (s.size ≤ 40 ∧ okD l = true ∧ 1 + s.size + l.length ≤ 400) := by
        simp only [lab, List.length_cons, List.length_append, ofStr_length]
        constructor
        · rintro ⟨a, b⟩; exact ⟨h1, b, by omega⟩
        · rintro ⟨a, b, c⟩; exact ⟨by omega, b⟩
      simp only [e3]
    · have e1 : decide (((s.size : Nat) : Int) > 40) = false := by simp; omega
      have e2 : decide (((l.length : Nat) : Int) > 400) = true := by simp; omega
      rw [if_neg (fun h => by omega)]
      simp only [e1, e2, cond_false, cond_true]
  · have e1 : decide (((s.size : Nat) : Int) > 40) = true := by simp; omega
    rw [if_neg (fun h => h1 h.1)]
    simp only [e1, cond_true]

theorem pow_range {p x : Int} {k : Nat} (hp : 1 ≤ p) : 0 ≤ x ^ k % p ∧ x ^ k % p < p :=
  ⟨Int.emod_nonneg _ (by omega), Int.emod_lt_of_pos _ (by omega)⟩

/-- Is a cipher one of elements? -/
def isCi (p q : Int) (c : Int × Int) : Bool := isEl p q c.1 && isEl p q c.2

theorem hasCipher_eq {p q g : Int} {c : Int × Int} (h : Gr p q g) : M_I_Group_hasCipher ((p, q, g), c) = some (isCi p q c) := by
  unfold M_I_Group_hasCipher isCi
  simp only [has_eq' h, bindO_some']
  cases isEl p q c.1 <;> simp

theorem eGood_eq {p q g : Int} {l : List (Int × Int)} (h : Gr p q g) : M_S_eGood ((p, q, g), l) = some (decide (l.length ≤ 24) && l.all (isCi p q)) := by
  unfold M_S_eGood
  by_cases hl : l.length ≤ 24
  · have e1 : decide (((l.length : Nat) : Int) > 24) = false := by simp; omega
    dsimp only
    rw [e1, cond_false]
    simp only [hl, decide_true, Bool.true_and]
    refine (loop_walk l (fun _ a k => if (isCi p q a) = true then k else some false) (some true) (fun again i a ha hi' => ?_) (fun again => ?_) (by omega)).trans (walk_all (isCi p q) l 0)
    · simp only [getI_nat, ha, bindO_some', i64_succ (show i < 2 ^ 62 by omega), lt_yes hi', cond_true, gIs_eq h (show [a.1, a.2].length < 2 ^ 62 by show (2 : Nat) < _; omega)]
      have : [a.1, a.2].all (isEl p q) = isCi p q a := by simp [isCi]
      rw [this]
      cases isCi p q a <;> rfl
    · simp
  · have e1 : decide (((l.length : Nat) : Int) > 24) = true := by simp; omega
    simp [e1, hl]

/-- a over b. -/
def over (p q a b : Int) : Int := prodM p 1 [a, b ^ (q - 1).toNat % p]

theorem mul2 {p q g a b : Int} (h : Gr p q g) (ha : 0 ≤ a ∧ a ≤ p) (hb : 0 ≤ b ∧ b ≤ p) : M_S_gMul ((p, q, g), [a, b]) = some (prodM p 1 [a, b]) := by
  have := h.p3; have := h.pm
  refine gMul_eq h (fun x hx => ?_) (by show (2 : Nat) < _; omega)
  simp only [List.mem_cons, List.not_mem_nil, or_false] at hx
  rcases hx with rfl | rfl <;> omega

theorem mul2' {p q g a b : Int} (h : Gr p q g) (ha : 0 ≤ a ∧ a ≤ p) (hb : 0 ≤ b ∧ b ≤ p) : M_I_Group_mul ((p, q, g), [a, b]) = some (prodM p 1 [a, b]) := by
  have := h.p3; have := h.pm
  refine Group_mul_eq h (fun x hx => ?_) (by show (2 : Nat) < _; omega)
  simp only [List.mem_cons, List.not_mem_nil, or_false] at hx
  rcases hx with rfl | rfl <;> omega

theorem prod_range {p : Int} {l : List Int} (hp : 2 ≤ p) : 0 ≤ prodM p 1 l ∧ prodM p 1 l < p := prodM_range (by omega) l 1 (by omega) (.inl (by omega))

theorem containsFuncS_eq {l : List (List Int)} {f : List Int → Option Bool} {p : List Int → Bool} (hl : l.length < 2 ^ 62) (hf : ∀ a ∈ l, f a = some (p a)) : M_slices_ContainsFunc_ssint_sint (l, f) = some (l.any p) := by
  obtain ⟨j, h1, h2⟩ := walk_index_mem p f l 0 hf
  unfold M_slices_ContainsFunc_ssint_sint
  have : M_slices_IndexFunc_ssint_sint (l, f) = some j := by
    unfold M_slices_IndexFunc_ssint_sint
    refine (loop_walk l _ _ (fun again i a ha hi => ?_) (fun again => ?_) (by omega)).trans h1
    · simp only [getI_nat, ha, bindO_some', i64_succ (show i < 2 ^ 62 by omega), lt_yes hi, cond_true]
    · simp
  dsimp only
  rw [this, bindO_some', h2]

theorem all_not_any {α : Type} {p q : α → Bool} {l : List α} (h : ∀ a ∈ l, q a = !p a) : l.all p = !l.any q := by
  induction l with
  | nil => rfl
  | cons a l ih =>
    rw [List.all_cons, List.any_cons, ih fun b hb => h b (List.mem_cons_of_mem _ hb), h a (List.mem_cons_self ..)]
    cases p a <;> simp

theorem Nat.beq_eq_decide_eq' (a b : Nat) : (a == b) = decide (a = b) := rfl

theorem wrap_u64 {i : Nat} (h : i < 2 ^ 62) : IntKind.wrap .u64 ((i : Nat) : Int) = (i : Int) := u64_in _ (by omega)

/-- A list is put together, element by element. -/
theorem append_loop {α β : Type} (y : List α) (fin : List α → Option β) {body : (List α × Int → Option β) → List α × Int → Option β}
    (h : ∀ (again : List α × Int → Option β) (i : Nat) a (s : List α), y[i]? = some a → i < y.length → s.length = i → body again (s, (i : Int)) = again (s ++ [a], ((i + 1 : Nat) : Int)))
    (hend : ∀ (again : List α × Int → Option β) (s : List α), s.length = y.length → body again (s, (y.length : Int)) = fin s) (hl : y.length < 2 ^ 62) : loopO body ([], 0) = fin y := by
  refine (loopO_for (σ := List α) (fun i s => (s, (i : Int))) y.length (fun i s => fin y) (fun i s => s = y.take i) (fun again s hs => ?_) (fun again i s hi hs ih => ?_) (by omega) (i := 0) (s := []) (Nat.zero_le _) (by simp)).trans rfl
  · subst hs
    rw [List.take_length]
    exact hend again y rfl
  · subst hs
    have ha := List.getElem?_eq_getElem hi
    rw [h again i y[i] _ ha hi (by simp; omega)]
    refine ih _ ?_
    rw [List.take_add_one, ha]
    rfl

theorem own_eq {l : List Int} (hl : l.length ≤ 1048576) : M_S_l1Own l = some l := by
  unfold M_S_l1Own
  rw [guardO_of (lenOk_of (by simp; omega))]
  rfl

def pw (p q x e : Int) : Int := x ^ (e % q).toNat % p

theorem pw_range {p q x e : Int} (hp : 1 ≤ p) : 0 ≤ pw p q x e ∧ pw p q x e < p := pow_range hp

theorem gExp_pw {p q g x e : Int} (h : Gr p q g) (hx : 0 ≤ x) (hx2 : x ≤ p) : M_S_gExp ((p, q, g), x, e) = some (pw p q x e) := gExp_eq h hx hx2

theorem pow_pw {p q g x e : Int} (h : Gr p q g) (hx : 0 ≤ x) (hx2 : x ≤ p) : M_I_Group_pow ((p, q, g), x, e) = some (pw p q x e) := Group_pow_eq h hx hx2

def inv (p q x : Int) : Int := x ^ (q - 1).toNat % p

theorem areExps_eq {p q g : Int} {l : List Int} (h : Gr p q g) (hl : l.length < 2 ^ 62) : M_I_Group_areExps ((p, q, g), l) = some (l.all fun e => decide (0 ≤ e ∧ e ≤ q - 1)) := by
  unfold M_I_Group_areExps
  dsimp only
  rw [areAll_eq (p := fun e => decide (0 ≤ e ∧ e ≤ q - 1)) hl fun a _ => by rw [isExp_eq h]; rfl]
  rfl

def small (q : Int) (l : List Int) (i : Nat) : Int := 1 + digest (lab (bytesOf [115, 109, 97, 108, 108]) (l ++ [(i : Int)])) % (if 65535 < q - 1 then 65535 else q - 1)

/-- The challenge of a proof. -/
def chal (p q g : Int) (s : ByteArray) (l : List Int) : Int := digest (lab s ([p, q, g] ++ l)) % q

theorem chal_range {p q g : Int} (h : Gr p q g) (s : ByteArray) (l : List Int) : 0 ≤ chal p q g s l ∧ chal p q g s l ≤ q - 1 := by
  have := h.q2
  have e1 := Int.emod_nonneg (digest (lab s ([p, q, g] ++ l))) (show q ≠ 0 by omega)
  have e2 := Int.emod_lt_of_pos (digest (lab s ([p, q, g] ++ l))) (show 0 < q by omega)
  unfold chal
  omega

theorem okD_gr {p q g : Int} (h : Gr p q g) {l : List Int} (hl : okD l = true) : okD ([p, q, g] ++ l) = true := by
  have := h.p3; have := h.pm; have := h.q2; have := h.qp; have := h.g2; have := h.gp
  unfold okD at hl ⊢
  rw [List.all_append, hl]
  simp
  omega

theorem hChallenge_eq {p q g : Int} {s : ByteArray} {l : List Int} (h : Gr p q g) (hs : s.size < 2 ^ 30) (hl : okD l = true) (hn : l.length < 2 ^ 20) : M_S_hChallenge ((p, q, g), s, l) = some (chal p q g s l) := by
  unfold M_S_hChallenge
  have := h.q2
  have hr := digest_range (lab s ([p, q, g] ++ l))
  dsimp only
  rw [guardO_of (lenOk_of (by simp; omega)), bindO_some', bindO_some', hLabelled_eq hs (by simp; omega) (okD_gr h hl), bindO_some', guardO_of (by simp; omega), bindO_some', bindO_some', tmod_nn hr.1]
  rfl

theorem challenge_eq {p q g : Int} {s : ByteArray} {l : List Int} (h : Gr p q g) (hs : s.size ≤ 40) (hl : okD l = true) (hn : s.size + l.length ≤ 396) : M_I_Group_challenge ((p, q, g), s, l) = some (chal p q g s l, true) := by
  unfold M_I_Group_challenge
  have := h.q2
  have hr := digest_range (lab s ([p, q, g] ++ l))
  dsimp only
  rw [guardO_of (lenOk_of (by simp; omega)), bindO_some', bindO_some', I_HashLabelled_eq, hashL, if_pos ⟨hs, okD_gr h hl, by simp; omega⟩, bindO_some']
  simp only [Bool.not_true, cond_false]
  rw [guardO_of (by simp; omega), bindO_some', bindO_some', tmod_nn hr.1]
  rfl

theorem exp_eq {p q g n : Int} (h : Gr p q g) : M_I_Group_exp ((p, q, g), n) = some (n % q) := by
  have := h.q2; have := h.qp; have := h.pm
  unfold M_I_Group_exp
  dsimp only
  rw [mod_eq, nMod_eq (by omega) (by omega)]
  rfl

abbrev Pf := List Int × List Int × List Int

def Pf.small (a : Pf) (n : Nat) : Prop := a.1.length ≤ n ∧ a.2.1.length ≤ n ∧ a.2.2.length ≤ n

theorem resp_in {q e r a : Int} (hq : q ≤ 2000000000) (he : 0 ≤ e ∧ e ≤ q - 1) (hr : 0 ≤ r ∧ r ≤ q - 1) (ha : 0 ≤ a ∧ a ≤ q - 1) : IntKind.wrap .i64 (e * r) = e * r ∧ IntKind.wrap .i64 (a + e * r) = a + e * r ∧ 0 ≤ a + e * r := by
  have h1 : 0 ≤ e * r := Int.mul_nonneg he.1 hr.1
  have h2 : e * r ≤ 2000000000 * 2000000000 := Int.mul_le_mul (by omega) (by omega) hr.1 (by omega)
  exact ⟨i64_in _ (by omega), i64_in _ (by omega), by omega⟩

theorem hasAll_eq {p q g : Int} {l : List Int} (h : Gr p q g) (hl : l.length < 2 ^ 62) : M_I_Group_hasAll ((p, q, g), l) = some (l.all (isEl p q)) := by
  unfold M_I_Group_hasAll
  dsimp only
  rw [areAll_eq (p := isEl p q) hl fun a _ => by rw [has_eq' h]; rfl]
  rfl

theorem okD_el {p q g : Int} (h : Gr p q g) {l : List Int} (hl : l.all (isEl p q) = true) : okD l = true := by
  have := h.pm
  refine List.all_eq_true.2 fun x hx => ?_
  have := isEl_range (List.all_eq_true.1 hl x hx)
  rw [decide_eq_true_eq]
  omega

def gpf (p q : Int) (l es : List Int) : Int := (l.zip es).foldl (fun o c => o * pw p q c.1 c.2 % p) 1

def gpStep (p q : Int) (_ : Nat) (a : Int × Int) (s : Int) (k : Int → Option Int) : Option Int := k (s * pw p q a.1 a.2 % p)

theorem gpWalk (p q : Int) : ∀ (z : List (Int × Int)) (i : Nat) (s : Int), walkS (gpStep p q) some i z s = some (z.foldl (fun o c => o * pw p q c.1 c.2 % p) s)
  | [], _, _ => rfl
  | a :: z, i, s => by
    rw [walkS, gpStep, gpWalk p q z (i + 1), List.foldl_cons]

theorem foldl_range {p q : Int} (hp : 2 ≤ p) : ∀ (z : List (Int × Int)) (s : Int), 0 ≤ s ∧ s < p → 0 ≤ z.foldl (fun o c => o * pw p q c.1 c.2 % p) s ∧ z.foldl (fun o c => o * pw p q c.1 c.2 % p) s < p
  | [], _, h => h
  | a :: z, s, _ => by
    rw [List.foldl_cons]
    exact foldl_range hp z _ ⟨Int.emod_nonneg _ (by omega), Int.emod_lt_of_pos _ (by omega)⟩

theorem gpf_range {p q : Int} (hp : 2 ≤ p) (l es : List Int) : 0 ≤ gpf p q l es ∧ gpf p q l es < p := foldl_range hp _ 1 (by omega)

theorem zip_get {l es : List Int} {i : Nat} {a : Int × Int} (ha : (l.zip es)[i]? = some a) : l[i]? = some a.1 ∧ es[i]? = some a.2 := by
  obtain ⟨c, e⟩ := a
  rw [List.getElem?_zip_eq_some] at ha
  exact ha

theorem zip_len {α β : Type} {l : List α} {es : List β} (h : es.length = l.length) : (l.zip es).length = l.length := by simp [h]

theorem gProd_eq {p q g : Int} {l es : List Int} (h : Gr p q g) (hl : es.length = l.length) (hx : ∀ x ∈ l, 0 ≤ x ∧ x ≤ p) (hn : l.length < 2 ^ 60) : M_S_gProd ((p, q, g), l, es) = some (gpf p q l es) := by
  unfold M_S_gProd
  dsimp only
  have h3 := h.p3; have hpm := h.pm
  have hz := zip_len hl
  have hg0 : guardO (p != 0) = some () := guardO_of (by simp; omega)
  refine (loop_walkI (fun i (s : Int) => (s, i)) (l.zip es) (gpStep p q) some (fun _ s => 0 ≤ s ∧ s < p) (fun i a s k k' ha hi hk => ?_) (fun again i a s ha hi hs => ?_) (fun again s hs => ?_) (by omega) 1 (by omega)).trans (gpWalk p q _ 0 1)
  · exact hk _ ⟨Int.emod_nonneg _ (by omega), Int.emod_lt_of_pos _ (by omega)⟩
  · obtain ⟨h1, h2⟩ := zip_get ha
    have hxa := hx a.1 (List.mem_of_getElem? h1)
    have r := pw_range (q := q) (x := a.1) (e := a.2) (show 1 ≤ p by omega)
    have e3 : 0 ≤ s * pw p q a.1 a.2 := Int.mul_nonneg hs.1 r.1
    have e4 : s * pw p q a.1 a.2 ≤ 2000000000 * 2000000000 := Int.mul_le_mul (by omega) (by omega) r.1 (by omega)
    simp only [lt_yes (show i < l.length by omega), cond_true, getI_nat, h1, h2, bindO_some', gExp_pw h hxa.1 hxa.2, i64_in (s * pw p q a.1 a.2) (by omega), hg0, tmod_nn e3, i64_succ (show i < 2 ^ 62 by omega)]
    rfl
  · rw [hz]
    simp only [lt_no, cond_false]

theorem mul_out {p s b : Int} (hs : 0 ≤ s ∧ s < p) : prodM p 1 [s, b] = s * b % p := by
  simp only [prodM]
  rw [Int.one_mul, Int.emod_eq_of_lt hs.1 hs.2]

theorem powers_eq {p q g : Int} {l es : List Int} (h : Gr p q g) (hl : es.length = l.length) (hx : ∀ x ∈ l, 0 ≤ x ∧ x ≤ p) (hn : l.length < 2 ^ 60) : M_I_Group_powers ((p, q, g), l, es) = some (gpf p q l es) := by
  unfold M_I_Group_powers
  dsimp only
  have h3 := h.p3; have hpm := h.pm
  have hz := zip_len hl
  refine (loop_walkI (fun i (s : Int) => (s, i)) (l.zip es) (gpStep p q) some (fun _ s => 0 ≤ s ∧ s < p) (fun i a s k k' ha hi hk => ?_) (fun again i a s ha hi hs => ?_) (fun again s hs => ?_) (by omega) 1 (by omega)).trans (gpWalk p q _ 0 1)
  · exact hk _ ⟨Int.emod_nonneg _ (by omega), Int.emod_lt_of_pos _ (by omega)⟩
  · obtain ⟨h1, h2⟩ := zip_get ha
    have hxa := hx a.1 (List.mem_of_getElem? h1)
    have r := pw_range (q := q) (x := a.1) (e := a.2) (show 1 ≤ p by omega)
    simp only [lt_yes (show i < l.length by omega), cond_true, getI_nat, h1, h2, bindO_some', pow_pw h hxa.1 hxa.2, mul2' h (show 0 ≤ s ∧ s ≤ p by omega) (show 0 ≤ pw p q a.1 a.2 ∧ pw p q a.1 a.2 ≤ p by omega), mul_out hs, i64_succ (show i < 2 ^ 62 by omega)]
    rfl
  · rw [hz]
    simp only [lt_no, cond_false]

theorem ne_dec (a b : Nat) : (((a : Nat) : Int) != ((b : Nat) : Int)) = !(a == b) := by
  rw [bne_dec, Nat.beq_eq_decide_eq', ← decide_not, decide_eq_decide]
  omega

def lens (x : List (List Int)) : Nat := (x.map List.length).sum

theorem lens_flat (x : List (List Int)) : x.flatten.length = lens x := by simp [lens, List.length_flatten]

theorem lens_take_le (x : List (List Int)) (i : Nat) : lens (x.take i) ≤ lens x := by
  have h : lens x = lens (x.take i ++ x.drop i) := by rw [List.take_append_drop]
  rw [h]
  simp only [lens, List.map_append, List.sum_append]
  exact Nat.le_add_right _ _

theorem lens_take_succ {x : List (List Int)} {i : Nat} {a : List Int} (h : x[i]? = some a) : lens (x.take (i + 1)) = lens (x.take i) + a.length := by
  rw [List.take_add_one, h]
  simp [lens]

theorem flat_take_succ {x : List (List Int)} {i : Nat} {a : List Int} (h : x[i]? = some a) : (x.take (i + 1)).flatten = (x.take i).flatten ++ a := by
  rw [List.take_add_one, h]
  simp

theorem concat_eq {x : List (List Int)} (hx : x.length < 2 ^ 30) (ht : lens x ≤ 1073741824) : M_slices_Concat_sint_int x = some x.flatten := by
  unfold M_slices_Concat_sint_int
  refine (loopO_for (σ := Int) (fun i s => (s, (i : Int))) x.length (fun i s => some x.flatten) (fun i s => s = (lens (x.take i) : Int)) (fun again s hs => ?_) (fun again i s hi hs ih => ?_) (by omega) (i := 0) (s := 0) (Nat.zero_le _) (by simp [lens])).trans rfl
  · rw [List.take_length] at hs
    subst hs
    simp only [lt_no, cond_false]
    have hgrow : M_slices_Grow_sint_int ([], (lens x : Int)) = some [] := by
      unfold M_slices_Grow_sint_int
      dsimp only
      rw [if_pos]
      simp only [List.length_nil]
      omega
    rw [hgrow, bindO_some']
    refine (loopO_for (σ := List Int) (fun i s => (s, (i : Int))) x.length (fun i s => some x.flatten) (fun i s => s = (x.take i).flatten) (fun again s hs => ?_) (fun again i s hi hs ih => ?_) (by omega) (i := 0) (s := []) (Nat.zero_le _) (by simp)).trans rfl
    · subst hs
      simp only [lt_no, cond_false, List.take_length]
    · subst hs
      have ha := List.getElem?_eq_getElem hi
      have h1 : (x.take i).flatten.length + x[i].length ≤ 68719476736 := by
        have := lens_take_succ ha
        have := lens_take_le x (i + 1)
        rw [lens_flat]
        omega
      simp only [lt_yes hi, cond_true, getI_nat, ha, bindO_some', guardO_of (lenOk_of h1), i64_succ (show i < 2 ^ 62 by omega)]
      exact ih _ (flat_take_succ ha).symm
  · subst hs
    have ha := List.getElem?_eq_getElem hi
    have h1 := lens_take_succ ha
    have h2 := lens_take_le x (i + 1)
    have h3 : ((lens (x.take i) : Int) + (x[i].length : Int)) = ((lens (x.take (i + 1)) : Nat) : Int) := by omega
    simp only [lt_yes hi, cond_true, getI_nat, ha, bindO_some', h3, i64_in ((lens (x.take (i + 1)) : Nat) : Int) (by omega), i64_succ (show i < 2 ^ 62 by omega)]
    rw [show decide (((lens (x.take (i + 1)) : Nat) : Int) < 0) = false from decide_eq_false (by omega)]
    exact ih _ rfl

theorem concat3_eq {a b c : List Int} (h : a.length + b.length + c.length ≤ 1073741824) : M_slices_Concat_sint_int [a, b, c] = some (a ++ (b ++ c)) := by
  rw [concat_eq (by simp) (by simp only [lens, List.map_cons, List.map_nil, List.sum_cons, List.sum_nil]; omega)]
  simp

theorem sStatement_eq {x : List (List Int)} {a b : List Int} (hx : x.length < 2 ^ 30) (ht : lens x + a.length + b.length ≤ 1073741824) : M_S_sStatement (x, a, b) = some (x.flatten ++ (a ++ b)) := by
  unfold M_S_sStatement
  dsimp only
  refine (loopO_for (σ := List Int) (fun i s => (s, (i : Int))) x.length (fun i s => some (x.flatten ++ (a ++ b))) (fun i s => s = (x.take i).flatten) (fun again s hs => ?_) (fun again i s hi hs ih => ?_) (by omega) (i := 0) (s := []) (Nat.zero_le _) (by simp)).trans rfl
  · subst hs
    have hf := lens_flat x
    simp only [lt_no, cond_false, List.take_length, guardO_of (lenOk_of (show x.flatten.length + a.length ≤ 68719476736 by omega)), bindO_some', guardO_of (lenOk_of (show (x.flatten ++ a).length + b.length ≤ 68719476736 by rw [List.length_append]; omega)), List.append_assoc]
  · subst hs
    have ha := List.getElem?_eq_getElem hi
    have h1 : (x.take i).flatten.length + x[i].length ≤ 68719476736 := by
      have := lens_take_succ ha
      have := lens_take_le x (i + 1)
      rw [lens_flat]
      omega
    simp only [lt_yes hi, cond_true, getI_nat, ha, bindO_some', guardO_of (lenOk_of h1), i64_succ (show i < 2 ^ 62 by omega)]
    exact ih _ (flat_take_succ ha).symm

/-- Rows of n bases each, of the group. -/
def goodB (p q : Int) (n : Nat) (rows : List (List Int)) : Prop := ∀ r ∈ rows, r.length = n ∧ r.all (isEl p q) = true

theorem isEl_in {p q x : Int} (hx : isEl p q x = true) : 0 ≤ x ∧ x ≤ p := by
  have := isEl_range hx
  omega

theorem all_in {p q : Int} {l : List Int} (hl : l.all (isEl p q) = true) : ∀ x ∈ l, 0 ≤ x ∧ x ≤ p := fun x hx => isEl_in (List.all_eq_true.1 hl x hx)

theorem images_eq {p q g : Int} {rows : List (List Int)} {es : List Int} (h : Gr p q g) (hr : goodB p q es.length rows) (hn : rows.length < 2 ^ 30) (he : es.length < 2 ^ 30) :
    M_I_Group_images ((p, q, g), rows, es) = some (rows.map fun r => gpf p q r es) := by
  unfold M_I_Group_images
  dsimp only
  have hm : (rows.map fun r => gpf p q r es).length = rows.length := List.length_map ..
  refine append_loop (rows.map fun r => gpf p q r es) some (fun again i a s ha hi hs => ?_) (fun again s hs => ?_) (by omega)
  · rw [hm] at hi
    have hg := List.getElem?_eq_getElem hi
    rw [List.getElem?_map, hg] at ha
    cases ha
    obtain ⟨h1, h2⟩ := hr _ (List.getElem_mem hi)
    have h3 : s.length + [gpf p q rows[i] es].length ≤ 68719476736 := by simp; omega
    simp only [lt_yes hi, cond_true, getI_nat, hg, bindO_some', powers_eq h h1.symm (all_in h2) (by omega), guardO_of (lenOk_of h3), i64_succ (show i < 2 ^ 62 by omega)]
  · rw [hm]
    simp only [lt_no, cond_false]

theorem range_loop {n : Nat} (c : Nat → Bool) {body : (Int → Option Bool) → Int → Option Bool} (hn : n < 2 ^ 62)
    (h : ∀ (again : Int → Option Bool) (i : Nat), i < n → body again (i : Int) = bif c i then again ((i + 1 : Nat) : Int) else some false)
    (hend : ∀ again : Int → Option Bool, body again (n : Int) = some true) : loopO body 0 = some ((List.range n).all c) := by
  have hlen : (List.range n).length = n := List.length_range
  refine (loop_walk (List.range n) (fun _ a k => if c a = true then k else some false) (some true) (fun again i a ha hi => ?_) (fun again => ?_) (by omega)).trans (walk_all c _ 0)
  · rw [hlen] at hi
    rw [List.getElem?_range hi] at ha
    cases ha
    rw [h again i hi]
    cases c i <;> rfl
  · rw [hlen]
    exact hend again

def linC (p q g : Int) (s : ByteArray) (rows : List (List Int)) (ims : List Int) (cs : List Int) : Int := chal p q g s (rows.flatten ++ (ims ++ cs))

def linB (p q g : Int) (s : ByteArray) (rows : List (List Int)) (ims : List Int) (pf : Pf) : Bool :=
  (pf.1.length == rows.length) && ((pf.2.1.length == 1) && ((pf.2.2.length == (rows.getD 0 []).length) && (pf.1.all (isEl p q) && ((pf.2.2.all fun e => decide (0 ≤ e ∧ e ≤ q - 1)) && ((pf.2.1.getD 0 0 == linC p q g s rows ims pf.1) &&
    (List.range rows.length).all fun i => gpf p q (rows.getD i []) pf.2.2 == prodM p 1 [pf.1.getD i 0, pw p q (ims.getD i 0) (linC p q g s rows ims pf.1)])))))

theorem getD_at {α : Type} {l : List α} {i : Nat} {d : α} (h : i < l.length) : l[i]? = some (l.getD i d) := by
  rw [List.getElem?_eq_getElem h, List.getD_eq_getElem?_getD, List.getElem?_eq_getElem h]
  rfl

/-- Rows that a proof may be asked of. -/
structure LinOK (p q : Int) (rows : List (List Int)) (ims : List Int) : Prop where
  n1 : 1 ≤ rows.length
  n8 : rows.length ≤ 8
  m1 : 1 ≤ (rows.getD 0 []).length
  m8 : (rows.getD 0 []).length ≤ 8
  good : goodB p q (rows.getD 0 []).length rows
  len : ims.length = rows.length
  ims : ims.all (isEl p q) = true

theorem lens_good {p q : Int} {n : Nat} : ∀ {rows : List (List Int)}, goodB p q n rows → lens rows = rows.length * n
  | [], _ => by simp [lens]
  | r :: rows, h => by
    have ih := lens_good (rows := rows) fun x hx => h x (List.mem_cons_of_mem _ hx)
    have h1 := (h r List.mem_cons_self).1
    simp only [lens, List.map_cons, List.sum_cons, List.length_cons] at ih ⊢
    rw [ih, h1, Nat.add_mul, Nat.one_mul, Nat.add_comm]

theorem okD_append {a b : List Int} : okD (a ++ b) = (okD a && okD b) := by simp [okD]

theorem okD_flat {p q g : Int} (h : Gr p q g) {n : Nat} {rows : List (List Int)} (hr : goodB p q n rows) : okD rows.flatten = true := by
  simp only [okD, List.all_eq_true]
  intro x hx
  obtain ⟨r, h1, h2⟩ := List.mem_flatten.1 hx
  have := okD_el h (hr r h1).2
  simp only [okD, List.all_eq_true] at this
  exact this x h2

theorem lin_okD {p q g : Int} (h : Gr p q g) {rows : List (List Int)} {ims cs : List Int} (hL : LinOK p q rows ims) (hc : cs.all (isEl p q) = true) : okD (rows.flatten ++ (ims ++ cs)) = true := by
  rw [okD_append, okD_append, okD_flat h hL.good, okD_el h hL.ims, okD_el h hc]
  rfl

theorem lin_len {p q : Int} {rows : List (List Int)} {ims cs : List Int} (hL : LinOK p q rows ims) (hc : cs.length = rows.length) : lens rows ≤ 64 ∧ (rows.flatten ++ (ims ++ cs)).length ≤ 80 := by
  have h1 := lens_good hL.good
  have h2 : rows.length * (rows.getD 0 []).length ≤ 8 * 8 := Nat.mul_le_mul hL.n8 hL.m8
  have h3 := hL.len; have h4 := hL.n8
  simp only [List.length_append, lens_flat]
  omega

theorem lin_challenge {p q g : Int} {s : ByteArray} (h : Gr p q g) (hs : s.size ≤ 40) {rows : List (List Int)} {ims cs : List Int} (hL : LinOK p q rows ims) (hc : cs.all (isEl p q) = true) (hlen : cs.length = rows.length) :
    M_S_hChallenge ((p, q, g), s, rows.flatten ++ (ims ++ cs)) = some (linC p q g s rows ims cs) ∧ M_I_Group_challenge ((p, q, g), s, rows.flatten ++ (ims ++ cs)) = some (linC p q g s rows ims cs, true) := by
  have h1 := lin_okD h hL hc
  have h2 := (lin_len hL hlen).2
  exact ⟨hChallenge_eq h (by omega) h1 (by omega), challenge_eq h hs h1 (by omega)⟩

theorem sVerify_eq {p q g : Int} {s : ByteArray} {rows : List (List Int)} {ims : List Int} {pf : Pf} (h : Gr p q g) (hs : s.size ≤ 40) (hL : LinOK p q rows ims) (hp : pf.small 1048576) :
    M_S_sVerify ((p, q, g), s, rows, ims, pf) = some (linB p q g s rows ims pf) := by
  obtain ⟨cs, ch, rs⟩ := pf
  obtain ⟨p1, p2, p3⟩ := hp
  dsimp only at p1 p2 p3
  unfold M_S_sVerify linB
  have h0 : rows[0]? = some (rows.getD 0 []) := getD_at (by have := hL.n1; omega)
  simp only [getI_zero, h0, bindO_some', ne_dec, gIs_eq h (show cs.length < 2 ^ 62 by omega), gExps_eq h (show rs.length < 2 ^ 62 by omega)]
  rw [show (((ch.length : Nat) : Int) != 1) = !(ch.length == 1) from ne_dec ch.length 1]
  cases e1 : cs.length == rows.length
  · rfl
  cases e2 : ch.length == 1
  · rfl
  cases e3 : rs.length == (rows.getD 0 []).length
  · rfl
  cases e4 : cs.all (isEl p q)
  · rfl
  cases e5 : rs.all fun e => decide (0 ≤ e ∧ e ≤ q - 1)
  · rfl
  have e1' : cs.length = rows.length := by simpa using e1
  have e2' : ch.length = 1 := by simpa using e2
  have e3' : rs.length = (rows.getD 0 []).length := by simpa using e3
  have hl := lin_len hL e1'
  have hn := hL.n8; have hi := hL.len
  simp only [Bool.not_true, cond_false, getD_at (d := (0 : Int)) (show 0 < ch.length by omega), bindO_some', sStatement_eq (show rows.length < 2 ^ 30 by omega) (show lens rows + ims.length + cs.length ≤ 1073741824 by omega), (lin_challenge h hs hL e4 e1').1]
  cases e6 : ch.getD 0 0 == linC p q g s rows ims cs
  · simp only [bne, e6]
    rfl
  have e6' : ch.getD 0 0 = linC p q g s rows ims cs := by simpa using e6
  simp only [bne, e6, Bool.not_true, cond_false, Bool.true_and]
  refine range_loop _ (by omega) (fun again i hi => ?_) (fun again => ?_)
  · have hm := hL.good (rows.getD i []) (List.mem_of_getElem? (getD_at hi))
    have hci := isEl_in (List.all_eq_true.1 e4 _ (List.mem_of_getElem? (getD_at (d := (0 : Int)) (show i < cs.length by omega))))
    have hii := isEl_in (List.all_eq_true.1 hL.ims _ (List.mem_of_getElem? (getD_at (d := (0 : Int)) (show i < ims.length by omega))))
    have r := pw_range (q := q) (x := ims.getD i 0) (e := linC p q g s rows ims cs) (show 1 ≤ p by have := h.p3; omega)
    simp only [lt_yes hi, cond_true, getI_nat, getD_at (d := ([] : List Int)) hi, getD_at (d := (0 : Int)) (show i < cs.length by omega), getD_at (d := (0 : Int)) (show i < ims.length by omega), bindO_some', gProd_eq h (e3'.trans hm.1.symm) (all_in hm.2) (by rw [hm.1]; have := hL.m8; omega), e6',
      gExp_pw h hii.1 hii.2, mul2 h hci (show 0 ≤ pw p q (ims.getD i 0) (linC p q g s rows ims cs) ∧ pw p q (ims.getD i 0) (linC p q g s rows ims cs) ≤ p by omega), i64_succ (show i < 2 ^ 62 by omega), bne]
    cases gpf p q (rows.getD i []) rs == prodM p 1 [cs.getD i 0, pw p q (ims.getD i 0) (linC p q g s rows ims cs)] <;> rfl
  · simp only [lt_no, cond_false]

theorem verifyLinear_eq {p q g : Int} {s : ByteArray} {rows : List (List Int)} {ims : List Int} {pf : Pf} (h : Gr p q g) (hs : s.size ≤ 40) (hL : LinOK p q rows ims) (hp : pf.small 1048576) :
    M_I_Group_verifyLinear ((p, q, g), s, rows, ims, pf) = some (linB p q g s rows ims pf) := by
  obtain ⟨cs, ch, rs⟩ := pf
  obtain ⟨p1, p2, p3⟩ := hp
  dsimp only at p1 p2 p3
  unfold M_I_Group_verifyLinear linB
  have h0 : rows[0]? = some (rows.getD 0 []) := getD_at (by have := hL.n1; omega)
  simp only [getI_zero, h0, bindO_some', ne_dec, hasAll_eq h (show cs.length < 2 ^ 62 by omega), areExps_eq h (show rs.length < 2 ^ 62 by omega)]
  rw [show (((ch.length : Nat) : Int) != 1) = !(ch.length == 1) from ne_dec ch.length 1]
  cases e1 : cs.length == rows.length
  · rfl
  cases e2 : ch.length == 1
  · rfl
  cases e3 : rs.length == (rows.getD 0 []).length
  · rfl
  cases e4 : cs.all (isEl p q)
  · rfl
  cases e5 : rs.all fun e => decide (0 ≤ e ∧ e ≤ q - 1)
  · rfl
  have e1' : cs.length = rows.length := by simpa using e1
  have e2' : ch.length = 1 := by simpa using e2
  have e3' : rs.length = (rows.getD 0 []).length := by simpa using e3
  have hl := lin_len hL e1'
  have hf := lens_flat rows
  have hn := hL.n8; have hi := hL.len; have hm8 := hL.m8
  simp only [Bool.not_true, cond_false, concat_eq (show rows.length < 2 ^ 30 by omega) (show lens rows ≤ 1073741824 by omega), bindO_some', concat3_eq (show rows.flatten.length + ims.length + cs.length ≤ 1073741824 by omega), (lin_challenge h hs hL e4 e1').2,
    getD_at (d := (0 : Int)) (show 0 < ch.length by omega), images_eq h (show goodB p q rs.length rows by rw [e3']; exact hL.good) (show rows.length < 2 ^ 30 by omega) (show rs.length < 2 ^ 30 by omega)]
  cases e6 : ch.getD 0 0 == linC p q g s rows ims cs
  · simp only [bne, e6]
    rfl
  simp only [bne, e6, Bool.not_true, cond_false, Bool.true_and, List.length_map]
  refine range_loop _ (by omega) (fun again i hi => ?_) (fun again => ?_)
  · have hci := isEl_in (List.all_eq_true.1 e4 _ (List.mem_of_getElem? (getD_at (d := (0 : Int)) (show i < cs.length by omega))))
    have hii := isEl_in (List.all_eq_true.1 hL.ims _ (List.mem_of_getElem? (getD_at (d := (0 : Int)) (show i < ims.length by omega))))
    have r := pw_range (q := q) (x := ims.getD i 0) (e := linC p q g s rows ims cs) (show 1 ≤ p by have := h.p3; omega)
    simp only [lt_yes hi, cond_true, getI_nat, List.getElem?_map, getD_at (d := ([] : List Int)) hi, Option.map_some, getD_at (d := (0 : Int)) (show i < cs.length by omega), getD_at (d := (0 : Int)) (show i < ims.length by omega), bindO_some',
      pow_pw h hii.1 hii.2, mul2' h hci (show 0 ≤ pw p q (ims.getD i 0) (linC p q g s rows ims cs) ∧ pw p q (ims.getD i 0) (linC p q g s rows ims cs) ≤ p by omega), i64_succ (show i < 2 ^ 62 by omega)]
    cases gpf p q (rows.getD i []) rs == prodM p 1 [cs.getD i 0, pw p q (ims.getD i 0) (linC p q g s rows ims cs)] <;> rfl
  · simp only [lt_no, cond_false]

theorem isEl_of {p q g t : Int} (h : Gr p q g) (ht : t ^ q.toNat % p = 1) : isEl p q (t % p) = true := by
  have h3 := h.p3; have h2 := h.q2
  have e1 : (t % p) ^ q.toNat % p = 1 := by rw [pow_mod, ht]
  have e2 := Int.emod_nonneg t (show p ≠ 0 by omega)
  have e3 := Int.emod_lt_of_pos t (show 0 < p by omega)
  have e4 : t % p ≠ 0 := by
    intro h0
    rw [h0, Int.zero_pow (show q.toNat ≠ 0 by omega)] at e1
    simp at e1
  unfold isEl
  rw [e1]
  simp only [BEq.rfl, Bool.and_true, decide_eq_true_eq]
  omega

theorem pow_one_mod {p t : Int} {k n : Nat} (hp : 3 ≤ p) (h : t ^ n % p = 1) : (t ^ k) ^ n % p = 1 := by
  rw [← Int.pow_mul, Nat.mul_comm, Int.pow_mul, ← pow_mod, h, Int.one_pow]
  exact Int.emod_eq_of_lt (by omega) (by omega)

theorem isEl_pow {p q g x : Int} (h : Gr p q g) (hx : isEl p q x = true) (k : Nat) : isEl p q (x ^ k % p) = true := isEl_of h (pow_one_mod h.p3 (isEl_range hx).2.2)

theorem isEl_pw {p q g x e : Int} (h : Gr p q g) (hx : isEl p q x = true) : isEl p q (pw p q x e) = true := isEl_pow h hx _

def rowsB (p q : Int) (rows : List (List Int)) : Bool := decide (1 ≤ rows.length ∧ rows.length ≤ 8) && (decide (1 ≤ (rows.getD 0 []).length ∧ (rows.getD 0 []).length ≤ 8) && rows.all fun r => (r.length == (rows.getD 0 []).length) && r.all (isEl p q))

theorem cast_in8 (n : Nat) : decide ((1 : Int) ≤ (n : Int) ∧ (n : Int) ≤ 8) = decide (1 ≤ n ∧ n ≤ 8) := decide_eq_decide.2 (by omega)

theorem areRows_eq {p q g : Int} {rows : List (List Int)} (h : Gr p q g) (hr : ∀ r ∈ rows, r.length < 2 ^ 62) : M_I_Group_areRows ((p, q, g), rows) = some (rowsB p q rows) := by
  unfold M_I_Group_areRows rowsB
  dsimp only
  rw [within_eq, bindO_some', cast_in8]
  by_cases hn : 1 ≤ rows.length ∧ rows.length ≤ 8
  · have h0 : rows[0]? = some (rows.getD 0 []) := getD_at (by omega)
    rw [decide_eq_true hn]
    simp only [Bool.not_true, cond_false, getI_zero, h0, bindO_some', within_eq, Bool.true_and]
    rw [cast_in8]
    cases hm : decide (1 ≤ (rows.getD 0 []).length ∧ (rows.getD 0 []).length ≤ 8)
    · rfl
    simp only [Bool.not_true, cond_false, Bool.true_and]
    rw [containsFuncS_eq (p := fun r => !((r.length == (rows.getD 0 []).length) && r.all (isEl p q))) (by omega) (fun r hrm => ?_), bindO_some', ← all_not_any (l := rows) (p := fun r : List Int => (r.length == (rows.getD 0 []).length) && r.all (isEl p q)) (q := fun r : List Int => !((r.length == (rows.getD 0 []).length) && r.all (isEl p q))) (fun a _ => rfl)]
    unfold M_I_Group_areRows_1
    dsimp only
    simp only [getI_zero, h0, bindO_some', ne_dec, hasAll_eq h (hr r hrm)]
    cases r.length == (rows.getD 0 []).length <;> rfl
  · rw [decide_eq_false hn]
    rfl

theorem LinOK_rowsB {p q : Int} {rows : List (List Int)} {ims : List Int} (hL : LinOK p q rows ims) : rowsB p q rows = true := by
  unfold rowsB
  rw [decide_eq_true ⟨hL.n1, hL.n8⟩, decide_eq_true ⟨hL.m1, hL.m8⟩, Bool.true_and, Bool.true_and, List.all_eq_true]
  intro r hr
  obtain ⟨h1, h2⟩ := hL.good r hr
  rw [h1, h2, BEq.rfl]
  rfl

theorem isLabel_eq {s : ByteArray} (hs : s.size ≤ 40) : M_I_isLabel s = some true := by
  unfold M_I_isLabel
  rw [decide_eq_true (by omega)]

theorem VerifyLinear_eq {p q g : Int} {s : ByteArray} {rows : List (List Int)} {ims : List Int} {pf : Pf} (hok : okG p q g = true) (hs : s.size ≤ 40) (hL : LinOK p q rows ims) (hp : pf.small 1048576) :
    M_I_VerifyLinear ((p, q, g), s, rows, ims, pf) = some (linB p q g s rows ims pf, true) := by
  have h := okG_spec hok
  unfold M_I_VerifyLinear
  dsimp only
  have hrl : ∀ r ∈ rows, r.length < 2 ^ 62 := fun r hr => by rw [(hL.good r hr).1]; have := hL.m8; omega
  have hn := hL.n8
  rw [IsValidGroup_eq, hok, bindO_some', isLabel_eq hs, bindO_some', areRows_eq h hrl, LinOK_rowsB hL, bindO_some', ne_dec, hL.len, hasAll_eq h (by rw [hL.len]; omega), hL.ims, bindO_some', verifyLinear_eq h hs hL hp, bindO_some', BEq.rfl]
  rfl

theorem eqRows_ok {p q g1 y1 g2 y2 : Int} (h1 : isEl p q g1 = true) (h2 : isEl p q y1 = true) (h3 : isEl p q g2 = true) (h4 : isEl p q y2 = true) : LinOK p q [[g1], [g2]] [y1, y2] where
  n1 := by simp
  n8 := by simp
  m1 := by simp
  m8 := by simp
  good := by
    intro r hr
    simp only [List.mem_cons, List.not_mem_nil, or_false] at hr
    rcases hr with rfl | rfl <;> exact ⟨rfl, by simp [*]⟩
  len := rfl
  ims := by simp [*]

theorem sVerifyEq_eq {p q g : Int} {s : ByteArray} {g1 y1 g2 y2 : Int} {pf : Pf} (h : Gr p q g) (hs : s.size ≤ 40) (hL : LinOK p q [[g1], [g2]] [y1, y2]) (hp : pf.small 1048576) :
    M_S_sVerifyEq ((p, q, g), s, (g1, y1, g2, y2), pf) = some (linB p q g s [[g1], [g2]] [y1, y2] pf) := by
  unfold M_S_sVerifyEq
  rw [show M_S_sVerify ((p, q, g), s, [[g1], [g2]], [y1, y2], pf) = _ from sVerify_eq h hs hL hp, bindO_some']

theorem VerifyEqual_eq {p q g : Int} {s : ByteArray} {g1 y1 g2 y2 : Int} {pf : Pf} (hok : okG p q g = true) (hs : s.size ≤ 40) (hL : LinOK p q [[g1], [g2]] [y1, y2]) (hp : pf.small 1048576) :
    M_I_VerifyEqual ((p, q, g), s, (g1, y1, g2, y2), pf) = some (linB p q g s [[g1], [g2]] [y1, y2] pf, true) := by
  unfold M_I_VerifyEqual M_I_equalRows
  rw [bindO_some', show M_I_VerifyLinear ((p, q, g), s, [[g1], [g2]], [y1, y2], pf) = _ from VerifyLinear_eq hok hs hL hp, bindO_some']

def resp (q e : Int) (ss cs : List Int) : List Int := (cs.zip ss).map fun c => (c.1 + e * c.2) % q

theorem resp_len {q e : Int} {ss cs : List Int} (h : cs.length = ss.length) : (resp q e ss cs).length = ss.length := by simp [resp, h]

theorem resp_get {q e : Int} {ss cs : List Int} {i : Nat} {a b : Int} (ha : ss[i]? = some a) (hb : cs[i]? = some b) : (resp q e ss cs)[i]? = some ((b + e * a) % q) := by
  simp only [resp, List.getElem?_map, List.getElem?_zip_eq_some.2 (show cs[i]? = some (b, a).1 ∧ ss[i]? = some (b, a).2 from ⟨hb, ha⟩), Option.map_some]

def linI (p q : Int) (rows : List (List Int)) (es : List Int) : List Int := rows.map fun r => gpf p q r es

def linP (p q g : Int) (s : ByteArray) (rows : List (List Int)) (ss cs : List Int) : Pf :=
  (linI p q rows cs, [linC p q g s rows (linI p q rows ss) (linI p q rows cs)], resp q (linC p q g s rows (linI p q rows ss) (linI p q rows cs)) ss cs)

structure ProOK (p q : Int) (rows : List (List Int)) (ss cs : List Int) : Prop where
  n1 : 1 ≤ rows.length
  n8 : rows.length ≤ 8
  m1 : 1 ≤ (rows.getD 0 []).length
  m8 : (rows.getD 0 []).length ≤ 8
  good : goodB p q (rows.getD 0 []).length rows
  sl : ss.length = (rows.getD 0 []).length
  cl : cs.length = (rows.getD 0 []).length
  sx : (ss.all fun e => decide (0 ≤ e ∧ e ≤ q - 1)) = true
  cx : (cs.all fun e => decide (0 ≤ e ∧ e ≤ q - 1)) = true

theorem all_exp {q : Int} {l : List Int} (h : (l.all fun e => decide (0 ≤ e ∧ e ≤ q - 1)) = true) {i : Nat} {a : Int} (ha : l[i]? = some a) : 0 ≤ a ∧ a ≤ q - 1 := by
  have := List.all_eq_true.1 h a (List.mem_of_getElem? ha)
  simpa using this

theorem sImages_eq {p q g : Int} {rows : List (List Int)} {es : List Int} (h : Gr p q g) (hr : goodB p q es.length rows) (hn : rows.length < 2 ^ 30) (he : es.length < 2 ^ 30) :
    M_S_sImages ((p, q, g), rows, es) = some (linI p q rows es) := by
  unfold M_S_sImages linI
  dsimp only
  have hm : (rows.map fun r => gpf p q r es).length = rows.length := List.length_map ..
  refine append_loop (rows.map fun r => gpf p q r es) some (fun again i a s ha hi hs => ?_) (fun again s hs => ?_) (by omega)
  · rw [hm] at hi
    have hg := List.getElem?_eq_getElem hi
    rw [List.getElem?_map, hg] at ha
    cases ha
    obtain ⟨h1, h2⟩ := hr _ (List.getElem_mem hi)
    have h3 : s.length + [gpf p q rows[i] es].length ≤ 68719476736 := by simp; omega
    simp only [lt_yes hi, cond_true, getI_nat, hg, bindO_some', gProd_eq h h1.symm (all_in h2) (by omega), guardO_of (lenOk_of h3), i64_succ (show i < 2 ^ 62 by omega)]
  · rw [hm]
    simp only [lt_no, cond_false]

theorem linI_okD {p q g : Int} (h : Gr p q g) (rows : List (List Int)) (es : List Int) : okD (linI p q rows es) = true := by
  simp only [okD, linI, List.all_eq_true, List.mem_map]
  rintro x ⟨r, _, rfl⟩
  have := gpf_range (q := q) (show 2 ≤ p by have := h.p3; omega) r es
  have := h.pm
  simp only [decide_eq_true_eq]
  omega

theorem tail_loop {A B β : Type} (a : A) (b : B) (y : List Int) (fin : List Int → Option β) {body : (Int × A × B × List Int → Option β) → Int × A × B × List Int → Option β}
    (h : ∀ (again : Int × A × B × List Int → Option β) (i : Nat) c (s : List Int), y[i]? = some c → i < y.length → s.length = i → body again ((i : Int), a, b, s) = again (((i + 1 : Nat) : Int), a, b, s ++ [c]))
    (hend : ∀ (again : Int × A × B × List Int → Option β) (s : List Int), s.length = y.length → body again ((y.length : Int), a, b, s) = fin s) (hl : y.length < 2 ^ 62) : loopO body (0, a, b, []) = fin y := by
  refine (loopO_for (σ := List Int) (fun i s => ((i : Int), a, b, s)) y.length (fun i s => fin y) (fun i s => s = y.take i) (fun again s hs => ?_) (fun again i s hi hs ih => ?_) (by omega) (i := 0) (s := []) (Nat.zero_le _) (by simp)).trans rfl
  · subst hs
    rw [List.take_length]
    exact hend again y rfl
  · subst hs
    have ha := List.getElem?_eq_getElem hi
    rw [h again i y[i] _ ha hi (by simp; omega)]
    refine ih _ ?_
    rw [List.take_add_one, ha]
    rfl

theorem lin_chal {p q g : Int} {rows : List (List Int)} {ss cs : List Int} (h : Gr p q g) (hP : ProOK p q rows ss cs) :
    okD (rows.flatten ++ (linI p q rows ss ++ linI p q rows cs)) = true ∧ (rows.flatten ++ (linI p q rows ss ++ linI p q rows cs)).length ≤ 80 ∧ lens rows ≤ 64 := by
  have h1 := lens_good hP.good
  have h2 : rows.length * (rows.getD 0 []).length ≤ 8 * 8 := Nat.mul_le_mul hP.n8 hP.m8
  have h4 := hP.n8
  refine ⟨?_, ?_, by omega⟩
  · rw [okD_append, okD_append, okD_flat h hP.good, linI_okD h, linI_okD h]
    rfl
  · simp only [List.length_append, lens_flat, linI, List.length_map]
    omega

theorem sProve_eq {p q g : Int} {s : ByteArray} {rows : List (List Int)} {ss cs : List Int} (h : Gr p q g) (hs : s.size ≤ 40) (hP : ProOK p q rows ss cs) : M_S_sProve ((p, q, g), s, rows, ss, cs) = some (linP p q g s rows ss cs) := by
  obtain ⟨c1, c2, c3⟩ := lin_chal h hP
  have hn := hP.n8; have hm := hP.m8; have hsl := hP.sl; have hcl := hP.cl; have hq2 := h.q2; have hqp := h.qp; have hpm := h.pm
  unfold M_S_sProve
  dsimp only
  have hg0 : guardO (q != 0) = some () := guardO_of (by simp; omega)
  have hl1 : ∀ es, (linI p q rows es).length = rows.length := fun es => by simp [linI]
  rw [sImages_eq h (by rw [hcl]; exact hP.good) (by omega) (by omega), bindO_some', sImages_eq h (by rw [hsl]; exact hP.good) (by omega) (by omega), bindO_some', sStatement_eq (by omega) (by rw [hl1, hl1]; omega), bindO_some', hChallenge_eq h (by omega) c1 (by omega), bindO_some']
  have hr := chal_range h s (rows.flatten ++ (linI p q rows ss ++ linI p q rows cs))
  have hlen := resp_len (q := q) (e := linC p q g s rows (linI p q rows ss) (linI p q rows cs)) (hcl.trans hsl.symm)
  refine (tail_loop _ _ (resp q (linC p q g s rows (linI p q rows ss) (linI p q rows cs)) ss cs) (fun l => some (linI p q rows cs, [linC p q g s rows (linI p q rows ss) (linI p q rows cs)], l)) (fun again i c l hc hi hl => ?_) (fun again l hl => ?_) (by omega)).trans rfl
  · rw [hlen] at hi
    have hsi := List.getElem?_eq_getElem hi
    have hci := List.getElem?_eq_getElem (show i < cs.length by omega)
    rw [resp_get hsi hci] at hc
    cases hc
    obtain ⟨r1, r2, r3⟩ := resp_in (q := q) (by omega) hr (all_exp hP.sx hsi) (all_exp hP.cx hci)
    have h3 : ∀ z : Int, guardO (lenOk (l.length + [z].length)) = some () := fun z => guardO_of (lenOk_of (by simp only [List.length_cons, List.length_nil]; omega))
    simp only [lt_yes hi, cond_true, getI_nat, hsi, hci, bindO_some']
    rw [r1, r2, hg0, bindO_some', tmod_nn r3, h3, bindO_some', i64_succ (by omega)]
    rfl
  · rw [hlen]
    simp only [lt_no, cond_false]
    rfl

theorem proveLinear_eq {p q g : Int} {s : ByteArray} {rows : List (List Int)} {ss cs : List Int} (h : Gr p q g) (hs : s.size ≤ 40) (hP : ProOK p q rows ss cs) : M_I_Group_proveLinear ((p, q, g), s, rows, ss, cs) = some (linP p q g s rows ss cs, true) := by
  obtain ⟨c1, c2, c3⟩ := lin_chal h hP
  have hn := hP.n8; have hm := hP.m8; have hsl := hP.sl; have hcl := hP.cl; have hq2 := h.q2; have hqp := h.qp; have hpm := h.pm
  unfold M_I_Group_proveLinear
  dsimp only
  have hl1 : ∀ es, (linI p q rows es).length = rows.length := fun es => by simp [linI]
  have hf := lens_flat rows
  rw [images_eq h (by rw [hcl]; exact hP.good) (by omega) (by omega), bindO_some', concat_eq (by omega) (by omega), bindO_some', images_eq h (by rw [hsl]; exact hP.good) (by omega) (by omega), bindO_some']
  rw [show M_slices_Concat_sint_int [rows.flatten, rows.map fun r => gpf p q r ss, rows.map fun r => gpf p q r cs] = some (rows.flatten ++ (linI p q rows ss ++ linI p q rows cs)) from concat3_eq (by simp only [List.length_map]; omega), bindO_some', challenge_eq h hs c1 (by omega), bindO_some']
  simp only [Bool.not_true, cond_false]
  have hr := chal_range h s (rows.flatten ++ (linI p q rows ss ++ linI p q rows cs))
  have hlen := resp_len (q := q) (e := linC p q g s rows (linI p q rows ss) (linI p q rows cs)) (hcl.trans hsl.symm)
  refine (tail_loop _ _ (resp q (linC p q g s rows (linI p q rows ss) (linI p q rows cs)) ss cs) (fun l => some ((linI p q rows cs, [linC p q g s rows (linI p q rows ss) (linI p q rows cs)], l), true)) (fun again i c l hc hi hl => ?_) (fun again l hl => ?_) (by omega)).trans rfl
  · rw [hlen] at hi
    have hsi := List.getElem?_eq_getElem hi
    have hci := List.getElem?_eq_getElem (show i < cs.length by omega)
    rw [resp_get hsi hci] at hc
    cases hc
    obtain ⟨r1, r2, r3⟩ := resp_in (q := q) (by omega) hr (all_exp hP.sx hsi) (all_exp hP.cx hci)
    have h3 : ∀ z : Int, guardO (lenOk (l.length + [z].length)) = some () := fun z => guardO_of (lenOk_of (by simp only [List.length_cons, List.length_nil]; omega))
    simp only [lt_yes (show i < cs.length by omega), cond_true, getI_nat, hsi, hci, bindO_some']
    rw [r1, r2, exp_eq h, bindO_some', h3, bindO_some', i64_succ (by omega)]
    rfl
  · rw [hlen, hsl, ← hcl]
    simp only [lt_no, cond_false]
    rfl

theorem ProOK_rowsB {p q : Int} {rows : List (List Int)} {ss cs : List Int} (hP : ProOK p q rows ss cs) : rowsB p q rows = true := by
  unfold rowsB
  rw [decide_eq_true ⟨hP.n1, hP.n8⟩, decide_eq_true ⟨hP.m1, hP.m8⟩, Bool.true_and, Bool.true_and, List.all_eq_true]
  intro r hr
  obtain ⟨h1, h2⟩ := hP.good r hr
  rw [h1, h2, BEq.rfl]
  rfl

theorem ProveLinear_eq {p q g : Int} {s : ByteArray} {rows : List (List Int)} {ss cs : List Int} (hok : okG p q g = true) (hs : s.size ≤ 40) (hP : ProOK p q rows ss cs) :
    M_I_ProveLinear ((p, q, g), s, rows, ss, cs) = some (linP p q g s rows ss cs, true) := by
  have h := okG_spec hok
  have hn := hP.n1; have hm := hP.m8
  unfold M_I_ProveLinear
  dsimp only
  have hrl : ∀ r ∈ rows, r.length < 2 ^ 62 := fun r hr => by rw [(hP.good r hr).1]; omega
  have h0 : rows[0]? = some (rows.getD 0 []) := getD_at (by omega)
  rw [IsValidGroup_eq, hok, bindO_some', isLabel_eq hs, bindO_some', areRows_eq h hrl, ProOK_rowsB hP, bindO_some', getI_zero, h0, bindO_some', ne_dec, ne_dec, hP.cl, hP.sl, areExps_eq h (by rw [hP.sl]; omega), hP.sx, bindO_some', areExps_eq h (by rw [hP.cl]; omega), hP.cx, bindO_some', proveLinear_eq h hs hP, bindO_some', BEq.rfl]
  rfl

theorem isTrue_eq {p q g g1 g2 x : Int} (h : Gr p q g) (h1 : isEl p q g1 = true) (h2 : isEl p q g2 = true) : M_I_Group_isTrue ((p, q, g), (g1, pw p q g1 x, g2, pw p q g2 x), x) = some true := by
  unfold M_I_Group_isTrue
  dsimp only
  rw [pow_pw h (isEl_in h1).1 (isEl_in h1).2, bindO_some', BEq.rfl, cond_true, pow_pw h (isEl_in h2).1 (isEl_in h2).2, bindO_some', BEq.rfl]

theorem IsTrueEqual_eq {p q g g1 g2 x : Int} (hok : okG p q g = true) (h1 : isEl p q g1 = true) (h2 : isEl p q g2 = true) (hx : 0 ≤ x ∧ x ≤ q - 1) : M_I_IsTrueEqual ((p, q, g), (g1, pw p q g1 x, g2, pw p q g2 x), x) = some (true, true) := by
  have h := okG_spec hok
  unfold M_I_IsTrueEqual M_I_Group_hasEqual
  dsimp only
  rw [IsValidGroup_eq, hok, bindO_some', hasAll_eq h (by simp), bindO_some', isExp_eq h, decide_eq_true hx, isTrue_eq h h1 h2]
  simp [h1, h2, isEl_pw h h1, isEl_pw h h2, bindO_some']

theorem eqPro_ok {p q g1 g2 x c : Int} (h1 : isEl p q g1 = true) (h2 : isEl p q g2 = true) (hx : 0 ≤ x ∧ x ≤ q - 1) (hc : 0 ≤ c ∧ c ≤ q - 1) : ProOK p q [[g1], [g2]] [x] [c] where
  n1 := by simp
  n8 := by simp
  m1 := by simp
  m8 := by simp
  good := by
    intro r hr
    simp only [List.mem_cons, List.not_mem_nil, or_false] at hr
    rcases hr with rfl | rfl <;> exact ⟨rfl, by simp [*]⟩
  sl := rfl
  cl := rfl
  sx := by simp [hx]
  cx := by simp [hc]

theorem ProveEqual_eq {p q g g1 g2 x c : Int} {s : ByteArray} (hok : okG p q g = true) (hs : s.size ≤ 40) (h1 : isEl p q g1 = true) (h2 : isEl p q g2 = true) (hx : 0 ≤ x ∧ x ≤ q - 1) (hc : 0 ≤ c ∧ c ≤ q - 1) :
    M_I_ProveEqual ((p, q, g), s, (g1, pw p q g1 x, g2, pw p q g2 x), x, c) = some (linP p q g s [[g1], [g2]] [x] [c], true) := by
  unfold M_I_ProveEqual M_I_equalRows
  dsimp only
  rw [IsTrueEqual_eq hok h1 h2 hx, bindO_some', bindO_some', ProveLinear_eq hok hs (eqPro_ok h1 h2 hx hc), bindO_some']
  rfl

theorem mul_one {p x : Int} (hp : 2 ≤ p) (hx : 0 ≤ x ∧ x < p) : prodM p 1 [1, x] = x := by
  rw [mul_out (by omega), Int.one_mul, Int.emod_eq_of_lt hx.1 hx.2]

def mulC (p : Int) (a b : Int × Int) : Int × Int := (prodM p 1 [a.1, b.1], prodM p 1 [a.2, b.2])

theorem eMul_eq {p q g : Int} {l : List (Int × Int)} (h : Gr p q g) (hl : l.length < 2 ^ 60) (hx : ∀ c ∈ l, (0 ≤ c.1 ∧ c.1 ≤ p) ∧ 0 ≤ c.2 ∧ c.2 ≤ p) : M_S_eMul ((p, q, g), l) = some (l.foldl (mulC p) (1, 1)) := by
  have h3 := h.p3
  unfold M_S_eMul
  dsimp only
  refine (loopO_for (σ := Int × Int) (fun i s => ((i : Int), s)) l.length (fun i s => some ((l.drop i).foldl (mulC p) s)) (fun _ s => (0 ≤ s.1 ∧ s.1 < p) ∧ 0 ≤ s.2 ∧ s.2 < p) (fun again s hs => ?_) (fun again i s hi hs ih => ?_) (by omega) (i := 0) (s := (1, 1)) (Nat.zero_le _) ⟨⟨by omega, by omega⟩, by omega, by omega⟩).trans ?_
  · simp only [lt_no, cond_false, List.drop_length, List.foldl_nil]
  · have ha := List.getElem?_eq_getElem hi
    obtain ⟨x1, x2⟩ := hx _ (List.getElem_mem hi)
    simp only [lt_yes hi, cond_true, getI_nat, ha, bindO_some', mul2 h (show 0 ≤ s.1 ∧ s.1 ≤ p by omega) x1, mul2 h (show 0 ≤ s.2 ∧ s.2 ≤ p by omega) x2, i64_succ (show i < 2 ^ 62 by omega)]
    rw [List.drop_eq_getElem_cons hi, List.foldl_cons]
    exact ih (mulC p s l[i]) ⟨prod_range (by omega), prod_range (by omega)⟩
  · rfl

theorem mulTwo_eq {p q g : Int} {a b : Int × Int} (h : Gr p q g) (ha : (0 ≤ a.1 ∧ a.1 ≤ p) ∧ 0 ≤ a.2 ∧ a.2 ≤ p) (hb : (0 ≤ b.1 ∧ b.1 ≤ p) ∧ 0 ≤ b.2 ∧ b.2 ≤ p) : M_I_Group_mulTwo ((p, q, g), a, b) = some (mulC p a b) := by
  unfold M_I_Group_mulTwo
  dsimp only
  rw [mul2' h ha.1 hb.1, bindO_some', mul2' h ha.2 hb.2, bindO_some']
  rfl

theorem isCi_in {p q : Int} {c : Int × Int} (h : isCi p q c = true) : (0 ≤ c.1 ∧ c.1 ≤ p) ∧ 0 ≤ c.2 ∧ c.2 ≤ p := by
  simp only [isCi, Bool.and_eq_true] at h
  exact ⟨isEl_in h.1, isEl_in h.2⟩

abbrev Bl := Int × (Int × Int) × Pf

def lBlind : ByteArray := bytesOf [98, 108, 105, 110, 100]

def oneC (c : Int × Int) : Bool := c.1 == 1 && c.2 == 1

theorem qOne_eq (c : Int × Int) : M_S_qOne c = some (oneC c) := by
  unfold M_S_qOne oneC
  cases h : c.1 == 1 <;> simp

theorem isTrustee_eq (i : Int) : M_I_isTrustee i = some (decide (1 ≤ i ∧ i ≤ 7)) := by
  unfold M_I_isTrustee
  rw [within_eq, bindO_some']

def blindB (p q g : Int) (c : Int × Int) (b : Bl) : Bool := decide (1 ≤ b.1 ∧ b.1 ≤ 7) && (isCi p q b.2.1 && (!(oneC b.2.1 && !oneC c) && linB p q g lBlind [[c.1], [c.2]] [b.2.1.1, b.2.1.2] b.2.2))

theorem blind_ok {p q : Int} {c v : Int × Int} (hc : isCi p q c = true) (hv : isCi p q v = true) : LinOK p q [[c.1], [c.2]] [v.1, v.2] := by
  simp only [isCi, Bool.and_eq_true] at hc hv
  exact eqRows_ok hc.1 hv.1 hc.2 hv.2

theorem eGood1_eq {p q g : Int} {c : Int × Int} (h : Gr p q g) : M_S_eGood ((p, q, g), [c]) = some (isCi p q c) := by
  rw [eGood_eq h]
  simp

theorem qVerify_eq {p q g : Int} {c : Int × Int} {b : Bl} (h : Gr p q g) (hc : isCi p q c = true) (hp : Pf.small b.2.2 1048576) : M_S_qVerify ((p, q, g), c, b) = some (blindB p q g c b) := by
  obtain ⟨i, v, pf⟩ := b
  unfold M_S_qVerify blindB
  dsimp only
  rw [in_eq, bindO_some', show M_S_eGood ((p, q, g), [(v.1, v.2)]) = some (isCi p q v) from eGood1_eq h, bindO_some', qOne_eq, bindO_some', qOne_eq, bindO_some']
  cases decide (1 ≤ i ∧ i ≤ 7)
  · rfl
  cases hv : isCi p q v
  · rfl
  rw [show M_S_sVerifyEq ((p, q, g), bytesOf [98, 108, 105, 110, 100], (c.1, v.1, c.2, v.2), pf.1, pf.2.1, pf.2.2) = _ from sVerifyEq_eq h (by decide) (blind_ok hc hv) hp, bindO_some']
  cases h1 : oneC v <;> cases h2 : oneC c <;> simp [oneC] at h1 h2 ⊢ <;> first | rfl | simp [*] <;> rfl

theorem isBlind_eq {p q g : Int} {c : Int × Int} {b : Bl} (hok : okG p q g = true) (hc : isCi p q c = true) (hp : Pf.small b.2.2 1048576) : M_I_Group_isBlind ((p, q, g), c, b) = some (blindB p q g c b) := by
  have h := okG_spec hok
  obtain ⟨i, v, pf⟩ := b
  unfold M_I_Group_isBlind blindB M_I_blindStatement
  dsimp only
  rw [isTrustee_eq, bindO_some', show M_I_Group_hasCipher ((p, q, g), v.1, v.2) = some (isCi p q v) from hasCipher_eq h, bindO_some', bindO_some']
  cases decide (1 ≤ i ∧ i ≤ 7)
  · rfl
  cases hv : isCi p q v
  · rfl
  rw [show M_I_VerifyEqual ((p, q, g), bytesOf [98, 108, 105, 110, 100], (c.1, v.1, c.2, v.2), pf.1, pf.2.1, pf.2.2) = _ from VerifyEqual_eq hok (by decide) (blind_ok hc hv) hp, bindO_some']
  rw [show (v.1 == 1 && v.2 == 1) = oneC v from rfl, show (c.1 == 1 && c.2 == 1) = oneC c from rfl]
  dsimp only
  change cond (not true) _ (cond (not true) _ (cond (oneC v) (cond (not (oneC c)) _ (cond (linB p q g lBlind [[c.1], [c.2]] [v.1, v.2] pf) _ _)) (cond (linB p q g lBlind [[c.1], [c.2]] [v.1, v.2] pf) _ _))) = _
  cases oneC v <;> cases oneC c <;> cases linB p q g lBlind [[c.1], [c.2]] [v.1, v.2] pf <;> rfl

noncomputable def blindBy (p q g : Int) (c : Int × Int) (i z coin : Int) : Bl × Bool := bif okG p q g && (isCi p q c && (decide (1 ≤ i ∧ i ≤ 7) && (decide (0 ≤ z ∧ z ≤ q - 1) && (decide (0 ≤ coin ∧ coin ≤ q - 1) && !(z == 0))))) then
    ((i, (pw p q c.1 z, pw p q c.2 z), linP p q g lBlind [[c.1], [c.2]] [z] [coin]), true) else ((0, (0, 0), [], [], []), false)

theorem qBlind_eq {p q g : Int} {c : Int × Int} {i z coin : Int} (h : Gr p q g) (hc : isCi p q c = true) (hz : 0 ≤ z ∧ z ≤ q - 1) (hn : 0 ≤ coin ∧ coin ≤ q - 1) :
    M_S_qBlind ((p, q, g), c, i, z, coin) = some (i, (pw p q c.1 z, pw p q c.2 z), linP p q g lBlind [[c.1], [c.2]] [z] [coin]) := by
  have hc' : isEl p q c.1 = true ∧ isEl p q c.2 = true := by simpa [isCi] using hc
  unfold M_S_qBlind M_S_ePow
  dsimp only
  rw [gExp_pw h (isEl_in hc'.1).1 (isEl_in hc'.1).2, bindO_some', gExp_pw h (isEl_in hc'.2).1 (isEl_in hc'.2).2, bindO_some', bindO_some']
  rw [show M_S_sProve ((p, q, g), bytesOf [98, 108, 105, 110, 100], [[c.1], [c.2]], [z], [coin]) = _ from sProve_eq h (by decide) (eqPro_ok hc'.1 hc'.2 hz hn), bindO_some']
  rfl

theorem S_BlindBy_eq (p q g : Int) (c : Int × Int) (i z coin : Int) : M_S_BlindBy ((p, q, g), c, i, z, coin) = some (blindBy p q g c i z coin) := by
  unfold M_S_BlindBy blindBy
  dsimp only
  rw [l2Good_eq, bindO_some']
  cases hok : okG p q g
  · rfl
  have h := okG_spec hok
  rw [show M_S_eGood ((p, q, g), [(c.1, c.2)]) = some (isCi p q c) from eGood1_eq h, bindO_some', in_eq, bindO_some', gExps_eq h (by simp), bindO_some']
  cases hc : isCi p q c
  · rfl
  cases decide (1 ≤ i ∧ i ≤ 7)
  · rfl
  simp only [List.all_cons, List.all_nil, Bool.and_true]
  by_cases hz : 0 ≤ z ∧ z ≤ q - 1
  · by_cases hn : 0 ≤ coin ∧ coin ≤ q - 1
    · rw [decide_eq_true hz, decide_eq_true hn]
      cases z == 0
      · rw [show M_S_qBlind ((p, q, g), (c.1, c.2), i, z, coin) = _ from qBlind_eq h hc hz hn, bindO_some']
        rfl
      · rfl
    · rw [decide_eq_true hz, decide_eq_false hn]
      rfl
  · rw [decide_eq_false hz]
    rfl

theorem I_BlindBy_eq (p q g : Int) (c : Int × Int) (i z coin : Int) : M_I_BlindBy ((p, q, g), c, i, z, coin) = some (blindBy p q g c i z coin) := by
  unfold M_I_BlindBy blindBy M_I_blindStatement
  dsimp only
  rw [IsValidGroup_eq, bindO_some']
  cases hok : okG p q g
  · rfl
  have h := okG_spec hok
  rw [show M_I_Group_hasCipher ((p, q, g), c.1, c.2) = some (isCi p q c) from hasCipher_eq h, bindO_some', isTrustee_eq, bindO_some', areExps_eq h (by simp), bindO_some']
  cases hc : isCi p q c
  · rfl
  have hc' : isEl p q c.1 = true ∧ isEl p q c.2 = true := by simpa [isCi] using hc
  cases decide (1 ≤ i ∧ i ≤ 7)
  · rfl
  simp only [List.all_cons, List.all_nil, Bool.and_true]
  by_cases hz : 0 ≤ z ∧ z ≤ q - 1
  · by_cases hn : 0 ≤ coin ∧ coin ≤ q - 1
    · rw [decide_eq_true hz, decide_eq_true hn]
      cases z == 0
      · simp only [M_I_Group_powCipher, pow_pw h (isEl_in hc'.1).1 (isEl_in hc'.1).2, pow_pw h (isEl_in hc'.2).1 (isEl_in hc'.2).2, bindO_some']
        rw [show M_I_ProveEqual ((p, q, g), bytesOf [98, 108, 105, 110, 100], (c.1, pw p q c.1 z, c.2, pw p q c.2 z), z, coin) = _ from ProveEqual_eq hok (by decide) hc'.1 hc'.2 hz hn]
        rfl
      · rfl
    · rw [decide_eq_true hz, decide_eq_false hn]
      rfl
  · rw [decide_eq_false hz]
    rfl

theorem blindBy_small (p q g : Int) (c : Int × Int) (i z coin : Int) : Pf.small (blindBy p q g c i z coin).1.2.2 2 := by
  unfold blindBy
  cases okG p q g && (isCi p q c && (decide (1 ≤ i ∧ i ≤ 7) && (decide (0 ≤ z ∧ z ≤ q - 1) && (decide (0 ≤ coin ∧ coin ≤ q - 1) && !(z == 0)))))
  · exact ⟨by simp, by simp, by simp⟩
  · refine ⟨?_, ?_, ?_⟩ <;> simp [linP, linI, resp]

def combS (p q g : Int) (c : Int × Int) (s : List Int × Int × Int) (b : Bl) : List Int × Int × Int := bif !(s.1.any (· == b.1)) && blindB p q g c b then (s.1 ++ [b.1], mulC p s.2 b.2.1) else s

def CombOK (p : Int) (i : Nat) (s : List Int × Int × Int) : Prop := s.1.length ≤ i ∧ (0 ≤ s.2.1 ∧ s.2.1 < p) ∧ 0 ≤ s.2.2 ∧ s.2.2 < p

theorem combS_ok {p q g : Int} {c : Int × Int} {s : List Int × Int × Int} {b : Bl} {i : Nat} (hp : 2 ≤ p) (h : CombOK p i s) : CombOK p (i + 1) (combS p q g c s b) := by
  unfold combS CombOK at *
  cases !(s.1.any (· == b.1)) && blindB p q g c b
  · exact ⟨by rw [cond_false]; omega, h.2⟩
  · refine ⟨by simp; omega, prod_range hp, prod_range hp⟩

theorem comb_ok {p q g : Int} {c : Int × Int} (hp : 2 ≤ p) : ∀ (l : List Bl) (i : Nat) (s : List Int × Int × Int), CombOK p i s → CombOK p (i + l.length) (l.foldl (combS p q g c) s)
  | [], i, s, h => h
  | b :: l, i, s, h => by
    rw [List.length_cons, show i + (l.length + 1) = i + 1 + l.length by omega]
    exact comb_ok hp l (i + 1) _ (combS_ok hp h)

theorem blind_value {p q g : Int} {c : Int × Int} {b : Bl} (h : blindB p q g c b = true) : isCi p q b.2.1 = true := by
  simp only [blindB, Bool.and_eq_true] at h
  exact h.2.1

theorem qCombine_eq {p q g : Int} {c : Int × Int} {l : List Bl} (h : Gr p q g) (hc : isCi p q c = true) (hl : l.length ≤ 1048576) (hr : ∀ r ∈ l, Pf.small r.2.2 1048576) :
    M_S_qCombine ((p, q, g), c, l) = some ((l.foldl (combS p q g c) ([], 1, 1)).2, (l.foldl (combS p q g c) ([], 1, 1)).1) := by
  have h3 := h.p3
  unfold M_S_qCombine
  dsimp only
  refine (loopO_for (σ := List Int × Int × Int) (fun i s => (s.1, (i : Int), s.2)) l.length (fun i s => some (((l.drop i).foldl (combS p q g c) s).2, ((l.drop i).foldl (combS p q g c) s).1)) (fun i s => CombOK p i s) (fun again s hs => ?_) (fun again i s hi hs ih => ?_) (by omega) (i := 0) (s := ([], 1, 1)) (Nat.zero_le _) ⟨by simp, by dsimp only; omega, by dsimp only; omega⟩).trans rfl
  · simp only [lt_no, cond_false, List.drop_length, List.foldl_nil]
  · have ha := List.getElem?_eq_getElem hi
    have hsm := hr _ (List.getElem_mem hi)
    generalize hb : l[i] = b at ha hsm
    have hg : (l.drop i).foldl (combS p q g c) s = (l.drop (i + 1)).foldl (combS p q g c) (combS p q g c s b) := by
      rw [List.drop_eq_getElem_cons hi, List.foldl_cons, hb]
    rw [hg, ← ih (combS p q g c s b) (combS_ok (by omega) hs)]
    obtain ⟨g1, g2, g3⟩ := hs
    have h1 : s.1.length + [b.1].length ≤ 68719476736 := by simp; omega
    simp only [lt_yes hi, cond_true, getI_nat, ha, bindO_some', has_eq (show s.1.length < 2 ^ 62 by omega), i64_succ (show i < 2 ^ 62 by omega),
      show M_S_qVerify ((p, q, g), (c.1, c.2), b.1, (b.2.1.1, b.2.1.2), b.2.2.1, b.2.2.2.1, b.2.2.2.2) = some (blindB p q g c b) from qVerify_eq h hc hsm]
    unfold combS
    cases hA : s.1.any (· == b.1)
    · cases hB : blindB p q g c b
      · rfl
      · have hv := blind_value hB
        have hm : M_S_eMul ((p, q, g), [(s.2.1, s.2.2), (b.2.1.1, b.2.1.2)]) = some (mulC p s.2 b.2.1) := by
          rw [eMul_eq h (by simp) (fun x hx => ?_)]
          · simp only [List.foldl_cons, List.foldl_nil]
            rw [show mulC p (1, 1) (s.2.1, s.2.2) = s.2 from Prod.ext (mul_one (by omega) g2) (mul_one (by omega) g3)]
          · simp only [List.mem_cons, List.not_mem_nil, or_false] at hx
            rcases hx with rfl | rfl
            · exact ⟨⟨g2.1, by dsimp only; omega⟩, g3.1, by dsimp only; omega⟩
            · exact isCi_in hv
        simp only [Bool.not_false, cond_true, hm, bindO_some', guardO_of (lenOk_of h1), Bool.and_self]
    · rfl

theorem I_comb_loop {p q g : Int} {c : Int × Int} {l : List Bl} (hok : okG p q g = true) (hc : isCi p q c = true) (hl : l.length ≤ 1048576) (hr : ∀ r ∈ l, Pf.small r.2.2 1048576) {β : Type} (fin : List Int × Int × Int → Option β)
    {body : (List Int × Int × Int × Int → Option β) → List Int × Int × Int × Int → Option β}
    (hin : ∀ (again : List Int × Int × Int × Int → Option β) (s : List Int × Int × Int × Int), s.2.1 < (l.length : Int) → body again s =
      bindO (getI l s.2.1) fun a4 => bindO (M_slices_Contains_sint_int (s.1, a4.1)) fun a5 => cond (not a5) (bindO (M_I_Group_isBlind ((p, q, g), (c.1, c.2), a4.1, (a4.2.1.1, a4.2.1.2), a4.2.2.1, a4.2.2.2.1, a4.2.2.2.2)) fun a6 => cond a6 (bindO (M_I_Group_mulTwo ((p, q, g), (s.2.2.1, s.2.2.2), (a4.2.1.1, a4.2.1.2))) fun a7 => bindO (guardO (lenOk (s.1.length + [a4.1].length))) fun _ => bindO (some (s.1 ++ [a4.1])) fun a9 => bindO (some (IntKind.wrap .i64 (s.2.1 + 1))) fun a10 => again (a9, a10, a7.1, a7.2))
          (bindO (some (IntKind.wrap .i64 (s.2.1 + 1))) fun a11 => again (s.1, a11, s.2.2.1, s.2.2.2))) (bindO (some (IntKind.wrap .i64 (s.2.1 + 1))) fun a12 => again (s.1, a12, s.2.2.1, s.2.2.2)))
    (hend : ∀ (again : List Int × Int × Int × Int → Option β) (s : List Int × Int × Int), body again (s.1, (l.length : Int), s.2) = fin s) :
    loopO body ([], 0, 1, 1) = fin (l.foldl (combS p q g c) ([], 1, 1)) := by
  have h := okG_spec hok
  have h3 := h.p3
  refine (loopO_for (σ := List Int × Int × Int) (fun i s => (s.1, (i : Int), s.2)) l.length (fun i s => fin ((l.drop i).foldl (combS p q g c) s)) (fun i s => CombOK p i s) (fun again s hs => ?_) (fun again i s hi hs ih => ?_) (by omega) (i := 0) (s := ([], 1, 1)) (Nat.zero_le _) ⟨by simp, by dsimp only; omega, by dsimp only; omega⟩).trans rfl
  · rw [hend]
    simp only [List.drop_length, List.foldl_nil]
  · have ha := List.getElem?_eq_getElem hi
    have hsm := hr _ (List.getElem_mem hi)
    generalize hb : l[i] = b at ha hsm
    have hg : (l.drop i).foldl (combS p q g c) s = (l.drop (i + 1)).foldl (combS p q g c) (combS p q g c s b) := by
      rw [List.drop_eq_getElem_cons hi, List.foldl_cons, hb]
    rw [hg, ← ih (combS p q g c s b) (combS_ok (by omega) hs), hin _ _ (by dsimp only; omega)]
    obtain ⟨g1, g2, g3⟩ := hs
    have h1 : s.1.length + [b.1].length ≤ 68719476736 := by simp; omega
    simp only [getI_nat, ha, bindO_some', contains_eq (show s.1.length < 2 ^ 62 by omega), i64_succ (show i < 2 ^ 62 by omega),
      show M_I_Group_isBlind ((p, q, g), (c.1, c.2), b.1, (b.2.1.1, b.2.1.2), b.2.2.1, b.2.2.2.1, b.2.2.2.2) = some (blindB p q g c b) from isBlind_eq hok hc hsm]
    unfold combS
    cases hA : s.1.any (· == b.1)
    · cases hB : blindB p q g c b
      · rfl
      · have hv := blind_value hB
        have hm : M_I_Group_mulTwo ((p, q, g), (s.2.1, s.2.2), b.2.1.1, b.2.1.2) = some (mulC p s.2 b.2.1) := mulTwo_eq h ⟨⟨g2.1, by dsimp only; omega⟩, g3.1, by dsimp only; omega⟩ (isCi_in hv)
        simp only [Bool.not_false, cond_true, hm, bindO_some', guardO_of (lenOk_of h1), Bool.and_self]
    · rfl

noncomputable def combine (p q g : Int) (c : Int × Int) (l : List Bl) : (Int × Int) × List Int × Bool :=
  bif okG p q g && (isCi p q c && (decide (l.length ≤ 14) && !(((l.foldl (combS p q g c) ([], 1, 1)).1.length : Int) == 0))) then ((l.foldl (combS p q g c) ([], 1, 1)).2, (l.foldl (combS p q g c) ([], 1, 1)).1, true) else ((0, 0), [], false)

theorem gt14 (n : Nat) : decide ((n : Int) > 14) = !decide (n ≤ 14) := by
  rw [Bool.eq_iff_iff]
  simp
  omega

theorem S_CombineBlinds_eq {p q g : Int} {c : Int × Int} {l : List Bl} (hr : ∀ r ∈ l, Pf.small r.2.2 1048576) : M_S_CombineBlinds ((p, q, g), c, l) = some (combine p q g c l) := by
  unfold M_S_CombineBlinds combine
  dsimp only
  rw [l2Good_eq, bindO_some']
  cases hok : okG p q g
  · rfl
  have h := okG_spec hok
  rw [show M_S_eGood ((p, q, g), [(c.1, c.2)]) = some (isCi p q c) from eGood1_eq h, bindO_some', gt14]
  cases hc : isCi p q c
  · rfl
  by_cases hl : l.length ≤ 14
  · rw [decide_eq_true hl, show M_S_qCombine ((p, q, g), (c.1, c.2), l) = _ from qCombine_eq h hc (by omega) hr, bindO_some']
    dsimp only
    cases ((l.foldl (combS p q g c) ([], 1, 1)).1.length : Int) == 0 <;> rfl
  · rw [decide_eq_false hl]
    rfl

theorem I_CombineBlinds_eq {p q g : Int} {c : Int × Int} {l : List Bl} (hr : ∀ r ∈ l, Pf.small r.2.2 1048576) : M_I_CombineBlinds ((p, q, g), c, l) = some (combine p q g c l) := by
  unfold M_I_CombineBlinds combine
  dsimp only
  rw [IsValidGroup_eq, bindO_some']
  cases hok : okG p q g
  · rfl
  have h := okG_spec hok
  rw [show M_I_Group_hasCipher ((p, q, g), c.1, c.2) = some (isCi p q c) from hasCipher_eq h, bindO_some', gt14]
  cases hc : isCi p q c
  · rfl
  by_cases hl : l.length ≤ 14
  · rw [decide_eq_true hl]
    simp only [Bool.not_true, cond_false, Bool.true_and]
    refine (I_comb_loop hok hc (by omega) hr (fun s => cond (((s.1.length : Nat) : Int) == 0) (some ((0, 0), [], false)) (some ((s.2.1, s.2.2), s.1, true))) (fun again s hs => ?_) (fun again s => ?_)).trans ?_
    · rw [decide_eq_true hs, cond_true]
    · simp only [lt_no, cond_false]
    · cases ((l.foldl (combS p q g c) ([], 1, 1)).1.length : Int) == 0 <;> rfl
  · rw [decide_eq_false hl]
    rfl

theorem combine_small (p q g : Int) (c : Int × Int) (l : List Bl) (hp : l.length ≤ 1048576) : (combine p q g c l).2.1.length ≤ 1048576 := by
  unfold combine
  cases hok : okG p q g
  · simp
  · have h := comb_ok (q := q) (g := g) (c := c) (show 2 ≤ p by have := (okG_spec hok).p3; omega) l 0 ([], 1, 1) ⟨by simp, by have := (okG_spec hok).p3; dsimp only; omega, by have := (okG_spec hok).p3; dsimp only; omega⟩
    have := h.1
    cases isCi p q c && (decide (l.length ≤ 14) && !(((l.foldl (combS p q g c) ([], 1, 1)).1.length : Int) == 0))
    · simp
    · simp only [Bool.and_self, cond_true]
      omega

abbrev El := Int × Int × Int × Int

def e0 : El := (0, 0, 0, 0)

theorem prime_one {q d : Int} (hq : IsP q) (h1 : 1 ≤ d) (h2 : d < q) (h3 : d ∣ q) : d = 1 := by
  obtain ⟨hq2, hd⟩ := hq
  obtain ⟨c, hc⟩ := h3
  have hc1 : 2 ≤ c := by
    rcases Int.lt_or_le c 2 with h | h
    · rcases Int.lt_or_le c 1 with h' | h'
      · have : d * c ≤ d * 0 := Int.mul_le_mul_of_nonneg_left (by omega) (by omega)
        rw [Int.mul_zero] at this
        omega
      · obtain rfl : c = 1 := by omega
        rw [Int.mul_one] at hc
        omega
    · exact h
  by_cases hd1 : d = 1
  · exact hd1
  · exfalso
    rcases Int.le_total d c with h | h
    · refine hd d (by omega) ?_ (by rw [hc]; exact Int.mul_emod_right d c)
      rw [hc]
      exact Int.mul_le_mul_of_nonneg_left h (by omega)
    · refine hd c hc1 ?_ (by rw [hc]; exact Int.mul_emod_left d c)
      rw [hc]
      exact Int.mul_le_mul_of_nonneg_right h (by omega)

/-- Euclid's invariant. -/
def EuOK (q a : Int) (s : Int × Int × Int × Int) : Prop :=
  (0 ≤ s.2.1 ∧ s.2.1 < s.1 ∧ s.1 ≤ q) ∧ ((s.2.2.1 ≤ 0 ∧ 0 ≤ s.2.2.2 ∧ s.1 * s.2.2.2 - s.2.1 * s.2.2.1 = q) ∨ (0 ≤ s.2.2.1 ∧ s.2.2.2 ≤ 0 ∧ s.2.1 * s.2.2.1 - s.1 * s.2.2.2 = q)) ∧
  (∃ u, s.1 = a * s.2.2.1 + q * u) ∧ (∃ v, s.2.1 = a * s.2.2.2 + q * v) ∧ ∀ d, d ∣ s.1 → d ∣ s.2.1 → d ∣ a ∧ d ∣ q

theorem eu_bound {r n y x q : Int} (hr : 1 ≤ r) (hn : 1 ≤ n) (hy : 0 ≤ y) (hx : 0 ≤ x) (h : r * y + n * x = q) : y ≤ q ∧ x ≤ q ∧ r * y ≤ q ∧ n * x ≤ q := by
  have h1 : 1 * y ≤ r * y := Int.mul_le_mul_of_nonneg_right hr hy
  have h2 : 1 * x ≤ n * x := Int.mul_le_mul_of_nonneg_right hn hx
  have h3 : 0 ≤ r * y := Int.mul_nonneg (by omega) hy
  have h4 : 0 ≤ n * x := Int.mul_nonneg (by omega) hx
  omega

theorem eu_step {q a : Int} {s : Int × Int × Int × Int} (h : EuOK q a s) (hn : s.2.1 ≠ 0) (hq : q ≤ 2000000000) :
    EuOK q a (s.2.1, s.1 - s.1 / s.2.1 * s.2.1, s.2.2.2, s.2.2.1 - s.1 / s.2.1 * s.2.2.2) ∧ s.1 - s.1 / s.2.1 * s.2.1 = s.1 % s.2.1 ∧ (0 ≤ s.1 / s.2.1 ∧ s.1 / s.2.1 ≤ q) ∧ (0 ≤ s.1 / s.2.1 * s.2.1 ∧ s.1 / s.2.1 * s.2.1 ≤ q) ∧
      (-q ≤ s.1 / s.2.1 * s.2.2.2 ∧ s.1 / s.2.1 * s.2.2.2 ≤ q) ∧ -q ≤ s.2.2.1 ∧ s.2.2.1 ≤ q := by
  obtain ⟨r, n, x, y⟩ := s
  obtain ⟨⟨g1, g2, g3⟩, g4, ⟨u, g5⟩, ⟨v, g6⟩, g7⟩ := h
  dsimp only at *
  have hn1 : 1 ≤ n := by omega
  have e1 : r - r / n * n = r % n := by have := Int.emod_def r n; rw [Int.mul_comm] at this; omega
  have e2 := Int.emod_nonneg r hn
  have e3 := Int.emod_lt_of_pos r (show 0 < n by omega)
  have t0 : 0 ≤ r / n := Int.ediv_nonneg (by omega) (by omega)
  have t1 : r / n ≤ r := Int.ediv_le_self _ (by omega)
  generalize ht : r / n = t at *
  have t2 : t * n ≤ r := by omega
  have t3 : 0 ≤ t * n := Int.mul_nonneg t0 (by omega)
  have inv : (y ≤ 0 ∧ 0 ≤ x - t * y ∧ n * (x - t * y) - (r - t * n) * y = q) ∨ (0 ≤ y ∧ x - t * y ≤ 0 ∧ (r - t * n) * y - n * (x - t * y) = q) := by
    rcases g4 with ⟨a1, a2, a3⟩ | ⟨a1, a2, a3⟩
    · right
      have : 0 ≤ t * y := Int.mul_nonneg t0 a2
      refine ⟨a2, by omega, ?_⟩
      rw [← a3]
      grind
    · left
      have : 0 ≤ t * (-y) := Int.mul_nonneg t0 (by omega)
      rw [Int.mul_neg] at this
      refine ⟨a2, by omega, ?_⟩
      rw [← a3]
      grind
  have bnd : (-q ≤ t * y ∧ t * y ≤ q) ∧ -q ≤ x ∧ x ≤ q := by
    rcases g4 with ⟨a1, a2, a3⟩ | ⟨a1, a2, a3⟩
    · have h1 := eu_bound (r := r) (n := n) (y := y) (x := -x) (q := q) (by omega) hn1 a2 (by omega) (by rw [Int.mul_neg]; omega)
      have h2 : t * y ≤ r * y := Int.mul_le_mul_of_nonneg_right t1 a2
      have h3 : 0 ≤ t * y := Int.mul_nonneg t0 a2
      omega
    · have h1 := eu_bound (r := r) (n := n) (y := -y) (x := x) (q := q) (by omega) hn1 (by omega) a1 (by rw [Int.mul_neg]; omega)
      have h2 : t * (-y) ≤ r * (-y) := Int.mul_le_mul_of_nonneg_right t1 (by omega)
      have h3 : 0 ≤ t * (-y) := Int.mul_nonneg t0 (by omega)
      rw [Int.mul_neg] at h2 h3
      omega
  refine ⟨⟨⟨by dsimp only; omega, by dsimp only; omega, by dsimp only; omega⟩, inv, ⟨v, g6⟩, ⟨u - t * v, by dsimp only; rw [g5, g6]; grind⟩, fun d d1 d2 => ?_⟩, e1, ⟨t0, by omega⟩, ⟨t3, by omega⟩, bnd.1, bnd.2⟩
  have : r = (r - t * n) + t * n := by omega
  exact g7 d (by rw [this]; exact Int.dvd_add d2 (Int.dvd_mul_of_dvd_right d1)) d1

theorem euclid_loop {β : Type} {q a : Int} (hq : IsP q) (hq2 : q ≤ 2000000000) (ha : 1 ≤ a ∧ a < q) (fin : Int → Int → Option β) {body : (Int × Int × Int × Int → Option β) → Int × Int × Int × Int → Option β}
    (hb : ∀ again s, body again s = cond (s.2.1 != 0) (bindO (guardO (s.2.1 != 0)) fun _ => bindO (some (IntKind.wrap .i64 (Int.tdiv s.1 s.2.1))) fun a3 => bindO (some (IntKind.wrap .i64 (a3 * s.2.1))) fun a4 => bindO (some (IntKind.wrap .i64 (s.1 - a4))) fun a5 => bindO (some (IntKind.wrap .i64 (a3 * s.2.2.2))) fun a6 => bindO (some (IntKind.wrap .i64 (s.2.2.1 - a6))) fun a7 => again (s.2.1, a5, s.2.2.2, a7)) (fin s.1 s.2.2.1))
    {s0 : Int × Int × Int × Int} (h0 : EuOK q a s0 ∨ s0 = (a, q, 1, 0)) : ∃ x, loopO body s0 = fin 1 x ∧ a * x % q = 1 := by
  refine loopO_ind (fun (_ : Int × Int × Int × Int) (y : Option β) => ∃ x, y = fin 1 x ∧ a * x % q = 1) (fun s => EuOK q a s ∨ s = (a, q, 1, 0)) (fun s => s.2.1.toNat) (fun again s hs ih => ?_) h0 ?_
  · rw [hb]
    rcases hs with hs | rfl
    · by_cases hn : s.2.1 = 0
      · obtain ⟨⟨g1, g2, g3⟩, g4, ⟨u, g5⟩, ⟨v, g6⟩, g7⟩ := hs
        rw [show (s.2.1 != 0) = false from by simpa using hn, cond_false]
        obtain ⟨d1, d2⟩ := g7 s.1 (Int.dvd_refl _) (by rw [hn]; exact Int.dvd_zero _)
        have h1 : s.1 ≤ a := Int.le_of_dvd (by omega) d1
        have h2 : s.1 = 1 := prime_one hq (by omega) (by omega) d2
        refine ⟨s.2.2.1, by rw [h2], ?_⟩
        have h3 : a * s.2.2.1 = 1 + q * (-u) := by rw [h2] at g5; rw [Int.mul_neg]; omega
        rw [h3, Int.add_mul_emod_self_left]
        exact Int.emod_eq_of_lt (by omega) (by omega)
      · obtain ⟨k1, k2, k3, k4, k5, k6⟩ := eu_step hs hn hq2
        have hr := hs.1
        rw [show (s.2.1 != 0) = true from bne_iff_ne.2 hn, cond_true, guardO_of rfl, bindO_some', tdiv_nn (by omega), i64_in _ (by omega), bindO_some', i64_in _ (by omega), bindO_some', i64_in _ (by omega), bindO_some', i64_in _ (by omega), bindO_some', i64_in _ (by omega), bindO_some']
        refine ih _ (.inl k1) ?_
        dsimp only
        rw [k2]
        have := Int.emod_lt_of_pos s.1 (show 0 < s.2.1 by omega)
        have := Int.emod_nonneg s.1 hn
        omega
    · have e1 : a.tdiv q = 0 := by rw [tdiv_nn (by omega)]; exact Int.ediv_eq_zero_of_lt (by omega) ha.2
      dsimp only
      rw [show (q != 0) = true from bne_iff_ne.2 (by omega), cond_true, guardO_of rfl, bindO_some', e1, i64_in 0 (by omega), bindO_some', Int.zero_mul, i64_in 0 (by omega), bindO_some', Int.sub_zero, i64_in a (by omega), bindO_some', Int.zero_mul, i64_in 0 (by omega), bindO_some', Int.sub_zero, i64_in 1 (by omega), bindO_some']
      refine ih _ (.inl ⟨⟨by dsimp only; omega, by dsimp only; omega, by dsimp only; omega⟩, .inl ⟨by dsimp only; omega, by dsimp only; omega, by dsimp only; omega⟩, ⟨1, by dsimp only; omega⟩, ⟨0, by dsimp only; omega⟩, fun d d1 d2 => ⟨d2, d1⟩⟩) ?_
      dsimp only
      omega
  · rcases h0 with h0 | rfl
    · have := h0.1
      omega
    · dsimp only
      omega

/-- The inverse of a modulo a prime. -/
theorem inv_both {q a : Int} (hq : IsP q) (hq2 : q ≤ 2000000000) (ha : 1 ≤ a ∧ a < q) : ∃ b, (0 ≤ b ∧ b < q) ∧ a * b % q = 1 ∧ M_I_inverse (a, q) = some b ∧ M_S_nInverse (a, q) = some (b, true) := by
  have hq1 := hq.1
  obtain ⟨x, x1, x2⟩ := euclid_loop hq hq2 ha (fun r x => cond (r != 1) (some 0) (bindO (M_I_mod (x, q)) fun a8 => some a8)) (s0 := (q, a, 0, 1)) (fun _ _ => rfl) (.inl ⟨⟨by dsimp only; omega, by dsimp only; omega, by dsimp only; omega⟩, .inl ⟨by dsimp only; omega, by dsimp only; omega, by dsimp only; omega⟩, ⟨1, by dsimp only; omega⟩, ⟨0, by dsimp only; omega⟩, fun d d1 d2 => ⟨d2, d1⟩⟩)
  obtain ⟨y, y1, y2⟩ := euclid_loop hq hq2 ha (fun r x => bindO (M_S_nMod (x, q)) fun a9 => some (a9, (r == (1 : Int)))) (s0 := (a, q, 1, 0)) (fun _ _ => rfl) (.inr rfl)
  have hx := Int.emod_nonneg x (show q ≠ 0 by omega)
  have hx' := Int.emod_lt_of_pos x (show 0 < q by omega)
  have heq : x % q = y % q := by
    have e1 : x % q = x * (a * y) % q := by rw [Int.mul_emod x (a * y), y2, Int.mul_one, Int.emod_emod_of_dvd _ (Int.dvd_refl q)]
    have e2 : y % q = y * (a * x) % q := by rw [Int.mul_emod y (a * x), x2, Int.mul_one, Int.emod_emod_of_dvd _ (Int.dvd_refl q)]
    rw [e1, e2]
    congr 1
    grind
  refine ⟨x % q, ⟨hx, hx'⟩, by rw [← x2]; rw [Int.mul_emod, Int.emod_emod_of_dvd _ (Int.dvd_refl q), ← Int.mul_emod], ?_, ?_⟩
  · unfold M_I_inverse
    dsimp only
    refine x1.trans ?_
    rw [mod_eq, nMod_eq (by omega) (by omega), bindO_some']
    rfl
  · unfold M_S_nInverse
    dsimp only
    rw [nMod_eq (by omega) (by omega), Int.emod_eq_of_lt (by omega) ha.2, bindO_some']
    refine y1.trans ?_
    rw [nMod_eq (by omega) (by omega), bindO_some', heq]
    rfl

/-- A power by a multiple of q is one. -/
theorem pow_red {p q g x : Int} (h : Gr p q g) (hx : x ^ q.toNat % p = 1) (m : Nat) : x ^ m % p = x ^ (m % q.toNat) % p := by
  have hq := h.q2
  have hp := h.p3
  have e1 : m = m / q.toNat * q.toNat + m % q.toNat := by
    have := Nat.div_add_mod m q.toNat
    rw [Nat.mul_comm]
    omega
  have h1 : (x ^ (m / q.toNat)) ^ q.toNat % p = 1 := pow_one_mod h.p3 hx
  rw [← Int.pow_mul] at h1
  conv => lhs; rw [e1, Int.pow_add, Int.mul_emod, h1, Int.one_mul, Int.emod_emod_of_dvd _ (Int.dvd_refl p)]

abbrev Pp := List Int × List Int × List Int × Pf

def Pp.small (P : Pp) (n : Nat) : Prop := P.1.length ≤ n ∧ P.2.1.length ≤ n ∧ P.2.2.1.length ≤ n ∧ P.2.2.2.small n

abbrev Mp := List Int × List Int × Pf

abbrev Stg := Int × List (Int × Int) × Mp × Pp

def Mp.small (a : Mp) (n : Nat) : Prop := a.1.length ≤ n ∧ a.2.1.length ≤ n ∧ a.2.2.small n

def Stg.small (s : Stg) : Prop := s.2.1.length ≤ 1048576 ∧ Mp.small s.2.2.1 1048576 ∧ Pp.small s.2.2.2 1048576

theorem bits_255 (x : Int) : 0 ≤ Vd.bits .and .u64 x 255 ∧ Vd.bits .and .u64 x 255 ≤ 255 := by
  have h : (BitVec.ofInt (IntKind.bits .u64) x &&& BitVec.ofInt (IntKind.bits .u64) 255).toNat ≤ 255 := by
    rw [BitVec.toNat_and]
    exact Nat.le_trans Nat.and_le_right (by decide)
  show 0 ≤ IntKind.wrap .u64 ((BitVec.ofInt (IntKind.bits .u64) x &&& BitVec.ofInt (IntKind.bits .u64) 255).toNat : Int) ∧ IntKind.wrap .u64 ((BitVec.ofInt (IntKind.bits .u64) x &&& BitVec.ofInt (IntKind.bits .u64) 255).toNat : Int) ≤ 255
  generalize (BitVec.ofInt (IntKind.bits .u64) x &&& BitVec.ofInt (IntKind.bits .u64) 255).toNat = n at h ⊢
  rw [wrap_u64 (by omega)]
  omega

def Bytes (code : List Int) : Prop := ∀ a ∈ code, 0 ≤ a ∧ a ≤ 255

theorem next_ok {code : List Int} {pos seed : Int} (hb : Bytes code) (h0 : 0 ≤ pos) (h1 : pos ≤ 2 ^ 40) : ∃ v seed', M_S_l1Cur_next (code, pos, seed) = some (v, code, pos + 1, seed') ∧ 0 ≤ v ∧ v ≤ 255 := by
  obtain ⟨k, rfl⟩ : ∃ k : Nat, pos = (k : Int) := ⟨pos.toNat, by omega⟩
  unfold M_S_l1Cur_next
  dsimp only
  by_cases hl : k < code.length
  · have hg := List.getElem?_eq_getElem hl
    have ha := hb _ (List.getElem_mem hl)
    rw [lt_yes hl, cond_true, getI_nat, hg, bindO_some', i64_in ((k : Int) + 1) (by omega), bindO_some', bindO_some', bindO_some', bindO_some', decide_eq_true (show (k : Int) + 1 ≤ ((code.length : Nat) : Int) by omega), cond_true, i64_in code[k] (by omega)]
    exact ⟨_, _, rfl, ha.1, ha.2⟩
  · rw [decide_eq_false (show ¬ (k : Int) < ((code.length : Nat) : Int) by omega), cond_false, i64_in ((k : Int) + 1) (by omega), bindO_some', bindO_some', bindO_some', bindO_some', decide_eq_false (show ¬ (k : Int) + 1 ≤ ((code.length : Nat) : Int) by omega), cond_false, guardO_of (by decide), bindO_some', bindO_some', bindO_some']
    have hx := bits_255 (shr .u64 (IntKind.wrap .u64 (IntKind.wrap .u64 (IntKind.wrap .u64 (seed * 6364136223846793005) + IntKind.wrap .u64 0) + 1442695040888963407)) 40)
    rw [i64_in _ (by omega)]
    exact ⟨_, _, rfl, hx.1, hx.2⟩

theorem pick_ok {code : List Int} {pos seed n : Int} (hb : Bytes code) (h0 : 0 ≤ pos) (h1 : pos ≤ 2 ^ 39) (hn : n ≤ 2 ^ 40) : ∃ v pos' seed', M_S_l1Cur_pick ((code, pos, seed), n) = some (v, code, pos', seed') ∧ 0 ≤ v ∧ v ≤ 65535 ∧ (n ≤ 1 → v = 0) ∧ (1 < n → v < n) ∧ pos ≤ pos' ∧ pos' ≤ pos + 2 := by
  unfold M_S_l1Cur_pick
  dsimp only
  by_cases hn1 : n ≤ 1
  · rw [decide_eq_true hn1, cond_true]
    exact ⟨_, _, _, rfl, by omega, by omega, fun _ => rfl, fun h => by omega, by omega, by omega⟩
  have hg0 : guardO (n != 0) = some () := guardO_of (bne_iff_ne.2 (by omega))
  obtain ⟨v, s1, e1, v1, v2⟩ := next_ok (seed := seed) hb h0 (by omega)
  rw [decide_eq_false hn1, cond_false, e1, bindO_some']
  dsimp only
  by_cases h2 : n > 200
  · obtain ⟨w, s2, e2, w1, w2⟩ := next_ok (seed := s1) hb (show 0 ≤ pos + 1 by omega) (by omega)
    rw [decide_eq_true h2, cond_true, i64_in _ (by omega), bindO_some', e2, bindO_some']
    dsimp only
    rw [i64_in _ (by omega), bindO_some', hg0, bindO_some', tmod_nn (by omega), bindO_some']
    have r1 := Int.emod_nonneg (v * 256 + w) (show n ≠ 0 by omega)
    have r2 := Int.emod_lt_of_pos (v * 256 + w) (show 0 < n by omega)
    have r3 : (v * 256 + w) % n ≤ v * 256 + w := by
      by_cases hlt : v * 256 + w < n
      · rw [Int.emod_eq_of_lt (by omega) hlt]
        exact Int.le_refl _
      · omega
    exact ⟨_, _, _, rfl, r1, by omega, fun h => by omega, fun _ => r2, by omega, by omega⟩
  · rw [decide_eq_false h2, cond_false, hg0, bindO_some', tmod_nn v1, bindO_some']
    have r1 := Int.emod_nonneg v (show n ≠ 0 by omega)
    have r2 := Int.emod_lt_of_pos v (show 0 < n by omega)
    exact ⟨_, _, _, rfl, r1, by omega, fun h => by omega, fun _ => r2, by omega, by omega⟩

theorem one_ok {code : List Int} {pos seed n : Int} (hb : Bytes code) (h0 : 0 ≤ pos) (h1 : pos ≤ 2 ^ 39) (hn : n ≤ 2 ^ 40) : ∃ b pos' seed', M_S_l1Cur_one ((code, pos, seed), n) = some (b, code, pos', seed') ∧ pos ≤ pos' ∧ pos' ≤ pos + 2 := by
  obtain ⟨v, p, s, e, -, -, -, -, h3, h4⟩ := pick_ok (seed := seed) hb h0 h1 hn
  refine ⟨v == 0, p, s, ?_, h3, h4⟩
  unfold M_S_l1Cur_one
  dsimp only
  rw [e, bindO_some']

theorem among_ok {code l : List Int} {pos seed : Int} (hb : Bytes code) (h0 : 0 ≤ pos) (h1 : pos ≤ 2 ^ 39) (hl : 1 ≤ l.length ∧ l.length ≤ 1000) : ∃ v pos' seed', M_S_l1Cur_among ((code, pos, seed), l) = some (v, code, pos', seed') ∧ v ∈ l ∧ pos ≤ pos' ∧ pos' ≤ pos + 2 := by
  obtain ⟨v, p, s, e, h2, -, h5, h6, h3, h4⟩ := pick_ok (seed := seed) (n := (l.length : Int)) hb h0 h1 (by omega)
  obtain ⟨k, rfl⟩ : ∃ k : Nat, v = (k : Int) := ⟨v.toNat, by omega⟩
  have hk : k < l.length := by omega
  refine ⟨l[k], p, s, ?_, List.getElem_mem hk, h3, h4⟩
  unfold M_S_l1Cur_among
  dsimp only
  rw [e, bindO_some']
  dsimp only
  rw [getI_nat, List.getElem?_eq_getElem hk, bindO_some']

theorem wf_u8 {code : List Int} (h : WF (.sl (.int .u8)) code) : Bytes code := fun a ha => by
  have h1 : IntKind.u8.min ≤ a ∧ a ≤ IntKind.u8.max := h.2 a ha
  have e1 : IntKind.u8.min = 0 := by decide
  have e2 : IntKind.u8.max = 255 := by decide
  omega

theorem qInts_eq {a : List Int} (h : a.length < 2 ^ 62) : M_L_qInts (a, a) = some true := by
  unfold M_L_qInts
  dsimp only
  rw [bne_self_eq_false, cond_false]
  refine loopO_for (σ := Unit) (fun i _ => (i : Int)) a.length (fun _ _ => some true) (fun _ _ => True) (fun again _ _ => ?_) (fun again i _ hi _ ih => ?_) (by omega) (i := 0) (s := ()) (Nat.zero_le _) trivial
  · rw [lt_no, cond_false]
  · have hg := List.getElem?_eq_getElem hi
    rw [lt_yes hi, cond_true, getI_nat, hg, bindO_some', bindO_some', bne_self_eq_false, cond_false, i64_succ (by omega), bindO_some']
    exact ih () trivial

/-- A loop that counts, to a given end. -/
theorem loopO_to {τ β : Type} {body : (τ → Option β) → τ → Option β} (enc : Nat → τ) (N : Nat) (r : Option β) (hN : N < 2 ^ 62)
    (hend : ∀ again : τ → Option β, body again (enc N) = r) (hin : ∀ (again : τ → Option β) (i : Nat), i < N → again (enc (i + 1)) = r → body again (enc i) = r) : loopO body (enc 0) = r :=
  loopO_for (body := body) (σ := Unit) (fun i _ => enc i) N (fun _ _ => r) (fun _ _ => True) (fun again _ _ => hend again) (fun again i _ hi _ ih => hin again i hi (ih () trivial)) (by omega) (i := 0) (s := ()) (Nat.zero_le _) trivial

theorem bind_to {α β : Type} {m : Option α} {v : α} {f : α → Option β} {r : Option β} (h : m = some v) (h2 : f v = r) : bindO m f = r := by
  rw [h]
  exact h2

theorem yes_to {β : Type} {c : Bool} {a b r : Option β} (h : c = true) (h2 : a = r) : cond c a b = r := by
  rw [h]
  exact h2

theorem no_to {β : Type} {c : Bool} {a b r : Option β} (h : c = false) (h2 : b = r) : cond c a b = r := by
  rw [h]
  exact h2

def primeB (b n : Nat) : Bool := decide (2 ≤ n) && (List.range b).all fun d => decide (d < 2) || (decide (n < d * d) || !(n % d == 0))

theorem isP_primeB {b n : Nat} (h : n < b * b) : isP (n : Int) = primeB b n := by
  rw [Bool.eq_iff_iff]
  simp only [isP, decide_eq_true_eq, primeB, Bool.and_eq_true, List.all_eq_true, List.mem_range, Bool.or_eq_true, Bool.not_eq_true', beq_eq_false_iff_ne, ne_eq]
  constructor
  · rintro ⟨h1, h2⟩
    refine ⟨by omega, fun d _ => ?_⟩
    rcases Nat.lt_or_ge d 2 with h3 | h3
    · exact .inl h3
    · rcases Nat.lt_or_ge n (d * d) with h4 | h4
      · exact .inr (.inl h4)
      · refine .inr (.inr fun h5 => h2 (d : Int) (by omega) (by exact_mod_cast h4) ?_)
        rw [← Int.natCast_emod, h5]
        rfl
  · rintro ⟨h1, h2⟩
    refine ⟨by omega, fun d hd hdd h5 => ?_⟩
    obtain ⟨m, rfl⟩ : ∃ m : Nat, d = (m : Int) := ⟨d.toNat, by omega⟩
    have h6 : m * m ≤ n := by exact_mod_cast hdd
    have hm : m < b := Nat.lt_of_not_ge fun h7 => by
      have := Nat.mul_le_mul h7 h7
      omega
    rcases h2 m hm with h8 | h8 | h8
    · omega
    · omega
    · apply h8
      rw [← Int.natCast_emod] at h5
      exact_mod_cast h5

/-- All that is asked of a group's numbers to be made: q a prime, K the first with K q + 1 a prime, 2 to the K-th not 1. -/
def mgB (b q K : Nat) : Bool := decide (2 ≤ q ∧ q ≤ 1000000) && (decide (1 ≤ K) && (decide (K * q + 1 ≤ 2000000000) && (decide (K * q + 1 < b * b) && (primeB b q && ((List.range K).all (fun k => !primeB b (k * q + 1)) && (primeB b (K * q + 1) && !(2 ^ K % (K * q + 1) == 1)))))))

theorem makeGroup_ok {b q K : Nat} (h : mgB b q K = true) : M_S_MakeGroup (q : Int) = some ((((K * q + 1 : Nat) : Int), (q : Int), ((2 ^ K % (K * q + 1) : Nat) : Int)), true) := by
  simp only [mgB, Bool.and_eq_true, decide_eq_true_eq, List.all_eq_true, List.mem_range, Bool.not_eq_true', beq_eq_false_iff_ne, ne_eq] at h
  obtain ⟨h1, h2, h3, h4, h5, h6, h7, h8⟩ := h
  have hKq : q ≤ K * q := by
    have := Nat.mul_le_mul_right q h2
    omega
  have hK9 : K ≤ 2000000000 := by
    have := Nat.mul_le_mul_left K h1.1
    omega
  have hq : isP (q : Int) = true := by rw [isP_primeB (b := b) (by omega)]; exact h5
  unfold M_S_MakeGroup
  rw [in_eq, bindO_some', decide_eq_true (show (2 : Int) ≤ (q : Int) ∧ (q : Int) ≤ 1000000 by omega), Bool.not_true, cond_false, nPrime_eq (by omega), bindO_some', hq, Bool.not_true, cond_false, i64_in ((q : Int) + 1) (by omega), bindO_some']
  have hstart : (((q : Int) + 1), (0 : Int), (0 : Int), (0 : Int)) = ((((0 + 1) * q + 1 : Nat) : Int), (0 : Int), (0 : Int), (0 : Int)) := by
    rw [Nat.zero_add, Nat.one_mul]
    rfl
  rw [hstart]
  refine loopO_to (fun k => ((((k + 1) * q + 1 : Nat) : Int), (0 : Int), (0 : Int), (0 : Int))) (K - 1) _ (by omega) (fun again => ?_) (fun again k hk ih => ?_)
  · have hK : K - 1 + 1 = K := by omega
    dsimp only
    rw [hK, decide_eq_true (show ((K * q + 1 : Nat) : Int) ≤ 2000000000 by omega), cond_true, nPrime_eq (by omega), bindO_some', isP_primeB (b := b) h4, h7, Bool.not_true, cond_false]
    have e1 : IntKind.wrap .i64 (((K * q + 1 : Nat) : Int) - 1) = ((K * q : Nat) : Int) := by
      rw [i64_in _ (by omega)]
      omega
    have e2 : IntKind.wrap .i64 (((K * q : Nat) : Int).tdiv (q : Int)) = (K : Int) := by
      rw [tdiv_nn (by omega), show ((K * q : Nat) : Int) = (K : Int) * (q : Int) by simp, Int.mul_ediv_cancel _ (by omega), i64_in _ (by omega)]
    have e3 : M_S_nPower (2, (K : Int), ((K * q + 1 : Nat) : Int)) = some (((2 ^ K % (K * q + 1) : Nat) : Int)) := by
      rw [nPower_eq (by omega) (by omega) (by omega) (by omega) (by omega) (by omega), Int.toNat_natCast]
      congr 1
    have hg : guardO ((q : Int) != 0) = some () := guardO_of (bne_iff_ne.2 (by omega))
    refine loopO_to (fun _ => (2 : Int)) 0 _ (by decide) (fun again2 => ?_) (fun _ i hi => absurd hi (Nat.not_lt_zero _))
    refine bind_to (congrArg some e1) ?_
    refine bind_to hg ?_
    refine bind_to (congrArg some e2) ?_
    refine bind_to e3 ?_
    refine no_to (beq_eq_false_iff_ne.2 (by omega)) ?_
    refine bind_to (congrArg some e1) ?_
    refine bind_to hg ?_
    refine bind_to (congrArg some e2) ?_
    refine bind_to e3 ?_
    rfl
  · have hlt : (k + 1) * q ≤ K * q := Nat.mul_le_mul_right q (by omega)
    have hp := h6 (k + 1) (by omega)
    dsimp only
    rw [decide_eq_true (show (((k + 1) * q + 1 : Nat) : Int) ≤ 2000000000 by omega), cond_true, nPrime_eq (by omega), bindO_some', isP_primeB (b := b) (by omega), hp, Bool.not_false, cond_true, i64_in _ (by omega), bindO_some']
    have e : (((k + 1) * q + 1 : Nat) : Int) + (q : Int) = (((k + 1 + 1) * q + 1 : Nat) : Int) := by
      rw [show (k + 1 + 1) * q = (k + 1) * q + q by rw [Nat.succ_mul]]
      omega
    rw [e]
    exact ih

set_option maxRecDepth 100000 in
theorem made {q : Int} (h : q ∈ ([3, 5, 5, 7, 11, 11, 13, 23] : List Int) ∨ q ∈ ([101, 1009, 1019, 65537, 999983] : List Int)) : ∃ p g : Int, M_S_MakeGroup q = some ((p, q, g), true) ∧ 3 ≤ p ∧ p ≤ 2000000000 ∧ 0 ≤ g ∧ g ≤ 2000000000 ∧ 2 ≤ q ∧ q ≤ 1000000 := by
  have fin : ∀ (b q K : Nat), mgB b q K = true → ∃ p g : Int, M_S_MakeGroup (q : Int) = some ((p, (q : Int), g), true) ∧ 3 ≤ p ∧ p ≤ 2000000000 ∧ 0 ≤ g ∧ g ≤ 2000000000 ∧ (2 : Int) ≤ (q : Int) ∧ (q : Int) ≤ 1000000 := fun b q K h => by
    have h' := h
    simp only [mgB, Bool.and_eq_true, decide_eq_true_eq] at h'
    obtain ⟨h1, h2, h3, -⟩ := h'
    have hKq : q ≤ K * q := by
      have := Nat.mul_le_mul_right q h2
      omega
    have hm := Nat.mod_lt (2 ^ K) (show 0 < K * q + 1 by omega)
    exact ⟨_, _, makeGroup_ok h, by omega, by omega, by omega, by omega, by omega, by omega⟩
  simp only [List.mem_cons, List.not_mem_nil, or_false] at h
  rcases h with (rfl | rfl | rfl | rfl | rfl | rfl | rfl | rfl) | (rfl | rfl | rfl | rfl | rfl)
  · exact fin 10 3 2 (by decide +kernel)
  · exact fin 10 5 2 (by decide +kernel)
  · exact fin 10 5 2 (by decide +kernel)
  · exact fin 10 7 4 (by decide +kernel)
  · exact fin 10 11 2 (by decide +kernel)
  · exact fin 10 11 2 (by decide +kernel)
  · exact fin 10 13 4 (by decide +kernel)
  · exact fin 10 23 2 (by decide +kernel)
  · exact fin 40 101 6 (by decide +kernel)
  · exact fin 110 1009 10 (by decide +kernel)
  · exact fin 60 1019 2 (by decide +kernel)
  · exact fin 1000 65537 14 (by decide +kernel)
  · exact fin 3500 999983 12 (by decide +kernel)

theorem gExp_any {p q g x e : Int} (hp : 1 ≤ p ∧ p ≤ 3000000000) (hq : 1 ≤ q ∧ q ≤ 3000000000) (hx : 0 ≤ x ∧ x ≤ 3000000000) : ∃ v, M_S_gExp ((p, q, g), x, e) = some v ∧ 0 ≤ v ∧ v < p := by
  have h1 := Int.emod_nonneg e (show q ≠ 0 by omega)
  have h2 := Int.emod_lt_of_pos e (show 0 < q by omega)
  unfold M_S_gExp
  dsimp only
  rw [nMod_eq hq.1 (by omega), bindO_some', nPower_eq hx.1 hx.2 h1 (by omega) hp.1 hp.2, bindO_some']
  exact ⟨_, rfl, Int.emod_nonneg _ (by omega), Int.emod_lt_of_pos _ (by omega)⟩

def DG (p q g : Int) : Prop := (-10 ≤ p ∧ p ≤ 2000000010) ∧ (-10 ≤ q ∧ q ≤ 2000000010) ∧ (-10 ≤ g ∧ g ≤ 2000000010)

theorem tiny_ok {code : List Int} {pos seed : Int} (hb : Bytes code) (h0 : 0 ≤ pos) (h1 : pos ≤ 2 ^ 38) : ∃ p q g pos' seed', M_S_l1Cur_tiny (code, pos, seed) = some ((p, q, g), code, pos', seed') ∧ (3 ≤ p ∧ p ≤ 2000000000) ∧ (2 ≤ q ∧ q ≤ 1000000) ∧ (0 ≤ g ∧ g ≤ 2000000000) ∧ pos ≤ pos' ∧ pos' ≤ pos + 2 := by
  obtain ⟨v, p', s', e, hv, h2, h3⟩ := among_ok (l := [3, 5, 5, 7, 11, 11, 13, 23]) (seed := seed) hb h0 (by omega) ⟨by simp, by simp⟩
  obtain ⟨p, g, m1, m2, m3, m4, m5, m6, m7⟩ := made (.inl hv)
  refine ⟨p, v, g, p', s', ?_, ⟨m2, m3⟩, ⟨m6, m7⟩, ⟨m4, m5⟩, h2, h3⟩
  unfold M_S_l1Cur_tiny
  dsimp only
  rw [e, bindO_some']
  dsimp only
  rw [m1, bindO_some']

theorem group_ok {code : List Int} {pos seed : Int} (hb : Bytes code) (h0 : 0 ≤ pos) (h1 : pos ≤ 2 ^ 37) : ∃ p q g pos' seed', M_S_l1Cur_group (code, pos, seed) = some ((p, q, g), code, pos', seed') ∧ (3 ≤ p ∧ p ≤ 2000000000) ∧ (2 ≤ q ∧ q ≤ 1000000000) ∧ (0 ≤ g ∧ g ≤ 2000000000) ∧ pos ≤ pos' ∧ pos' ≤ pos + 6 := by
  unfold M_S_l1Cur_group
  dsimp only
  obtain ⟨k, p1, s1, e1, -, -, -, -, a1, a2⟩ := pick_ok (seed := seed) (n := 6) hb h0 (by omega) (by omega)
  rw [e1, bindO_some']
  dsimp only
  cases hk0 : k == (0 : Int)
  · cases hk1 : k == (1 : Int)
    · obtain ⟨p, q, g, p2, s2, e2, b1, b2, b3, a3, a4⟩ := tiny_ok (seed := s1) hb (show 0 ≤ p1 by omega) (by omega)
      rw [cond_false, cond_false, e2, bindO_some']
      dsimp only
      rw [i64_in (q - 1) (by omega), bindO_some']
      obtain ⟨z, p3, s3, e3, c1, c2, -, -, a5, a6⟩ := pick_ok (seed := s2) (n := q - 1) hb (show 0 ≤ p2 by omega) (by omega) (by omega)
      rw [e3, bindO_some']
      dsimp only
      rw [i64_in (1 + z) (by omega), bindO_some']
      obtain ⟨v, e4, c3, c4⟩ := gExp_any (p := p) (q := q) (g := g) (x := g) (e := 1 + z) ⟨by omega, by omega⟩ ⟨by omega, by omega⟩ ⟨by omega, by omega⟩
      rw [e4, bindO_some']
      exact ⟨p, q, v, p3, s3, rfl, b1, ⟨b2.1, by omega⟩, ⟨c3, by omega⟩, by omega, by omega⟩
    · obtain ⟨v, p2, s2, e2, hv, a3, a4⟩ := among_ok (l := [101, 1009, 1019, 65537, 999983]) (seed := s1) hb (show 0 ≤ p1 by omega) (by omega) ⟨by simp, by simp⟩
      obtain ⟨p, g, m1, m2, m3, m4, m5, m6, m7⟩ := made (.inr hv)
      rw [cond_false, cond_true, e2, bindO_some']
      dsimp only
      rw [m1, bindO_some']
      exact ⟨p, v, g, p2, s2, rfl, ⟨m2, m3⟩, ⟨m6, by omega⟩, ⟨m4, m5⟩, by omega, by omega⟩
  · exact ⟨1000000007, 500000003, 4, p1, s1, rfl, by omega, by omega, by omega, by omega, by omega⟩

theorem anyGroup_ok {code : List Int} {pos seed : Int} (hb : Bytes code) (h0 : 0 ≤ pos) (h1 : pos ≤ 2 ^ 36) : ∃ p q g pos' seed', M_S_l1Cur_anyGroup (code, pos, seed) = some ((p, q, g), code, pos', seed') ∧ DG p q g ∧ pos ≤ pos' ∧ pos' ≤ pos + 10 := by
  obtain ⟨p, q, g, p1, s1, e1, b1, b2, b3, a1, a2⟩ := group_ok (seed := seed) hb h0 (by omega)
  obtain ⟨k, p2, s2, e2, -, -, -, -, a3, a4⟩ := pick_ok (seed := s1) (n := 24) hb (show 0 ≤ p1 by omega) (by omega) (by omega)
  unfold M_S_l1Cur_anyGroup
  dsimp only
  rw [e1, bindO_some']
  dsimp only
  rw [e2, bindO_some']
  dsimp only
  cases hk0 : k == (0 : Int)
  · cases hk1 : k == (1 : Int)
    · cases hk2 : k == (2 : Int)
      · exact ⟨p, q, g, p2, s2, rfl, ⟨by omega, by omega, by omega⟩, by omega, by omega⟩
      · obtain ⟨v, p3, s3, e3, hv, a5, a6⟩ := among_ok (l := [0, 1, p - 1, p, g + 1]) (seed := s2) hb (show 0 ≤ p2 by omega) (by omega) ⟨by simp, by simp⟩
        rw [cond_false, cond_false, cond_true, i64_in (p - 1) (by omega), bindO_some', i64_in (g + 1) (by omega), bindO_some', e3, bindO_some']
        refine ⟨p, q, v, p3, s3, rfl, ⟨by omega, by omega, ?_⟩, by omega, by omega⟩
        simp only [List.mem_cons, List.not_mem_nil, or_false] at hv
        omega
    · obtain ⟨v, p3, s3, e3, hv, a5, a6⟩ := among_ok (l := [0, 1, q + 1, p - 1]) (seed := s2) hb (show 0 ≤ p2 by omega) (by omega) ⟨by simp, by simp⟩
      rw [cond_false, cond_true, i64_in (q + 1) (by omega), bindO_some', i64_in (p - 1) (by omega), bindO_some', e3, bindO_some']
      refine ⟨p, v, g, p3, s3, rfl, ⟨by omega, ?_, by omega⟩, by omega, by omega⟩
      simp only [List.mem_cons, List.not_mem_nil, or_false] at hv
      omega
  · obtain ⟨v, p3, s3, e3, hv, a5, a6⟩ := among_ok (l := [0, p + 2, 4, -7]) (seed := s2) hb (show 0 ≤ p2 by omega) (by omega) ⟨by simp, by simp⟩
    rw [cond_true, i64_in (p + 2) (by omega), bindO_some', e3, bindO_some']
    refine ⟨v, q, g, p3, s3, rfl, ⟨?_, by omega, by omega⟩, by omega, by omega⟩
    simp only [List.mem_cons, List.not_mem_nil, or_false] at hv
    omega

theorem expo_ok {code : List Int} {pos seed p q g : Int} (hd : DG p q g) (hb : Bytes code) (h0 : 0 ≤ pos) (h1 : pos ≤ 2 ^ 38) : ∃ v pos' seed', M_S_l1Cur_expo ((code, pos, seed), p, q, g) = some (v, code, pos', seed') ∧ (0 ≤ v ∧ v ≤ 2000000010) ∧ (2 ≤ q → v < q) ∧ pos ≤ pos' ∧ pos' ≤ pos + 4 := by
  obtain ⟨d1, d2, d3⟩ := hd
  unfold M_S_l1Cur_expo
  dsimp only
  by_cases hq : q < 2
  · rw [decide_eq_true hq, cond_true]
    exact ⟨0, pos, seed, rfl, by omega, fun h => by omega, by omega, by omega⟩
  · obtain ⟨v, p1, s1, e1, a1, a2, -, -, b1, b2⟩ := pick_ok (seed := seed) (n := 60000) hb h0 (by omega) (by omega)
    obtain ⟨w, p2, s2, e2, a3, a4, -, -, b3, b4⟩ := pick_ok (seed := s1) (n := 60000) hb (show 0 ≤ p1 by omega) (by omega) (by omega)
    have r1 := Int.emod_nonneg (v * 60000 + w) (show q ≠ 0 by omega)
    have r2 := Int.emod_lt_of_pos (v * 60000 + w) (show 0 < q by omega)
    rw [decide_eq_false hq, cond_false, e1, bindO_some']
    dsimp only
    rw [i64_in (v * 60000) (by omega), bindO_some', e2, bindO_some']
    dsimp only
    rw [i64_in (v * 60000 + w) (by omega), bindO_some', guardO_of (bne_iff_ne.2 (show q ≠ 0 by omega)), bindO_some', tmod_nn (by omega), bindO_some']
    exact ⟨_, p2, s2, rfl, ⟨r1, by omega⟩, fun _ => r2, by omega, by omega⟩

theorem element_ok {code : List Int} {pos seed p q g : Int} (hd : DG p q g) (hb : Bytes code) (h0 : 0 ≤ pos) (h1 : pos ≤ 2 ^ 38) : ∃ v pos' seed', M_S_l1Cur_element ((code, pos, seed), p, q, g) = some (v, code, pos', seed') ∧ (0 ≤ v ∧ v ≤ 2000000010) ∧ pos ≤ pos' ∧ pos' ≤ pos + 4 := by
  have hd' := hd
  obtain ⟨d1, d2, d3⟩ := hd
  unfold M_S_l1Cur_element
  dsimp only
  by_cases hp : p < 3
  · rw [decide_eq_true hp, cond_true]
    exact ⟨1, pos, seed, rfl, by omega, by omega, by omega⟩
  by_cases hq : q < 1
  · rw [decide_eq_false hp, cond_false, decide_eq_true hq, cond_true]
    exact ⟨1, pos, seed, rfl, by omega, by omega, by omega⟩
  obtain ⟨x, p1, s1, e1, a1, -, b1, b2⟩ := expo_ok (seed := seed) hd' hb h0 h1
  have r1 := Int.emod_nonneg g (show p ≠ 0 by omega)
  have r2 := Int.emod_lt_of_pos g (show 0 < p by omega)
  obtain ⟨v, e4, c3, c4⟩ := gExp_any (p := p) (q := q) (g := g) (x := g % p) (e := x) ⟨by omega, by omega⟩ ⟨by omega, by omega⟩ ⟨by omega, by omega⟩
  rw [decide_eq_false hp, cond_false, decide_eq_false hq, cond_false, nMod_eq (by omega) (by omega), bindO_some', e1, bindO_some']
  dsimp only
  rw [e4, bindO_some']
  exact ⟨v, p1, s1, rfl, by omega, by omega, by omega⟩

theorem anyExpo_ok {code : List Int} {pos seed p q g : Int} (hd : DG p q g) (hb : Bytes code) (h0 : 0 ≤ pos) (h1 : pos ≤ 2 ^ 37) : ∃ v pos' seed', M_S_l1Cur_anyExpo ((code, pos, seed), p, q, g) = some (v, code, pos', seed') ∧ pos ≤ pos' ∧ pos' ≤ pos + 6 := by
  have hd' := hd
  obtain ⟨d1, d2, d3⟩ := hd
  obtain ⟨b, p1, s1, e1, a1, a2⟩ := one_ok (seed := seed) (n := 24) hb h0 (by omega) (by omega)
  unfold M_S_l1Cur_anyExpo
  dsimp only
  rw [e1, bindO_some']
  dsimp only
  cases b
  · obtain ⟨x, p2, s2, e2, -, -, b1, b2⟩ := expo_ok (seed := s1) hd' hb (show 0 ≤ p1 by omega) (by omega)
    rw [cond_false, e2, bindO_some']
    exact ⟨x, p2, s2, rfl, by omega, by omega⟩
  · obtain ⟨v, p3, s3, e3, hv, a5, a6⟩ := among_ok (l := [q, -1, q - 1]) (seed := s1) hb (show 0 ≤ p1 by omega) (by omega) ⟨by simp, by simp⟩
    rw [cond_true, i64_in (q - 1) (by omega), bindO_some', e3, bindO_some']
    exact ⟨v, p3, s3, rfl, by omega, by omega⟩

theorem anyElement_ok {code : List Int} {pos seed p q g : Int} (hd : DG p q g) (hb : Bytes code) (h0 : 0 ≤ pos) (h1 : pos ≤ 2 ^ 37) : ∃ v pos' seed', M_S_l1Cur_anyElement ((code, pos, seed), p, q, g) = some (v, code, pos', seed') ∧ pos ≤ pos' ∧ pos' ≤ pos + 6 := by
  have hd' := hd
  obtain ⟨d1, d2, d3⟩ := hd
  obtain ⟨b, p1, s1, e1, a1, a2⟩ := one_ok (seed := seed) (n := 20) hb h0 (by omega) (by omega)
  unfold M_S_l1Cur_anyElement
  dsimp only
  rw [e1, bindO_some']
  dsimp only
  cases b
  · obtain ⟨x, p2, s2, e2, -, b1, b2⟩ := element_ok (seed := s1) hd' hb (show 0 ≤ p1 by omega) (by omega)
    rw [cond_false, e2, bindO_some']
    exact ⟨x, p2, s2, rfl, by omega, by omega⟩
  · obtain ⟨v, p3, s3, e3, hv, a5, a6⟩ := among_ok (l := [0, 1, p - 1, p, -1, 5]) (seed := s1) hb (show 0 ≤ p1 by omega) (by omega) ⟨by simp, by simp⟩
    rw [cond_true, i64_in (p - 1) (by omega), bindO_some', e3, bindO_some']
    exact ⟨v, p3, s3, rfl, by omega, by omega⟩

def Dn {α : Type} (m : Option α) (Q : α → Prop) : Prop := ∃ v, m = some v ∧ Q v

theorem dn_some {α : Type} {v : α} {Q : α → Prop} (h : Q v) : Dn (some v) Q := ⟨v, rfl, h⟩

theorem dn_bind {α β : Type} {m : Option α} {f : α → Option β} {Q : α → Prop} {R : β → Prop} (h : Dn m Q) (k : ∀ v, Q v → Dn (f v) R) : Dn (bindO m f) R := by
  obtain ⟨v, e, hv⟩ := h
  rw [e, bindO_some']
  exact k v hv

theorem dn_is {α β : Type} {m : Option α} {v : α} {f : α → Option β} {R : β → Prop} (h : m = some v) (k : Dn (f v) R) : Dn (bindO m f) R := by
  rw [h, bindO_some']
  exact k

theorem dn_cond {β : Type} {b : Bool} {x y : Option β} {R : β → Prop} (h1 : b = true → Dn x R) (h2 : b = false → Dn y R) : Dn (cond b x y) R := by
  cases b
  · exact h2 rfl
  · exact h1 rfl

theorem dn_weak {α : Type} {m : Option α} {Q R : α → Prop} (h : Dn m Q) (k : ∀ v, Q v → R v) : Dn m R := by
  obtain ⟨v, e, hv⟩ := h
  exact ⟨v, e, k v hv⟩

theorem dn_wrap {β : Type} {e : Int} {f : Int → Option β} {R : β → Prop} (h : -1000000000000000000 ≤ e ∧ e ≤ 1000000000000000000) (k : Dn (f e) R) : Dn (bindO (some (IntKind.wrap .i64 e)) f) R := by
  rw [i64_in _ (by omega), bindO_some']
  exact k

theorem dn_len {β : Type} {n : Nat} {f : Unit → Option β} {R : β → Prop} (h : n ≤ 1000000000) (k : Dn (f ()) R) : Dn (bindO (guardO (lenOk n)) f) R := by
  rw [guardO_of (lenOk_of (by omega)), bindO_some']
  exact k

theorem dn_loop {σ β : Type} {body : (σ → Option β) → σ → Option β} {R : β → Prop} (Inv : σ → Prop) (μ : σ → Nat)
    (step : ∀ (again : σ → Option β) s, Inv s → (∀ s', Inv s' → μ s' < μ s → Dn (again s') R) → Dn (body again s) R) {s : σ} (h0 : Inv s) (hm : μ s < 2 ^ 64) : Dn (loopO body s) R :=
  loopO_ind (fun _ y => Dn y R) Inv μ step h0 hm

theorem dn_getI {α β : Type} {l : List α} {i : Int} {f : α → Option β} {R : β → Prop} (h0 : 0 ≤ i) (h1 : i < l.length) (k : ∀ a, l[i.toNat]? = some a → Dn (f a) R) : Dn (bindO (getI l i) f) R := by
  obtain ⟨n, rfl⟩ := Int.eq_ofNat_of_zero_le h0
  have hn : n < l.length := by omega
  have e := List.getElem?_eq_getElem hn
  rw [getI_nat, e, bindO_some']
  exact k _ e

abbrev CurT := List Int × Int × Int

/-- The cursor stands no further than 1000 n. -/
def Cu (n : Nat) (c : CurT) : Prop := Bytes c.1 ∧ 0 ≤ c.2.1 ∧ c.2.1 ≤ 1000 * (n : Int)

theorem cu_up {n m : Nat} {c : CurT} (h : Cu n c) (hm : n ≤ m) : Cu m c := ⟨h.1, h.2.1, by have := h.2.2; omega⟩

theorem cu_start {code : List Int} (h : Bytes code) : Cu 0 (code, 0, 0) := ⟨h, Int.le_refl _, Int.le_refl _⟩

theorem cu_step {n : Nat} {code : List Int} {pos pos' s s' : Int} (h : Cu n (code, pos, s)) (h1 : pos ≤ pos') (h2 : pos' ≤ pos + 1000) : Cu (n + 1) (code, pos', s') := by
  obtain ⟨a, b, c⟩ := h
  dsimp only at b c
  exact ⟨a, by dsimp only; omega, by dsimp only; omega⟩

theorem dn_pick {n : Nat} {c : CurT} {k : Int} (h : Cu n c) (hn : n ≤ 1000000) (hk : k ≤ 2 ^ 40) : Dn (M_S_l1Cur_pick (c, k)) (fun r => (0 ≤ r.1 ∧ r.1 ≤ 65535 ∧ (k ≤ 1 → r.1 = 0) ∧ (1 < k → r.1 < k)) ∧ Cu (n + 1) r.2) := by
  obtain ⟨code, pos, seed⟩ := c
  have h' := h
  obtain ⟨a, b, d⟩ := h
  dsimp only at a b d
  obtain ⟨v, p, s, e, h1, h2, h3, h4, h5, h6⟩ := pick_ok (seed := seed) (n := k) a b (by omega) hk
  exact ⟨_, e, ⟨h1, h2, h3, h4⟩, cu_step h' h5 (by omega)⟩

theorem dn_one {n : Nat} {c : CurT} {k : Int} (h : Cu n c) (hn : n ≤ 1000000) (hk : k ≤ 2 ^ 40) : Dn (M_S_l1Cur_one (c, k)) (fun r => Cu (n + 1) r.2) := by
  obtain ⟨code, pos, seed⟩ := c
  have h' := h
  obtain ⟨a, b, d⟩ := h
  dsimp only at a b d
  obtain ⟨v, p, s, e, h5, h6⟩ := one_ok (seed := seed) (n := k) a b (by omega) hk
  exact ⟨_, e, cu_step h' h5 (by omega)⟩

theorem dn_among {n : Nat} {c : CurT} {l : List Int} (h : Cu n c) (hn : n ≤ 1000000) (hl : 1 ≤ l.length ∧ l.length ≤ 1000) : Dn (M_S_l1Cur_among (c, l)) (fun r => r.1 ∈ l ∧ Cu (n + 1) r.2) := by
  obtain ⟨code, pos, seed⟩ := c
  have h' := h
  obtain ⟨a, b, d⟩ := h
  dsimp only at a b d
  obtain ⟨v, p, s, e, h1, h5, h6⟩ := among_ok (seed := seed) a b (by omega) hl
  exact ⟨_, e, h1, cu_step h' h5 (by omega)⟩

def DGt (gr : Int × Int × Int) : Prop := DG gr.1 gr.2.1 gr.2.2

theorem dn_anyGroup {n : Nat} {c : CurT} (h : Cu n c) (hn : n ≤ 1000000) : Dn (M_S_l1Cur_anyGroup c) (fun r => DGt r.1 ∧ Cu (n + 1) r.2) := by
  obtain ⟨code, pos, seed⟩ := c
  have h' := h
  obtain ⟨a, b, d⟩ := h
  dsimp only at a b d
  obtain ⟨p, q, g, p', s, e, h1, h5, h6⟩ := anyGroup_ok (seed := seed) a b (by omega)
  exact ⟨_, e, h1, cu_step h' h5 (by omega)⟩

theorem dn_expo {n : Nat} {c : CurT} {gr : Int × Int × Int} (hd : DGt gr) (h : Cu n c) (hn : n ≤ 1000000) : Dn (M_S_l1Cur_expo (c, gr)) (fun r => ((0 ≤ r.1 ∧ r.1 ≤ 2000000010) ∧ (2 ≤ gr.2.1 → r.1 < gr.2.1)) ∧ Cu (n + 1) r.2) := by
  obtain ⟨code, pos, seed⟩ := c
  have h' := h
  obtain ⟨a, b, d⟩ := h
  dsimp only at a b d
  obtain ⟨v, p', s, e, h1, h2, h5, h6⟩ := expo_ok (seed := seed) hd a b (by omega)
  exact ⟨_, e, ⟨h1, h2⟩, cu_step h' h5 (by omega)⟩

theorem dn_element {n : Nat} {c : CurT} {gr : Int × Int × Int} (hd : DGt gr) (h : Cu n c) (hn : n ≤ 1000000) : Dn (M_S_l1Cur_element (c, gr)) (fun r => (0 ≤ r.1 ∧ r.1 ≤ 2000000010) ∧ Cu (n + 1) r.2) := by
  obtain ⟨code, pos, seed⟩ := c
  have h' := h
  obtain ⟨a, b, d⟩ := h
  dsimp only at a b d
  obtain ⟨v, p', s, e, h1, h5, h6⟩ := element_ok (seed := seed) hd a b (by omega)
  exact ⟨_, e, h1, cu_step h' h5 (by omega)⟩

theorem dn_anyExpo {n : Nat} {c : CurT} {gr : Int × Int × Int} (hd : DGt gr) (h : Cu n c) (hn : n ≤ 1000000) : Dn (M_S_l1Cur_anyExpo (c, gr)) (fun r => Cu (n + 1) r.2) := by
  obtain ⟨code, pos, seed⟩ := c
  have h' := h
  obtain ⟨a, b, d⟩ := h
  dsimp only at a b d
  obtain ⟨v, p', s, e, h5, h6⟩ := anyExpo_ok (seed := seed) hd a b (by omega)
  exact ⟨_, e, cu_step h' h5 (by omega)⟩

theorem dn_anyElement {n : Nat} {c : CurT} {gr : Int × Int × Int} (hd : DGt gr) (h : Cu n c) (hn : n ≤ 1000000) : Dn (M_S_l1Cur_anyElement (c, gr)) (fun r => Cu (n + 1) r.2) := by
  obtain ⟨code, pos, seed⟩ := c
  have h' := h
  obtain ⟨a, b, d⟩ := h
  dsimp only at a b d
  obtain ⟨v, p', s, e, h5, h6⟩ := anyElement_ok (seed := seed) hd a b (by omega)
  exact ⟨_, e, cu_step h' h5 (by omega)⟩

theorem linP_small {p q g : Int} {s : ByteArray} {rows : List (List Int)} {ss cs : List Int} (hP : ProOK p q rows ss cs) : (linP p q g s rows ss cs).small 8 := by
  have h1 := hP.n8; have h2 := hP.m8; have h3 := hP.sl; have h4 := hP.cl
  refine ⟨?_, ?_, ?_⟩
  · simp only [linP, linI, List.length_map]; omega
  · simp [linP]
  · simp only [linP]
    rw [resp_len (by rw [h4, h3])]; omega

theorem small_nil (n : Nat) : Pf.small ([], [], []) n := ⟨Nat.zero_le _, Nat.zero_le _, Nat.zero_le _⟩

theorem small_up {a : Pf} {m n : Nat} (h : Pf.small a m) (hm : m ≤ n) : Pf.small a n := ⟨Nat.le_trans h.1 hm, Nat.le_trans h.2.1 hm, Nat.le_trans h.2.2 hm⟩

theorem gpf_one {p q g x e : Int} (h : Gr p q g) : gpf p q [x] [e] = pw p q x e := by
  have h3 := h.p3
  have r := pw_range (q := q) (x := x) (e := e) (show 1 ≤ p by omega)
  simp only [gpf, List.zip_cons_cons, List.zip_nil_right, List.foldl_cons, List.foldl_nil]
  rw [Int.one_mul, Int.emod_eq_of_lt r.1 r.2]

theorem pw_of_one {p q g e : Int} (h : Gr p q g) : pw p q 1 e = 1 := by
  have h3 := h.p3
  unfold pw
  rw [Int.one_pow, Int.emod_eq_of_lt (by omega) (by omega)]

theorem pw_lin {p q g x a b e : Int} (h : Gr p q g) (hx : isEl p q x = true) : pw p q x ((a + e * b) % q) = prodM p 1 [pw p q x a, pw p q (pw p q x b) e] := by
  have hp := h.p3
  have hq := h.q2
  have r1 := pw_range (q := q) (x := x) (e := a) (show 1 ≤ p by omega)
  have hx1 := (isEl_range hx).2.2
  have nn : ∀ y : Int, 0 ≤ y % q := fun y => Int.emod_nonneg _ (by omega)
  rw [mul_out r1]
  unfold pw
  rw [pow_mod, ← Int.pow_mul, ← Int.mul_emod, ← Int.pow_add, pow_red h hx1 ((a + e * b) % q % q).toNat, pow_red h hx1 ((a % q).toNat + (b % q).toNat * (e % q).toNat)]
  have e0 : ((((a + e * b) % q % q).toNat % q.toNat : Nat) : Int) = ((((a % q).toNat + (b % q).toNat * (e % q).toNat) % q.toNat : Nat) : Int) := by
    rw [Int.natCast_emod, Int.natCast_emod, Int.natCast_add, Int.natCast_mul, Int.toNat_of_nonneg (nn _), Int.toNat_of_nonneg (nn a), Int.toNat_of_nonneg (nn b), Int.toNat_of_nonneg (nn e), Int.toNat_of_nonneg (show 0 ≤ q by omega)]
    rw [Int.emod_emod_of_dvd _ (Int.dvd_refl q), Int.emod_emod_of_dvd _ (Int.dvd_refl q), Int.add_emod a (e * b), Int.mul_emod e b, Int.add_emod (a % q) (b % q * (e % q)), Int.emod_emod_of_dvd _ (Int.dvd_refl q), Int.mul_comm (b % q)]
  have e1 : ((a + e * b) % q % q).toNat % q.toNat = ((a % q).toNat + (b % q).toNat * (e % q).toNat) % q.toNat := Int.ofNat.inj e0
  rw [e1]

theorem pw_zero {p q g x : Int} (h : Gr p q g) : pw p q x 0 = 1 := by
  have hp := h.p3
  unfold pw
  rw [Int.zero_emod, show (0 : Int).toNat = 0 from rfl, Int.pow_zero]
  exact Int.emod_eq_of_lt (by decide) (show (1 : Int) < p by omega)

theorem pw_self {p q g x : Int} (h : Gr p q g) (hx : isEl p q x = true) : pw p q x 1 = x := by
  have hp := h.p3
  have hq := h.q2
  have r := isEl_range hx
  unfold pw
  rw [Int.emod_eq_of_lt (show (0 : Int) ≤ 1 by decide) (by omega), show (1 : Int).toNat = 1 from rfl, Int.pow_succ, Int.pow_zero, Int.one_mul, Int.emod_eq_of_lt (by omega) (by omega)]

/-- Only one has a power that is one, to an exponent below q that is not zero. -/
theorem root_one {p q g x z : Int} (h : Gr p q g) (hx : isEl p q x = true) (hz : 1 ≤ z ∧ z ≤ q - 1) (he : pw p q x z = 1) : x = 1 := by
  have hp := h.p3; have hq := h.q2; have hqp := h.qp; have hpm := h.pm
  have hpq : IsP q := by simpa [isP] using h.pq
  obtain ⟨b, -, hb, -, -⟩ := inv_both hpq (by omega) (show 1 ≤ z ∧ z < q by omega)
  have e := pw_lin (a := 0) (b := z) (e := b) h hx
  rw [Int.zero_add, Int.mul_comm, hb, pw_self h hx, pw_zero h, he, pw_of_one h, mul_out (by omega), Int.one_mul, Int.emod_eq_of_lt (by decide) (by omega)] at e
  exact e

theorem lin_right {p q g : Int} {s : ByteArray} {g1 g2 z coin : Int} (h : Gr p q g) (h1 : isEl p q g1 = true) (h2 : isEl p q g2 = true) : linB p q g s [[g1], [g2]] [pw p q g1 z, pw p q g2 z] (linP p q g s [[g1], [g2]] [z] [coin]) = true := by
  have hq := h.q2
  have ei : ∀ x : Int, linI p q [[g1], [g2]] [x] = [pw p q g1 x, pw p q g2 x] := fun x => by simp only [linI, List.map_cons, List.map_nil, gpf_one h]
  have er : ∀ e : Int, resp q e [z] [coin] = [(coin + e * z) % q] := fun e => rfl
  have n1 : ∀ e : Int, 0 ≤ (coin + e * z) % q ∧ (coin + e * z) % q ≤ q - 1 := fun e => by
    have := Int.emod_nonneg (coin + e * z) (show q ≠ 0 by omega)
    have := Int.emod_lt_of_pos (coin + e * z) (show 0 < q by omega)
    omega
  simp only [linB, linP, ei, er]
  have c1 : (([pw p q g1 coin, pw p q g2 coin] : List Int).all (isEl p q)) = true := by simp [isEl_pw h h1, isEl_pw h h2]
  have c2 := decide_eq_true (n1 (linC p q g s [[g1], [g2]] [pw p q g1 z, pw p q g2 z] [pw p q g1 coin, pw p q g2 coin]))
  simp only [c1, List.all_cons, List.all_nil, c2, List.length_cons, List.length_nil, BEq.rfl, Bool.true_and, Bool.and_true, List.getD_cons_zero, List.all_eq_true, List.mem_range]
  intro i hi
  match i, hi with
  | 0, _ => simp only [List.getD_cons_zero, gpf_one h, pw_lin h h1, BEq.rfl]
  | 1, _ => simp only [List.getD_cons_zero, List.getD_cons_succ, gpf_one h, pw_lin h h2, BEq.rfl]

theorem blind_right {p q g : Int} {c : Int × Int} {i z coin : Int} (h : Gr p q g) (hc : isCi p q c = true) (hi : 1 ≤ i ∧ i ≤ 7) (hz : 1 ≤ z ∧ z ≤ q - 1) : blindB p q g c (i, (pw p q c.1 z, pw p q c.2 z), linP p q g lBlind [[c.1], [c.2]] [z] [coin]) = true := by
  have hc' : isEl p q c.1 = true ∧ isEl p q c.2 = true := by simpa [isCi] using hc
  unfold blindB
  dsimp only
  rw [decide_eq_true hi, lin_right h hc'.1 hc'.2]
  have h1 : isCi p q (pw p q c.1 z, pw p q c.2 z) = true := by simp only [isCi, isEl_pw h hc'.1, isEl_pw h hc'.2, Bool.and_self]
  rw [h1]
  have h2 : oneC (pw p q c.1 z, pw p q c.2 z) = true → oneC c = true := by
    simp only [oneC, Bool.and_eq_true, beq_iff_eq]
    exact fun hh => ⟨root_one h hc'.1 hz hh.1, root_one h hc'.2 hz hh.2⟩
  cases h3 : oneC (pw p q c.1 z, pw p q c.2 z)
  · rfl
  · rw [h2 h3]
    rfl

theorem combine_two {p q g : Int} {c : Int × Int} {b : Bl} (hok : okG p q g = true) (hc : isCi p q c = true) (hb : blindB p q g c b = true) : combine p q g c [b, b] = (b.2.1, [b.1], true) := by
  have h := okG_spec hok
  have hp := h.p3
  have hv := blind_value hb
  have hv' : isEl p q b.2.1.1 = true ∧ isEl p q b.2.1.2 = true := by simpa [isCi] using hv
  have r1 := isEl_range hv'.1
  have r2 := isEl_range hv'.2
  have e1 : combS p q g c ([], 1, 1) b = ([b.1], b.2.1) := by
    unfold combS
    rw [hb]
    simp only [List.any_nil, Bool.not_false, Bool.true_and, cond_true, List.nil_append, mulC, mul_one (show 2 ≤ p by omega) (show 0 ≤ b.2.1.1 ∧ b.2.1.1 < p by omega), mul_one (show 2 ≤ p by omega) (show 0 ≤ b.2.1.2 ∧ b.2.1.2 < p by omega)]
  have e2 : combS p q g c ([b.1], b.2.1) b = ([b.1], b.2.1) := by
    unfold combS
    simp
  have e3 : [b, b].foldl (combS p q g c) ([], 1, 1) = ([b.1], b.2.1) := by
    rw [List.foldl_cons, e1, List.foldl_cons, e2, List.foldl_nil]
  unfold combine
  rw [hok, hc, e3]
  rfl

theorem VerifyBlind_yes {p q g : Int} {c : Int × Int} {b : Bl} (hok : okG p q g = true) (hc : isCi p q c = true) (hp : Pf.small b.2.2 1048576) (hb : blindB p q g c b = true) : M_I_VerifyBlind ((p, q, g), c, b) = some (true, true) := by
  have h := okG_spec hok
  unfold M_I_VerifyBlind
  dsimp only
  refine bind_to ((IsValidGroup_eq p q g).trans (congrArg some hok)) ?_
  refine no_to rfl ?_
  refine bind_to ((hasCipher_eq h).trans (congrArg some hc)) ?_
  refine no_to rfl ?_
  exact bind_to ((isBlind_eq hok hc hp).trans (congrArg some hb)) rfl

theorem PowCipher_eq {p q g : Int} {c : Int × Int} {z : Int} (hok : okG p q g = true) (hc : isCi p q c = true) (hz : 0 ≤ z ∧ z ≤ q - 1) : M_I_PowCipher ((p, q, g), c, z) = some ((pw p q c.1 z, pw p q c.2 z), true) := by
  have h := okG_spec hok
  have hc' : isEl p q c.1 = true ∧ isEl p q c.2 = true := by simpa [isCi] using hc
  unfold M_I_PowCipher M_I_Group_powCipher
  dsimp only
  refine bind_to ((IsValidGroup_eq p q g).trans (congrArg some hok)) ?_
  refine no_to rfl ?_
  refine bind_to ((hasCipher_eq h).trans (congrArg some hc)) ?_
  refine no_to rfl ?_
  refine bind_to ((isExp_eq h).trans (congrArg some (decide_eq_true hz))) ?_
  refine no_to rfl ?_
  rw [pow_pw h (isEl_in hc'.1).1 (isEl_in hc'.1).2, bindO_some', pow_pw h (isEl_in hc'.2).1 (isEl_in hc'.2).2, bindO_some', bindO_some']

theorem dn_anyCipher {n : Nat} {c : CurT} {gr : Int × Int × Int} (hd : DGt gr) (h : Cu n c) (hn : n ≤ 900000) : Dn (M_S_l1Cur_anyCipher (c, gr)) (fun r => Cu (n + 2) r.2) := by
  unfold M_S_l1Cur_anyCipher
  refine dn_bind (dn_anyElement hd h (by omega)) fun a ha => ?_
  exact dn_bind (dn_anyElement hd ha (by omega)) fun b hb => dn_some hb

theorem bent_tail {u0 u1 u2 : List Int} {c : CurT} {k m : Nat} {x : Pf} (l0 : u0.length ≤ m) (l1 : u1.length ≤ m) (l2 : u2.length ≤ m) (hm : m ≤ 1000) (hc : Cu k c) (hk : k ≤ 1000000) :
    Dn (bindO (M_S_l1Cur_pick (c, (10 : Int))) fun a13 => cond (a13.1 == (0 : Int)) (bindO (guardO (lenOk (u0.length + ((1 : Int) :: ([] : List Int)).length))) fun _ => bindO (some (u0 ++ ((1 : Int) :: ([] : List Int)))) fun a15 => some ((a15, (u1, u2)), (a13.2, x)))
      (cond (a13.1 == (1 : Int)) (some ((u0, (u1, ([] : List Int))), (a13.2, x))) (cond (a13.1 == (2 : Int)) (bindO (guardO (lenOk (u1.length + ((0 : Int) :: ([] : List Int)).length))) fun _ => bindO (some (u1 ++ ((0 : Int) :: ([] : List Int)))) fun a17 => some ((u0, (a17, u2)), (a13.2, x)))
        (some ((u0, (u1, u2)), (a13.2, x)))))) (fun r => Pf.small r.1 (m + 1) ∧ Cu (k + 1) r.2.1) := by
  have l0' : u0.length ≤ m + 1 := by omega
  have l1' : u1.length ≤ m + 1 := by omega
  have l2' : u2.length ≤ m + 1 := by omega
  refine dn_bind (dn_pick hc (by omega) (by decide)) fun a ha => ?_
  refine dn_cond (fun _ => ?_) fun _ => dn_cond (fun _ => ?_) fun _ => dn_cond (fun _ => ?_) fun _ => ?_
  · refine dn_len (by simp only [List.length_cons, List.length_nil]; omega) (dn_is rfl (dn_some ⟨⟨?_, l1', l2'⟩, ha.2⟩))
    simp only [List.length_append, List.length_cons, List.length_nil]; omega
  · exact dn_some ⟨⟨l0', l1', Nat.zero_le _⟩, ha.2⟩
  · refine dn_len (by simp only [List.length_cons, List.length_nil]; omega) (dn_is rfl (dn_some ⟨⟨l0', ?_, l2'⟩, ha.2⟩))
    simp only [List.length_append, List.length_cons, List.length_nil]; omega
  · exact dn_some ⟨⟨l0', l1', l2'⟩, ha.2⟩

theorem dn_bent {n : Nat} {c : CurT} {gr : Int × Int × Int} {a : Pf} {m : Nat} (hd : DGt gr) (h : Cu n c) (hn : n ≤ 900000) (ha : Pf.small a m) (hm : m ≤ 1000) : Dn (M_S_l1Cur_bent (c, gr, a)) (fun r => Pf.small r.1 (m + 1) ∧ Cu (n + 10) r.2.1) := by
  obtain ⟨a0, a1, a2⟩ := a
  obtain ⟨b0, b1, b2⟩ := ha
  dsimp only at b0 b1 b2
  unfold M_S_l1Cur_bent
  dsimp only
  refine dn_is (own_eq (by omega)) (dn_is (own_eq (by omega)) (dn_is (own_eq (by omega)) ?_))
  refine dn_bind (dn_one h (by omega) (by decide)) fun o ho => ?_
  refine dn_cond (fun _ => dn_some ⟨⟨by dsimp only; omega, by dsimp only; omega, by dsimp only; omega⟩, cu_up ho (by omega)⟩) fun _ => ?_
  refine dn_bind (dn_pick ho (by omega) (by decide)) fun k hk => ?_
  obtain ⟨⟨k1, -, -, k2⟩, k3⟩ := hk
  have k2' := k2 (by decide)
  refine dn_cond (fun _ => ?_) fun h0 => dn_cond (fun _ => ?_) fun h1 => dn_cond (fun _ => ?_) fun h2 => ?_
  · refine dn_cond (fun hp => ?_) fun _ => dn_weak (bent_tail b0 b1 b2 hm k3 (by omega)) fun r hr => ⟨hr.1, cu_up hr.2 (by omega)⟩
    have hp' := of_decide_eq_true hp
    refine dn_bind (dn_pick k3 (by omega) (by omega)) fun i hi => ?_
    obtain ⟨⟨i1, -, i2, i3⟩, i4⟩ := hi
    refine dn_bind (dn_expo hd i4 (by omega)) fun e he => ?_
    refine dn_bind (dn_element hd he.2 (by omega)) fun g hg => ?_
    refine dn_getI i1 (by omega) fun _ _ => dn_is rfl ?_
    refine dn_bind (dn_among hg.2 (by omega) ⟨by simp, by simp⟩) fun v hv => ?_
    refine dn_getI i1 (by omega) fun _ _ => dn_is rfl ?_
    exact dn_weak (bent_tail (by rw [List.length_set]; exact b0) b1 b2 hm hv.2 (by omega)) fun r hr => ⟨hr.1, cu_up hr.2 (by omega)⟩
  · refine dn_cond (fun hp => ?_) fun _ => dn_weak (bent_tail b0 b1 b2 hm k3 (by omega)) fun r hr => ⟨hr.1, cu_up hr.2 (by omega)⟩
    have hp' := of_decide_eq_true hp
    refine dn_bind (dn_pick k3 (by omega) (by omega)) fun i hi => ?_
    obtain ⟨⟨i1, -, i2, i3⟩, i4⟩ := hi
    refine dn_bind (dn_expo hd i4 (by omega)) fun e he => ?_
    refine dn_bind (dn_element hd he.2 (by omega)) fun g hg => ?_
    refine dn_getI i1 (by omega) fun _ _ => dn_is rfl ?_
    refine dn_bind (dn_among hg.2 (by omega) ⟨by simp, by simp⟩) fun v hv => ?_
    refine dn_getI i1 (by omega) fun _ _ => dn_is rfl ?_
    exact dn_weak (bent_tail b0 (by rw [List.length_set]; exact b1) b2 hm hv.2 (by omega)) fun r hr => ⟨hr.1, cu_up hr.2 (by omega)⟩
  · refine dn_cond (fun hp => ?_) fun _ => dn_weak (bent_tail b0 b1 b2 hm k3 (by omega)) fun r hr => ⟨hr.1, cu_up hr.2 (by omega)⟩
    have hp' := of_decide_eq_true hp
    refine dn_bind (dn_pick k3 (by omega) (by omega)) fun i hi => ?_
    obtain ⟨⟨i1, -, i2, i3⟩, i4⟩ := hi
    refine dn_bind (dn_expo hd i4 (by omega)) fun e he => ?_
    refine dn_bind (dn_element hd he.2 (by omega)) fun g hg => ?_
    refine dn_getI i1 (by omega) fun _ _ => dn_is rfl ?_
    refine dn_bind (dn_among hg.2 (by omega) ⟨by simp, by simp⟩) fun v hv => ?_
    refine dn_getI i1 (by omega) fun _ _ => dn_is rfl ?_
    exact dn_weak (bent_tail b0 b1 (by rw [List.length_set]; exact b2) hm hv.2 (by omega)) fun r hr => ⟨hr.1, cu_up hr.2 (by omega)⟩
  · exfalso
    simp only [beq_eq_false_iff_ne, ne_eq] at h0 h1 h2
    omega

def BlI (B : Nat) (s : List Bl × Int × CurT) : Prop := 1 ≤ s.2.1 ∧ s.2.1 ≤ 6 ∧ (s.1.length : Int) + 1 = s.2.1 ∧ (∀ b ∈ s.1, Pf.small b.2.2 20) ∧ Cu (B + 30 * s.2.1.toNat) s.2.2

theorem blI_push {β : Type} {R : β → Prop} {B k : Nat} {l : List Bl} {i : Int} {c c' : CurT} {b : Bl} {again : List Bl × Int × CurT → Option β} (h : BlI B (l, i, c)) (hi : i ≤ 5) (hb : Pf.small b.2.2 20) (hc : Cu k c') (hk : k ≤ B + 30 * i.toNat + 30)
    (ih : ∀ s', BlI B s' → 6 - s'.2.1.toNat < 6 - i.toNat → Dn (again s') R) :
    Dn (bindO (guardO (lenOk (l.length + (b :: ([] : List Bl)).length))) fun _ => bindO (some (l ++ (b :: ([] : List Bl)))) fun l' => bindO (some (IntKind.wrap .i64 (i + (1 : Int)))) fun i' => again (l', i', c')) R := by
  obtain ⟨h1, h2, h3, h4, h5⟩ := h
  dsimp only at h1 h2 h3 h4 h5
  refine dn_len (by simp only [List.length_cons, List.length_nil]; omega) (dn_is rfl (dn_wrap (by omega) (ih _ ⟨?_, ?_, ?_, ?_, ?_⟩ ?_)))
  · dsimp only; omega
  · dsimp only; omega
  · simp only [List.length_append, List.length_cons, List.length_nil]; omega
  · intro r hr
    rcases List.mem_append.1 hr with hr | hr
    · exact h4 r hr
    · simp only [List.mem_cons, List.not_mem_nil, or_false] at hr
      rw [hr]; exact hb
  · exact cu_up hc (by dsimp only; omega)
  · dsimp only; omega

theorem dn_blinds {n : Nat} {c : CurT} {gr : Int × Int × Int} {x : Int × Int} {m : Int} (hd : DGt gr) (hc : Cu n c) (hn : n ≤ 1000) (hm : m ≤ 5) : Dn (M_S_l1Cur_blinds (c, gr, x, m)) (fun r => (r.1.length ≤ 10 ∧ ∀ b ∈ r.1, Pf.small b.2.2 20) ∧ Cu (n + 300) r.2) := by
  obtain ⟨p, q, g⟩ := gr
  unfold M_S_l1Cur_blinds
  dsimp only
  refine dn_is (l2Good_eq p q g) ?_
  refine dn_cond (fun _ => dn_some ⟨⟨Nat.zero_le _, fun b hb => absurd hb (List.not_mem_nil)⟩, cu_up hc (by omega)⟩) fun hok => ?_
  have hok' : okG p q g = true := by simpa using hok
  have h := okG_spec hok'
  have h1 : 3 ≤ p := h.p3
  have h2 : p ≤ 2000000000 := h.pm
  have h3 : 2 ≤ q := h.q2
  have h4 : q ≤ p - 1 := h.qp
  refine dn_is (eGood1_eq h) ?_
  refine dn_cond (fun _ => dn_some ⟨⟨Nat.zero_le _, fun b hb => absurd hb (List.not_mem_nil)⟩, cu_up hc (by omega)⟩) fun hci => ?_
  have hci' : isCi p q x = true := by simpa using hci
  have hce : isEl p q x.1 = true ∧ isEl p q x.2 = true := by simpa [isCi] using hci'
  refine dn_loop (BlI n) (fun s => 6 - s.2.1.toNat) (fun again s hs ih => ?_) ⟨show (1 : Int) ≤ 1 by decide, show (1 : Int) ≤ 6 by decide, rfl, fun b hb => absurd hb (List.not_mem_nil), cu_up hc (by omega)⟩ (by dsimp only; omega)
  obtain ⟨l, i, cc⟩ := s
  have hs' := hs
  obtain ⟨g1, g2, g3, g4, g5⟩ := hs
  dsimp only at g1 g2 g3 g4 g5 ih ⊢
  refine dn_cond (fun hle => ?_) fun _ => dn_some ⟨⟨by dsimp only; omega, g4⟩, cu_up g5 (by omega)⟩
  have hi5 : i ≤ 5 := by
    have := of_decide_eq_true hle
    omega
  generalize hX : n + 30 * i.toNat = X at g5
  refine dn_wrap (by omega) ?_
  refine dn_bind (dn_pick g5 (by omega) (by omega)) fun k hk => ?_
  obtain ⟨⟨k1, -, k4, k2⟩, k3⟩ := hk
  refine dn_is (guardO_of rfl) (dn_is rfl ?_)
  rw [tmod_nn k1]
  have hk6 : 0 ≤ k.1 % 60000 ∧ k.1 % 60000 ≤ k.1 ∧ k.1 % 60000 < 60000 := by omega
  refine dn_wrap (by omega) ?_
  refine dn_bind (dn_expo hd k3 (by omega)) fun e he => ?_
  obtain ⟨⟨e1, e2⟩, e3⟩ := he
  have e2' := e2 h3
  dsimp only at e2'
  have hz : 0 ≤ k.1 % 60000 + 1 ∧ k.1 % 60000 + 1 ≤ q - 1 := by
    rcases Int.lt_or_le 1 (q - 1) with hq | hq
    · have := k2 hq
      omega
    · have := k4 hq
      omega
  have hcoin : 0 ≤ e.1 ∧ e.1 ≤ q - 1 := by omega
  refine dn_is (qBlind_eq h hci' hz hcoin) ?_
  have hb := small_up (linP_small (s := lBlind) (g := g) (eqPro_ok hce.1 hce.2 hz hcoin)) (show 8 ≤ 20 by decide)
  have hb8 := linP_small (s := lBlind) (g := g) (eqPro_ok hce.1 hce.2 hz hcoin)
  generalize linP p q g lBlind [[x.1], [x.2]] [k.1 % 60000 + 1] [e.1] = pf at hb hb8
  refine dn_bind (dn_pick e3 (by omega) (by decide)) fun j hj => ?_
  refine dn_cond (fun _ => ?_) fun _ => dn_cond (fun _ => ?_) fun _ => dn_cond (fun _ => ?_) fun _ => dn_cond (fun _ => ?_) fun _ => ?_
  · exact dn_bind (dn_anyElement hd hj.2 (by omega)) fun v hv => blI_push hs' hi5 hb hv (by omega) ih
  · exact dn_bind (dn_among hj.2 (by omega) ⟨by simp, by simp⟩) fun v hv => blI_push hs' hi5 hb hv.2 (by omega) ih
  · exact dn_bind (dn_bent hd hj.2 (by omega) hb8 (by decide)) fun v hv => blI_push hs' hi5 (small_up hv.1 (by decide)) hv.2 (by omega) ih
  · exact blI_push hs' hi5 hb hj.2 (by omega) ih
  · exact blI_push hs' hi5 hb hj.2 (by omega) ih

theorem DrawCombineBlinds_ok {code : List Int} (hb : Bytes code) : Dn (M_S_DrawCombineBlinds code) (fun r => r.2.2.length ≤ 30 ∧ ∀ b ∈ r.2.2, Pf.small b.2.2 1048576) := by
  unfold M_S_DrawCombineBlinds
  refine dn_bind (dn_anyGroup (cu_start hb) (by decide)) fun gr hgr => ?_
  refine dn_bind (dn_anyCipher hgr.1 hgr.2 (by decide)) fun x hx => ?_
  refine dn_bind (dn_pick hx (by decide) (by decide)) fun k hk => ?_
  obtain ⟨⟨k1, -, -, k2⟩, k3⟩ := hk
  have k2' := k2 (by decide)
  refine dn_bind (dn_blinds hgr.1 k3 (by decide) (by omega)) fun l hl => ?_
  obtain ⟨⟨l1, l2⟩, l3⟩ := hl
  refine dn_bind (dn_one l3 (by decide) (by decide)) fun b hb => ?_
  refine dn_cond (fun _ => ?_) fun _ => dn_some ⟨by dsimp only; omega, fun r hr => small_up (l2 r hr) (by decide)⟩
  refine dn_loop (fun s => s.1.length ≤ 16 ∧ (∀ r ∈ s.1, Pf.small r.2.2 1048576) ∧ Cu (400 + s.1.length) s.2) (fun s => 20 - s.1.length) (fun again s hs ih => ?_) ⟨by dsimp only; omega, fun r hr => small_up (l2 r hr) (by decide), cu_up hb (by omega)⟩ (by dsimp only; omega)
  obtain ⟨s1, s2, s3⟩ := hs
  refine dn_bind (dn_pick s3 (by omega) (by decide)) fun j hj => ?_
  obtain ⟨⟨j1, -, -, j2⟩, j3⟩ := hj
  have j2' := j2 (by decide)
  refine dn_wrap (by omega) (dn_cond (fun hlt => ?_) fun _ => dn_some ⟨by dsimp only; omega, s2⟩)
  have hlt' := of_decide_eq_true hlt
  refine dn_len (by simp only [List.length_cons, List.length_nil]; omega) (dn_is rfl (ih _ ⟨?_, ?_, ?_⟩ ?_))
  · simp only [List.length_append, List.length_cons, List.length_nil]; omega
  · intro r hr
    rcases List.mem_append.1 hr with hr | hr
    · exact s2 r hr
    · simp only [List.mem_cons, List.not_mem_nil, or_false] at hr
      rw [hr]; exact small_nil _
  · exact cu_up j3 (by simp only [List.length_append, List.length_cons, List.length_nil]; omega)
  · simp only [List.length_append, List.length_cons, List.length_nil]; omega

theorem DrawBlindBy_ok {code : List Int} (hb : Bytes code) : Dn (M_S_DrawBlindBy code) (fun _ => True) := by
  unfold M_S_DrawBlindBy
  refine dn_bind (dn_anyGroup (cu_start hb) (by decide)) fun gr hgr => ?_
  refine dn_bind (dn_anyCipher hgr.1 hgr.2 (by decide)) fun x hx => ?_
  refine dn_bind (dn_pick hx (by decide) (by decide)) fun k hk => dn_is rfl ?_
  refine dn_bind (dn_pick hk.2 (by decide) (by decide)) fun j hj => dn_is (guardO_of rfl) (dn_is rfl (dn_is rfl ?_))
  refine dn_bind (dn_anyExpo hgr.1 hj.2 (by decide)) fun e he => ?_
  exact dn_bind (dn_anyExpo hgr.1 he (by decide)) fun f hf => dn_some trivial

theorem qProof_same {a : Pf} (h : Pf.small a 1048576) : M_L_qProof ((a.1, a.2.1, a.2.2), a.1, a.2.1, a.2.2) = some true := by
  obtain ⟨h1, h2, h3⟩ := h
  unfold M_L_qProof
  dsimp only
  rw [qInts_eq (by omega), bindO_some', cond_true, qInts_eq (by omega), bindO_some', cond_true, qInts_eq (by omega), bindO_some']

theorem same_c (c : Int × Int) : (!((((c.1, c.2) : Int × Int).1 == ((c.1, c.2) : Int × Int).1) && (((c.1, c.2) : Int × Int).2 == ((c.1, c.2) : Int × Int).2))) = false := by simp

theorem law_FnBlinds (x : List Int × List Int) (h : WFI [.data (.sl (.int .u8)), .data (.sl (.int .u8))] x) : M_L_FnBlinds x = some true := by
  obtain ⟨code, more⟩ := x
  have hb1 : Bytes code := wf_u8 h.1
  have hb2 : Bytes more := wf_u8 h.2
  obtain ⟨⟨⟨p, q, g⟩, c, l⟩, e1, hl, hr⟩ := DrawCombineBlinds_ok hb1
  obtain ⟨⟨⟨p', q', g'⟩, d, i, z, coin⟩, e2, -⟩ := DrawBlindBy_ok hb2
  dsimp only at hl hr
  have hS := S_CombineBlinds_eq (p := p) (q := q) (g := g) (c := c) (l := l) hr
  have hI := I_CombineBlinds_eq (p := p) (q := q) (g := g) (c := c) (l := l) hr
  have hsm := combine_small p q g c l (by omega)
  generalize combine p q g c l = o at hS hI hsm
  have hS2 := S_BlindBy_eq p' q' g' d i z coin
  have hI2 := I_BlindBy_eq p' q' g' d i z coin
  have hsb := small_up (blindBy_small p' q' g' d i z coin) (show 2 ≤ 1048576 by decide)
  unfold M_L_FnBlinds
  dsimp only
  rw [bindO_some']
  cases hg : decide (IntKind.wrap .i64 ((code.length : Int) + (more.length : Int)) > 1048576)
  rotate_left
  · rfl
  refine no_to rfl ?_
  refine bind_to e1 ?_
  refine bind_to hI ?_
  refine bind_to hS ?_
  refine bind_to e2 ?_
  refine bind_to hI2 ?_
  refine bind_to hS2 ?_
  refine no_to (by rw [BEq.rfl]; rfl) ?_
  refine no_to (same_c o.1) ?_
  refine bind_to (qInts_eq (by omega)) ?_
  refine no_to rfl ?_
  refine no_to (by rw [BEq.rfl]; rfl) ?_
  refine no_to (bne_self_eq_false _) ?_
  refine no_to (same_c _) ?_
  refine bind_to (qProof_same hsb) ?_
  refine no_to rfl ?_
  cases hone : (blindBy p' q' g' d i z coin).2
  · exact yes_to rfl rfl
  refine no_to rfl ?_
  unfold blindBy at hone ⊢
  cases hc : okG p' q' g' && (isCi p' q' d && (decide (1 ≤ i ∧ i ≤ 7) && (decide (0 ≤ z ∧ z ≤ q' - 1) && (decide (0 ≤ coin ∧ coin ≤ q' - 1) && !(z == 0)))))
  · rw [hc] at hone
    cases hone
  rw [cond_true]
  dsimp only
  simp only [Bool.and_eq_true, decide_eq_true_eq, Bool.not_eq_true', beq_eq_false_iff_ne, ne_eq] at hc
  obtain ⟨hok, hci, hi, hz, hcn, hz0⟩ := hc
  have hG := okG_spec hok
  have hce : isEl p' q' d.1 = true ∧ isEl p' q' d.2 = true := by simpa [isCi] using hci
  have hbr := blind_right (coin := coin) hG hci hi (show 1 ≤ z ∧ z ≤ q' - 1 by omega)
  have hsm2 := small_up (linP_small (s := lBlind) (g := g') (eqPro_ok hce.1 hce.2 hz hcn)) (show 8 ≤ 1048576 by decide)
  have hcomb := combine_two hok hci hbr
  generalize linP p' q' g' lBlind [[d.1], [d.2]] [z] [coin] = pf at hbr hsm2 hcomb
  refine bind_to (VerifyBlind_yes (b := (i, (pw p' q' d.1 z, pw p' q' d.2 z), pf)) hok hci hsm2 hbr) ?_
  refine bind_to ((I_CombineBlinds_eq (c := d) (l := [(i, (pw p' q' d.1 z, pw p' q' d.2 z), pf), (i, (pw p' q' d.1 z, pw p' q' d.2 z), pf)]) (fun r hr => ?_)).trans (congrArg some hcomb)) ?_
  · simp only [List.mem_cons, List.not_mem_nil, or_false, or_self] at hr
    rw [hr]
    exact hsm2
  refine bind_to (PowCipher_eq hok hci hz) ?_
  refine yes_to rfl (yes_to rfl (yes_to rfl (yes_to rfl (yes_to ?_ (yes_to ?_ ?_)))))
  · simp
  · simp
  exact bind_to (qInts_eq (a := [i]) (by simp)) rfl

end Go.Proofs.YtoaabialmenfiaaGreat.Vd
