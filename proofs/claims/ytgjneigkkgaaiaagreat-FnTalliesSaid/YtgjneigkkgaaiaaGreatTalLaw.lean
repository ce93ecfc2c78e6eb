/- The law FnTallies as plain functions on data returns true for all arguments. No conditions. -/
import Derived.Test.YtgjneigkkgaaiaaGreatTalMod
set_option linter.unusedVariables false
set_option linter.unusedSimpArgs false
set_option linter.unusedSectionVars false
set_option linter.unnecessarySimpa false
namespace Go.Proofs.YtgjneigkkgaaiaaGreat.Vd
open Go.IntWalk

theorem i64_succ {i : Nat} (h : i < 2 ^ 62) : IntKind.wrap .i64 ((i : Int) + 1) = ((i + 1 : Nat) : Int) := by
  rw [i64_in _ (by omega)]
  rfl

theorem lt_yes {i n : Nat} (h : i < n) : decide ((i : Int) < (n : Int)) = true := by simp [h]

theorem lt_no (n : Nat) : decide ((n : Int) < (n : Int)) = false := by simp

/-- A walk over a list by its numbers, with no other state. -/
def walk {α β : Type} (step : Nat → α → Option β → Option β) (fin : Option β) : Nat → List α → Option β
  | _, [] => fin
  | i, a :: r => step i a (walk step fin (i + 1) r)

theorem loop_walk {α β : Type} {body : (Int → Option β) → Int → Option β} (l : List α) (step : Nat → α → Option β → Option β) (fin : Option β)
    (h : ∀ (again : Int → Option β) (i : Nat) a, l[i]? = some a → i < l.length → body again (i : Int) = step i a (again ((i + 1 : Nat) : Int)))
    (hend : ∀ again : Int → Option β, body again (l.length : Int) = fin) (hl : l.length < 2 ^ 64) : loopO body 0 = walk step fin 0 l := by
  refine (loopO_for (σ := Unit) (fun i _ => (i : Int)) l.length (fun i _ => walk step fin i (l.drop i)) (fun _ _ => True) (fun again _ _ => ?_) (fun again i _ hi _ ih => ?_) hl (i := 0) (s := ()) (Nat.zero_le _) trivial).trans rfl
  · simp [hend, walk]
  · rw [h again i l[i] (List.getElem?_eq_getElem hi) hi, ih () trivial, List.drop_eq_getElem_cons hi, walk]

/-- A walk over a list by its numbers, with a state (before the number). -/
def walkS {α β σ : Type} (step : Nat → α → σ → (σ → Option β) → Option β) (fin : σ → Option β) : Nat → List α → σ → Option β
  | _, [], s => fin s
  | i, a :: r, s => step i a s (walkS step fin (i + 1) r)

theorem loop_walkS {α β σ τ : Type} {body : (τ → Option β) → τ → Option β} (enc : Int → σ → τ) (l : List α) (step : Nat → α → σ → (σ → Option β) → Option β) (fin : σ → Option β)
    (h : ∀ (again : τ → Option β) (i : Nat) a s, l[i]? = some a → i < l.length → body again (enc i s) = step i a s fun s' => again (enc ((i + 1 : Nat) : Int) s'))
    (hend : ∀ (again : τ → Option β) s, body again (enc l.length s) = fin s) (hl : l.length < 2 ^ 64) (s : σ) : loopO body (enc 0 s) = walkS step fin 0 l s := by
  refine (loopO_for (σ := σ) (fun i s => enc (i : Int) s) l.length (fun i s => walkS step fin i (l.drop i) s) (fun _ _ => True) (fun again _ _ => ?_) (fun again i s hi _ ih => ?_) hl (i := 0) (s := s) (Nat.zero_le _) trivial).trans rfl
  · simp [hend, walkS]
  · rw [h again i l[i] s (List.getElem?_eq_getElem hi) hi, List.drop_eq_getElem_cons hi, walkS]
    congr 1
    funext s'
    exact ih s' trivial

/-- The same, where the states keep something. -/
theorem loop_walkI {α β σ τ : Type} {body : (τ → Option β) → τ → Option β} (enc : Int → σ → τ) (l : List α) (step : Nat → α → σ → (σ → Option β) → Option β) (fin : σ → Option β) (Inv : Nat → σ → Prop)
    (hc : ∀ (i : Nat) a s (k k' : σ → Option β), l[i]? = some a → Inv i s → (∀ s', Inv (i + 1) s' → k s' = k' s') → step i a s k = step i a s k')
    (h : ∀ (again : τ → Option β) (i : Nat) a s, l[i]? = some a → i < l.length → Inv i s → body again (enc i s) = step i a s fun s' => again (enc ((i + 1 : Nat) : Int) s'))
    (hend : ∀ (again : τ → Option β) s, Inv l.length s → body again (enc l.length s) = fin s) (hl : l.length < 2 ^ 64) (s : σ) (h0 : Inv 0 s) : loopO body (enc 0 s) = walkS step fin 0 l s := by
  refine (loopO_for (σ := σ) (fun i s => enc (i : Int) s) l.length (fun i s => walkS step fin i (l.drop i) s) Inv (fun again s hs => ?_) (fun again i s hi hs ih => ?_) hl (i := 0) (s := s) (Nat.zero_le _) h0).trans rfl
  · simp [hend _ _ hs, walkS]
  · rw [h again i l[i] s (List.getElem?_eq_getElem hi) hi hs, List.drop_eq_getElem_cons hi, walkS]
    exact hc i l[i] s _ _ (List.getElem?_eq_getElem hi) hs fun s' hs' => ih s' hs'

theorem walk_any {α : Type} (p : α → Bool) : ∀ (l : List α) (i : Nat), walk (fun _ a k => if p a = true then some true else k) (some false) i l = some (l.any p)
  | [], _ => rfl
  | a :: l, i => by
    rw [walk, walk_any p l]
    cases h : p a <;> simp [h]

theorem walk_all {α : Type} (p : α → Bool) : ∀ (l : List α) (i : Nat), walk (fun _ a k => if p a = true then k else some false) (some true) i l = some (l.all p)
  | [], _ => rfl
  | a :: l, i => by
    rw [walk, walk_all p l]
    cases h : p a <;> simp [h]

theorem walk_index {α : Type} (p : α → Bool) : ∀ (l : List α) (i : Nat), ∃ j : Int, walk (fun i a k => if p a = true then some (i : Int) else k) (some (-1)) i l = some j ∧ decide (j ≥ 0) = l.any p
  | [], _ => ⟨-1, rfl, rfl⟩
  | a :: l, i => by
    obtain ⟨j, h1, h2⟩ := walk_index p l (i + 1)
    cases h : p a
    · exact ⟨j, by simp [walk, h, h1], by simp [h, h2]⟩
    · exact ⟨i, by simp [walk, h], by simp [h]⟩

def marks (n : Nat) (k : Int) : List Int := (List.range n).map fun (i : Nat) => k + (i : Int)

theorem has_eq {l : List Int} {n : Int} (hl : l.length < 2 ^ 62) : M_S_l1Has (l, n) = some (l.any (· == n)) := by
  unfold M_S_l1Has
  refine (loop_walk l (fun _ a k => if (a == n) = true then some true else k) (some false) (fun again i a ha hi => ?_) (fun again => ?_) (by omega)).trans (walk_any _ l 0)
  · simp only [getI_nat, ha, bindO_some', i64_succ (show i < 2 ^ 62 by omega)]
    cases h : a == n <;> simp [h, hi]
  · simp

theorem index_eq {l : List Int} {n : Int} (hl : l.length < 2 ^ 62) : ∃ j : Int, M_slices_Index_sint_int (l, n) = some j ∧ decide (j ≥ 0) = l.any (· == n) := by
  obtain ⟨j, h1, h2⟩ := walk_index (fun a : Int => a == n) l 0
  refine ⟨j, ?_, h2⟩
  unfold M_slices_Index_sint_int
  refine (loop_walk l (fun i a k => if (a == n) = true then some (i : Int) else k) (some (-1)) (fun again i a ha hi => ?_) (fun again => ?_) (by omega)).trans h1
  · simp only [getI_nat, ha, bindO_some', i64_succ (show i < 2 ^ 62 by omega), lt_yes hi, cond_true]
    rw [show (n == a) = (a == n) from BEq.comm]
    cases h : a == n <;> simp [h]
  · simp

theorem lenOk_of {n : Nat} (h : n ≤ 68719476736) : lenOk n = true := by simp [lenOk, lim_eq, h]

theorem sliceLN_nat {l n : Nat} (h : l ≤ n) : sliceLN (l : Int) n = some (l, n) := by
  unfold sliceLN
  rw [if_pos ⟨by omega, by omega⟩]
  simp

theorem sliceNH_nat {h n : Nat} (hh : h ≤ n) : sliceNH (h : Int) n = some (0, h) := by
  unfold sliceNH
  rw [if_pos ⟨by omega, by omega⟩]
  simp

theorem contains_eq {l : List Int} {n : Int} (hl : l.length < 2 ^ 62) : M_slices_Contains_sint_int (l, n) = some (l.any (· == n)) := by
  obtain ⟨j, h1, h2⟩ := index_eq (n := n) hl
  unfold M_slices_Contains_sint_int
  dsimp only
  rw [h1, bindO_some', h2]

/-- A loop whose states go down: a property of its answer. -/
theorem loopO_ind {σ β : Type} {body : (σ → Option β) → σ → Option β} (Q : σ → Option β → Prop) (Inv : σ → Prop) (μ : σ → Nat)
    (step : ∀ (again : σ → Option β) s, Inv s → (∀ s', Inv s' → μ s' < μ s → Q s' (again s')) → Q s (body again s)) {s : σ} (h0 : Inv s) (hm : μ s < 2 ^ 64) : Q s (loopO body s) := by
  rw [loopO_eq]
  have H : ∀ (n : Nat) (s : σ), Inv s → μ s < n → Q s (iter body n s) := by
    intro n
    induction n with
    | zero => intro s _ h; exact absurd h (Nat.not_lt_zero _)
    | succ n ih => intro s hs h; exact step _ s hs fun s' hs' h' => ih s' hs' (by omega)
  exact H many s h0 hm

theorem in_eq (x a b : Int) : M_S_l1In (x, a, b) = some (decide (a ≤ x ∧ x ≤ b)) := by
  by_cases h : a ≤ x <;> by_cases h2 : x ≤ b <;> simp [M_S_l1In, h, h2]

theorem within_eq (x a b : Int) : M_I_within (x, a, b) = some (decide (a ≤ x ∧ x ≤ b)) := by
  by_cases h : a ≤ x <;> by_cases h2 : x ≤ b <;> simp [M_I_within, h, h2]

theorem isModulus_eq (x : Int) : M_I_isModulus x = some (decide (2 ≤ x ∧ x ≤ 2000000000)) := by
  unfold M_I_isModulus
  rw [within_eq]
  rfl

def IsP (n : Int) : Prop := 2 ≤ n ∧ ∀ d, 2 ≤ d → d * d ≤ n → n % d ≠ 0

noncomputable def isP (n : Int) : Bool := @decide (IsP n) (Classical.propDecidable _)

/-- No divisor from d on. -/
def NoDiv (n s : Int) : Prop := ∀ d, s ≤ d → d * d ≤ n → n % d ≠ 0

noncomputable def noDiv (n s : Int) : Bool := @decide (NoDiv n s) (Classical.propDecidable _)

theorem noDiv_end {n s : Int} (hs : 0 ≤ s) (h : n < s * s) : noDiv n s = true := by
  simp only [noDiv, decide_eq_true_eq]
  intro d hd hdd
  have := Int.mul_le_mul hd hd hs (by omega)
  omega

theorem noDiv_hit {n s : Int} (h : s * s ≤ n) (h2 : n % s = 0) : noDiv n s = false := by
  simp only [noDiv, decide_eq_false_iff_not]
  intro hn
  exact hn s (Int.le_refl _) h h2

theorem noDiv_step {n s : Int} (h2 : s * s ≤ n → n % s ≠ 0) : noDiv n s = noDiv n (s + 1) := by
  simp only [noDiv, decide_eq_decide]
  constructor
  · intro h d hd hdd
    exact h d (by omega) hdd
  · intro h d hd hdd
    by_cases he : d = s
    · subst he
      exact h2 hdd
    · exact h d (by omega) hdd

theorem sq_lt {s : Int} (h0 : 0 ≤ s) (h : s * s ≤ 2000000000) : s ≤ 44721 := by
  refine Int.not_lt.1 fun hlt => ?_
  have := Int.mul_le_mul (show (44722 : Int) ≤ s by omega) (show (44722 : Int) ≤ s by omega) (by omega) h0
  omega

theorem sq_le {s k : Int} (h0 : 0 ≤ s) (h : s ≤ k) : s * s ≤ k * k := Int.mul_le_mul h h h0 (by omega)

theorem nPrime_eq {n : Int} (hn : n ≤ 2000000000) : M_S_nPrime n = some (isP n) := by
  unfold M_S_nPrime
  by_cases h2 : n < 2
  · have : isP n = false := by simp only [isP, decide_eq_false_iff_not]; intro h; have := h.1; omega
    simp [h2, this]
  · have hb : decide (n < 2) = false := by simpa using h2
    rw [hb, cond_false]
    have h1 : isP n = noDiv n 2 := by
      simp only [isP, noDiv, decide_eq_decide]
      exact ⟨fun h => h.2, fun h => ⟨by omega, h⟩⟩
    rw [h1]
    refine loopO_spec (fun s => some (noDiv n s)) (fun s => 2 ≤ s ∧ s ≤ 50000) (fun s => (50000 - s).toNat) (fun again s hs ih => ?_) ⟨by omega, by omega⟩ (by omega)
    obtain ⟨hs1, hs2⟩ := hs
    have hq := sq_le (by omega) hs2
    have hq0 : 0 ≤ s * s := Int.mul_nonneg (by omega) (by omega)
    simp only [bindO_some', i64_in _ (show (-9223372036854775808 : Int) ≤ s * s ∧ s * s ≤ 9223372036854775807 by omega)]
    by_cases hle : s * s ≤ n
    · have := sq_lt (by omega) (show s * s ≤ 2000000000 by omega)
      have hgs : guardO (s != 0) = some () := guardO_of (by simp; omega)
      simp only [hle, decide_true, cond_true, hgs, bindO_some', tmod_nn (show 0 ≤ n by omega)]
      by_cases h0 : n % s = 0
      · simp [h0, noDiv_hit hle h0]
      · have hb : (n % s == 0) = false := by simpa using h0
        have hw := i64_in (s + 1) (by omega)
        have hi := ih (s + 1) ⟨by omega, by omega⟩ (by omega)
        have hn := noDiv_step (n := n) (s := s) (fun _ => h0)
        rw [hb, cond_false, hw, hi, hn]
    · simp [hle, noDiv_end (by omega) (show n < s * s by omega)]

theorem odd_loop {n : Int} (hn : n ≤ 2000000000) (h2 : 2 ≤ n) (hodd : n % 2 = 1 ∨ n = 2) : loopO (fun (again9 : (Int → (Option Bool))) => (fun (s10 : Int) => (bindO (some (IntKind.wrap .i64 (s10 * s10))) (fun (a11 : Int) => (cond (decide (a11 ≤ n)) (bindO (guardO (s10 != (0 : Int))) (fun (a12 : Unit) => (bindO (some (Int.tmod n s10)) (fun (a13 : Int) => (cond (a13 == (0 : Int)) (some false) (bindO (some (IntKind.wrap .i64 (s10 + (2 : Int)))) (fun (a14 : Int) => (again9 a14)))))))) (some true)))))) (3 : Int) = some (noDiv n 3) := by
  refine loopO_spec (fun s => some (noDiv n s)) (fun s => 3 ≤ s ∧ s ≤ 50000 ∧ s % 2 = 1) (fun s => (50000 - s).toNat) (fun again s hs ih => ?_) ⟨by omega, by omega, by omega⟩ (by omega)
  obtain ⟨hs1, hs2, hs3⟩ := hs
  have hq := sq_le (by omega) hs2
  have hq0 : 0 ≤ s * s := Int.mul_nonneg (by omega) (by omega)
  simp only [bindO_some', i64_in _ (show (-9223372036854775808 : Int) ≤ s * s ∧ s * s ≤ 9223372036854775807 by omega)]
  by_cases hle : s * s ≤ n
  · have := sq_lt (by omega) (show s * s ≤ 2000000000 by omega)
    have h9 := sq_le (show (0 : Int) ≤ 3 by omega) hs1
    have hgs : guardO (s != 0) = some () := guardO_of (by simp; omega)
    simp only [hle, decide_true, cond_true, hgs, bindO_some', tmod_nn (show 0 ≤ n by omega)]
    by_cases h0 : n % s = 0
    · simp [h0, noDiv_hit hle h0]
    · have hb : (n % s == 0) = false := by simpa using h0
      have hw := i64_in (s + 2) (by omega)
      have hi := ih (s + 2) ⟨by omega, by omega, by omega⟩ (by omega)
      have hn1 := noDiv_step (n := n) (s := s) (fun _ => h0)
      have hn2 := noDiv_step (n := n) (s := s + 1) (fun h8 h1 => by
        have := Int.emod_emod_of_dvd n (show (2 : Int) ∣ (s + 1) by omega)
        rw [h1] at this
        have h3 : n ≠ 2 := fun h => by subst h; omega
        omega)
      rw [hb, cond_false, hw, hi, hn1, hn2, show s + 1 + 1 = s + 2 by omega]
  · simp [hle, noDiv_end (by omega) (show n < s * s by omega)]

theorem isPrime_eq {n : Int} (hn : n ≤ 2000000000) : M_I_isPrime n = some (isP n) := by
  unfold M_I_isPrime
  rw [isModulus_eq]
  by_cases h2 : 2 ≤ n
  · have h1 : isP n = noDiv n 2 := by
      simp only [isP, noDiv, decide_eq_decide]
      exact ⟨fun h => h.2, fun h => ⟨h2, h⟩⟩
    have hg2 : guardO ((2 : Int) != 0) = some () := rfl
    by_cases ho : n % 2 = 1 ∨ n = 2
    · rw [odd_loop hn h2 ho, hg2]
      simp only [bindO_some', h2, hn, and_self, decide_true, Bool.not_true, cond_false, tmod_nn (show 0 ≤ n by omega), h1]
      rcases ho with ho | rfl
      · have hb : (n % 2 == 0) = false := by simp [ho]
        rw [hb, cond_false, noDiv_step (n := n) (s := 2) (fun _ => by omega)]
        rfl
      · rw [noDiv_end (n := 2) (s := 2) (by omega) (by omega), noDiv_end (n := 2) (s := 3) (by omega) (by omega)]
        rfl
    · have he : n % 2 = 0 := by omega
      have hn2 : n ≠ 2 := fun h => ho (.inr h)
      have hb : (n != 2) = true := by simpa using hn2
      simp only [bindO_some', hg2, h2, hn, and_self, decide_true, Bool.not_true, cond_false, tmod_nn (show 0 ≤ n by omega), he, beq_self_eq_true, cond_true, hb, h1]
      rw [noDiv_hit (by omega) he]
  · have : isP n = false := by simp only [isP, decide_eq_false_iff_not]; intro h; have := h.1; omega
    simp [h2, this]

theorem pow_mod (a m : Int) : ∀ k : Nat, (a % m) ^ k % m = a ^ k % m
  | 0 => by simp
  | k + 1 => by rw [Int.pow_succ, Int.pow_succ, Int.mul_emod, pow_mod a m k, ← Int.mul_emod, Int.mul_emod, Int.emod_emod_of_dvd _ (Int.dvd_refl m), ← Int.mul_emod]

theorem sq_pow (a : Int) (k : Nat) : (a * a) ^ k = a ^ (2 * k) := by
  rw [show a * a = a ^ 2 by rw [Int.pow_succ, Int.pow_succ, Int.pow_zero, Int.one_mul], ← Int.pow_mul]

/-- One round of the power loop. -/
theorem pow_round {out a m : Int} {e : Int} (he : 0 < e) : ((if e % 2 = 1 then out * a % m else out) * (a * a % m) ^ (e / 2).toNat) % m = (out * a ^ e.toNat) % m := by
  have hk : e.toNat = 2 * (e / 2).toNat + (e % 2).toNat := by omega
  rw [Int.mul_emod, pow_mod, ← Int.mul_emod, sq_pow]
  by_cases h : e % 2 = 1
  · rw [if_pos h, hk, h, Int.pow_add, show (1 : Int).toNat = 1 by rfl, Int.pow_succ, Int.pow_zero, Int.one_mul, Int.mul_emod, Int.emod_emod_of_dvd _ (Int.dvd_refl m), ← Int.mul_emod]
    congr 1
    rw [Int.mul_assoc, Int.mul_comm a]
  · rw [if_neg h, hk, show e % 2 = 0 by omega]
    rfl

theorem mul_in {a b : Int} (ha : 0 ≤ a) (ha2 : a ≤ 3000000000) (hb : 0 ≤ b) (hb2 : b ≤ 3000000000) : 0 ≤ a * b ∧ a * b ≤ 9000000000000000000 :=
  ⟨Int.mul_nonneg ha hb, by have := Int.mul_le_mul ha2 hb2 hb (by omega); omega⟩

theorem nPower_eq {a e m : Int} (ha : 0 ≤ a) (ha2 : a ≤ 3000000000) (he : 0 ≤ e) (he2 : e ≤ 9223372036854775807) (hm : 1 ≤ m) (hm2 : m ≤ 3000000000) : M_S_nPower (a, e, m) = some (a ^ e.toNat % m) := by
  unfold M_S_nPower
  dsimp only
  have hg : guardO (m != 0) = some () := guardO_of (by simp; omega)
  have hg2 : guardO ((2 : Int) != 0) = some () := rfl
  rw [hg, bindO_some', bindO_some', tmod_nn (by omega)]
  have hfin : a ^ e.toNat % m = (1 % m * a ^ e.toNat) % m := by rw [Int.mul_emod, Int.emod_emod_of_dvd _ (Int.dvd_refl m), ← Int.mul_emod, Int.one_mul]
  rw [hfin]
  refine loopO_spec (fun (s : Int × Int × Int) => some ((s.2.2 * s.1 ^ s.2.1.toNat) % m)) (fun s => 0 ≤ s.1 ∧ s.1 ≤ 3000000000 ∧ 0 ≤ s.2.1 ∧ s.2.1 ≤ 9223372036854775807 ∧ 0 ≤ s.2.2 ∧ s.2.2 < m) (fun s => s.2.1.toNat) (fun again s hs ih => ?_)
    (⟨ha, ha2, he, he2, Int.emod_nonneg _ (by omega), Int.emod_lt_of_pos _ (by omega)⟩) (show e.toNat < 2 ^ 64 by omega)
  obtain ⟨a, e, out⟩ := s
  obtain ⟨h1, h2, h3, h4, h5, h6⟩ := hs
  dsimp only at h1 h2 h3 h4 h5 h6 ih ⊢
  have hoa := mul_in h5 (show out ≤ 3000000000 by omega) h1 h2
  have haa := mul_in h1 h2 h1 h2
  by_cases hpos : e > 0
  · have hr := pow_round (out := out) (a := a) (m := m) hpos
    have haam := Int.emod_nonneg (a * a) (show m ≠ 0 by omega)
    have haam2 := Int.emod_lt_of_pos (a * a) (show 0 < m by omega)
    have hoam := Int.emod_nonneg (out * a) (show m ≠ 0 by omega)
    have hoam2 := Int.emod_lt_of_pos (out * a) (show 0 < m by omega)
    simp only [hpos, decide_true, cond_true, hg, hg2, bindO_some', tmod_nn h3, tdiv_nn h3, i64_in _ (show (-9223372036854775808 : Int) ≤ out * a ∧ out * a ≤ 9223372036854775807 by omega), i64_in _ (show (-9223372036854775808 : Int) ≤ a * a ∧ a * a ≤ 9223372036854775807 by omega),
      tmod_nn hoa.1, tmod_nn haa.1, i64_in _ (show (-9223372036854775808 : Int) ≤ e / 2 ∧ e / 2 ≤ 9223372036854775807 by omega)]
    by_cases ho : e % 2 = 1
    · rw [if_pos ho] at hr
      rw [show (e % 2 == 1) = true by simp [ho], cond_true, ih (a * a % m, e / 2, out * a % m) ⟨haam, by dsimp only; omega, by dsimp only; omega, by dsimp only; omega, hoam, hoam2⟩ (by dsimp only; omega)]
      exact congrArg some hr
    · rw [if_neg ho] at hr
      rw [show (e % 2 == 1) = false by simp [ho], cond_false, ih (a * a % m, e / 2, out) ⟨haam, by dsimp only; omega, by dsimp only; omega, by dsimp only; omega, h5, h6⟩ (by dsimp only; omega)]
      exact congrArg some hr
  · have : e = 0 := by omega
    subst this
    simp [Int.emod_eq_of_lt h5 h6]

theorem bits_one {x : Int} (h : 0 ≤ x) : Vd.bits .and .i64 x 1 = x % 2 := by
  obtain ⟨n, rfl⟩ := Int.eq_ofNat_of_zero_le h
  have h1 : (BitVec.ofInt 64 ((n : Nat) : Int) &&& BitVec.ofInt 64 1).toNat = n % 2 := by
    rw [BitVec.toNat_and]
    have e1 : (BitVec.ofInt 64 ((n : Nat) : Int)).toNat = n % 2 ^ 64 := by simp
    have e2 : (BitVec.ofInt 64 1).toNat = 1 := by decide
    rw [e1, e2, Nat.and_one_is_mod]
    omega
  show IntKind.wrap .i64 (((BitVec.ofInt 64 ((n : Nat) : Int) &&& BitVec.ofInt 64 1).toNat : Nat) : Int) = _
  rw [h1, i64_in _ (by omega)]
  omega

theorem shr_one {x : Int} : Vd.shr .i64 x 1 = x / 2 := by
  show x.fdiv (2 ^ (min (1 : Int).toNat 64)) = x / 2
  rw [show ((2 : Int) ^ (min (1 : Int).toNat 64)) = 2 by decide, fdiv_pos (by omega)]

theorem power_eq {a e m : Int} (he : e ≤ 9223372036854775807) : M_I_power (a, e, m) = M_S_nPower (a, e, m) := by
  unfold M_I_power M_S_nPower
  congr 1
  funext _
  congr 1
  funext out
  refine loopO_congr (fun s => s.2.1 ≤ 9223372036854775807) (fun a1 a2 s hs ih => ?_) he
  by_cases hpos : s.2.1 > 0
  · have hg2 : guardO ((2 : Int) != 0) = some () := rfl
    have hg3 : guardO (decide ((0 : Int) ≤ 1)) = some () := rfl
    have hw : ∀ (x : Int) y, a1 (x, s.2.1 / 2, y) = a2 (x, s.2.1 / 2, y) := fun x y => ih _ (by dsimp only; omega)
    simp only [hpos, decide_true, cond_true, hg2, hg3, bindO_some', bits_one (show 0 ≤ s.2.1 by omega), shr_one, tmod_nn (show 0 ≤ s.2.1 by omega), tdiv_nn (show 0 ≤ s.2.1 by omega),
      i64_in _ (show (-9223372036854775808 : Int) ≤ s.2.1 / 2 ∧ s.2.1 / 2 ≤ 9223372036854775807 by omega), hw]
  · simp [hpos]

theorem l1All_eq {l : List Int} {lo hi : Int} (hl : l.length < 2 ^ 62) : M_S_l1All (l, lo, hi) = some (l.all fun n => decide (lo ≤ n ∧ n ≤ hi)) := by
  unfold M_S_l1All
  refine (loop_walk l (fun _ a k => if (decide (lo ≤ a ∧ a ≤ hi)) = true then k else some false) (some true) (fun again i a ha hi' => ?_) (fun again => ?_) (by omega)).trans (walk_all (fun n => decide (lo ≤ n ∧ n ≤ hi)) l 0)
  · simp only [getI_nat, ha, bindO_some', i64_succ (show i < 2 ^ 62 by omega), lt_yes hi', cond_true, in_eq]
    cases decide (lo ≤ a ∧ a ≤ hi) <;> rfl
  · simp

theorem walk_index_mem {α : Type} (p : α → Bool) (f : α → Option Bool) : ∀ (l : List α) (i : Nat), (∀ a ∈ l, f a = some (p a)) →
    ∃ j : Int, walk (fun i a k => bindO (f a) fun b => cond b (some (i : Int)) k) (some (-1)) i l = some j ∧ decide (j ≥ 0) = l.any p
  | [], _, _ => ⟨-1, rfl, rfl⟩
  | a :: l, i, hf => by
    obtain ⟨j, h1, h2⟩ := walk_index_mem p f l (i + 1) fun b hb => hf b (List.mem_cons_of_mem _ hb)
    have ha := hf a (List.mem_cons_self ..)
    cases h : p a
    · exact ⟨j, by simp [walk, ha, h, h1], by simp [h, h2]⟩
    · exact ⟨i, by simp [walk, ha, h], by simp [h]⟩

theorem containsFunc_eq {l : List Int} {f : Int → Option Bool} {p : Int → Bool} (hl : l.length < 2 ^ 62) (hf : ∀ a ∈ l, f a = some (p a)) : M_slices_ContainsFunc_sint_int (l, f) = some (l.any p) := by
  obtain ⟨j, h1, h2⟩ := walk_index_mem p f l 0 hf
  unfold M_slices_ContainsFunc_sint_int
  have : M_slices_IndexFunc_sint_int (l, f) = some j := by
    unfold M_slices_IndexFunc_sint_int
    refine (loop_walk l _ _ (fun again i a ha hi => ?_) (fun again => ?_) (by omega)).trans h1
    · simp only [getI_nat, ha, bindO_some', i64_succ (show i < 2 ^ 62 by omega), lt_yes hi, cond_true]
    · simp
  dsimp only
  rw [this, bindO_some', h2]

theorem areAll_eq {l : List Int} {f : Int → Option Bool} {p : Int → Bool} (hl : l.length < 2 ^ 62) (hf : ∀ a ∈ l, f a = some (p a)) : M_I_areAll (l, f) = some (l.all p) := by
  unfold M_I_areAll
  dsimp only
  rw [containsFunc_eq (p := fun a => !p a) hl fun a ha => by simp [M_I_areAll_1, hf a ha], bindO_some']
  congr 1
  rw [List.any_eq_not_all_not]
  simp

noncomputable def okG (p q g : Int) : Bool := decide (3 ≤ p ∧ p ≤ 2000000000) && (decide (2 ≤ q ∧ q ≤ p - 1) && ((p - 1) % q == 0 && (decide (2 ≤ g ∧ g ≤ p - 1) && (g ^ q.toNat % p == 1 && (isP q && isP p)))))

theorem l2Good_eq (p q g : Int) : M_S_l2Good (p, q, g) = some (okG p q g) := by
  unfold M_S_l2Good okG
  simp only [in_eq, bindO_some']
  by_cases h1 : 3 ≤ p ∧ p ≤ 2000000000
  · rw [i64_in (p - 1) (by omega)]
    simp only [h1, and_self, decide_true, cond_true, Bool.true_and]
    by_cases h2 : 2 ≤ q ∧ q ≤ p - 1
    · have hq : guardO (q != 0) = some () := guardO_of (by simp; omega)
      simp only [h2, and_self, decide_true, cond_true, Bool.true_and, hq, bindO_some', tmod_nn (show 0 ≤ p - 1 by omega)]
      by_cases h3 : (p - 1) % q = 0
      · simp only [h3, beq_self_eq_true, cond_true, Bool.true_and]
        by_cases h4 : 2 ≤ g ∧ g ≤ p - 1
        · simp only [h4, and_self, decide_true, cond_true, Bool.true_and, nPower_eq (show 0 ≤ g by omega) (show g ≤ 3000000000 by omega) (show 0 ≤ q by omega) (show q ≤ 9223372036854775807 by omega) (show 1 ≤ p by omega) (show p ≤ 3000000000 by omega), bindO_some',
            nPrime_eq (show q ≤ 2000000000 by omega), nPrime_eq (show p ≤ 2000000000 by omega)]
          cases (g ^ q.toNat % p == 1) <;> cases isP q <;> cases isP p <;> rfl
        · simp [h4]
      · have hb : ((p - 1) % q == 0) = false := by simpa using h3
        simp [hb]
    · simp [h2]
  · simp [h1]

theorem IsValidGroup_eq (p q g : Int) : M_I_IsValidGroup (p, q, g) = some (okG p q g) := by
  unfold M_I_IsValidGroup okG
  simp only [within_eq, bindO_some']
  by_cases h1 : 3 ≤ p ∧ p ≤ 2000000000
  · rw [i64_in (p - 1) (by omega)]
    simp only [h1, and_self, decide_true, cond_true, Bool.true_and]
    by_cases h2 : 2 ≤ q ∧ q ≤ p - 1
    · have hq : guardO (q != 0) = some () := guardO_of (by simp; omega)
      simp only [h2, and_self, decide_true, cond_true, Bool.true_and, hq, bindO_some', tmod_nn (show 0 ≤ p - 1 by omega)]
      by_cases h3 : (p - 1) % q = 0
      · simp only [h3, beq_self_eq_true, cond_true, Bool.true_and]
        by_cases h4 : 2 ≤ g ∧ g ≤ p - 1
        · simp only [h4, and_self, decide_true, cond_true, Bool.true_and, power_eq (show q ≤ 9223372036854775807 by omega), nPower_eq (show 0 ≤ g by omega) (show g ≤ 3000000000 by omega) (show 0 ≤ q by omega) (show q ≤ 9223372036854775807 by omega) (show 1 ≤ p by omega) (show p ≤ 3000000000 by omega), bindO_some',
            isPrime_eq (show q ≤ 2000000000 by omega), isPrime_eq (show p ≤ 2000000000 by omega)]
          cases (g ^ q.toNat % p == 1) <;> cases isP q <;> cases isP p <;> rfl
        · simp [h4]
      · have hb : ((p - 1) % q == 0) = false := by simpa using h3
        simp [hb]
    · simp [h2]
  · simp [h1]

/-- What a valid group fulfils. -/
structure Gr (p q g : Int) : Prop where
  p3 : 3 ≤ p
  pm : p ≤ 2000000000
  q2 : 2 ≤ q
  qp : q ≤ p - 1
  dv : (p - 1) % q = 0
  g2 : 2 ≤ g
  gp : g ≤ p - 1
  gq : g ^ q.toNat % p = 1
  pq : isP q = true
  pp : isP p = true

theorem okG_spec {p q g : Int} (h : okG p q g = true) : Gr p q g := by
  simp only [okG, Bool.and_eq_true, decide_eq_true_eq, beq_iff_eq] at h
  obtain ⟨⟨h1, h2⟩, ⟨h3, h4⟩, h5, ⟨h6, h7⟩, h8, h9, h10⟩ := h
  exact ⟨h1, h2, h3, h4, h5, h6, h7, h8, h9, h10⟩

theorem nMod_eq {a m : Int} (hm : 1 ≤ m) (hm2 : m ≤ 4611686018427387903) : M_S_nMod (a, m) = some (a % m) := by
  unfold M_S_nMod
  have hg : guardO (m != 0) = some () := guardO_of (by simp; omega)
  have h1 := Int.tmod_lt_of_pos a (show 0 < m by omega)
  have h2 : -m < a.tmod m := Int.lt_tmod_of_pos a (by omega)
  simp only [hg, bindO_some', i64_in (a.tmod m + m) (by omega), tmod_nn (show 0 ≤ a.tmod m + m by omega)]
  congr 1
  rw [Int.add_emod_right]
  have h3 := Int.mul_tdiv_add_tmod a m
  have : a % m = (m * a.tdiv m + a.tmod m) % m := by rw [h3]
  rw [this, Int.mul_add_emod_self_left]

theorem gExp_eq {p q g x e : Int} (h : Gr p q g) (hx : 0 ≤ x) (hx2 : x ≤ p) : M_S_gExp ((p, q, g), x, e) = some (x ^ (e % q).toNat % p) := by
  unfold M_S_gExp
  have := h.p3; have := h.pm; have := h.q2; have := h.qp
  have h1 := Int.emod_nonneg e (show q ≠ 0 by omega)
  have h2 := Int.emod_lt_of_pos e (show 0 < q by omega)
  dsimp only
  rw [nMod_eq (by omega) (by omega), bindO_some', nPower_eq hx (by omega) h1 (by omega) (by omega) (by omega), bindO_some']

theorem gExps_eq {p q g : Int} {l : List Int} (h : Gr p q g) (hl : l.length < 2 ^ 62) : M_S_gExps ((p, q, g), l) = some (l.all fun e => decide (0 ≤ e ∧ e ≤ q - 1)) := by
  unfold M_S_gExps
  have := h.pm; have := h.q2; have := h.qp
  simp only [bindO_some', i64_in (q - 1) (by omega), l1All_eq hl]

/-- Is a number an element? -/
def isEl (p q x : Int) : Bool := decide (1 ≤ x ∧ x ≤ p - 1) && x ^ q.toNat % p == 1

theorem has_eq' {p q g x : Int} (h : Gr p q g) : M_I_Group_has ((p, q, g), x) = some (isEl p q x) := by
  unfold M_I_Group_has isEl
  have := h.p3; have := h.pm; have := h.q2; have := h.qp
  simp only [bindO_some', i64_in (p - 1) (by omega), within_eq]
  by_cases hx : 1 ≤ x ∧ x ≤ p - 1
  · simp [hx, power_eq (show q ≤ 9223372036854775807 by omega), nPower_eq (show 0 ≤ x by omega) (show x ≤ 3000000000 by omega) (show 0 ≤ q by omega) (show q ≤ 9223372036854775807 by omega) (show 1 ≤ p by omega) (show p ≤ 3000000000 by omega)]
  · simp [hx]

theorem gIs_eq {p q g : Int} {l : List Int} (h : Gr p q g) (hl : l.length < 2 ^ 62) : M_S_gIs ((p, q, g), l) = some (l.all (isEl p q)) := by
  unfold M_S_gIs
  have := h.p3; have := h.pm; have := h.q2; have := h.qp
  refine (loop_walk l (fun _ a k => if (isEl p q a) = true then k else some false) (some true) (fun again i a ha hi' => ?_) (fun again => ?_) (by omega)).trans (walk_all (isEl p q) l 0)
  · simp only [getI_nat, ha, bindO_some', i64_succ (show i < 2 ^ 62 by omega), lt_yes hi', cond_true, in_eq, i64_in (p - 1) (by omega)]
    by_cases hx : 1 ≤ a ∧ a ≤ p - 1
    · simp only [isEl, hx, and_self, decide_true, Bool.not_true, cond_false, Bool.true_and, nPower_eq (show 0 ≤ a by omega) (show a ≤ 3000000000 by omega) (show 0 ≤ q by omega) (show q ≤ 9223372036854775807 by omega) (show 1 ≤ p by omega) (show p ≤ 3000000000 by omega), bindO_some']
      by_cases h1 : a ^ q.toNat % p = 1 <;> simp [h1, bne_dec]
    · simp [isEl, hx]
  · simp

theorem isEl_range {p q x : Int} (h : isEl p q x = true) : 1 ≤ x ∧ x ≤ p - 1 ∧ x ^ q.toNat % p = 1 := by
  simp only [isEl, Bool.and_eq_true, decide_eq_true_eq, beq_iff_eq] at h
  exact ⟨h.1.1, h.1.2, h.2⟩

/-- A product of residues. -/
def prodM (p : Int) : Int → List Int → Int
  | out, [] => out
  | out, x :: l => prodM p (out * x % p) l

theorem prodM_range {p : Int} (hp : 1 ≤ p) : ∀ (l : List Int) (out : Int), 0 ≤ out → out < p ∨ l ≠ [] → 0 ≤ prodM p out l ∧ (prodM p out l < p)
  | [], out, h, h2 => ⟨h, h2.resolve_right (by simp)⟩
  | x :: l, out, h, _ => prodM_range hp l _ (Int.emod_nonneg _ (by omega)) (.inl (Int.emod_lt_of_pos _ (by omega)))

theorem gMul_loop {p : Int} (hp : 1 ≤ p) (hp2 : p ≤ 3000000000) (l : List Int) (hx : ∀ x ∈ l, 0 ≤ x ∧ x ≤ 3000000000) (hl : l.length < 2 ^ 62) {body : (Int × Int → Option Int) → Int × Int → Option Int} 
    (h : ∀ (again : Int × Int → Option Int) (s : Int × Int), body again s = (cond (decide (s.2 < ((l.length : Nat) : Int))) (bindO (getI l s.2) fun a => bindO (some (IntKind.wrap .i64 (s.1 * a))) fun b => bindO (guardO (p != 0)) fun _ => bindO (some (b.tmod p)) fun c => bindO (some (IntKind.wrap .i64 (s.2 + 1))) fun d => again (c, d)) (some s.1))) :
    loopO body (1, 0) = some (prodM p 1 l) := by
  have hg : guardO (p != 0) = some () := guardO_of (by simp; omega)
  refine (loopO_for (σ := Int) (fun i s => (s, (i : Int))) l.length (fun i s => some (prodM p s (l.drop i))) (fun _ s => 0 ≤ s ∧ s ≤ 3000000000) (fun again s hs => ?_) (fun again i s hi hs ih => ?_) (by omega) (i := 0) (s := 1) (Nat.zero_le _) ⟨by omega, by omega⟩).trans (by simp)
  · rw [h]; simp [prodM]
  · have hm := hx l[i] (List.getElem_mem hi)
    have hb := mul_in hs.1 hs.2 hm.1 hm.2
    have h1 := Int.emod_nonneg (s * l[i]) (show p ≠ 0 by omega)
    have h2 := Int.emod_lt_of_pos (s * l[i]) (show 0 < p by omega)
    rw [h]
    simp only [lt_yes hi, cond_true, getI_nat, List.getElem?_eq_getElem hi, bindO_some', hg, i64_succ (show i < 2 ^ 62 by omega), i64_in (s * l[i]) (by omega), tmod_nn hb.1]
    rw [ih _ ⟨h1, by omega⟩, List.drop_eq_getElem_cons hi, prodM]

theorem gMul_eq {p q g : Int} {l : List Int} (h : Gr p q g) (hx : ∀ x ∈ l, 0 ≤ x ∧ x ≤ 3000000000) (hl : l.length < 2 ^ 62) : M_S_gMul ((p, q, g), l) = some (prodM p 1 l) := by
  unfold M_S_gMul
  have := h.p3; have := h.pm
  exact gMul_loop (by omega) (by omega) l hx hl fun _ _ => rfl

theorem Group_mul_eq {p q g : Int} {l : List Int} (h : Gr p q g) (hx : ∀ x ∈ l, 0 ≤ x ∧ x ≤ 3000000000) (hl : l.length < 2 ^ 62) : M_I_Group_mul ((p, q, g), l) = some (prodM p 1 l) := by
  unfold M_I_Group_mul
  have := h.p3; have := h.pm
  exact gMul_loop (by omega) (by omega) l hx hl fun _ _ => rfl

def hstep (c s k : Int) : Int := (c * s + k + 1) % 2147483647

theorem gInv_eq {p q g x : Int} (h : Gr p q g) (hx : 0 ≤ x) (hx2 : x ≤ p) : M_S_gInv ((p, q, g), x) = some (x ^ (q - 1).toNat % p) := by
  unfold M_S_gInv
  have := h.p3; have := h.pm; have := h.q2; have := h.qp
  dsimp only
  rw [i64_in (q - 1) (by omega), bindO_some', nPower_eq hx (by omega) (by omega) (by omega) (by omega) (by omega), bindO_some']

theorem inv_range {p q x : Int} (hp : 1 ≤ p) : 0 ≤ x ^ (q - 1).toNat % p ∧ x ^ (q - 1).toNat % p < p :=
  ⟨Int.emod_nonneg _ (by omega), Int.emod_lt_of_pos _ (by omega)⟩

theorem pow_range {p x : Int} {k : Nat} (hp : 1 ≤ p) : 0 ≤ x ^ k % p ∧ x ^ k % p < p :=
  ⟨Int.emod_nonneg _ (by omega), Int.emod_lt_of_pos _ (by omega)⟩

/-- Is a cipher one of elements? -/
def isCi (p q : Int) (c : Int × Int) : Bool := isEl p q c.1 && isEl p q c.2

theorem hasCipher_eq {p q g : Int} {c : Int × Int} (h : Gr p q g) : M_I_Group_hasCipher ((p, q, g), c) = some (isCi p q c) := by
  unfold M_I_Group_hasCipher isCi
  simp only [has_eq' h, bindO_some']
  cases isEl p q c.1 <;> simp

theorem eGood_eq {p q g : Int} {l : List (Int × Int)} (h : Gr p q g) : M_S_eGood ((p, q, g), l) = some (decide (l.length ≤ 24) && l.all (isCi p q)) := by
  unfold M_S_eGood
  by_cases hl : l.length ≤ 24
  · have e1 : decide (((l.length : Nat) : Int) > 24) = false := by simp; omega
    dsimp only
    rw [e1, cond_false]
    simp only [hl, decide_true, Bool.true_and]
    refine (loop_walk l (fun _ a k => if (isCi p q a) = true then k else some false) (some true) (fun again i a ha hi' => ?_) (fun again => ?_) (by omega)).trans (walk_all (isCi p q) l 0)
    · simp only [getI_nat, ha, bindO_some', i64_succ (show i < 2 ^ 62 by omega), lt_yes hi', cond_true, gIs_eq h (show [a.1, a.2].length < 2 ^ 62 by show (2 : Nat) < _; omega)]
      have : [a.1, a.2].all (isEl p q) = isCi p q a := by simp [isCi]
      rw [this]
      cases isCi p q a <;> rfl
    · simp
  · have e1 : decide (((l.length : Nat) : Int) > 24) = true := by simp; omega
    simp [e1, hl]

/-- a over b. -/
def over (p q a b : Int) : Int := prodM p 1 [a, b ^ (q - 1).toNat % p]

theorem mul2 {p q g a b : Int} (h : Gr p q g) (ha : 0 ≤ a ∧ a ≤ p) (hb : 0 ≤ b ∧ b ≤ p) : M_S_gMul ((p, q, g), [a, b]) = some (prodM p 1 [a, b]) := by
  have := h.p3; have := h.pm
  refine gMul_eq h (fun x hx => ?_) (by show (2 : Nat) < _; omega)
  simp only [List.mem_cons, List.not_mem_nil, or_false] at hx
  rcases hx with rfl | rfl <;> omega

theorem mul2' {p q g a b : Int} (h : Gr p q g) (ha : 0 ≤ a ∧ a ≤ p) (hb : 0 ≤ b ∧ b ≤ p) : M_I_Group_mul ((p, q, g), [a, b]) = some (prodM p 1 [a, b]) := by
  have := h.p3; have := h.pm
  refine Group_mul_eq h (fun x hx => ?_) (by show (2 : Nat) < _; omega)
  simp only [List.mem_cons, List.not_mem_nil, or_false] at hx
  rcases hx with rfl | rfl <;> omega

theorem prod_range {p : Int} {l : List Int} (hp : 2 ≤ p) : 0 ≤ prodM p 1 l ∧ prodM p 1 l < p := prodM_range (by omega) l 1 (by omega) (.inl (by omega))

/-- A proposition as a Boolean. -/
noncomputable def pdec (p : Prop) : Bool := @decide p (Classical.propDecidable p)

theorem pdec_iff {p : Prop} : pdec p = true ↔ p := by simp [pdec]

theorem pdec_yes {p : Prop} (h : p) : pdec p = true := pdec_iff.2 h

theorem pdec_no {p : Prop} (h : ¬ p) : pdec p = false := by simp [pdec, h]

/-- A walk that checks: `G i` holds of the first i elements. -/
theorem loop_check {α β : Type} {body : (Int → Option β) → Int → Option β} (l : List α) (G : Nat → Prop) (yes no : Option β)
    (hstep : ∀ (again : Int → Option β) (i : Nat) a, l[i]? = some a → i < l.length → G i → (body again (i : Int) = again ((i + 1 : Nat) : Int) ∧ G (i + 1)) ∨ (body again (i : Int) = no ∧ ¬ G l.length))
    (hend : ∀ again : Int → Option β, body again (l.length : Int) = yes) (h0 : G 0) (hl : l.length < 2 ^ 64) : (G l.length → loopO body 0 = yes) ∧ (¬ G l.length → loopO body 0 = no) := by
  constructor
  · intro hG
    refine (loopO_for (σ := Unit) (fun i _ => (i : Int)) l.length (fun _ _ => yes) (fun i _ => G i) (fun again _ hg => hend again) (fun again i _ hi hg ih => ?_) hl (i := 0) (s := ()) (Nat.zero_le _) h0).trans rfl
    rcases hstep again i l[i] (List.getElem?_eq_getElem hi) hi hg with ⟨h1, h2⟩ | ⟨h1, h2⟩
    · rw [h1]
      exact ih () h2
    · exact absurd hG h2
  · intro hG
    refine (loopO_for (σ := Unit) (fun i _ => (i : Int)) l.length (fun _ _ => no) (fun i _ => G i) (fun again _ hg => absurd hg hG) (fun again i _ hi hg ih => ?_) hl (i := 0) (s := ()) (Nat.zero_le _) h0).trans rfl
    rcases hstep again i l[i] (List.getElem?_eq_getElem hi) hi hg with ⟨h1, h2⟩ | ⟨h1, h2⟩
    · rw [h1]
      exact ih () h2
    · exact h1

theorem check_dec {β : Type} {m : Option β} {G : Prop} {f : Bool → Option β} (h : (G → m = f true) ∧ (¬ G → m = f false)) : m = f (pdec G) := by
  by_cases hg : G
  · rw [h.1 hg, pdec_yes hg]
  · rw [h.2 hg, pdec_no hg]

theorem mem_take_succ {α : Type} {l : List α} {i : Nat} {a : α} (h : l[i]? = some a) : l.take (i + 1) = l.take i ++ [a] := by
  rw [List.take_add_one, h]
  rfl

theorem pairwise_snoc {α : Type} {R : α → α → Prop} {l : List α} {a : α} : (l ++ [a]).Pairwise R ↔ l.Pairwise R ∧ ∀ b ∈ l, R b a := by
  rw [List.pairwise_append]
  constructor
  · rintro ⟨h1, _, h2⟩
    exact ⟨h1, fun b hb => h2 b hb a (by simp)⟩
  · rintro ⟨h1, h2⟩
    exact ⟨h1, by simp, fun b hb c hc => by simp at hc; subst hc; exact h2 b hb⟩

/-- Rising and within bounds. -/
def Rising (lo hi : Int) (l : List Int) : Prop := (∀ a ∈ l, lo ≤ a ∧ a ≤ hi) ∧ l.Pairwise (· < ·)

noncomputable def rising (lo hi : Int) (l : List Int) : Bool := pdec (Rising lo hi l)

theorem last_max {l : List Int} {b : Int} (h : (l ++ [b]).Pairwise (· < ·)) : ∀ a ∈ l ++ [b], a ≤ b := fun a ha => by
  rcases List.mem_append.1 ha with ha | ha
  · exact Int.le_of_lt ((pairwise_snoc.1 h).2 a ha)
  · simp at ha; omega

theorem l1Rising_eq {l : List Int} {lo hi : Int} (hl : l.length < 2 ^ 62) : M_S_l1Rising (l, lo, hi) = some (rising lo hi l) := by
  unfold M_S_l1Rising
  have h := loop_check (β := Bool) l (fun i => Rising lo hi (l.take i)) (some true) (some false) (body := (fun (again0 : (Int → (Option Bool))) => (fun (s1 : Int) => (cond (decide (s1 < (((List.length l) : Nat) : Int))) (bindO (getI l s1) (fun (a2 : Int) => (bindO (M_S_l1In (a2, (lo, hi))) (fun (a3 : Bool) => (cond (not a3) (some false) (cond (decide (s1 > (0 : Int))) (bindO (some (IntKind.wrap .i64 (s1 - (1 : Int)))) (fun (a4 : Int) => (bindO (getI l a4) (fun (a5 : Int) => (cond (decide (a5 ≥ a2)) (some false) (bindO (some (IntKind.wrap .i64 (s1 + (1 : Int)))) (fun (a6 : Int) => (again0 a6)))))))) (bindO (some (IntKind.wrap .i64 (s1 + (1 : Int)))) (fun (a7 : Int) => (again0 a7))))))))) (some true)))))
    (fun again i a ha hi' hg => ?_) (fun again => ?_) ⟨by simp, by simp⟩ (by omega)
  · rw [List.take_length] at h
    exact check_dec (f := some) h
  · simp only [lt_yes hi', cond_true, getI_nat, ha, bindO_some', in_eq, i64_succ (show i < 2 ^ 62 by omega), List.take_length, mem_take_succ ha]
    by_cases hin : lo ≤ a ∧ a ≤ hi
    · simp only [hin, and_self, decide_true, Bool.not_true, cond_false]
      cases i with
      | zero =>
        left
        refine ⟨by simp, ?_⟩
        simp [Rising, hin]
      | succ i =>
        have hb : ∃ b, l[i]? = some b := ⟨l[i]'(by omega), List.getElem?_eq_getElem _⟩
        obtain ⟨b, hb⟩ := hb
        have e1 : decide (((i + 1 : Nat) : Int) > 0) = true := by simp only [decide_eq_true_eq]; omega
        have e2 : IntKind.wrap .i64 (((i + 1 : Nat) : Int) - 1) = ((i : Nat) : Int) := by rw [i64_in _ (by omega)]; omega
        simp only [e1, cond_true, bindO_some', e2, getI_nat, hb]
        rw [mem_take_succ hb] at hg ⊢
        have hmax := last_max hg.2
        by_cases hba : b ≥ a
        · right
          refine ⟨by simp [hba], fun hr => ?_⟩
          have h1 := List.pairwise_iff_getElem.1 hr.2 i (i + 1) (by omega) (by omega) (by omega)
          rw [(List.getElem?_eq_some_iff.1 ha).2, (List.getElem?_eq_some_iff.1 hb).2] at h1
          omega
        · left
          refine ⟨by simp [hba], fun c hc => ?_, pairwise_snoc.2 ⟨hg.2, fun c hc => ?_⟩⟩
          · rcases List.mem_append.1 hc with hc | hc
            · exact hg.1 c hc
            · simp at hc; subst hc; exact hin
          · have := hmax c hc
            omega
    · right
      refine ⟨by simp [hin], fun hr => hin (hr.1 a (List.mem_of_getElem? ha))⟩
  · simp

def Sorted (l : List Int) : Prop := l.Pairwise (· ≤ ·)

noncomputable def sortedB (l : List Int) : Bool := pdec (Sorted l)

theorem sorted_of_adj : ∀ (l : List Int), (∀ (j : Nat) a b, l[j]? = some a → l[j + 1]? = some b → a ≤ b) → Sorted l
  | [], _ => .nil
  | a :: l, h => by
    have ih := sorted_of_adj l fun j b c hb hc => h (j + 1) b c (by simpa using hb) (by simpa using hc)
    refine .cons (fun b hb => ?_) ih
    match l, h, ih, hb with
    | c :: r, h, ih, hb =>
      have h1 := h 0 a c rfl rfl
      rcases List.mem_cons.1 hb with rfl | hb
      · exact h1
      · have := (List.pairwise_cons.1 ih).1 b hb
        omega

theorem less_eq (a b : Int) : M_cmp_Less_int (a, b) = some (decide (a < b)) := by
  unfold M_cmp_Less_int M_cmp_isNaN_int
  simp

theorem isSorted_eq {l : List Int} (hl : l.length < 2 ^ 62) : M_slices_IsSorted_sint_int l = some (sortedB l) := by
  unfold M_slices_IsSorted_sint_int
  rw [i64_in ((l.length : Int) - 1) (by omega), bindO_some']
  refine loopO_spec (fun _ => some (sortedB l)) (fun s => s ≤ (l.length : Int) - 1 ∧ -1 ≤ s ∧ ∀ (j : Nat) a b, s ≤ (j : Int) → l[j]? = some a → l[j + 1]? = some b → a ≤ b) (fun s => s.toNat) (fun again s hs ih => ?_)
    ⟨Int.le_refl _, by omega, fun j a b hj ha hb => ?_⟩ (by omega)
  · obtain ⟨h1, h2, h3⟩ := hs
    by_cases hpos : s > 0
    · obtain ⟨n, rfl⟩ : ∃ n : Nat, s = ((n + 1 : Nat) : Int) := ⟨(s - 1).toNat, by omega⟩
      have hn : n + 1 < l.length := by omega
      have ha := List.getElem?_eq_getElem (l := l) hn
      have hb := List.getElem?_eq_getElem (l := l) (show n < l.length by omega)
      have e2 : IntKind.wrap .i64 (((n + 1 : Nat) : Int) - 1) = ((n : Nat) : Int) := by rw [i64_in _ (by omega)]; omega
      simp only [hpos, decide_true, cond_true, getI_nat, ha, bindO_some', e2, hb, less_eq]
      by_cases hlt : l[n + 1] < l[n]
      · simp only [hlt, decide_true, cond_true]
        congr 1
        symm
        refine pdec_no fun hs => ?_
        have := List.pairwise_iff_getElem.1 hs n (n + 1) (by omega) hn (by omega)
        omega
      · simp only [hlt, decide_false, cond_false]
        refine ih _ ⟨by omega, by omega, fun j a b hj hja hjb => ?_⟩ (by omega)
        by_cases hjn : j = n
        · subst hjn
          rw [hb] at hja
          rw [ha] at hjb
          cases hja
          cases hjb
          omega
        · exact h3 j a b (by omega) hja hjb
    · have e1 : decide (s > 0) = false := by simp; omega
      rw [e1, cond_false]
      congr 1
      symm
      refine pdec_yes ?_
      exact sorted_of_adj l fun j a b hja hjb => h3 j a b (by omega) hja hjb
  · have := (List.getElem?_eq_some_iff.1 hb).1
    omega

noncomputable def nodupB (l : List Int) : Bool := pdec l.Nodup

theorem areDifferent_eq {l : List Int} (hl : l.length < 2 ^ 62) : M_I_areDifferent l = some (nodupB l) := by
  unfold M_I_areDifferent
  have h := loop_check (β := Bool) l (fun i => (l.take i).Nodup) (some true) (some false) (body := (fun (again0 : (Int → (Option Bool))) => (fun (s1 : Int) => (cond (decide (s1 < (((List.length l) : Nat) : Int))) (bindO (getI l s1) (fun (a2 : Int) => (bindO (sliceNH s1 (List.length l)) (fun (a3 : (Nat × Nat)) => (bindO (M_slices_Contains_sint_int ((List.drop a3.1 (List.take a3.2 l)), a2)) (fun (a4 : Bool) => (cond a4 (some false) (bindO (some (IntKind.wrap .i64 (s1 + (1 : Int)))) (fun (a5 : Int) => (again0 a5)))))))))) (some true)))))
    (fun again i a ha hi' hg => ?_) (fun again => ?_) (by simp) (by omega)
  · rw [List.take_length] at h
    exact check_dec (f := some) h
  · have hlen : (l.take i).length < 2 ^ 62 := by simp; omega
    simp only [lt_yes hi', cond_true, getI_nat, ha, bindO_some', sliceNH_nat (show i ≤ l.length by omega), List.drop_zero, contains_eq hlen, i64_succ (show i < 2 ^ 62 by omega), mem_take_succ ha, List.take_length]
    by_cases hm : a ∈ l.take i
    · right
      have : (l.take i).any (· == a) = true := by simpa using hm
      refine ⟨by rw [this]; rfl, fun hn => ?_⟩
      have h2 : (l.take (i + 1)).Nodup := hn.sublist (List.take_sublist _ _)
      rw [mem_take_succ ha] at h2
      have := (pairwise_snoc.1 h2).2 a hm
      exact this rfl
    · left
      have : (l.take i).any (· == a) = false := by
        cases hc : (l.take i).any (· == a)
        · rfl
        · exact absurd (by simpa using hc) hm
      refine ⟨by rw [this]; rfl, pairwise_snoc.2 ⟨hg, fun b hb hba => hm (by subst hba; exact hb)⟩⟩
  · simp

theorem rising_parts (lo hi : Int) (l : List Int) : rising lo hi l = ((l.all fun n => decide (lo ≤ n ∧ n ≤ hi)) && (sortedB l && nodupB l)) := by
  rw [Bool.eq_iff_iff]
  simp only [rising, sortedB, nodupB, Bool.and_eq_true, decide_eq_true_eq, List.all_eq_true, pdec_iff]
  constructor
  · rintro ⟨h1, h2⟩
    exact ⟨h1, h2.imp fun h => by omega, h2.imp fun h => by omega⟩
  · rintro ⟨h1, h2, h3⟩
    exact ⟨h1, (h2.and h3).imp fun h => by obtain ⟨a, b⟩ := h; omega⟩

theorem all_not_any {α : Type} {p q : α → Bool} {l : List α} (h : ∀ a ∈ l, q a = !p a) : l.all p = !l.any q := by
  induction l with
  | nil => rfl
  | cons a l ih =>
    rw [List.all_cons, List.any_cons, ih fun b hb => h b (List.mem_cons_of_mem _ hb), h a (List.mem_cons_self ..)]
    cases p a <;> simp

theorem wrap_u64 {i : Nat} (h : i < 2 ^ 62) : IntKind.wrap .u64 ((i : Nat) : Int) = (i : Int) := u64_in _ (by omega)

theorem own_eq {l : List Int} (hl : l.length ≤ 1048576) : M_S_l1Own l = some l := by
  unfold M_S_l1Own
  rw [guardO_of (lenOk_of (by simp; omega))]
  rfl

theorem clone_eq {l : List Int} (hl : l.length ≤ 1048576) : M_slices_Clone_sint_int l = some l := by
  unfold M_slices_Clone_sint_int
  rw [guardO_of (lenOk_of (by simp; omega))]
  simp only [bindO_some', List.nil_append, Bool.not_true, cond_false]
  cases l with
  | nil => simp [ambO]
  | cons a l => rfl

def pw (p q x e : Int) : Int := x ^ (e % q).toNat % p

theorem pw_range {p q x e : Int} (hp : 1 ≤ p) : 0 ≤ pw p q x e ∧ pw p q x e < p := pow_range hp

theorem gExp_pw {p q g x e : Int} (h : Gr p q g) (hx : 0 ≤ x) (hx2 : x ≤ p) : M_S_gExp ((p, q, g), x, e) = some (pw p q x e) := gExp_eq h hx hx2

def inv (p q x : Int) : Int := x ^ (q - 1).toNat % p

/-- Decryption. -/
def dec (p q s : Int) (c : Int × Int) : Int := prodM p 1 [c.2, inv p q (pw p q c.1 s)]

theorem eDec_eq {p q g s : Int} {c : Int × Int} (h : Gr p q g) (hc : isCi p q c = true) : M_S_eDec ((p, q, g), s, c) = some (dec p q s c) := by
  unfold M_S_eDec dec
  have := h.p3
  simp only [isCi, Bool.and_eq_true] at hc
  have a1 := isEl_range hc.1; have a2 := isEl_range hc.2
  have r1 := pw_range (q := q) (x := c.1) (e := s) (show 1 ≤ p by omega)
  have r2 := inv_range (q := q) (x := pw p q c.1 s) (show 1 ≤ p by omega)
  simp only [gExp_pw h (show 0 ≤ c.1 by omega) (by omega), bindO_some', gInv_eq h r1.1 (by omega), mul2 h (show 0 ≤ c.2 ∧ c.2 ≤ p by omega) (⟨r2.1, by omega⟩ : 0 ≤ pw p q c.1 s ^ (q - 1).toNat % p ∧ _ ≤ p)]
  rfl

theorem containsFuncC_eq {l : List (Int × Int)} {f : Int × Int → Option Bool} {p : Int × Int → Bool} (hl : l.length < 2 ^ 62) (hf : ∀ a ∈ l, f a = some (p a)) : M_slices_ContainsFunc_sI_Cipher_I_Cipher (l, f) = some (l.any p) := by
  obtain ⟨j, h1, h2⟩ := walk_index_mem p f l 0 hf
  unfold M_slices_ContainsFunc_sI_Cipher_I_Cipher
  have : M_slices_IndexFunc_sI_Cipher_I_Cipher (l, f) = some j := by
    unfold M_slices_IndexFunc_sI_Cipher_I_Cipher
    refine (loop_walk l _ _ (fun again i a ha hi => ?_) (fun again => ?_) (by omega)).trans h1
    · simp only [getI_nat, ha, bindO_some', i64_succ (show i < 2 ^ 62 by omega), lt_yes hi, cond_true]
    · simp
  dsimp only
  rw [this, bindO_some', h2]

theorem hasCiphers_eq {p q g : Int} {l : List (Int × Int)} (h : Gr p q g) (hl : l.length < 2 ^ 62) : M_I_Group_hasCiphers ((p, q, g), l) = some (decide (l.length ≤ 24) && l.all (isCi p q)) := by
  unfold M_I_Group_hasCiphers
  have e : decide (((l.length : Nat) : Int) ≤ 24) = decide (l.length ≤ 24) := by rw [decide_eq_decide]; omega
  dsimp only
  rw [e, containsFuncC_eq (p := fun c => !isCi p q c) hl fun a _ => ?_, bindO_some', all_not_any fun _ _ => rfl]
  · cases decide (l.length ≤ 24) <;> rfl
  · unfold M_I_Group_hasCiphers_1
    dsimp only
    rw [hasCipher_eq h]
    rfl

/-- Encryption. -/
def encC (p q g key m r : Int) : Int × Int := (pw p q g r, prodM p 1 [m, pw p q key r])

theorem eEnc_eq {p q g key m r : Int} (h : Gr p q g) (hk : 0 ≤ key ∧ key ≤ p) (hm : 0 ≤ m ∧ m ≤ p) : M_S_eEnc ((p, q, g), key, m, r) = some (encC p q g key m r) := by
  unfold M_S_eEnc encC
  have := h.p3; have := h.g2; have := h.gp
  have r1 := pw_range (q := q) (x := key) (e := r) (show 1 ≤ p by omega)
  simp only [gExp_pw h (show 0 ≤ g by omega) (show g ≤ p by omega), gExp_pw h hk.1 hk.2, bindO_some', mul2 h hm (⟨r1.1, by omega⟩ : 0 ≤ pw p q key r ∧ _ ≤ p)]

theorem hasAll_eq {p q g : Int} {l : List Int} (h : Gr p q g) (hl : l.length < 2 ^ 62) : M_I_Group_hasAll ((p, q, g), l) = some (l.all (isEl p q)) := by
  unfold M_I_Group_hasAll
  dsimp only
  rw [areAll_eq (p := isEl p q) hl fun a _ => by rw [has_eq' h]; rfl]
  rfl

theorem isP_spec {n : Int} (h : isP n = true) : IsP n := by
  unfold isP at h
  exact @of_decide_eq_true _ (Classical.propDecidable _) h

theorem cop_of {P X : Nat} (hp : IsP (P : Int)) (h0 : 1 ≤ X) (h1 : X < P) : Nat.Coprime P X := by
  obtain ⟨h2, hd⟩ := hp
  have g1 := Nat.gcd_dvd_left P X
  have g2 := Nat.gcd_dvd_right P X
  have g3 : P.gcd X ≤ X := Nat.le_of_dvd (by omega) g2
  have g4 : 0 < P.gcd X := Nat.gcd_pos_of_pos_left _ (by omega)
  by_cases hg : P.gcd X = 1
  · exact hg
  · exfalso
    obtain ⟨c, hc⟩ := g1
    generalize hG : P.gcd X = d at *
    have hc2 : 2 ≤ c := by
      rcases Nat.lt_or_ge c 2 with h | h
      · have : c = 0 ∨ c = 1 := by omega
        rcases this with rfl | rfl
        · rw [Nat.mul_zero] at hc; omega
        · rw [Nat.mul_one] at hc; omega
      · exact h
    rcases Nat.le_total d c with h | h
    · refine hd (d : Int) (by omega) ?_ ?_
      · have := Nat.mul_le_mul_left d h
        exact_mod_cast (by omega : d * d ≤ P)
      · exact_mod_cast (by rw [hc]; exact Nat.mul_mod_right d c : P % d = 0)
    · refine hd (c : Int) (by omega) ?_ ?_
      · have := Nat.mul_le_mul_right c h
        exact_mod_cast (by omega : c * c ≤ P)
      · exact_mod_cast (by rw [hc]; exact Nat.mul_mod_left d c : P % c = 0)

theorem one_pow_mod {g p : Int} {a : Nat} (h1 : 1 % p = 1) (h : g ^ a % p = 1) (k : Nat) : (g ^ a) ^ k % p = 1 := by
  rw [← pow_mod, h, Int.one_pow, h1]

theorem gcd_one {g p : Int} (h1 : 1 % p = 1) (a b : Nat) (ha : g ^ a % p = 1) (hb : g ^ b % p = 1) : g ^ (Nat.gcd a b) % p = 1 := by
  induction a, b using Nat.gcd.induction with
  | H0 n => simpa using hb
  | H1 m n hm ih =>
    rw [Nat.gcd_rec]
    refine ih ?_ ha
    have e : g ^ n = (g ^ m) ^ (n / m) * g ^ (n % m) := by
      rw [← Int.pow_mul, ← Int.pow_add, Nat.div_add_mod]
    rw [e, Int.mul_emod, one_pow_mod h1 ha, Int.one_mul, Int.emod_emod_of_dvd _ (Int.dvd_refl p)] at hb
    exact hb

theorem order_ne {p q g : Int} (h : Gr p q g) {e : Nat} (h0 : 1 ≤ e) (h1 : (e : Int) < q) : g ^ e % p ≠ 1 := by
  have h3 := h.p3; have hg2 := h.g2; have hgp := h.gp; have hq2 := h.q2
  intro he
  obtain ⟨Q, rfl⟩ := Int.eq_ofNat_of_zero_le (show 0 ≤ q by omega)
  have hc := cop_of (isP_spec h.pq) h0 (by omega)
  have h11 : (1 : Int) % p = 1 := Int.emod_eq_of_lt (by omega) (by omega)
  have hq := h.gq
  rw [Int.toNat_natCast] at hq
  have := gcd_one h11 Q e hq he
  rw [show Q.gcd e = 1 from hc, Int.pow_one, Int.emod_eq_of_lt (by omega) (by omega)] at this
  omega

/-- The first number from i on, among n. -/
def srch (f : Nat → Bool) : Nat → Nat → Option Nat
  | _, 0 => none
  | i, n + 1 => if f i = true then some i else srch f (i + 1) n

def isLog (p g x : Int) (e : Nat) : Bool := g ^ e % p == x

/-- The number of exponents that are tried. -/
def tries (q : Int) (most : Nat) : Nat := min most (q - 1).toNat + 1

theorem next_pow {p q g : Int} (h : Gr p q g) (i : Nat) : IntKind.wrap .i64 (g ^ i % p * g) = g ^ i % p * g ∧ 0 ≤ g ^ i % p * g ∧ (g ^ i % p * g) % p = g ^ (i + 1) % p := by
  have h3 := h.p3; have hpm := h.pm; have hg2 := h.g2; have hgp := h.gp
  have e1 := Int.emod_nonneg (g ^ i) (show p ≠ 0 by omega)
  have e2 := Int.emod_lt_of_pos (g ^ i) (show 0 < p by omega)
  have e3 : 0 ≤ g ^ i % p * g := Int.mul_nonneg e1 (by omega)
  have e4 : g ^ i % p * g ≤ 2000000000 * 2000000000 := Int.mul_le_mul (by omega) (by omega) (by omega) (by omega)
  refine ⟨i64_in _ (by omega), e3, ?_⟩
  rw [Int.pow_succ, Int.mul_emod, Int.emod_emod_of_dvd _ (Int.dvd_refl p), ← Int.mul_emod]

theorem gLog_eq {p q g x : Int} (h : Gr p q g) {most : Nat} (hm : most ≤ 1000000) : M_S_gLog ((p, q, g), g, x, (most : Int)) = some (match srch (isLog p g x) 0 (tries q most) with | some e => ((e : Int), true) | none => (0, false)) := by
  unfold M_S_gLog
  dsimp only
  have h3 := h.p3; have hpm := h.pm; have hg2 := h.g2; have hgp := h.gp; have hq2 := h.q2; have hqp := h.qp
  have hN : tries q most ≤ most + 1 ∧ tries q most ≤ q.toNat ∧ (tries q most < q.toNat → tries q most = most + 1) ∧ 1 ≤ tries q most := by unfold tries; omega
  have hg0 : guardO (p != 0) = some () := guardO_of (by simp; omega)
  have h11 : (1 : Int) % p = 1 := Int.emod_eq_of_lt (by omega) (by omega)
  refine (loopO_for (σ := Int) (fun i s => (s, (i : Int))) (tries q most) (fun i _ => some (match srch (isLog p g x) i (tries q most - i) with | some e => ((e : Int), true) | none => (0, false))) (fun i s => s = g ^ i % p ∧ (i = tries q most → tries q most = most + 1)) (fun again s hs => ?_) (fun again i s hi hs ih => ?_) (by omega) (i := 0) (s := 1) (Nat.zero_le _) ⟨by simp [h11], by omega⟩).trans (by simp)
  · obtain ⟨rfl, h2⟩ := hs
    have h2 := h2 rfl
    have : decide ((tries q most : Int) ≤ (most : Int)) = false := by simp; omega
    rw [this, cond_false, Nat.sub_self]
    rfl
  · obtain ⟨rfl, h2⟩ := hs
    have : decide ((i : Int) ≤ (most : Int)) = true := by simp; omega
    obtain ⟨n1, n2, n3⟩ := next_pow h i
    simp only [this, cond_true, n1, bindO_some', hg0, tmod_nn n2, n3]
    rw [show tries q most - i = (tries q most - (i + 1)) + 1 by omega, srch]
    by_cases hx : g ^ i % p = x
    · have b : (g ^ i % p == x) = true := by simpa using hx
      rw [b, cond_true, if_pos (show isLog p g x i = true from b)]
    · have b : (g ^ i % p == x) = false := by simpa using hx
      rw [b, cond_false, if_neg (show ¬ isLog p g x i = true by rw [show isLog p g x i = false from b]; simp)]
      by_cases hq : (i + 1 : Nat) = q.toNat
      · have b2 : (g ^ (i + 1) % p == 1) = true := by
          rw [hq, beq_iff_eq]
          exact h.gq
        rw [b2, cond_true, show tries q most - (i + 1) = 0 by omega]
        rfl
      · have b2 : (g ^ (i + 1) % p == 1) = false := by
          rw [beq_eq_false_iff_ne]
          exact order_ne h (by omega) (by omega)
        rw [b2, cond_false, i64_succ (by omega)]
        exact ih _ ⟨rfl, by omega⟩

theorem log_eq {p q g x : Int} (h : Gr p q g) {most : Nat} (hm : most ≤ 1000000) : M_I_Group_log ((p, q, g), g, x, if q - 1 < (most : Int) then q - 1 else (most : Int)) = some (match srch (isLog p g x) 0 (tries q most) with | some e => (e : Int) | none => -1) := by
  have h3 := h.p3; have hpm := h.pm; have hg2 := h.g2; have hgp := h.gp; have hq2 := h.q2; have hqp := h.qp
  have hN : (if q - 1 < (most : Int) then q - 1 else (most : Int)) + 1 = ((tries q most : Nat) : Int) := by
    unfold tries
    split <;> omega
  have hN2 : tries q most ≤ 1000001 := by unfold tries; omega
  have h11 : (1 : Int) % p = 1 := Int.emod_eq_of_lt (by omega) (by omega)
  unfold M_I_Group_log
  dsimp only
  rw [hN, i64_in _ (by omega), bindO_some']
  refine (loopO_for (σ := Int) (fun i s => (s, (i : Int))) (tries q most) (fun i _ => some (match srch (isLog p g x) i (tries q most - i) with | some e => (e : Int) | none => -1)) (fun i s => s = g ^ i % p) (fun again s hs => ?_) (fun again i s hi hs ih => ?_) (by omega) (i := 0) (s := 1) (Nat.zero_le _) (by simp [h11])).trans (by simp)
  · rw [lt_no, cond_false, Nat.sub_self]
    rfl
  · subst hs
    obtain ⟨n1, n2, n3⟩ := next_pow h i
    have e1 := Int.emod_nonneg (g ^ i) (show p ≠ 0 by omega)
    have e2 := Int.emod_lt_of_pos (g ^ i) (show 0 < p by omega)
    have hmul : prodM p 1 [g ^ i % p, g] = g ^ (i + 1) % p := by
      simp only [prodM]
      rw [Int.one_mul, Int.emod_emod_of_dvd _ (Int.dvd_refl p), n3]
    simp only [lt_yes hi, cond_true]
    rw [show tries q most - i = (tries q most - (i + 1)) + 1 by omega, srch]
    by_cases hx : g ^ i % p = x
    · have b : (g ^ i % p == x) = true := by simpa using hx
      rw [b, cond_true, if_pos (show isLog p g x i = true from b)]
    · have b : (g ^ i % p == x) = false := by simpa using hx
      rw [b, cond_false, if_neg (show ¬ isLog p g x i = true by rw [show isLog p g x i = false from b]; simp), mul2' h (show 0 ≤ g ^ i % p ∧ g ^ i % p ≤ p by omega) (show 0 ≤ g ∧ g ≤ p by omega), bindO_some', i64_succ (by omega), bindO_some', hmul]
      exact ih _ rfl

def decStep (f : Int → Option Nat) (_ : Nat) (a : Int) (s : List Int) (k : List Int → Option (List Int × Bool)) : Option (List Int × Bool) :=
  match f a with
  | some e => k (s ++ [(e : Int)])
  | none => some ([], false)

theorem decWalk (f : Int → Option Nat) : ∀ (l : List Int) (i : Nat) (s : List Int), ∃ r b, walkS (decStep f) (fun s => some (s, true)) i l s = some (r, b) ∧ r.length ≤ s.length + l.length
  | [], _, s => ⟨s, true, rfl, by simp⟩
  | a :: l, i, s => by
    rw [walkS, decStep]
    cases f a with
    | none => exact ⟨[], false, rfl, by simp⟩
    | some e =>
      obtain ⟨r, b, h1, h2⟩ := decWalk f l (i + 1) (s ++ [(e : Int)])
      exact ⟨r, b, h1, by simp at h2 ⊢; omega⟩

theorem DecodeTally_eq (p q g : Int) (l : List Int) (m : Int) (hl : l.length < 2 ^ 62) : ∃ r b, M_S_DecodeTally ((p, q, g), l, m) = some (r, b) ∧ M_I_DecodeTally ((p, q, g), l, m) = some (r, b) ∧ r.length ≤ 24 := by
  unfold M_S_DecodeTally M_I_DecodeTally
  dsimp only
  rw [l2Good_eq, IsValidGroup_eq, bindO_some', bindO_some']
  cases hok : okG p q g with
  | false => exact ⟨[], false, rfl, rfl, by simp⟩
  | true =>
    have h := okG_spec hok
    have h3 := h.p3; have hpm := h.pm; have hg2 := h.g2; have hgp := h.gp; have hq2 := h.q2; have hqp := h.qp
    simp only [Bool.not_true, cond_false]
    by_cases h24 : l.length ≤ 24
    · have e1 : decide (((l.length : Nat) : Int) > 24) = false := by simp; omega
      rw [e1]
      simp only [cond_false]
      rw [gIs_eq h hl, hasAll_eq h hl, bindO_some', bindO_some', in_eq, within_eq, bindO_some', bindO_some']
      cases l.all (isEl p q) with
      | false => exact ⟨[], false, rfl, rfl, by simp⟩
      | true =>
        simp only [Bool.not_true, cond_false]
        cases hm : decide (0 ≤ m ∧ m ≤ 1000000) with
        | false => exact ⟨[], false, rfl, rfl, by simp⟩
        | true =>
          simp only [Bool.not_true, cond_false]
          rw [decide_eq_true_eq] at hm
          obtain ⟨M, rfl⟩ := Int.eq_ofNat_of_zero_le hm.1
          obtain ⟨r, b, h1, h2⟩ := decWalk (fun x => srch (isLog p g x) 0 (tries q M)) l 0 []
          refine ⟨r, b, ?_, ?_, by simp at h2; omega⟩
          · refine (loop_walkI (fun i (s : List Int) => (s, i)) l (decStep (fun x => srch (isLog p g x) 0 (tries q M))) (fun s => some (s, true)) (fun i s => s.length = i) (fun i a s k k' ha hi hk => ?_) (fun again i a s ha hi hs => ?_) (fun again s hs => ?_) (by omega) [] rfl).trans h1
            · unfold decStep
              dsimp only
              cases srch (isLog p g a) 0 (tries q M) with
              | none => rfl
              | some e => exact hk _ (by simp [hi])
            · simp only [lt_yes hi, cond_true, getI_nat, ha, bindO_some']
              rw [gLog_eq h (by omega), bindO_some']
              unfold decStep
              dsimp only
              cases srch (isLog p g a) 0 (tries q M) with
              | none => rfl
              | some e =>
                simp only [Bool.not_true, cond_false]
                rw [guardO_of (lenOk_of (by simp; omega)), bindO_some', i64_succ (by omega)]
            · simp only [lt_no, cond_false]
          · refine (loop_walkI (fun i (s : List Int) => (s, i)) l (decStep (fun x => srch (isLog p g x) 0 (tries q M))) (fun s => some (s, true)) (fun i s => s.length = i) (fun i a s k k' ha hi hk => ?_) (fun again i a s ha hi hs => ?_) (fun again s hs => ?_) (by omega) [] rfl).trans h1
            · unfold decStep
              dsimp only
              cases srch (isLog p g a) 0 (tries q M) with
              | none => rfl
              | some e => exact hk _ (by simp [hi])
            · simp only [lt_yes hi, cond_true, getI_nat, ha, bindO_some', i64_in (q - 1) (by omega)]
              rw [log_eq h (by omega), bindO_some']
              unfold decStep
              dsimp only
              cases srch (isLog p g a) 0 (tries q M) with
              | none => rfl
              | some e =>
                have : decide ((e : Int) < 0) = false := by simp
                simp only [this, cond_false]
                rw [guardO_of (lenOk_of (by simp; omega)), bindO_some', i64_succ (by omega)]
            · simp only [lt_no, cond_false]
    · have e1 : decide (((l.length : Nat) : Int) > 24) = true := by simp; omega
      rw [e1]
      exact ⟨[], false, rfl, rfl, by simp⟩

theorem mul_out {p s b : Int} (hs : 0 ≤ s ∧ s < p) : prodM p 1 [s, b] = s * b % p := by
  simp only [prodM]
  rw [Int.one_mul, Int.emod_eq_of_lt hs.1 hs.2]

theorem contest_same : M_I_IsValidContest = M_S_vContest := rfl

theorem choices_same : M_I_Contest_choices = M_S_vMarks := rfl

theorem contest1 (op le mo pt : Int) : ∃ b, M_S_vContest (1, op, le, mo, pt) = some b ∧ (b = true → 1 ≤ op ∧ op ≤ 8) := by
  unfold M_S_vContest
  dsimp only
  cases decide (le < 0) with
  | true => exact ⟨false, rfl, by simp⟩
  | false =>
    cases decide (le > mo) with
    | true => exact ⟨false, rfl, by simp⟩
    | false =>
      simp only [in_eq, bindO_some', cond_false]
      cases h : decide (1 ≤ op ∧ op ≤ 8) with
      | false => exact ⟨false, rfl, by simp⟩
      | true =>
        rw [decide_eq_true_eq] at h
        cases decide (mo ≤ op) with
        | false => exact ⟨false, rfl, by simp⟩
        | true => exact ⟨pt == 0, rfl, fun _ => h⟩

theorem contest2 (op le mo pt : Int) : ∃ b, M_S_vContest (2, op, le, mo, pt) = some b ∧ (b = true → (1 ≤ op ∧ op ≤ 8) ∧ 1 ≤ pt ∧ pt ≤ 5) := by
  unfold M_S_vContest
  dsimp only
  cases decide (le < 0) with
  | true => exact ⟨false, rfl, by simp⟩
  | false =>
    cases decide (le > mo) with
    | true => exact ⟨false, rfl, by simp⟩
    | false =>
      simp only [in_eq, bindO_some', cond_false]
      cases h : decide (1 ≤ op ∧ op ≤ 8) with
      | false => exact ⟨false, rfl, by simp⟩
      | true =>
        rw [decide_eq_true_eq] at h
        cases h2 : decide (1 ≤ pt ∧ pt ≤ 5) with
        | false => exact ⟨false, rfl, by simp⟩
        | true =>
          rw [decide_eq_true_eq] at h2
          exact ⟨decide (mo ≤ IntKind.wrap .i64 (op * pt)), rfl, fun _ => ⟨h, h2⟩⟩

def plain (l : List Int) : Int := l.foldl (fun s a => IntKind.wrap .i64 (s + a)) 0

theorem plainWalk {β : Type} (fin : Int → Option β) : ∀ (l : List Int) (i : Nat) (s : Int), walkS (fun _ a s k => k (IntKind.wrap .i64 (s + a))) fin i l s = fin (l.foldl (fun s a => IntKind.wrap .i64 (s + a)) s)
  | [], _, _ => rfl
  | a :: l, i, s => by
    rw [walkS, plainWalk fin l (i + 1), List.foldl_cons]

theorem plain_loop {β : Type} {body : (Int × Int → Option β) → Int × Int → Option β} (l : List Int) (fin : Int → Option β)
    (h : ∀ (again : Int × Int → Option β) (i : Nat) a s, l[i]? = some a → i < l.length → body again (s, (i : Int)) = again (IntKind.wrap .i64 (s + a), ((i + 1 : Nat) : Int)))
    (hend : ∀ (again : Int × Int → Option β) s, body again (s, (l.length : Int)) = fin s) (hl : l.length < 2 ^ 62) : loopO body (0, 0) = fin (plain l) :=
  (loop_walkS (fun i (s : Int) => (s, i)) l (fun _ a s k => k (IntKind.wrap .i64 (s + a))) fin (fun again i a s ha hi => h again i a s ha hi) hend (by omega) 0).trans (plainWalk fin l 0 0)

theorem vPlain_eq {l : List Int} (hl : l.length < 2 ^ 62) : M_S_vPlain l = some (plain l) := by
  unfold M_S_vPlain
  refine plain_loop l some (fun again i a s ha hi => ?_) (fun again s => ?_) hl
  · simp only [lt_yes hi, cond_true, getI_nat, ha, bindO_some', i64_succ (show i < 2 ^ 62 by omega)]
  · simp only [lt_no, cond_false]

noncomputable def voteB (kd op le mo pt : Int) (v : List Int) : Bool :=
  bif kd == 1 then rising 0 (op - 1) v && decide (le ≤ (v.length : Int) ∧ (v.length : Int) ≤ mo)
  else ((v.length : Int) == op) && ((v.all fun n => decide (0 ≤ n ∧ n ≤ pt)) && decide (le ≤ plain v ∧ plain v ≤ mo))

theorem vVote_eq {kd op le mo pt : Int} {v : List Int} (hk : kd = 1 ∨ kd = 2) (ho : 1 ≤ op ∧ op ≤ 8) (hv : v.length < 2 ^ 62) : M_S_vVote ((kd, op, le, mo, pt), v) = some (voteB kd op le mo pt v) := by
  unfold M_S_vVote voteB
  dsimp only
  rcases hk with rfl | rfl
  · rw [show ((1 : Int) == 1) = true from rfl, cond_true, cond_true, i64_in _ (by omega), bindO_some', l1Rising_eq hv, bindO_some', in_eq]
    cases rising 0 (op - 1) v <;> rfl
  · rw [show ((2 : Int) == 1) = false from rfl, show ((2 : Int) == 2) = true from rfl, cond_false, cond_false, cond_true, l1All_eq hv, bindO_some', vPlain_eq hv, bindO_some', in_eq]
    cases ((v.length : Int) == op) <;> cases (v.all fun n => decide (0 ≤ n ∧ n ≤ pt)) <;> rfl

theorem isVote_eq {kd op le mo pt : Int} {v : List Int} (hk : kd = 1 ∨ kd = 2) (ho : 1 ≤ op ∧ op ≤ 8) (hv : v.length < 2 ^ 62) : M_I_Contest_isVote ((kd, op, le, mo, pt), v) = some (voteB kd op le mo pt v) := by
  unfold M_I_Contest_isVote voteB
  dsimp only
  have hall : ∀ lo hi : Int, M_I_areAll (v, fun a => bindO (M_I_Contest_isVote_2 (a, lo, hi)) fun b => some b) = some (v.all fun n => decide (lo ≤ n ∧ n ≤ hi)) := fun lo hi => areAll_eq hv fun a _ => by
    unfold M_I_Contest_isVote_2
    dsimp only
    rw [within_eq]
    rfl
  have hall1 : ∀ c, M_I_areAll (v, fun a => bindO (M_I_Contest_isVote_1 (a, (c, op, le, mo, pt))) fun b => some b) = some (v.all fun n => decide (0 ≤ n ∧ n ≤ pt)) := fun c => areAll_eq hv fun a _ => by
    unfold M_I_Contest_isVote_1
    dsimp only
    rw [within_eq]
    rfl
  rw [i64_in _ (by omega), bindO_some']
  rcases hk with rfl | rfl
  · rw [show ((1 : Int) == 2) = false from rfl, show ((1 : Int) == 1) = true from rfl, show ((1 : Int) == 4) = false from rfl, cond_false, cond_false, cond_true, cond_true, within_eq, bindO_some', hall, bindO_some', isSorted_eq hv, bindO_some', areDifferent_eq hv, rising_parts]
    cases decide (le ≤ (v.length : Int) ∧ (v.length : Int) ≤ mo) <;> cases (v.all fun n => decide (0 ≤ n ∧ n ≤ op - 1)) <;> cases sortedB v <;> cases nodupB v <;> rfl
  · rw [show ((2 : Int) == 2) = true from rfl, show ((2 : Int) == 1) = false from rfl, show ((2 : Int) == 3) = false from rfl, cond_true, cond_false]
    by_cases hl : (v.length : Int) = op
    · have b1 : ((v.length : Int) != op) = false := by simp [hl]
      have b2 : ((v.length : Int) == op) = true := by simp [hl]
      rw [b1, b2, cond_false, hall1, bindO_some']
      cases ha : (v.all fun n => decide (0 ≤ n ∧ n ≤ pt)) with
      | false => rfl
      | true =>
        simp only [Bool.not_true, cond_false, Bool.true_and]
        refine (plain_loop v (fun s => some (decide (le ≤ s ∧ s ≤ mo))) (fun again i a s ha hi => ?_) (fun again s => ?_) hv)
        · simp only [lt_yes hi, cond_true, getI_nat, ha, bindO_some', i64_succ (show i < 2 ^ 62 by omega)]
        · simp only [lt_no, cond_false]
          rw [within_eq, bindO_some', hall, ha]
          cases decide (le ≤ s ∧ s ≤ mo) <;> rfl
    · have b1 : ((v.length : Int) != op) = true := by simp [hl]
      have b2 : ((v.length : Int) == op) = false := by simp [hl]
      rw [b1, b2]
      rfl

def marksOf (op : Int) (v : List Int) : List Int := v.foldl (fun s a => s.set a.toNat 1) (List.replicate op.toNat 0)

theorem marksWalk : ∀ (l : List Int) (i : Nat) (s : List Int), walkS (fun _ a s k => k (s.set a.toNat 1)) some i l s = some (l.foldl (fun s a => s.set a.toNat 1) s)
  | [], _, _ => rfl
  | a :: l, i, s => by
    rw [walkS, marksWalk l (i + 1), List.foldl_cons]

theorem foldl_set_len : ∀ (l : List Int) (s : List Int), (l.foldl (fun s a => s.set a.toNat 1) s).length = s.length
  | [], _ => rfl
  | a :: l, s => by rw [List.foldl_cons, foldl_set_len l, List.length_set]

theorem marksOf_len (op : Int) (v : List Int) : (marksOf op v).length = op.toNat := by
  unfold marksOf
  rw [foldl_set_len, List.length_replicate]

theorem vMarks_eq {kd op le mo pt : Int} {v : List Int} (ho : 1 ≤ op ∧ op ≤ 8) (hv : v.length < 2 ^ 62) (ha : ∀ a ∈ v, 0 ≤ a ∧ a ≤ op - 1) : M_S_vMarks ((kd, op, le, mo, pt), v) = some (marksOf op v) := by
  unfold M_S_vMarks
  dsimp only
  rw [guardO_of (by rw [lim_eq]; simp; omega), bindO_some']
  refine (loop_walkI (fun i (s : List Int) => (i, s)) v (fun _ a s k => k (s.set a.toNat 1)) some (fun _ s => s.length = op.toNat) (fun i a s k k' _ hi hk => hk _ (by rw [List.length_set]; exact hi)) (fun again i a s h1 hi hs => ?_) (fun again s hs => ?_) (by omega) (List.replicate op.toNat 0) (by simp)).trans (marksWalk v 0 _)
  · have h2 := ha a (List.mem_of_getElem? h1)
    obtain ⟨n, rfl⟩ := Int.eq_ofNat_of_zero_le h2.1
    simp only [lt_yes hi, cond_true, getI_nat, h1, bindO_some', List.getElem?_eq_getElem (show n < s.length by omega), i64_succ (show i < 2 ^ 62 by omega)]
  · simp only [lt_no, cond_false]

def addR : Nat → List Int → List Int → List Int
  | _, [], s => s
  | i, a :: t, s => addR (i + 1) t (s.set i (IntKind.wrap .i64 (s.getD i 0 + a)))

theorem addR_len : ∀ (i : Nat) (e s : List Int), (addR i e s).length = s.length
  | _, [], _ => rfl
  | i, a :: t, s => by rw [addR, addR_len (i + 1) t, List.length_set]

def addStep {β : Type} (i : Nat) (a : Int) (s : List Int) (k : List Int → Option β) : Option β := k (s.set i (IntKind.wrap .i64 (s.getD i 0 + a)))

theorem addWalk {β : Type} (K : List Int → Option β) : ∀ (e : List Int) (i : Nat) (s : List Int), walkS addStep K i e s = K (addR i e s)
  | [], _, _ => rfl
  | a :: e, i, s => by rw [walkS, addStep, addWalk K e (i + 1), addR]

theorem add_loop {β : Type} {body : (Int × List Int → Option β) → Int × List Int → Option β} (e out : List Int) (K : List Int → Option β)
    (hb : ∀ again s, body again s = cond (decide (s.1 < ((e.length : Nat) : Int))) (bindO (getI e s.1) fun a7 => bindO (getI s.2 s.1) fun a8 => bindO (some (IntKind.wrap .i64 (a8 + a7))) fun a9 => bindO (getI s.2 s.1) fun _ => bindO (some (List.set s.2 (Int.toNat s.1) a9)) fun a11 => bindO (some (IntKind.wrap .i64 (s.1 + 1))) fun a12 => again (a12, a11)) (K s.2))
    (hl : out.length = e.length) (he : e.length < 2 ^ 60) : loopO body (0, out) = K (addR 0 e out) := by
  refine (loop_walkI (fun i (s : List Int) => (i, s)) e addStep K (fun _ s => s.length = e.length) (fun i a s k k' _ hi hk => hk _ (by rw [List.length_set]; exact hi)) (fun again i a s h1 hi hs => ?_) (fun again s hs => ?_) (by omega) out hl).trans (addWalk K e 0 out)
  · rw [hb]
    have h2 := List.getElem?_eq_getElem (show i < s.length by omega)
    simp only [lt_yes hi, cond_true, getI_nat, h1, h2, bindO_some', Int.toNat_natCast, i64_succ (show i < 2 ^ 62 by omega)]
    unfold addStep
    rw [List.getD_eq_getElem?_getD, h2]
    rfl
  · rw [hb]
    simp only [lt_no, cond_false]

def expsOf (kd op : Int) (v : List Int) : List Int := bif kd == 1 then marksOf op v else v

theorem voteB_spec {kd op le mo pt : Int} {v : List Int} (hk : kd = 1 ∨ kd = 2) (ho : 1 ≤ op ∧ op ≤ 8) (h : voteB kd op le mo pt v = true) : (kd = 1 → ∀ a ∈ v, 0 ≤ a ∧ a ≤ op - 1) ∧ (expsOf kd op v).length = op.toNat := by
  rcases hk with rfl | rfl
  · simp only [voteB, show ((1 : Int) == 1) = true from rfl, cond_true, rising_parts, Bool.and_eq_true, List.all_eq_true, decide_eq_true_eq] at h
    exact ⟨fun _ => h.1.1, marksOf_len op v⟩
  · simp only [voteB, show ((2 : Int) == 1) = false from rfl, cond_false, Bool.and_eq_true, beq_iff_eq] at h
    refine ⟨fun h => by omega, ?_⟩
    show v.length = op.toNat
    omega

theorem vExps_eq {kd op le mo pt : Int} {v : List Int} (hk : kd = 1 ∨ kd = 2) (ho : 1 ≤ op ∧ op ≤ 8) (hv : v.length ≤ 1048576) (h : voteB kd op le mo pt v = true) : M_S_vExps ((kd, op, le, mo, pt), v) = some (expsOf kd op v) ∧ M_I_Contest_exponents ((kd, op, le, mo, pt), v) = some (expsOf kd op v) := by
  have hs := voteB_spec hk ho h
  unfold M_S_vExps M_I_Contest_exponents M_I_Contest_digits
  dsimp only
  rcases hk with rfl | rfl
  · have := vMarks_eq (kd := 1) (le := le) (mo := mo) (pt := pt) ho (show v.length < 2 ^ 62 by omega) (hs.1 rfl)
    rw [choices_same, this]
    exact ⟨rfl, rfl⟩
  · rw [own_eq hv, clone_eq hv]
    exact ⟨rfl, rfl⟩

def tally (kd op : Int) (vs : List (List Int)) (s : List Int) : List Int := vs.foldl (fun out v => addR 0 (expsOf kd op v) out) s

theorem tally_len (kd op : Int) : ∀ (vs : List (List Int)) (s : List Int), (tally kd op vs s).length = s.length
  | [], _ => rfl
  | v :: vs, s => by
    show (tally kd op vs (addR 0 (expsOf kd op v) s)).length = _
    rw [tally_len kd op vs, addR_len]

theorem tallyWalk (kd op : Int) : ∀ (vs : List (List Int)) (i : Nat) (s : List Int), walkS (fun _ v s k => k (addR 0 (expsOf kd op v) s)) some i vs s = some (tally kd op vs s)
  | [], _, _ => rfl
  | v :: vs, i, s => by
    rw [walkS, tallyWalk kd op vs (i + 1)]
    rfl

noncomputable def voteStep (kd op le mo pt : Int) (_ : Nat) (v s : List Int) (k : List Int → Option (List Int × Bool)) : Option (List Int × Bool) := bif voteB kd op le mo pt v then k (addR 0 (expsOf kd op v) s) else some ([], false)

theorem voteWalk (kd op le mo pt : Int) : ∀ (vs : List (List Int)) (i : Nat) (s : List Int), walkS (voteStep kd op le mo pt) (fun s => some (s, true)) i vs s = bif vs.all (voteB kd op le mo pt) then some (tally kd op vs s, true) else some ([], false)
  | [], _, _ => rfl
  | v :: vs, i, s => by
    rw [walkS, voteStep, List.all_cons]
    cases voteB kd op le mo pt v with
    | false => rfl
    | true =>
      simp only [cond_true, Bool.true_and]
      rw [voteWalk kd op le mo pt vs (i + 1)]
      rfl

theorem tTally_eq {kd op le mo pt : Int} {vs : List (List Int)} (hk : kd = 1 ∨ kd = 2) (ho : 1 ≤ op ∧ op ≤ 8) (hn : vs.length ≤ 24) (hv : ∀ v ∈ vs, v.length ≤ 1048576) (hb : vs.all (voteB kd op le mo pt) = true) : M_S_tTally ((kd, op, le, mo, pt), vs) = some (tally kd op vs (List.replicate op.toNat 0)) := by
  unfold M_S_tTally
  dsimp only
  rw [guardO_of (by rw [lim_eq]; simp; omega), bindO_some']
  refine (loop_walkI (fun i (s : List Int) => (i, s)) vs (fun _ v s k => k (addR 0 (expsOf kd op v) s)) some (fun _ s => s.length = op.toNat) (fun i a s k k' _ hi hk => hk _ (by rw [addR_len]; exact hi)) (fun again i a s h1 hi hs => ?_) (fun again s hs => ?_) (by omega) (List.replicate op.toNat 0) (by simp)).trans (tallyWalk kd op vs 0 _)
  · have hm := List.mem_of_getElem? h1
    have hvb := List.all_eq_true.1 hb a hm
    have hl := (voteB_spec hk ho hvb).2
    dsimp only
    rw [lt_yes hi, cond_true, getI_nat, h1, bindO_some', (vExps_eq hk ho (hv a hm) hvb).1, bindO_some']
    refine (add_loop (expsOf kd op a) s (fun t => bindO (some (IntKind.wrap .i64 ((i : Int) + 1))) fun a13 => again (a13, t)) (fun _ _ => rfl) (by omega) (by omega)).trans ?_
    rw [i64_succ (by omega)]
    rfl
  · simp only [lt_no, cond_false]

theorem TallyVotes_eq (kd op le mo pt : Int) (vs : List (List Int)) (hv : ∀ v ∈ vs, v.length ≤ 1048576) : ∃ r b, M_S_TallyVotes ((kd, op, le, mo, pt), vs) = some (r, b) ∧ M_I_TallyVotes ((kd, op, le, mo, pt), vs) = some (r, b) ∧ r.length ≤ 24 := by
  by_cases hk : kd = 1 ∨ kd = 2
  · obtain ⟨b, hb, hbs⟩ : ∃ b, M_S_vContest (kd, op, le, mo, pt) = some b ∧ (b = true → 1 ≤ op ∧ op ≤ 8) := by
      rcases hk with rfl | rfl
      · exact contest1 op le mo pt
      · obtain ⟨b, h1, h2⟩ := contest2 op le mo pt
        exact ⟨b, h1, fun h => (h2 h).1⟩
    have hS : M_S_TallyVotes ((kd, op, le, mo, pt), vs) = bindO (M_S_tVotes ((kd, op, le, mo, pt), vs)) fun a => cond (not a) (some ([], false)) (bindO (M_S_tTally ((kd, op, le, mo, pt), vs)) fun t => some (t, true)) := by
      rcases hk with rfl | rfl <;> rfl
    have hF : M_I_Contest_isForm (kd, op, le, mo, pt) = some true := by
      rcases hk with rfl | rfl <;> rfl
    rw [hS]
    unfold M_S_tVotes M_I_TallyVotes
    dsimp only
    rw [contest_same, hb, bindO_some', bindO_some', hF, bindO_some']
    cases b with
    | false => exact ⟨[], false, rfl, rfl, by simp⟩
    | true =>
      have ho := hbs rfl
      simp only [Bool.not_true, cond_false]
      by_cases h24 : vs.length ≤ 24
      · have e1 : decide (((vs.length : Nat) : Int) > 24) = false := by simp; omega
        rw [e1]
        simp only [cond_false]
        have hV : ∀ v ∈ vs, v.length < 2 ^ 62 := fun v hm => by have := hv v hm; omega
        have h1 := (loop_walk (body := fun (again1 : Int → Option Bool) (s2 : Int) => cond (decide (s2 < ((List.length vs : Nat) : Int))) (bindO (getI vs s2) fun (a3 : List Int) => bindO (M_S_vVote ((kd, op, le, mo, pt), a3)) fun (a4 : Bool) => cond (not a4) (some false) (bindO (some (IntKind.wrap .i64 (s2 + 1))) fun (a5 : Int) => again1 a5)) (some true)) vs (fun _ r k => if voteB kd op le mo pt r = true then k else some false) (some true) (fun again i a ha hi => by
          simp only [getI_nat, ha, bindO_some', i64_succ (show i < 2 ^ 62 by omega), lt_yes hi, cond_true, vVote_eq hk ho (hV a (List.mem_of_getElem? ha))]
          cases voteB kd op le mo pt a <;> rfl) (fun again => by simp) (by omega)).trans (walk_all (voteB kd op le mo pt) vs 0)
        have h2 : loopO (fun (again1 : Int → Option Bool) (s2 : Int) => cond (decide (s2 < ((List.length vs : Nat) : Int))) (bindO (getI vs s2) fun (a3 : List Int) => bindO (M_S_vVote ((kd, op, le, mo, pt), a3)) fun (a4 : Bool) => cond (not a4) (some false) (bindO (some (IntKind.wrap .i64 (s2 + 1))) fun (a5 : Int) => again1 a5)) (some true)) 0 = some (vs.all (voteB kd op le mo pt)) := h1
        rw [h2, bindO_some', guardO_of (by rw [lim_eq]; simp; omega), bindO_some']
        have hI : ∀ {y : Option (List Int × Bool)}, y = walkS (voteStep kd op le mo pt) (fun s => some (s, true)) 0 vs (List.replicate op.toNat 0) → y = bif vs.all (voteB kd op le mo pt) then some (tally kd op vs (List.replicate op.toNat 0), true) else some ([], false) := fun h => h.trans (voteWalk kd op le mo pt vs 0 _)
        rw [hI (loop_walkI (fun i (s : List Int) => (i, s)) vs (voteStep kd op le mo pt) (fun s => some (s, true)) (fun _ s => s.length = op.toNat) (fun i a s k k' _ hi hk => by
            unfold voteStep
            cases voteB kd op le mo pt a with
            | false => rfl
            | true => exact hk _ (by rw [addR_len]; exact hi)) (fun again i a s h1 hi hs => by
            have hm := List.mem_of_getElem? h1
            dsimp only
            rw [lt_yes hi, cond_true, getI_nat, h1, bindO_some', isVote_eq hk ho (hV a hm), bindO_some']
            unfold voteStep
            cases hvb : voteB kd op le mo pt a with
            | false => rfl
            | true =>
              have hl := (voteB_spec hk ho hvb).2
              rw [Bool.not_true, cond_false, cond_true, (vExps_eq hk ho (hv a hm) hvb).2, bindO_some']
              refine (add_loop (expsOf kd op a) s (fun t => bindO (some (IntKind.wrap .i64 ((i : Int) + 1))) fun a13 => again (a13, t)) (fun _ _ => rfl) (by omega) (by omega)).trans ?_
              rw [i64_succ (by omega)]
              rfl) (fun again s hs => by simp only [lt_no, cond_false]) (by omega) (List.replicate op.toNat 0) (by simp))]
        cases hall : vs.all (voteB kd op le mo pt) with
        | false => exact ⟨[], false, rfl, rfl, by simp⟩
        | true =>
          refine ⟨tally kd op vs (List.replicate op.toNat 0), true, ?_, rfl, by rw [tally_len, List.length_replicate]; omega⟩
          rw [tTally_eq hk ho h24 hv hall]
          rfl
      · have e1 : decide (((vs.length : Nat) : Int) > 24) = true := by simp; omega
        rw [e1]
        exact ⟨[], false, rfl, rfl, by simp⟩
  · have h1 : kd ≠ 1 := fun h => hk (.inl h)
    have h2 : kd ≠ 2 := fun h => hk (.inr h)
    have b1 : (kd != 1) = true := by simpa using h1
    have b2 : (kd != 2) = true := by simpa using h2
    have c1 : (kd == 1) = false := by simpa using h1
    have c2 : (kd == 2) = false := by simpa using h2
    refine ⟨[], false, ?_, ?_, by simp⟩
    · unfold M_S_TallyVotes
      dsimp only
      rw [b1, b2]
      rfl
    · have hF : M_I_Contest_isForm (kd, op, le, mo, pt) = some false := by
        unfold M_I_Contest_isForm
        dsimp only
        rw [c1, c2]
        rfl
      have hc : ∃ b, M_I_IsValidContest (kd, op, le, mo, pt) = some b := by
        unfold M_I_IsValidContest
        dsimp only
        rw [c1, c2]
        simp only [within_eq, bindO_some', cond_false]
        cases decide (le < 0) <;> cases decide (le > mo) <;> cases (kd == 3) <;> cases (kd == 4) <;> cases decide (1 ≤ op ∧ op ≤ 8) <;> cases decide (mo ≤ op) <;> cases (op == 0) <;> cases decide (mo ≤ 5) <;> exact ⟨_, rfl⟩
      obtain ⟨b, hb⟩ := hc
      unfold M_I_TallyVotes
      dsimp only
      rw [hb, bindO_some', hF]
      cases b <;> rfl

/-- The place of k in a ranking; 8 if it has none. -/
def place : List Int → Nat → Int → Int
  | [], _, _ => 8
  | x :: r, i, k => bif x == k then (i : Int) else place r (i + 1) k

theorem isEl_in {p q x : Int} (hx : isEl p q x = true) : 0 ≤ x ∧ x ≤ p := by
  have := isEl_range hx
  omega

theorem getD_at {α : Type} {l : List α} {i : Nat} {d : α} (h : i < l.length) : l[i]? = some (l.getD i d) := by
  rw [List.getElem?_eq_getElem h, List.getD_eq_getElem?_getD, List.getElem?_eq_getElem h]
  rfl

theorem isEl_of {p q g t : Int} (h : Gr p q g) (ht : t ^ q.toNat % p = 1) : isEl p q (t % p) = true := by
  have h3 := h.p3; have h2 := h.q2
  have e1 : (t % p) ^ q.toNat % p = 1 := by rw [pow_mod, ht]
  have e2 := Int.emod_nonneg t (show p ≠ 0 by omega)
  have e3 := Int.emod_lt_of_pos t (show 0 < p by omega)
  have e4 : t % p ≠ 0 := by
    intro h0
    rw [h0, Int.zero_pow (show q.toNat ≠ 0 by omega)] at e1
    simp at e1
  unfold isEl
  rw [e1]
  simp only [BEq.rfl, Bool.and_true, decide_eq_true_eq]
  omega

theorem pow_one_mod {p t : Int} {k n : Nat} (hp : 3 ≤ p) (h : t ^ n % p = 1) : (t ^ k) ^ n % p = 1 := by
  rw [← Int.pow_mul, Nat.mul_comm, Int.pow_mul, ← pow_mod, h, Int.one_pow]
  exact Int.emod_eq_of_lt (by omega) (by omega)

theorem isEl_pow {p q g x : Int} (h : Gr p q g) (hx : isEl p q x = true) (k : Nat) : isEl p q (x ^ k % p) = true := isEl_of h (pow_one_mod h.p3 (isEl_range hx).2.2)

theorem isEl_g {p q g : Int} (h : Gr p q g) : isEl p q g = true := by
  have := h.g2; have := h.gp
  unfold isEl
  rw [h.gq]
  simp only [BEq.rfl, Bool.and_true, decide_eq_true_eq]
  omega

theorem eKey_eq {p q g k : Int} : M_S_eKey ((p, q, g), k) = some (okG p q g && isEl p q k) := by
  unfold M_S_eKey
  dsimp only
  rw [l2Good_eq, bindO_some']
  cases hok : okG p q g
  · rfl
  rw [cond_true, gIs_eq (okG_spec hok) (by simp), bindO_some']
  simp

theorem mul_one {p x : Int} (hp : 2 ≤ p) (hx : 0 ≤ x ∧ x < p) : prodM p 1 [1, x] = x := by
  rw [mul_out (by omega), Int.one_mul, Int.emod_eq_of_lt hx.1 hx.2]

theorem over_mul {p q g a y : Int} (h : Gr p q g) (ha : isEl p q a = true) (hy : 0 ≤ y ∧ y < p) : over p q (prodM p 1 [a, y]) a = y := by
  have h3 := h.p3; have h2 := h.q2
  have r := isEl_range ha
  have e1 : a * a ^ (q - 1).toNat = a ^ q.toNat := by
    rw [show q.toNat = (q - 1).toNat + 1 by omega, Int.pow_succ, Int.mul_comm]
  have e2 : prodM p 1 [a, y] = a * y % p := mul_out (by omega)
  have e3 : 0 ≤ a * y % p ∧ a * y % p < p := ⟨Int.emod_nonneg _ (by omega), Int.emod_lt_of_pos _ (by omega)⟩
  unfold over
  rw [e2, mul_out e3, ← Int.mul_emod, Int.mul_right_comm, e1, Int.mul_emod, r.2.2, Int.one_mul, Int.emod_emod_of_dvd _ (Int.dvd_refl p), Int.emod_eq_of_lt hy.1 hy.2]

def mulC (p : Int) (a b : Int × Int) : Int × Int := (prodM p 1 [a.1, b.1], prodM p 1 [a.2, b.2])

theorem mulTwo_eq {p q g : Int} {a b : Int × Int} (h : Gr p q g) (ha : (0 ≤ a.1 ∧ a.1 ≤ p) ∧ 0 ≤ a.2 ∧ a.2 ≤ p) (hb : (0 ≤ b.1 ∧ b.1 ≤ p) ∧ 0 ≤ b.2 ∧ b.2 ≤ p) : M_I_Group_mulTwo ((p, q, g), a, b) = some (mulC p a b) := by
  unfold M_I_Group_mulTwo
  dsimp only
  rw [mul2' h ha.1 hb.1, bindO_some', mul2' h ha.2 hb.2, bindO_some']
  rfl

theorem isCi_in {p q : Int} {c : Int × Int} (h : isCi p q c = true) : (0 ≤ c.1 ∧ c.1 ≤ p) ∧ 0 ≤ c.2 ∧ c.2 ≤ p := by
  simp only [isCi, Bool.and_eq_true] at h
  exact ⟨isEl_in h.1, isEl_in h.2⟩

theorem eGood1_eq {p q g : Int} {c : Int × Int} (h : Gr p q g) : M_S_eGood ((p, q, g), [c]) = some (isCi p q c) := by
  rw [eGood_eq h]
  simp

theorem eq_dec' (a b : Nat) : (((a : Nat) : Int) == ((b : Nat) : Int)) = (a == b) := by
  rw [Bool.eq_iff_iff]
  simp only [beq_iff_eq]
  omega

theorem getD_is {α : Type} {l : List α} {i : Nat} {a d : α} (h : l[i]? = some a) : l.getD i d = a := by
  rw [List.getD_eq_getElem?_getD, h]
  rfl

abbrev El := Int × Int × Int × Int

def e0 : El := (0, 0, 0, 0)

theorem guard_loopE {β τ : Type} {n : Nat} (enc : Nat → τ) (c : Nat → Bool) (yes no : Option β) {body : (τ → Option β) → τ → Option β} (hn : n < 2 ^ 62)
    (h : ∀ (again : τ → Option β) (i : Nat), i < n → (∀ j, j < i → c j = true) → body again (enc i) = bif c i then again (enc (i + 1)) else no)
    (hend : (∀ i, i < n → c i = true) → ∀ again : τ → Option β, body again (enc n) = yes) : loopO body (enc 0) = bif (List.range n).all c then yes else no := by
  have hlen : (List.range n).length = n := List.length_range
  by_cases hall : ∀ i, i < n → c i = true
  · rw [show (List.range n).all c = true from by simpa using hall, cond_true]
    refine (loopO_for (σ := Unit) (fun i _ => enc i) n (fun _ _ => yes) (fun _ _ => True) (fun again _ _ => hend hall again) (fun again i _ hi _ ih => ?_) (by omega) (i := 0) (s := ()) (Nat.zero_le _) trivial).trans rfl
    rw [h again i hi (fun j hj => hall j (by omega)), hall i hi, cond_true]
    exact ih () trivial
  · have hf : (List.range n).all c = false := by
      rw [Bool.eq_false_iff]
      intro hh
      exact hall (by simpa using hh)
    rw [hf, cond_false]
    refine (loopO_for (σ := Unit) (fun i _ => enc i) n (fun _ _ => no) (fun i _ => ∀ j, j < i → c j = true) (fun again _ hg => absurd hg hall) (fun again i _ hi hg ih => ?_) (by omega) (i := 0) (s := ()) (Nat.zero_le _) (fun j hj => by omega)).trans rfl
    rw [h again i hi hg]
    cases hc : c i
    · rfl
    · rw [cond_true]
      refine ih () fun j hj => ?_
      rcases Nat.lt_or_ge j i with h1 | h1
      · exact hg j h1
      · obtain rfl : j = i := by omega
        exact hc

theorem bits_255 (x : Int) : 0 ≤ Vd.bits .and .u64 x 255 ∧ Vd.bits .and .u64 x 255 ≤ 255 := by
  have h : (BitVec.ofInt (IntKind.bits .u64) x &&& BitVec.ofInt (IntKind.bits .u64) 255).toNat ≤ 255 := by
    rw [BitVec.toNat_and]
    exact Nat.le_trans Nat.and_le_right (by decide)
  show 0 ≤ IntKind.wrap .u64 ((BitVec.ofInt (IntKind.bits .u64) x &&& BitVec.ofInt (IntKind.bits .u64) 255).toNat : Int) ∧ IntKind.wrap .u64 ((BitVec.ofInt (IntKind.bits .u64) x &&& BitVec.ofInt (IntKind.bits .u64) 255).toNat : Int) ≤ 255
  generalize (BitVec.ofInt (IntKind.bits .u64) x &&& BitVec.ofInt (IntKind.bits .u64) 255).toNat = n at h ⊢
  rw [wrap_u64 (by omega)]
  omega

def Bytes (code : List Int) : Prop := ∀ a ∈ code, 0 ≤ a ∧ a ≤ 255

theorem next_ok {code : List Int} {pos seed : Int} (hb : Bytes code) (h0 : 0 ≤ pos) (h1 : pos ≤ 2 ^ 40) : ∃ v seed', M_S_l1Cur_next (code, pos, seed) = some (v, code, pos + 1, seed') ∧ 0 ≤ v ∧ v ≤ 255 := by
  obtain ⟨k, rfl⟩ : ∃ k : Nat, pos = (k : Int) := ⟨pos.toNat, by omega⟩
  unfold M_S_l1Cur_next
  dsimp only
  by_cases hl : k < code.length
  · have hg := List.getElem?_eq_getElem hl
    have ha := hb _ (List.getElem_mem hl)
    rw [lt_yes hl, cond_true, getI_nat, hg, bindO_some', i64_in ((k : Int) + 1) (by omega), bindO_some', bindO_some', bindO_some', bindO_some', decide_eq_true (show (k : Int) + 1 ≤ ((code.length : Nat) : Int) by omega), cond_true, i64_in code[k] (by omega)]
    exact ⟨_, _, rfl, ha.1, ha.2⟩
  · rw [decide_eq_false (show ¬ (k : Int) < ((code.length : Nat) : Int) by omega), cond_false, i64_in ((k : Int) + 1) (by omega), bindO_some', bindO_some', bindO_some', bindO_some', decide_eq_false (show ¬ (k : Int) + 1 ≤ ((code.length : Nat) : Int) by omega), cond_false, guardO_of (by decide), bindO_some', bindO_some', bindO_some']
    have hx := bits_255 (shr .u64 (IntKind.wrap .u64 (IntKind.wrap .u64 (IntKind.wrap .u64 (seed * 6364136223846793005) + IntKind.wrap .u64 0) + 1442695040888963407)) 40)
    rw [i64_in _ (by omega)]
    exact ⟨_, _, rfl, hx.1, hx.2⟩

theorem pick_ok {code : List Int} {pos seed n : Int} (hb : Bytes code) (h0 : 0 ≤ pos) (h1 : pos ≤ 2 ^ 39) (hn : n ≤ 2 ^ 40) : ∃ v pos' seed', M_S_l1Cur_pick ((code, pos, seed), n) = some (v, code, pos', seed') ∧ 0 ≤ v ∧ v ≤ 65535 ∧ (n ≤ 1 → v = 0) ∧ (1 < n → v < n) ∧ pos ≤ pos' ∧ pos' ≤ pos + 2 := by
  unfold M_S_l1Cur_pick
  dsimp only
  by_cases hn1 : n ≤ 1
  · rw [decide_eq_true hn1, cond_true]
    exact ⟨_, _, _, rfl, by omega, by omega, fun _ => rfl, fun h => by omega, by omega, by omega⟩
  have hg0 : guardO (n != 0) = some () := guardO_of (bne_iff_ne.2 (by omega))
  obtain ⟨v, s1, e1, v1, v2⟩ := next_ok (seed := seed) hb h0 (by omega)
  rw [decide_eq_false hn1, cond_false, e1, bindO_some']
  dsimp only
  by_cases h2 : n > 200
  · obtain ⟨w, s2, e2, w1, w2⟩ := next_ok (seed := s1) hb (show 0 ≤ pos + 1 by omega) (by omega)
    rw [decide_eq_true h2, cond_true, i64_in _ (by omega), bindO_some', e2, bindO_some']
    dsimp only
    rw [i64_in _ (by omega), bindO_some', hg0, bindO_some', tmod_nn (by omega), bindO_some']
    have r1 := Int.emod_nonneg (v * 256 + w) (show n ≠ 0 by omega)
    have r2 := Int.emod_lt_of_pos (v * 256 + w) (show 0 < n by omega)
    have r3 : (v * 256 + w) % n ≤ v * 256 + w := by
      by_cases hlt : v * 256 + w < n
      · rw [Int.emod_eq_of_lt (by omega) hlt]
        exact Int.le_refl _
      · omega
    exact ⟨_, _, _, rfl, r1, by omega, fun h => by omega, fun _ => r2, by omega, by omega⟩
  · rw [decide_eq_false h2, cond_false, hg0, bindO_some', tmod_nn v1, bindO_some']
    have r1 := Int.emod_nonneg v (show n ≠ 0 by omega)
    have r2 := Int.emod_lt_of_pos v (show 0 < n by omega)
    exact ⟨_, _, _, rfl, r1, by omega, fun h => by omega, fun _ => r2, by omega, by omega⟩

theorem one_ok {code : List Int} {pos seed n : Int} (hb : Bytes code) (h0 : 0 ≤ pos) (h1 : pos ≤ 2 ^ 39) (hn : n ≤ 2 ^ 40) : ∃ b pos' seed', M_S_l1Cur_one ((code, pos, seed), n) = some (b, code, pos', seed') ∧ pos ≤ pos' ∧ pos' ≤ pos + 2 := by
  obtain ⟨v, p, s, e, -, -, -, -, h3, h4⟩ := pick_ok (seed := seed) hb h0 h1 hn
  refine ⟨v == 0, p, s, ?_, h3, h4⟩
  unfold M_S_l1Cur_one
  dsimp only
  rw [e, bindO_some']

theorem among_ok {code l : List Int} {pos seed : Int} (hb : Bytes code) (h0 : 0 ≤ pos) (h1 : pos ≤ 2 ^ 39) (hl : 1 ≤ l.length ∧ l.length ≤ 1000) : ∃ v pos' seed', M_S_l1Cur_among ((code, pos, seed), l) = some (v, code, pos', seed') ∧ v ∈ l ∧ pos ≤ pos' ∧ pos' ≤ pos + 2 := by
  obtain ⟨v, p, s, e, h2, -, h5, h6, h3, h4⟩ := pick_ok (seed := seed) (n := (l.length : Int)) hb h0 h1 (by omega)
  obtain ⟨k, rfl⟩ : ∃ k : Nat, v = (k : Int) := ⟨v.toNat, by omega⟩
  have hk : k < l.length := by omega
  refine ⟨l[k], p, s, ?_, List.getElem_mem hk, h3, h4⟩
  unfold M_S_l1Cur_among
  dsimp only
  rw [e, bindO_some']
  dsimp only
  rw [getI_nat, List.getElem?_eq_getElem hk, bindO_some']

theorem least_some (a b : Int) : M_S_l1Least (a, b) = some (bif decide (a < b) then a else b) := by
  unfold M_S_l1Least
  dsimp only
  cases decide (a < b) <;> rfl

theorem wf_u8 {code : List Int} (h : WF (.sl (.int .u8)) code) : Bytes code := fun a ha => by
  have h1 : IntKind.u8.min ≤ a ∧ a ≤ IntKind.u8.max := h.2 a ha
  have e1 : IntKind.u8.min = 0 := by decide
  have e2 : IntKind.u8.max = 255 := by decide
  omega

theorem qInts_eq {a : List Int} (h : a.length < 2 ^ 62) : M_L_qInts (a, a) = some true := by
  unfold M_L_qInts
  dsimp only
  rw [bne_self_eq_false, cond_false]
  refine loopO_for (σ := Unit) (fun i _ => (i : Int)) a.length (fun _ _ => some true) (fun _ _ => True) (fun again _ _ => ?_) (fun again i _ hi _ ih => ?_) (by omega) (i := 0) (s := ()) (Nat.zero_le _) trivial
  · rw [lt_no, cond_false]
  · have hg := List.getElem?_eq_getElem hi
    rw [lt_yes hi, cond_true, getI_nat, hg, bindO_some', bindO_some', bne_self_eq_false, cond_false, i64_succ (by omega), bindO_some']
    exact ih () trivial

/-- A loop that counts, to a given end. -/
theorem loopO_to {τ β : Type} {body : (τ → Option β) → τ → Option β} (enc : Nat → τ) (N : Nat) (r : Option β) (hN : N < 2 ^ 62)
    (hend : ∀ again : τ → Option β, body again (enc N) = r) (hin : ∀ (again : τ → Option β) (i : Nat), i < N → again (enc (i + 1)) = r → body again (enc i) = r) : loopO body (enc 0) = r :=
  loopO_for (body := body) (σ := Unit) (fun i _ => enc i) N (fun _ _ => r) (fun _ _ => True) (fun again _ _ => hend again) (fun again i _ hi _ ih => hin again i hi (ih () trivial)) (by omega) (i := 0) (s := ()) (Nat.zero_le _) trivial

theorem bind_to {α β : Type} {m : Option α} {v : α} {f : α → Option β} {r : Option β} (h : m = some v) (h2 : f v = r) : bindO m f = r := by
  rw [h]
  exact h2

theorem yes_to {β : Type} {c : Bool} {a b r : Option β} (h : c = true) (h2 : a = r) : cond c a b = r := by
  rw [h]
  exact h2

theorem no_to {β : Type} {c : Bool} {a b r : Option β} (h : c = false) (h2 : b = r) : cond c a b = r := by
  rw [h]
  exact h2

theorem eqN (a b : Nat) : (((a : Nat) : Int) == ((b : Nat) : Int)) = decide (a = b) := by
  by_cases h : a = b
  · rw [h, decide_eq_true rfl, beq_self_eq_true]
  · rw [decide_eq_false h]
    have : ¬ (a : Int) = (b : Int) := by omega
    simpa using this

theorem neN (a b : Nat) : (((a : Nat) : Int) != ((b : Nat) : Int)) = !decide (a = b) := by rw [bne, eqN]

theorem take_snoc {α : Type} {x : List α} {i : Nat} (hi : i < x.length) : x.take (i + 1) = x.take i ++ [x[i]] := by
  rw [List.take_add_one, List.getElem?_eq_getElem hi]
  rfl

theorem sameInts_eq {a : List Int} (h : a.length < 2 ^ 62) : M_L_sameInts (a, a) = some true := qInts_eq h

theorem big_some (a b : List Int) : ∃ v, M_L_big (a, b) = some v := by
  unfold M_L_big
  dsimp only
  cases decide (((a.length : Nat) : Int) > 1048576) <;> exact ⟨_, rfl⟩

theorem and_mask {n : Nat} (h : n < 4294967296) : Vd.bits .and .u64 (n : Int) 4294967295 = (n : Int) := by
  have e : (BitVec.ofInt (IntKind.bits .u64) (n : Int) &&& BitVec.ofInt (IntKind.bits .u64) 4294967295).toNat = n := by
    rw [BitVec.toNat_and]
    have h1 : (BitVec.ofInt (IntKind.bits .u64) (n : Int)).toNat = n := by
      rw [BitVec.toNat_ofInt]
      show (((n : Int) % ((2 ^ 64 : Nat) : Int))).toNat = n
      omega
    have h2 : (BitVec.ofInt (IntKind.bits .u64) 4294967295).toNat = 2 ^ 32 - 1 := by decide
    rw [h1, h2, Nat.and_two_pow_sub_one_eq_mod]
    exact Nat.mod_eq_of_lt h
  show IntKind.wrap .u64 ((BitVec.ofInt (IntKind.bits .u64) (n : Int) &&& BitVec.ofInt (IntKind.bits .u64) 4294967295).toNat : Int) = (n : Int)
  rw [e]
  exact wrap_u64 (by omega)

theorem shr_small {n : Nat} (h : n < 4294967296) : shr .u64 (n : Int) 32 = 0 := by
  show (n : Int).fdiv (2 ^ (min 32 64)) = 0
  rw [Int.fdiv_eq_ediv_of_nonneg _ (by decide)]
  show (n : Int) / 4294967296 = 0
  omega

theorem mul_one_n {n : Nat} (h : n < 4294967296) : M_math_bits_Mul (1, (n : Int)) = some (0, (n : Int)) := by
  unfold M_math_bits_Mul M_math_bits_Mul64
  have a1 : Vd.bits .and .u64 (1 : Int) 4294967295 = 1 := and_mask (n := 1) (by decide)
  have a2 : shr .u64 (1 : Int) 32 = 0 := shr_small (n := 1) (by decide)
  have a3 : Vd.bits .and .u64 (0 : Int) 4294967295 = 0 := and_mask (n := 0) (by decide)
  have a4 : shr .u64 (0 : Int) 32 = 0 := shr_small (n := 0) (by decide)
  have w0 : IntKind.wrap .u64 (0 : Int) = 0 := by decide
  have wn : IntKind.wrap .u64 (n : Int) = (n : Int) := wrap_u64 (by omega)
  simp only [a1, a2, and_mask h, shr_small h, bindO_some', guardO_of (show decide ((0 : Int) ≤ 32) = true from rfl), Int.one_mul, Int.zero_mul, Int.mul_zero, wn, w0, Int.add_zero, a3, a4]

theorem Repeat_eq {c : Int × Int} {n : Nat} (h1 : 1 ≤ n) (h2 : n ≤ 16777216) : M_slices_Repeat_sI_Cipher_I_Cipher ([c], (n : Int)) = some (List.replicate n c) := by
  unfold M_slices_Repeat_sI_Cipher_I_Cipher
  dsimp only
  have e1 : IntKind.wrap .u64 ((([c].length : Nat) : Int)) = 1 := by
    show IntKind.wrap .u64 ((1 : Nat) : Int) = 1
    exact wrap_u64 (by omega)
  have e2 : IntKind.wrap .u64 (n : Int) = (n : Int) := wrap_u64 (by omega)
  rw [decide_eq_false (show ¬ (n : Int) < 0 by omega), cond_false, e1, e2, mul_one_n (by omega), bindO_some']
  dsimp only
  have hg : ((decide ((0 : Int) ≤ (n : Int)) && decide ((n : Int) ≤ (n : Int))) && decide ((n : Int) ≤ ((lim : Nat) : Int))) = true := by
    rw [decide_eq_true (show (0 : Int) ≤ (n : Int) by omega), decide_eq_true (Int.le_refl _), decide_eq_true (show (n : Int) ≤ ((lim : Nat) : Int) by rw [lim_eq]; omega)]
    rfl
  rw [decide_eq_false (show ¬ (0 : Int) > 0 by omega), cond_false, decide_eq_false (show ¬ (n : Int) > 9223372036854775807 by omega), cond_false, i64_in (n : Int) (by omega), guardO_of hg, bindO_some', bindO_some', Int.toNat_natCast, List.length_replicate]
  have hm1 : min [c].length n = 1 := by
    show min 1 n = 1
    omega
  have hst : List.take n [c] ++ List.drop [c].length (List.replicate n ((0 : Int), (0 : Int))) = List.replicate 1 c ++ List.replicate (n - 1) (0, 0) := by
    rw [List.take_of_length_le (by simpa using h1), List.drop_replicate]
    rfl
  rw [hm1, hst]
  refine loopO_ind (fun _ (r : Option (List (Int × Int))) => r = some (List.replicate n c)) (fun s => ∃ m : Nat, 1 ≤ m ∧ m ≤ n ∧ s = ((m : Int), List.replicate m c ++ List.replicate (n - m) (0, 0))) (fun s => ((n : Int) - s.1).toNat) (fun again s hs ih => ?_) ⟨1, Nat.le_refl _, h1, rfl⟩ (by dsimp only; omega)
  obtain ⟨m, g1, g2, rfl⟩ := hs
  have hlen : (List.replicate m c ++ List.replicate (n - m) ((0 : Int), (0 : Int))).length = n := by simp; omega
  dsimp only at ih ⊢
  rw [hlen]
  rcases Nat.lt_or_ge m n with hm | hm
  · rw [lt_yes hm, cond_true, sliceLN_nat g2, bindO_some', sliceNH_nat g2, bindO_some', bindO_some']
    dsimp only
    have t1 : (List.replicate m c ++ List.replicate (n - m) ((0 : Int), (0 : Int))).take m = List.replicate m c := by
      rw [List.take_append_of_le_length (by simp)]
      simp
    have t2 : (List.replicate m c ++ List.replicate (n - m) ((0 : Int), (0 : Int))).take n = List.replicate m c ++ List.replicate (n - m) ((0 : Int), (0 : Int)) := List.take_of_length_le (by omega)
    have t3 : ((List.replicate m c ++ List.replicate (n - m) ((0 : Int), (0 : Int))).drop m).length = n - m := by rw [List.length_drop, hlen]
    rw [t1, t2, t3, List.length_replicate]
    have e3 : List.replicate m c ++ (List.take (n - m) (List.replicate m c) ++ List.drop (m + min m (n - m)) (List.replicate m c ++ List.replicate (n - m) ((0 : Int), (0 : Int)))) = List.replicate (m + min m (n - m)) c ++ List.replicate (n - (m + min m (n - m))) (0, 0) := by
      rw [List.take_replicate, List.drop_append, List.drop_of_length_le (by simp), List.length_replicate, List.nil_append, List.drop_replicate, ← List.append_assoc, List.replicate_append_replicate, show m + min (n - m) m = m + min m (n - m) by omega]
      congr 2
      omega
    rw [e3, i64_in _ (by omega), bindO_some', show (m : Int) + ((min m (n - m) : Nat) : Int) = ((m + min m (n - m) : Nat) : Int) by omega]
    exact ih _ ⟨m + min m (n - m), by omega, by omega, rfl⟩ (by dsimp only; omega)
  · obtain rfl : m = n := by omega
    rw [lt_no, cond_false]
    simp

def ci0 : Int × Int := (0, 0)

def hcol (p : Int) (rows : List (List (Int × Int))) (j : Nat) : Int × Int := rows.foldl (fun x r => mulC p x (r.getD j ci0)) (1, 1)

def rowOK (p q : Int) (n : Nat) (r : List (Int × Int)) : Bool := (r.length == n) && (decide (r.length ≤ 24) && r.all (isCi p q))

noncomputable def htR (p q g : Int) (rows : List (List (Int × Int))) : List (Int × Int) × Bool :=
  bif okG p q g && (decide (1 ≤ rows.length ∧ rows.length ≤ 24) && (!((rows.getD 0 []).length == 0) && (List.range rows.length).all fun i => rowOK p q (rows.getD 0 []).length (rows.getD i []))) then
    ((List.range (rows.getD 0 []).length).map (hcol p rows), true) else ([], false)

theorem rowOK_spec {p q : Int} {n : Nat} {r : List (Int × Int)} (h : rowOK p q n r = true) : r.length = n ∧ r.length ≤ 24 ∧ ∀ c ∈ r, isCi p q c = true := by
  simpa [rowOK] using h

theorem hcol_range {p : Int} (hp : 2 ≤ p) (j : Nat) : ∀ rows : List (List (Int × Int)), (0 ≤ (hcol p rows j).1 ∧ (hcol p rows j).1 < p) ∧ 0 ≤ (hcol p rows j).2 ∧ (hcol p rows j).2 < p := fun rows => by
  have H : ∀ (l : List (List (Int × Int))) (x : Int × Int), ((0 ≤ x.1 ∧ x.1 < p) ∧ 0 ≤ x.2 ∧ x.2 < p) → (0 ≤ (l.foldl (fun x r => mulC p x (r.getD j ci0)) x).1 ∧ (l.foldl (fun x r => mulC p x (r.getD j ci0)) x).1 < p) ∧ 0 ≤ (l.foldl (fun x r => mulC p x (r.getD j ci0)) x).2 ∧ (l.foldl (fun x r => mulC p x (r.getD j ci0)) x).2 < p := by
    intro l
    induction l with
    | nil => intro x hx; exact hx
    | cons r l ih => intro x hx; exact ih _ ⟨prod_range hp, prod_range hp⟩
  exact H rows (1, 1) ⟨⟨by decide, by show (1 : Int) < p; omega⟩, by decide, by show (1 : Int) < p; omega⟩

theorem hcol_snoc (p : Int) (j : Nat) (a : List (List (Int × Int))) (r : List (Int × Int)) : hcol p (a ++ [r]) j = mulC p (hcol p a j) (r.getD j ci0) := by
  simp [hcol]

theorem range_set {α : Type} (f f' : Nat → α) (n j : Nat) (hj : j < n) : ((List.range n).map fun k => if k < j then f' k else f k).set j (f' j) = (List.range n).map fun k => if k < j + 1 then f' k else f k := by
  refine List.ext_getElem? fun k => ?_
  rw [List.getElem?_set]
  by_cases hk : k < n
  · by_cases e : j = k
    · subst e
      simp [hk]
    · have h1 : (k < j + 1) ↔ (k < j) := by omega
      simp [e, hk, h1]
  · have e : j ≠ k := by omega
    simp [e, hk]

theorem I_HomomorphicTally_eq {p q g : Int} {rows : List (List (Int × Int))} (hr : ∀ r ∈ rows, r.length ≤ 1048576) (hl : rows.length < 2 ^ 62) : M_I_HomomorphicTally ((p, q, g), rows) = some (htR p q g rows) := by
  unfold M_I_HomomorphicTally htR
  dsimp only
  rw [IsValidGroup_eq, bindO_some', within_eq, bindO_some']
  cases hok : okG p q g
  · rfl
  have h := okG_spec hok
  have h3 := h.p3
  rw [Bool.not_true, cond_false, Bool.true_and, show decide ((1 : Int) ≤ ((rows.length : Nat) : Int) ∧ ((rows.length : Nat) : Int) ≤ 24) = decide (1 ≤ rows.length ∧ rows.length ≤ 24) from decide_eq_decide.2 (by omega)]
  cases hd : decide (1 ≤ rows.length ∧ rows.length ≤ 24)
  · rfl
  have hd' : 1 ≤ rows.length ∧ rows.length ≤ 24 := by simpa using hd
  have h0 := getD_at (d := ([] : List (Int × Int))) (show 0 < rows.length by omega)
  have hr0 := hr _ (List.mem_of_getElem? h0)
  rw [Bool.not_true, cond_false, Bool.true_and, getI_zero, h0, bindO_some', show ((((rows.getD 0 []).length : Nat) : Int) == 0) = ((rows.getD 0 []).length == 0) from eq_dec' _ 0]
  cases hz : (rows.getD 0 []).length == 0
  rotate_left
  · rfl
  have hz' : (rows.getD 0 []).length ≠ 0 := by simpa using hz
  rw [cond_false, bindO_some', Repeat_eq (by omega) (by omega), bindO_some', Bool.not_false, Bool.true_and]
  generalize hn : (rows.getD 0 []).length = n at *
  have hinit : List.replicate n ((1 : Int), (1 : Int)) = (List.range n).map (hcol p (rows.take 0)) := by
    refine List.ext_getElem? fun k => ?_
    rw [List.getElem?_replicate, List.getElem?_map]
    by_cases hk : k < n
    · rw [if_pos hk, List.getElem?_range hk]
      rfl
    · rw [if_neg hk, List.getElem?_eq_none (by simpa using hk)]
      rfl
  rw [hinit]
  refine (guard_loopE (n := rows.length) (fun i => ((i : Int), (List.range n).map (hcol p (rows.take i)))) (fun i => rowOK p q n (rows.getD i [])) (some ((List.range n).map (hcol p rows), true)) (some ([], false)) (by omega) (fun again i hi hprev => ?_) (fun hall again => ?_)).trans ?_
  · have ha := getD_at (d := ([] : List (Int × Int))) hi
    have hrl := hr _ (List.mem_of_getElem? ha)
    dsimp only
    rw [lt_yes hi, cond_true, getI_nat, ha, bindO_some', List.length_map, List.length_range, neN, hasCiphers_eq h (by omega), bindO_some']
    have hU : rowOK p q n (rows.getD i []) = (decide ((rows.getD i []).length = n) && (decide ((rows.getD i []).length ≤ 24) && (rows.getD i []).all (isCi p q))) := by
      unfold rowOK
      rw [show ((rows.getD i []).length == n) = decide ((rows.getD i []).length = n) by rw [Bool.eq_iff_iff]; simp]
    cases hrow : rowOK p q n (rows.getD i [])
    · rw [hU] at hrow
      cases h1 : decide ((rows.getD i []).length = n)
      · rfl
      · rw [h1, Bool.true_and] at hrow
        rw [hrow]
        rfl
    · obtain ⟨r1, r2, r3⟩ := rowOK_spec hrow
      rw [hU, Bool.and_eq_true] at hrow
      rw [hrow.1, hrow.2, Bool.not_true, cond_false, cond_false, cond_true, r1]
      have e0 : (List.range n).map (hcol p (rows.take i)) = (List.range n).map fun k => if k < 0 then hcol p (rows.take (i + 1)) k else hcol p (rows.take i) k := List.map_congr_left fun k _ => by rw [if_neg (Nat.not_lt_zero k)]
      have e1 : (List.range n).map (hcol p (rows.take (i + 1))) = (List.range n).map fun k => if k < n then hcol p (rows.take (i + 1)) k else hcol p (rows.take i) k := List.map_congr_left fun k hk => by rw [if_pos (List.mem_range.1 hk)]
      rw [e0]
      refine loopO_to (fun j => ((j : Int), (List.range n).map fun k => if k < j then hcol p (rows.take (i + 1)) k else hcol p (rows.take i) k)) n (again (((i + 1 : Nat) : Int), (List.range n).map (hcol p (rows.take (i + 1))))) (by omega) (fun again2 => ?_) (fun again2 j hj ih2 => ?_)
      · dsimp only
        rw [lt_no, cond_false, i64_succ (by omega), bindO_some', ← e1]
      · have hj2 : j < (rows.getD i []).length := by omega
        have hc' := isCi_in (r3 _ (List.mem_of_getElem? (getD_at (d := ci0) hj2)))
        have hx := hcol_range (p := p) (by omega) j (rows.take i)
        have hgj : ((List.range n).map fun k => if k < j then hcol p (rows.take (i + 1)) k else hcol p (rows.take i) k)[j]? = some (hcol p (rows.take i) j) := by
          rw [List.getElem?_map, List.getElem?_range hj]
          show some (if j < j then _ else _) = _
          rw [if_neg (Nat.lt_irrefl j)]
        have e := hcol_snoc p j (rows.take i) (rows.getD i [])
        rw [show rows.take i ++ [rows.getD i []] = rows.take (i + 1) by rw [take_snoc hi, List.getD_eq_getElem?_getD, List.getElem?_eq_getElem hi]; rfl] at e
        dsimp only
        rw [lt_yes hj, cond_true, getI_nat, getD_at (d := ci0) hj2, bindO_some', getI_nat, hgj, bindO_some',
          show M_I_Group_mulTwo ((p, q, g), ((hcol p (rows.take i) j).1, (hcol p (rows.take i) j).2), (((rows.getD i []).getD j ci0).1, ((rows.getD i []).getD j ci0).2)) = _ from mulTwo_eq (a := hcol p (rows.take i) j) (b := (rows.getD i []).getD j ci0) h ⟨⟨hx.1.1, Int.le_of_lt hx.1.2⟩, hx.2.1, Int.le_of_lt hx.2.2⟩ hc', bindO_some', bindO_some', bindO_some', ← e, Int.toNat_natCast, i64_succ (by omega), bindO_some']
        rw [← range_set (hcol p (rows.take i)) (hcol p (rows.take (i + 1))) n j hj] at ih2
        exact ih2
  · dsimp only
    rw [lt_no, cond_false, List.take_length]
  · cases (List.range rows.length).all fun i => rowOK p q n (rows.getD i []) <;> rfl

def primeB (b n : Nat) : Bool := decide (2 ≤ n) && (List.range b).all fun d => decide (d < 2) || (decide (n < d * d) || !(n % d == 0))

theorem isP_primeB {b n : Nat} (h : n < b * b) : isP (n : Int) = primeB b n := by
  rw [Bool.eq_iff_iff]
  simp only [isP, decide_eq_true_eq, primeB, Bool.and_eq_true, List.all_eq_true, List.mem_range, Bool.or_eq_true, Bool.not_eq_true', beq_eq_false_iff_ne, ne_eq]
  constructor
  · rintro ⟨h1, h2⟩
    refine ⟨by omega, fun d _ => ?_⟩
    rcases Nat.lt_or_ge d 2 with h3 | h3
    · exact .inl h3
    · rcases Nat.lt_or_ge n (d * d) with h4 | h4
      · exact .inr (.inl h4)
      · refine .inr (.inr fun h5 => h2 (d : Int) (by omega) (by exact_mod_cast h4) ?_)
        rw [← Int.natCast_emod, h5]
        rfl
  · rintro ⟨h1, h2⟩
    refine ⟨by omega, fun d hd hdd h5 => ?_⟩
    obtain ⟨m, rfl⟩ : ∃ m : Nat, d = (m : Int) := ⟨d.toNat, by omega⟩
    have h6 : m * m ≤ n := by exact_mod_cast hdd
    have hm : m < b := Nat.lt_of_not_ge fun h7 => by
      have := Nat.mul_le_mul h7 h7
      omega
    rcases h2 m hm with h8 | h8 | h8
    · omega
    · omega
    · apply h8
      rw [← Int.natCast_emod] at h5
      exact_mod_cast h5

/-- All that is asked of a group's numbers to be made: q a prime, K the first with K q + 1 a prime, 2 to the K-th not 1. -/
def mgB (b q K : Nat) : Bool := decide (2 ≤ q ∧ q ≤ 1000000) && (decide (1 ≤ K) && (decide (K * q + 1 ≤ 2000000000) && (decide (K * q + 1 < b * b) && (primeB b q && ((List.range K).all (fun k => !primeB b (k * q + 1)) && (primeB b (K * q + 1) && !(2 ^ K % (K * q + 1) == 1)))))))

theorem makeGroup_ok {b q K : Nat} (h : mgB b q K = true) : M_S_MakeGroup (q : Int) = some ((((K * q + 1 : Nat) : Int), (q : Int), ((2 ^ K % (K * q + 1) : Nat) : Int)), true) := by
  simp only [mgB, Bool.and_eq_true, decide_eq_true_eq, List.all_eq_true, List.mem_range, Bool.not_eq_true', beq_eq_false_iff_ne, ne_eq] at h
  obtain ⟨h1, h2, h3, h4, h5, h6, h7, h8⟩ := h
  have hKq : q ≤ K * q := by
    have := Nat.mul_le_mul_right q h2
    omega
  have hK9 : K ≤ 2000000000 := by
    have := Nat.mul_le_mul_left K h1.1
    omega
  have hq : isP (q : Int) = true := by rw [isP_primeB (b := b) (by omega)]; exact h5
  unfold M_S_MakeGroup
  rw [in_eq, bindO_some', decide_eq_true (show (2 : Int) ≤ (q : Int) ∧ (q : Int) ≤ 1000000 by omega), Bool.not_true, cond_false, nPrime_eq (by omega), bindO_some', hq, Bool.not_true, cond_false, i64_in ((q : Int) + 1) (by omega), bindO_some']
  have hstart : (((q : Int) + 1), (0 : Int), (0 : Int), (0 : Int)) = ((((0 + 1) * q + 1 : Nat) : Int), (0 : Int), (0 : Int), (0 : Int)) := by
    rw [Nat.zero_add, Nat.one_mul]
    rfl
  rw [hstart]
  refine loopO_to (fun k => ((((k + 1) * q + 1 : Nat) : Int), (0 : Int), (0 : Int), (0 : Int))) (K - 1) _ (by omega) (fun again => ?_) (fun again k hk ih => ?_)
  · have hK : K - 1 + 1 = K := by omega
    dsimp only
    rw [hK, decide_eq_true (show ((K * q + 1 : Nat) : Int) ≤ 2000000000 by omega), cond_true, nPrime_eq (by omega), bindO_some', isP_primeB (b := b) h4, h7, Bool.not_true, cond_false]
    have e1 : IntKind.wrap .i64 (((K * q + 1 : Nat) : Int) - 1) = ((K * q : Nat) : Int) := by
      rw [i64_in _ (by omega)]
      omega
    have e2 : IntKind.wrap .i64 (((K * q : Nat) : Int).tdiv (q : Int)) = (K : Int) := by
      rw [tdiv_nn (by omega), show ((K * q : Nat) : Int) = (K : Int) * (q : Int) by simp, Int.mul_ediv_cancel _ (by omega), i64_in _ (by omega)]
    have e3 : M_S_nPower (2, (K : Int), ((K * q + 1 : Nat) : Int)) = some (((2 ^ K % (K * q + 1) : Nat) : Int)) := by
      rw [nPower_eq (by omega) (by omega) (by omega) (by omega) (by omega) (by omega), Int.toNat_natCast]
      congr 1
    have hg : guardO ((q : Int) != 0) = some () := guardO_of (bne_iff_ne.2 (by omega))
    refine loopO_to (fun _ => (2 : Int)) 0 _ (by decide) (fun again2 => ?_) (fun _ i hi => absurd hi (Nat.not_lt_zero _))
    refine bind_to (congrArg some e1) ?_
    refine bind_to hg ?_
    refine bind_to (congrArg some e2) ?_
    refine bind_to e3 ?_
    refine no_to (beq_eq_false_iff_ne.2 (by omega)) ?_
    refine bind_to (congrArg some e1) ?_
    refine bind_to hg ?_
    refine bind_to (congrArg some e2) ?_
    refine bind_to e3 ?_
    rfl
  · have hlt : (k + 1) * q ≤ K * q := Nat.mul_le_mul_right q (by omega)
    have hp := h6 (k + 1) (by omega)
    dsimp only
    rw [decide_eq_true (show (((k + 1) * q + 1 : Nat) : Int) ≤ 2000000000 by omega), cond_true, nPrime_eq (by omega), bindO_some', isP_primeB (b := b) (by omega), hp, Bool.not_false, cond_true, i64_in _ (by omega), bindO_some']
    have e : (((k + 1) * q + 1 : Nat) : Int) + (q : Int) = (((k + 1 + 1) * q + 1 : Nat) : Int) := by
      rw [show (k + 1 + 1) * q = (k + 1) * q + q by rw [Nat.succ_mul]]
      omega
    rw [e]
    exact ih

set_option maxRecDepth 100000 in
theorem made {q : Int} (h : q ∈ ([3, 5, 5, 7, 11, 11, 13, 23] : List Int) ∨ q ∈ ([101, 1009, 1019, 65537, 999983] : List Int)) : ∃ p g : Int, M_S_MakeGroup q = some ((p, q, g), true) ∧ 3 ≤ p ∧ p ≤ 2000000000 ∧ 0 ≤ g ∧ g ≤ 2000000000 ∧ 2 ≤ q ∧ q ≤ 1000000 := by
  have fin : ∀ (b q K : Nat), mgB b q K = true → ∃ p g : Int, M_S_MakeGroup (q : Int) = some ((p, (q : Int), g), true) ∧ 3 ≤ p ∧ p ≤ 2000000000 ∧ 0 ≤ g ∧ g ≤ 2000000000 ∧ (2 : Int) ≤ (q : Int) ∧ (q : Int) ≤ 1000000 := fun b q K h => by
    have h' := h
    simp only [mgB, Bool.and_eq_true, decide_eq_true_eq] at h'
    obtain ⟨h1, h2, h3, -⟩ := h'
    have hKq : q ≤ K * q := by
      have := Nat.mul_le_mul_right q h2
      omega
    have hm := Nat.mod_lt (2 ^ K) (show 0 < K * q + 1 by omega)
    exact ⟨_, _, makeGroup_ok h, by omega, by omega, by omega, by omega, by omega, by omega⟩
  simp only [List.mem_cons, List.not_mem_nil, or_false] at h
  rcases h with (rfl | rfl | rfl | rfl | rfl | rfl | rfl | rfl) | (rfl | rfl | rfl | rfl | rfl)
  · exact fin 10 3 2 (by decide +kernel)
  · exact fin 10 5 2 (by decide +kernel)
  · exact fin 10 5 2 (by decide +kernel)
  · exact fin 10 7 4 (by decide +kernel)
  · exact fin 10 11 2 (by decide +kernel)
  · exact fin 10 11 2 (by decide +kernel)
  · exact fin 10 13 4 (by decide +kernel)
  · exact fin 10 23 2 (by decide +kernel)
  · exact fin 40 101 6 (by decide +kernel)
  · exact fin 110 1009 10 (by decide +kernel)
  · exact fin 60 1019 2 (by decide +kernel)
  · exact fin 1000 65537 14 (by decide +kernel)
  · exact fin 3500 999983 12 (by decide +kernel)

theorem gExp_any {p q g x e : Int} (hp : 1 ≤ p ∧ p ≤ 3000000000) (hq : 1 ≤ q ∧ q ≤ 3000000000) (hx : 0 ≤ x ∧ x ≤ 3000000000) : ∃ v, M_S_gExp ((p, q, g), x, e) = some v ∧ 0 ≤ v ∧ v < p := by
  have h1 := Int.emod_nonneg e (show q ≠ 0 by omega)
  have h2 := Int.emod_lt_of_pos e (show 0 < q by omega)
  unfold M_S_gExp
  dsimp only
  rw [nMod_eq hq.1 (by omega), bindO_some', nPower_eq hx.1 hx.2 h1 (by omega) hp.1 hp.2, bindO_some']
  exact ⟨_, rfl, Int.emod_nonneg _ (by omega), Int.emod_lt_of_pos _ (by omega)⟩

def DG (p q g : Int) : Prop := (-10 ≤ p ∧ p ≤ 2000000010) ∧ (-10 ≤ q ∧ q ≤ 2000000010) ∧ (-10 ≤ g ∧ g ≤ 2000000010)

theorem tiny_ok {code : List Int} {pos seed : Int} (hb : Bytes code) (h0 : 0 ≤ pos) (h1 : pos ≤ 2 ^ 38) : ∃ p q g pos' seed', M_S_l1Cur_tiny (code, pos, seed) = some ((p, q, g), code, pos', seed') ∧ (3 ≤ p ∧ p ≤ 2000000000) ∧ (2 ≤ q ∧ q ≤ 1000000) ∧ (0 ≤ g ∧ g ≤ 2000000000) ∧ pos ≤ pos' ∧ pos' ≤ pos + 2 := by
  obtain ⟨v, p', s', e, hv, h2, h3⟩ := among_ok (l := [3, 5, 5, 7, 11, 11, 13, 23]) (seed := seed) hb h0 (by omega) ⟨by simp, by simp⟩
  obtain ⟨p, g, m1, m2, m3, m4, m5, m6, m7⟩ := made (.inl hv)
  refine ⟨p, v, g, p', s', ?_, ⟨m2, m3⟩, ⟨m6, m7⟩, ⟨m4, m5⟩, h2, h3⟩
  unfold M_S_l1Cur_tiny
  dsimp only
  rw [e, bindO_some']
  dsimp only
  rw [m1, bindO_some']

theorem group_ok {code : List Int} {pos seed : Int} (hb : Bytes code) (h0 : 0 ≤ pos) (h1 : pos ≤ 2 ^ 37) : ∃ p q g pos' seed', M_S_l1Cur_group (code, pos, seed) = some ((p, q, g), code, pos', seed') ∧ (3 ≤ p ∧ p ≤ 2000000000) ∧ (2 ≤ q ∧ q ≤ 1000000000) ∧ (0 ≤ g ∧ g ≤ 2000000000) ∧ pos ≤ pos' ∧ pos' ≤ pos + 6 := by
  unfold M_S_l1Cur_group
  dsimp only
  obtain ⟨k, p1, s1, e1, -, -, -, -, a1, a2⟩ := pick_ok (seed := seed) (n := 6) hb h0 (by omega) (by omega)
  rw [e1, bindO_some']
  dsimp only
  cases hk0 : k == (0 : Int)
  · cases hk1 : k == (1 : Int)
    · obtain ⟨p, q, g, p2, s2, e2, b1, b2, b3, a3, a4⟩ := tiny_ok (seed := s1) hb (show 0 ≤ p1 by omega) (by omega)
      rw [cond_false, cond_false, e2, bindO_some']
      dsimp only
      rw [i64_in (q - 1) (by omega), bindO_some']
      obtain ⟨z, p3, s3, e3, c1, c2, -, -, a5, a6⟩ := pick_ok (seed := s2) (n := q - 1) hb (show 0 ≤ p2 by omega) (by omega) (by omega)
      rw [e3, bindO_some']
      dsimp only
      rw [i64_in (1 + z) (by omega), bindO_some']
      obtain ⟨v, e4, c3, c4⟩ := gExp_any (p := p) (q := q) (g := g) (x := g) (e := 1 + z) ⟨by omega, by omega⟩ ⟨by omega, by omega⟩ ⟨by omega, by omega⟩
      rw [e4, bindO_some']
      exact ⟨p, q, v, p3, s3, rfl, b1, ⟨b2.1, by omega⟩, ⟨c3, by omega⟩, by omega, by omega⟩
    · obtain ⟨v, p2, s2, e2, hv, a3, a4⟩ := among_ok (l := [101, 1009, 1019, 65537, 999983]) (seed := s1) hb (show 0 ≤ p1 by omega) (by omega) ⟨by simp, by simp⟩
      obtain ⟨p, g, m1, m2, m3, m4, m5, m6, m7⟩ := made (.inr hv)
      rw [cond_false, cond_true, e2, bindO_some']
      dsimp only
      rw [m1, bindO_some']
      exact ⟨p, v, g, p2, s2, rfl, ⟨m2, m3⟩, ⟨m6, by omega⟩, ⟨m4, m5⟩, by omega, by omega⟩
  · exact ⟨1000000007, 500000003, 4, p1, s1, rfl, by omega, by omega, by omega, by omega, by omega⟩

theorem anyGroup_ok {code : List Int} {pos seed : Int} (hb : Bytes code) (h0 : 0 ≤ pos) (h1 : pos ≤ 2 ^ 36) : ∃ p q g pos' seed', M_S_l1Cur_anyGroup (code, pos, seed) = some ((p, q, g), code, pos', seed') ∧ DG p q g ∧ pos ≤ pos' ∧ pos' ≤ pos + 10 := by
  obtain ⟨p, q, g, p1, s1, e1, b1, b2, b3, a1, a2⟩ := group_ok (seed := seed) hb h0 (by omega)
  obtain ⟨k, p2, s2, e2, -, -, -, -, a3, a4⟩ := pick_ok (seed := s1) (n := 24) hb (show 0 ≤ p1 by omega) (by omega) (by omega)
  unfold M_S_l1Cur_anyGroup
  dsimp only
  rw [e1, bindO_some']
  dsimp only
  rw [e2, bindO_some']
  dsimp only
  cases hk0 : k == (0 : Int)
  · cases hk1 : k == (1 : Int)
    · cases hk2 : k == (2 : Int)
      · exact ⟨p, q, g, p2, s2, rfl, ⟨by omega, by omega, by omega⟩, by omega, by omega⟩
      · obtain ⟨v, p3, s3, e3, hv, a5, a6⟩ := among_ok (l := [0, 1, p - 1, p, g + 1]) (seed := s2) hb (show 0 ≤ p2 by omega) (by omega) ⟨by simp, by simp⟩
        rw [cond_false, cond_false, cond_true, i64_in (p - 1) (by omega), bindO_some', i64_in (g + 1) (by omega), bindO_some', e3, bindO_some']
        refine ⟨p, q, v, p3, s3, rfl, ⟨by omega, by omega, ?_⟩, by omega, by omega⟩
        simp only [List.mem_cons, List.not_mem_nil, or_false] at hv
        omega
    · obtain ⟨v, p3, s3, e3, hv, a5, a6⟩ := among_ok (l := [0, 1, q + 1, p - 1]) (seed := s2) hb (show 0 ≤ p2 by omega) (by omega) ⟨by simp, by simp⟩
      rw [cond_false, cond_true, i64_in (q + 1) (by omega), bindO_some', i64_in (p - 1) (by omega), bindO_some', e3, bindO_some']
      refine ⟨p, v, g, p3, s3, rfl, ⟨by omega, ?_, by omega⟩, by omega, by omega⟩
      simp only [List.mem_cons, List.not_mem_nil, or_false] at hv
      omega
  · obtain ⟨v, p3, s3, e3, hv, a5, a6⟩ := among_ok (l := [0, p + 2, 4, -7]) (seed := s2) hb (show 0 ≤ p2 by omega) (by omega) ⟨by simp, by simp⟩
    rw [cond_true, i64_in (p + 2) (by omega), bindO_some', e3, bindO_some']
    refine ⟨v, q, g, p3, s3, rfl, ⟨?_, by omega, by omega⟩, by omega, by omega⟩
    simp only [List.mem_cons, List.not_mem_nil, or_false] at hv
    omega

theorem expo_ok {code : List Int} {pos seed p q g : Int} (hd : DG p q g) (hb : Bytes code) (h0 : 0 ≤ pos) (h1 : pos ≤ 2 ^ 38) : ∃ v pos' seed', M_S_l1Cur_expo ((code, pos, seed), p, q, g) = some (v, code, pos', seed') ∧ (0 ≤ v ∧ v ≤ 2000000010) ∧ (2 ≤ q → v < q) ∧ pos ≤ pos' ∧ pos' ≤ pos + 4 := by
  obtain ⟨d1, d2, d3⟩ := hd
  unfold M_S_l1Cur_expo
  dsimp only
  by_cases hq : q < 2
  · rw [decide_eq_true hq, cond_true]
    exact ⟨0, pos, seed, rfl, by omega, fun h => by omega, by omega, by omega⟩
  · obtain ⟨v, p1, s1, e1, a1, a2, -, -, b1, b2⟩ := pick_ok (seed := seed) (n := 60000) hb h0 (by omega) (by omega)
    obtain ⟨w, p2, s2, e2, a3, a4, -, -, b3, b4⟩ := pick_ok (seed := s1) (n := 60000) hb (show 0 ≤ p1 by omega) (by omega) (by omega)
    have r1 := Int.emod_nonneg (v * 60000 + w) (show q ≠ 0 by omega)
    have r2 := Int.emod_lt_of_pos (v * 60000 + w) (show 0 < q by omega)
    rw [decide_eq_false hq, cond_false, e1, bindO_some']
    dsimp only
    rw [i64_in (v * 60000) (by omega), bindO_some', e2, bindO_some']
    dsimp only
    rw [i64_in (v * 60000 + w) (by omega), bindO_some', guardO_of (bne_iff_ne.2 (show q ≠ 0 by omega)), bindO_some', tmod_nn (by omega), bindO_some']
    exact ⟨_, p2, s2, rfl, ⟨r1, by omega⟩, fun _ => r2, by omega, by omega⟩

theorem element_ok {code : List Int} {pos seed p q g : Int} (hd : DG p q g) (hb : Bytes code) (h0 : 0 ≤ pos) (h1 : pos ≤ 2 ^ 38) : ∃ v pos' seed', M_S_l1Cur_element ((code, pos, seed), p, q, g) = some (v, code, pos', seed') ∧ (0 ≤ v ∧ v ≤ 2000000010) ∧ pos ≤ pos' ∧ pos' ≤ pos + 4 := by
  have hd' := hd
  obtain ⟨d1, d2, d3⟩ := hd
  unfold M_S_l1Cur_element
  dsimp only
  by_cases hp : p < 3
  · rw [decide_eq_true hp, cond_true]
    exact ⟨1, pos, seed, rfl, by omega, by omega, by omega⟩
  by_cases hq : q < 1
  · rw [decide_eq_false hp, cond_false, decide_eq_true hq, cond_true]
    exact ⟨1, pos, seed, rfl, by omega, by omega, by omega⟩
  obtain ⟨x, p1, s1, e1, a1, -, b1, b2⟩ := expo_ok (seed := seed) hd' hb h0 h1
  have r1 := Int.emod_nonneg g (show p ≠ 0 by omega)
  have r2 := Int.emod_lt_of_pos g (show 0 < p by omega)
  obtain ⟨v, e4, c3, c4⟩ := gExp_any (p := p) (q := q) (g := g) (x := g % p) (e := x) ⟨by omega, by omega⟩ ⟨by omega, by omega⟩ ⟨by omega, by omega⟩
  rw [decide_eq_false hp, cond_false, decide_eq_false hq, cond_false, nMod_eq (by omega) (by omega), bindO_some', e1, bindO_some']
  dsimp only
  rw [e4, bindO_some']
  exact ⟨v, p1, s1, rfl, by omega, by omega, by omega⟩

theorem anyElement_ok {code : List Int} {pos seed p q g : Int} (hd : DG p q g) (hb : Bytes code) (h0 : 0 ≤ pos) (h1 : pos ≤ 2 ^ 37) : ∃ v pos' seed', M_S_l1Cur_anyElement ((code, pos, seed), p, q, g) = some (v, code, pos', seed') ∧ pos ≤ pos' ∧ pos' ≤ pos + 6 := by
  have hd' := hd
  obtain ⟨d1, d2, d3⟩ := hd
  obtain ⟨b, p1, s1, e1, a1, a2⟩ := one_ok (seed := seed) (n := 20) hb h0 (by omega) (by omega)
  unfold M_S_l1Cur_anyElement
  dsimp only
  rw [e1, bindO_some']
  dsimp only
  cases b
  · obtain ⟨x, p2, s2, e2, -, b1, b2⟩ := element_ok (seed := s1) hd' hb (show 0 ≤ p1 by omega) (by omega)
    rw [cond_false, e2, bindO_some']
    exact ⟨x, p2, s2, rfl, by omega, by omega⟩
  · obtain ⟨v, p3, s3, e3, hv, a5, a6⟩ := among_ok (l := [0, 1, p - 1, p, -1, 5]) (seed := s1) hb (show 0 ≤ p1 by omega) (by omega) ⟨by simp, by simp⟩
    rw [cond_true, i64_in (p - 1) (by omega), bindO_some', e3, bindO_some']
    exact ⟨v, p3, s3, rfl, by omega, by omega⟩

def Dn {α : Type} (m : Option α) (Q : α → Prop) : Prop := ∃ v, m = some v ∧ Q v

theorem dn_some {α : Type} {v : α} {Q : α → Prop} (h : Q v) : Dn (some v) Q := ⟨v, rfl, h⟩

theorem dn_bind {α β : Type} {m : Option α} {f : α → Option β} {Q : α → Prop} {R : β → Prop} (h : Dn m Q) (k : ∀ v, Q v → Dn (f v) R) : Dn (bindO m f) R := by
  obtain ⟨v, e, hv⟩ := h
  rw [e, bindO_some']
  exact k v hv

theorem dn_is {α β : Type} {m : Option α} {v : α} {f : α → Option β} {R : β → Prop} (h : m = some v) (k : Dn (f v) R) : Dn (bindO m f) R := by
  rw [h, bindO_some']
  exact k

theorem dn_cond {β : Type} {b : Bool} {x y : Option β} {R : β → Prop} (h1 : b = true → Dn x R) (h2 : b = false → Dn y R) : Dn (cond b x y) R := by
  cases b
  · exact h2 rfl
  · exact h1 rfl

theorem dn_weak {α : Type} {m : Option α} {Q R : α → Prop} (h : Dn m Q) (k : ∀ v, Q v → R v) : Dn m R := by
  obtain ⟨v, e, hv⟩ := h
  exact ⟨v, e, k v hv⟩

theorem dn_wrap {β : Type} {e : Int} {f : Int → Option β} {R : β → Prop} (h : -1000000000000000000 ≤ e ∧ e ≤ 1000000000000000000) (k : Dn (f e) R) : Dn (bindO (some (IntKind.wrap .i64 e)) f) R := by
  rw [i64_in _ (by omega), bindO_some']
  exact k

theorem dn_len {β : Type} {n : Nat} {f : Unit → Option β} {R : β → Prop} (h : n ≤ 1000000000) (k : Dn (f ()) R) : Dn (bindO (guardO (lenOk n)) f) R := by
  rw [guardO_of (lenOk_of (by omega)), bindO_some']
  exact k

theorem dn_loop {σ β : Type} {body : (σ → Option β) → σ → Option β} {R : β → Prop} (Inv : σ → Prop) (μ : σ → Nat)
    (step : ∀ (again : σ → Option β) s, Inv s → (∀ s', Inv s' → μ s' < μ s → Dn (again s') R) → Dn (body again s) R) {s : σ} (h0 : Inv s) (hm : μ s < 2 ^ 64) : Dn (loopO body s) R :=
  loopO_ind (fun _ y => Dn y R) Inv μ step h0 hm

theorem dn_getI {α β : Type} {l : List α} {i : Int} {f : α → Option β} {R : β → Prop} (h0 : 0 ≤ i) (h1 : i < l.length) (k : ∀ a, l[i.toNat]? = some a → Dn (f a) R) : Dn (bindO (getI l i) f) R := by
  obtain ⟨n, rfl⟩ := Int.eq_ofNat_of_zero_le h0
  have hn : n < l.length := by omega
  have e := List.getElem?_eq_getElem hn
  rw [getI_nat, e, bindO_some']
  exact k _ e

abbrev CurT := List Int × Int × Int

/-- The cursor stands no further than 1000 n. -/
def Cu (n : Nat) (c : CurT) : Prop := Bytes c.1 ∧ 0 ≤ c.2.1 ∧ c.2.1 ≤ 1000 * (n : Int)

theorem cu_up {n m : Nat} {c : CurT} (h : Cu n c) (hm : n ≤ m) : Cu m c := ⟨h.1, h.2.1, by have := h.2.2; omega⟩

theorem cu_start {code : List Int} (h : Bytes code) : Cu 0 (code, 0, 0) := ⟨h, Int.le_refl _, Int.le_refl _⟩

theorem cu_step {n : Nat} {code : List Int} {pos pos' s s' : Int} (h : Cu n (code, pos, s)) (h1 : pos ≤ pos') (h2 : pos' ≤ pos + 1000) : Cu (n + 1) (code, pos', s') := by
  obtain ⟨a, b, c⟩ := h
  dsimp only at b c
  exact ⟨a, by dsimp only; omega, by dsimp only; omega⟩

theorem dn_pick {n : Nat} {c : CurT} {k : Int} (h : Cu n c) (hn : n ≤ 1000000) (hk : k ≤ 2 ^ 40) : Dn (M_S_l1Cur_pick (c, k)) (fun r => (0 ≤ r.1 ∧ r.1 ≤ 65535 ∧ (k ≤ 1 → r.1 = 0) ∧ (1 < k → r.1 < k)) ∧ Cu (n + 1) r.2) := by
  obtain ⟨code, pos, seed⟩ := c
  have h' := h
  obtain ⟨a, b, d⟩ := h
  dsimp only at a b d
  obtain ⟨v, p, s, e, h1, h2, h3, h4, h5, h6⟩ := pick_ok (seed := seed) (n := k) a b (by omega) hk
  exact ⟨_, e, ⟨h1, h2, h3, h4⟩, cu_step h' h5 (by omega)⟩

theorem dn_one {n : Nat} {c : CurT} {k : Int} (h : Cu n c) (hn : n ≤ 1000000) (hk : k ≤ 2 ^ 40) : Dn (M_S_l1Cur_one (c, k)) (fun r => Cu (n + 1) r.2) := by
  obtain ⟨code, pos, seed⟩ := c
  have h' := h
  obtain ⟨a, b, d⟩ := h
  dsimp only at a b d
  obtain ⟨v, p, s, e, h5, h6⟩ := one_ok (seed := seed) (n := k) a b (by omega) hk
  exact ⟨_, e, cu_step h' h5 (by omega)⟩

theorem dn_among {n : Nat} {c : CurT} {l : List Int} (h : Cu n c) (hn : n ≤ 1000000) (hl : 1 ≤ l.length ∧ l.length ≤ 1000) : Dn (M_S_l1Cur_among (c, l)) (fun r => r.1 ∈ l ∧ Cu (n + 1) r.2) := by
  obtain ⟨code, pos, seed⟩ := c
  have h' := h
  obtain ⟨a, b, d⟩ := h
  dsimp only at a b d
  obtain ⟨v, p, s, e, h1, h5, h6⟩ := among_ok (seed := seed) a b (by omega) hl
  exact ⟨_, e, h1, cu_step h' h5 (by omega)⟩

def DGt (gr : Int × Int × Int) : Prop := DG gr.1 gr.2.1 gr.2.2

theorem dn_anyGroup {n : Nat} {c : CurT} (h : Cu n c) (hn : n ≤ 1000000) : Dn (M_S_l1Cur_anyGroup c) (fun r => DGt r.1 ∧ Cu (n + 1) r.2) := by
  obtain ⟨code, pos, seed⟩ := c
  have h' := h
  obtain ⟨a, b, d⟩ := h
  dsimp only at a b d
  obtain ⟨p, q, g, p', s, e, h1, h5, h6⟩ := anyGroup_ok (seed := seed) a b (by omega)
  exact ⟨_, e, h1, cu_step h' h5 (by omega)⟩

theorem dn_anyElement {n : Nat} {c : CurT} {gr : Int × Int × Int} (hd : DGt gr) (h : Cu n c) (hn : n ≤ 1000000) : Dn (M_S_l1Cur_anyElement (c, gr)) (fun r => Cu (n + 1) r.2) := by
  obtain ⟨code, pos, seed⟩ := c
  have h' := h
  obtain ⟨a, b, d⟩ := h
  dsimp only at a b d
  obtain ⟨v, p', s, e, h5, h6⟩ := anyElement_ok (seed := seed) hd a b (by omega)
  exact ⟨_, e, cu_step h' h5 (by omega)⟩

theorem pw_self {p q g x : Int} (h : Gr p q g) (hx : isEl p q x = true) : pw p q x 1 = x := by
  have hp := h.p3
  have hq := h.q2
  have r := isEl_range hx
  unfold pw
  rw [Int.emod_eq_of_lt (show (0 : Int) ≤ 1 by decide) (by omega), show (1 : Int).toNat = 1 from rfl, Int.pow_succ, Int.pow_zero, Int.one_mul, Int.emod_eq_of_lt (by omega) (by omega)]

theorem sum_set : ∀ {l : List Int} {i : Nat} {a b : Int}, l[i]? = some a → (l.set i b).sum = l.sum + b - a
  | [], i, a, b, h => by simp at h
  | x :: l, 0, a, b, h => by
    simp only [List.getElem?_cons_zero, Option.some.injEq] at h
    simp only [List.set_cons_zero, List.sum_cons]
    omega
  | x :: l, i + 1, a, b, h => by
    have e := sum_set (b := b) (show l[i]? = some a by simpa using h)
    simp only [List.set_cons_succ, List.sum_cons]
    omega

theorem sum_full {m : Int} : ∀ {l : List Int}, (∀ a ∈ l, a = m) → l.sum = l.length * m
  | [], _ => by simp
  | x :: l, h => by
    have e := sum_full (l := l) fun a ha => h a (List.mem_cons_of_mem _ ha)
    have e1 := h x List.mem_cons_self
    simp only [List.sum_cons, List.length_cons]
    rw [e, e1, Int.natCast_succ, Int.add_mul, Int.one_mul]
    omega

theorem free_place {m : Int} {l : List Int} (h : l.sum < l.length * m) : ∃ j : Nat, ∃ a : Int, l[j]? = some a ∧ a ≠ m := by
  rcases Classical.em (∃ j : Nat, ∃ a : Int, l[j]? = some a ∧ a ≠ m) with h1 | h1
  · exact h1
  · exfalso
    have := sum_full (m := m) (l := l) fun a ha => by
      obtain ⟨j, hj⟩ := List.mem_iff_getElem?.1 ha
      rcases Classical.em (a = m) with h2 | h2
      · exact h2
      · exact absurd ⟨j, a, hj, h2⟩ h1
    omega

theorem any_not {l : List Int} {n : Int} (h : l.any (· == n) = false) : n ∉ l := fun hm => by
  have e : l.any (· == n) = true := List.any_eq_true.2 ⟨n, hm, beq_self_eq_true n⟩
  rw [e] at h
  cases h

theorem free_number : ∀ {n : Nat} {l : List Int}, l.length < n → ∃ j : Nat, j < n ∧ (j : Int) ∉ l
  | 0, l, h => absurd h (Nat.not_lt_zero _)
  | n + 1, l, h => by
    rcases Classical.em ((n : Int) ∈ l) with h1 | h1
    · have hl := List.length_erase_of_mem h1
      have hp := List.length_pos_of_mem h1
      obtain ⟨j, h2, h3⟩ := free_number (n := n) (l := l.erase (n : Int)) (by omega)
      refine ⟨j, by omega, fun h4 => h3 ?_⟩
      exact (List.mem_erase_of_ne (by omega)).2 h4
    · exact ⟨n, by omega, h1⟩

/-- How far the free place j lies wayTo of k, round about. -/
def wayTo (n : Int) (j : Nat) (k : Int) : Nat := if k ≤ (j : Int) then ((j : Int) - k).toNat else ((j : Int) + n - k).toNat

theorem next_round {n k : Int} (hk : 0 ≤ k ∧ k < n) (hn : n ≤ 1000) : IntKind.wrap .i64 (k + 1) = k + 1 ∧ (k + 1).tmod n = (if k + 1 = n then 0 else k + 1) ∧ guardO (n != 0) = some () := by
  refine ⟨i64_in _ (by omega), ?_, guardO_of (bne_iff_ne.2 (by omega))⟩
  rw [tmod_nn (by omega)]
  split
  · rename_i h
    rw [h, Int.emod_self]
  · exact Int.emod_eq_of_lt (by omega) (by omega)

theorem wayTo_less {n k : Int} {j : Nat} (hk : 0 ≤ k ∧ k < n) (hj : (j : Int) < n) (hne : k ≠ (j : Int)) : (0 ≤ (if k + 1 = n then (0 : Int) else k + 1) ∧ (if k + 1 = n then (0 : Int) else k + 1) < n) ∧ wayTo n j (if k + 1 = n then 0 else k + 1) < wayTo n j k := by
  unfold wayTo
  split
  · split <;> split <;> omega
  · split <;> split <;> omega

abbrev Ct := Int × Int × Int × Int × Int

theorem least_le {a b m : Int} (h : b ≤ m) : (bif decide (a < b) then a else b) ≤ m := by
  cases h1 : decide (a < b)
  · exact h
  · have := of_decide_eq_true h1
    show a ≤ m
    omega

theorem dn_contest {n : Nat} {c : CurT} (h : Cu n c) (hn : n ≤ 1000) : Dn (M_S_l1Cur_contest c) (fun r => (-100 ≤ r.1.2.2.2.1 ∧ r.1.2.2.2.1 ≤ 100000000) ∧ Cu (n + 6) r.2) := by
  unfold M_S_l1Cur_contest
  refine dn_bind (dn_pick h (by omega) (by decide)) fun a ha => ?_
  obtain ⟨⟨a1, -, -, a2⟩, a3⟩ := ha
  have a2' := a2 (by decide)
  refine dn_wrap (by omega) ?_
  refine dn_bind (dn_pick a3 (by omega) (by decide)) fun b hb => ?_
  obtain ⟨⟨b1, -, -, b2⟩, b3⟩ := hb
  have b2' := b2 (by decide)
  refine dn_wrap (by omega) ?_
  refine dn_bind (dn_one b3 (by omega) (by decide)) fun o ho => ?_
  -- the rest, once the number of marks is known
  refine dn_cond (fun _ => dn_cond (fun _ => ?_) fun _ => dn_cond (fun _ => ?_) fun _ => ?_) fun _ => dn_cond (fun _ => ?_) fun _ => dn_cond (fun _ => ?_) fun _ => ?_
  · refine dn_bind (dn_pick ho (by omega) (by decide)) fun d hd => ?_
    obtain ⟨⟨d1, -, -, d2⟩, d3⟩ := hd
    have d2' := d2 (by decide)
    refine dn_wrap (by omega) (dn_wrap (by omega) (dn_is (least_some _ _) ?_))
    have hl := least_le (a := 8 * (1 + d.1)) (b := 3) (m := 3) (by decide)
    refine dn_bind (dn_pick d3 (by omega) (by omega)) fun e he => ?_
    obtain ⟨⟨e1, e0, -, e2⟩, e3⟩ := he
    refine dn_wrap (by omega) (dn_wrap (by omega) ?_)
    refine dn_bind (dn_pick e3 (by omega) (by omega)) fun f hf => ?_
    obtain ⟨⟨f1, f0, -, f2⟩, f3⟩ := hf
    exact dn_wrap (by omega) (dn_some ⟨by dsimp only; omega, cu_up f3 (by omega)⟩)
  · refine dn_is (least_some _ _) ?_
    have hl := least_le (a := 3) (b := 3) (m := 3) (by decide)
    refine dn_bind (dn_pick ho (by omega) (by omega)) fun e he => ?_
    obtain ⟨⟨e1, e0, -, e2⟩, e3⟩ := he
    refine dn_wrap (by omega) (dn_wrap (by omega) ?_)
    refine dn_bind (dn_pick e3 (by omega) (by omega)) fun f hf => ?_
    obtain ⟨⟨f1, f0, -, f2⟩, f3⟩ := hf
    exact dn_wrap (by omega) (dn_some ⟨by dsimp only; omega, cu_up f3 (by omega)⟩)
  · refine dn_is (least_some _ _) ?_
    have hl := least_le (a := 8) (b := 3) (m := 3) (by decide)
    refine dn_bind (dn_pick ho (by omega) (by omega)) fun e he => ?_
    obtain ⟨⟨e1, e0, -, e2⟩, e3⟩ := he
    refine dn_wrap (by omega) (dn_wrap (by omega) ?_)
    refine dn_bind (dn_pick e3 (by omega) (by omega)) fun f hf => ?_
    obtain ⟨⟨f1, f0, -, f2⟩, f3⟩ := hf
    exact dn_wrap (by omega) (dn_some ⟨by dsimp only; omega, cu_up f3 (by omega)⟩)
  · refine dn_bind (dn_pick ho (by omega) (by decide)) fun d hd => ?_
    obtain ⟨⟨d1, -, -, d2⟩, d3⟩ := hd
    have d2' := d2 (by decide)
    have hmul : 0 ≤ (1 + b.1) * (1 + d.1) ∧ (1 + b.1) * (1 + d.1) ≤ 100 := by
      have h1 := Int.mul_le_mul (show 1 + b.1 ≤ 10 by omega) (show 1 + d.1 ≤ 10 by omega) (by omega) (by omega)
      have h2 := Int.mul_nonneg (show 0 ≤ 1 + b.1 by omega) (show 0 ≤ 1 + d.1 by omega)
      omega
    refine dn_wrap (by omega) ?_
    generalize (1 + b.1) * (1 + d.1) = mm at hmul ⊢
    refine dn_wrap (by omega) (dn_is (least_some _ _) ?_)
    have hl := least_le (a := mm) (b := 3) (m := 3) (by decide)
    refine dn_bind (dn_pick d3 (by omega) (by omega)) fun e he => ?_
    obtain ⟨⟨e1, e0, -, e2⟩, e3⟩ := he
    refine dn_wrap (by omega) (dn_wrap (by omega) ?_)
    refine dn_bind (dn_pick e3 (by omega) (by omega)) fun f hf => ?_
    obtain ⟨⟨f1, f0, -, f2⟩, f3⟩ := hf
    exact dn_wrap (by omega) (dn_some ⟨by dsimp only; omega, cu_up f3 (by omega)⟩)
  · refine dn_is (least_some _ _) ?_
    have hl := least_le (a := 3) (b := 3) (m := 3) (by decide)
    refine dn_bind (dn_pick ho (by omega) (by omega)) fun e he => ?_
    obtain ⟨⟨e1, e0, -, e2⟩, e3⟩ := he
    refine dn_wrap (by omega) (dn_wrap (by omega) ?_)
    refine dn_bind (dn_pick e3 (by omega) (by omega)) fun f hf => ?_
    obtain ⟨⟨f1, f0, -, f2⟩, f3⟩ := hf
    exact dn_wrap (by omega) (dn_some ⟨by dsimp only; omega, cu_up f3 (by omega)⟩)
  · refine dn_is (least_some _ _) ?_
    have hl := least_le (a := 1 + b.1) (b := 3) (m := 3) (by decide)
    refine dn_bind (dn_pick ho (by omega) (by omega)) fun e he => ?_
    obtain ⟨⟨e1, e0, -, e2⟩, e3⟩ := he
    refine dn_wrap (by omega) (dn_wrap (by omega) ?_)
    refine dn_bind (dn_pick e3 (by omega) (by omega)) fun f hf => ?_
    obtain ⟨⟨f1, f0, -, f2⟩, f3⟩ := hf
    exact dn_wrap (by omega) (dn_some ⟨by dsimp only; omega, cu_up f3 (by omega)⟩)

theorem dn_anyContest {n : Nat} {c : CurT} (h : Cu n c) (hn : n ≤ 1000) : Dn (M_S_l1Cur_anyContest c) (fun r => Cu (n + 8) r.2) := by
  unfold M_S_l1Cur_anyContest
  refine dn_bind (dn_contest h hn) fun r hr => ?_
  obtain ⟨r1, r2⟩ := hr
  refine dn_bind (dn_pick r2 (by omega) (by decide)) fun k hk => ?_
  obtain ⟨-, k3⟩ := hk
  refine dn_cond (fun _ => ?_) fun _ => dn_cond (fun _ => ?_) fun _ => dn_cond (fun _ => ?_) fun _ => dn_cond (fun _ => ?_) fun _ => dn_cond (fun _ => ?_) fun _ => dn_some (cu_up k3 (by omega))
  · exact dn_bind (dn_among k3 (by omega) ⟨by simp, by simp⟩) fun v hv => dn_some (cu_up hv.2 (by omega))
  · exact dn_bind (dn_among k3 (by omega) ⟨by simp, by simp⟩) fun v hv => dn_some (cu_up hv.2 (by omega))
  · exact dn_wrap (by omega) (dn_bind (dn_among k3 (by omega) ⟨by simp, by simp⟩) fun v hv => dn_some (cu_up hv.2 (by omega)))
  · exact dn_bind (dn_among k3 (by omega) ⟨by simp, by simp⟩) fun v hv => dn_some (cu_up hv.2 (by omega))
  · exact dn_bind (dn_among k3 (by omega) ⟨by simp, by simp⟩) fun v hv => dn_some (cu_up hv.2 (by omega))

/-- What a valid contest fulfils. -/
def CtOK (ct : Ct) : Prop := (0 ≤ ct.2.2.1 ∧ ct.2.2.1 ≤ ct.2.2.2.1) ∧ ((ct.1 = 2 ∧ (1 ≤ ct.2.1 ∧ ct.2.1 ≤ 8) ∧ (1 ≤ ct.2.2.2.2 ∧ ct.2.2.2.2 ≤ 5) ∧ ct.2.2.2.1 ≤ ct.2.1 * ct.2.2.2.2) ∨ (ct.1 = 4 ∧ ct.2.2.2.1 ≤ 5) ∨ ((ct.1 = 1 ∨ ct.1 = 3) ∧ (1 ≤ ct.2.1 ∧ ct.2.1 ≤ 8) ∧ ct.2.2.2.1 ≤ ct.2.1))

theorem dn_l1In (a b c : Int) : Dn (M_S_l1In (a, b, c)) (fun r => r = true → b ≤ a ∧ a ≤ c) := by
  rw [in_eq]
  exact dn_some fun h => of_decide_eq_true h

theorem dn_vContest (ct : Ct) : Dn (M_S_vContest ct) (fun r => r = true → CtOK ct) := by
  obtain ⟨kd, op, le, mo, pt⟩ := ct
  unfold M_S_vContest
  dsimp only
  refine dn_cond (fun _ => dn_some fun h => by cases h) fun h1 => dn_cond (fun _ => dn_some fun h => by cases h) fun h2 => ?_
  have h1' := of_decide_eq_false h1
  have h2' := of_decide_eq_false h2
  have hle : 0 ≤ le ∧ le ≤ mo := by omega
  have score : kd = 2 → Dn (bindO (M_S_l1In (op, (1 : Int), (8 : Int))) fun a1 => cond a1 (bindO (M_S_l1In (pt, (1 : Int), (5 : Int))) fun a2 => cond a2 (bindO (some (IntKind.wrap .i64 (op * pt))) fun a3 => some (decide (mo ≤ a3))) (some false)) (some false)) (fun r => r = true → CtOK (kd, op, le, mo, pt)) := by
    intro hk
    refine dn_bind (dn_l1In _ _ _) fun a ha => dn_cond (fun hat => ?_) fun _ => dn_some fun h => by cases h
    refine dn_bind (dn_l1In _ _ _) fun b hb => dn_cond (fun hbt => ?_) fun _ => dn_some fun h => by cases h
    have ha' := ha hat
    have hb' := hb hbt
    have hmul : 0 ≤ op * pt ∧ op * pt ≤ 40 := by
      have g1 := Int.mul_le_mul ha'.2 hb'.2 (by omega) (by omega)
      have g2 := Int.mul_nonneg (show 0 ≤ op by omega) (show 0 ≤ pt by omega)
      omega
    exact dn_wrap (by omega) (dn_some fun h => ⟨hle, .inl ⟨hk, ha', hb', of_decide_eq_true h⟩⟩)
  have write : kd = 4 → Dn (cond (op == (0 : Int)) (cond (decide (mo ≤ (5 : Int))) (some (pt == (0 : Int))) (some false)) (some false)) (fun r => r = true → CtOK (kd, op, le, mo, pt)) := by
    intro hk
    refine dn_cond (fun _ => dn_cond (fun h => dn_some fun _ => ⟨hle, .inr (.inl ⟨hk, of_decide_eq_true h⟩)⟩) fun _ => dn_some fun h => by cases h) fun _ => dn_some fun h => by cases h
  have choice : kd = 1 ∨ kd = 3 → Dn (bindO (M_S_l1In (op, (1 : Int), (8 : Int))) fun a0 => cond a0 (cond (decide (mo ≤ op)) (some (pt == (0 : Int))) (some false)) (some false)) (fun r => r = true → CtOK (kd, op, le, mo, pt)) := by
    intro hk
    refine dn_bind (dn_l1In _ _ _) fun a ha => dn_cond (fun hat => dn_cond (fun h => dn_some fun _ => ⟨hle, .inr (.inr ⟨hk, ha hat, of_decide_eq_true h⟩)⟩) fun _ => dn_some fun h => by cases h) fun _ => dn_some fun h => by cases h
  refine dn_cond (fun h => ?_) fun _ => dn_cond (fun h => choice (.inr (by simpa using h))) fun _ => dn_cond (fun h => score (by simpa using h)) fun _ => dn_cond (fun h => write (by simpa using h)) fun _ => dn_some fun h => by cases h
  exact dn_cond (fun h => choice (.inl (by simpa using h))) fun h2 => absurd h (by rw [h2]; decide)

theorem dn_l1Put {v : List Int} {k : Int} (hv : v.length ≤ 1000) : Dn (M_S_l1Put (v, k)) (fun r => k ∉ v → r.length = v.length + 1) := by
  unfold M_S_l1Put
  dsimp only
  refine dn_loop (fun s : Int => 0 ≤ s ∧ s ≤ v.length) (fun s : Int => v.length - s.toNat) (fun again s hs ih => ?_) ⟨Int.le_refl _, by omega⟩ (by omega)
  obtain ⟨i, rfl⟩ := Int.eq_ofNat_of_zero_le hs.1
  have hi : i ≤ v.length := by omega
  have tail : Dn (bindO (sliceNH (i : Int) v.length) fun a5 => bindO (guardO (lenOk (([] : List Int).length + (v.take a5.2).length))) fun _ => bindO (some (([] : List Int) ++ v.take a5.2)) fun a7 => bindO (guardO (lenOk (a7.length + (k :: ([] : List Int)).length))) fun _ => bindO (some (a7 ++ (k :: ([] : List Int)))) fun a9 =>
      bindO (sliceLN (i : Int) v.length) fun a10 => bindO (guardO (lenOk (a9.length + ((v.take a10.2).drop a10.1).length))) fun _ => bindO (some (a9 ++ (v.take a10.2).drop a10.1)) fun a12 => some a12) (fun r => k ∉ v → r.length = v.length + 1) := by
    refine dn_is (sliceNH_nat hi) (dn_len (by simp only [List.length_nil, List.length_take]; omega) (dn_is rfl (dn_len (by simp only [List.length_nil, List.length_take, List.length_append, List.length_cons]; omega) (dn_is rfl (dn_is (sliceLN_nat hi) (dn_len (by simp only [List.length_nil, List.length_take, List.length_append, List.length_cons, List.length_drop]; omega) (dn_is rfl (dn_some fun _ => ?_))))))))
    simp only [List.length_nil, List.length_take, List.length_append, List.length_cons, List.length_drop]
    omega
  refine dn_cond (fun h1 => ?_) fun h1 => dn_cond (fun h2 => ?_) fun _ => tail
  · have h1' := of_decide_eq_true h1
    refine dn_getI (by omega) h1' fun a ha => ?_
    refine dn_cond (fun _ => dn_wrap (by omega) (ih _ (by omega) (by omega))) fun _ => dn_cond (fun _ => ?_) fun _ => tail
    refine dn_getI (by omega) h1' fun b hb => dn_cond (fun h3 => dn_some fun hk => absurd ?_ hk) fun _ => tail
    have h3' : b = k := by simpa using h3
    rw [← h3']
    exact List.mem_of_getElem? hb
  · have h1' := of_decide_eq_false h1
    have h2' := of_decide_eq_true h2
    exact absurd h2' h1'

def ScI (B : Nat) (op pt : Int) (s : Int × List Int × Int × Int × List Int) : Prop :=
  0 ≤ s.1 ∧ s.1 ≤ 40 ∧ (s.2.2.2.2.length : Int) = op ∧ s.2.2.2.2.sum + s.1 ≤ op * pt ∧ (∀ x ∈ s.2.2.2.2, 0 ≤ x ∧ x ≤ pt) ∧ Cu (B + (40 - s.1.toNat)) (s.2.1, s.2.2.1, s.2.2.2.1)

theorem zero_sum : ∀ n : Nat, (List.replicate n (0 : Int)).sum = 0
  | 0 => rfl
  | n + 1 => by rw [List.replicate_succ, List.sum_cons, zero_sum n]; rfl

theorem dn_vote {n : Nat} {c : CurT} {ct : Ct} (hct : CtOK ct) (h : Cu n c) (hn : n ≤ 900000) : Dn (M_S_l1Cur_vote (c, ct)) (fun r => r.1.length ≤ 50 ∧ Cu (n + 60) r.2) := by
  obtain ⟨kd, op, le, mo, pt⟩ := ct
  obtain ⟨hle, hkd⟩ := hct
  dsimp only at hle hkd
  have hmo : mo ≤ 40 := by
    rcases hkd with ⟨-, h1, h2, h3⟩ | ⟨-, h1⟩ | ⟨-, h1, h2⟩
    · have g1 := Int.mul_le_mul h1.2 h2.2 (by omega) (by omega)
      omega
    · omega
    · omega
  unfold M_S_l1Cur_vote
  dsimp only
  refine dn_wrap (by omega) (dn_wrap (by omega) ?_)
  refine dn_bind (dn_pick h (by omega) (by omega)) fun a ha => ?_
  obtain ⟨⟨a1, -, a2, a3⟩, a4⟩ := ha
  have hn0 : 0 ≤ le + a.1 ∧ le + a.1 ≤ mo := by
    rcases Int.lt_or_le 1 (mo - le + 1) with h1 | h1
    · have := a3 h1
      omega
    · have := a2 h1
      omega
  refine dn_wrap (by omega) ?_
  generalize le + a.1 = m at hn0
  refine dn_cond (fun hk => ?_) fun hk => dn_cond (fun hk4 => ?_) fun hk4 => ?_
  · -- points
    have hk' : kd = 2 := by simpa using hk
    obtain ⟨h1, h2, h3⟩ : (1 ≤ op ∧ op ≤ 8) ∧ (1 ≤ pt ∧ pt ≤ 5) ∧ mo ≤ op * pt := by
      rcases hkd with ⟨-, h1, h2, h3⟩ | ⟨h1, -⟩ | ⟨h1, -⟩
      · exact ⟨h1, h2, h3⟩
      · omega
      · omega
    refine dn_is (guardO_of (by rw [lim_eq]; simp; omega)) ?_
    refine dn_loop (ScI (n + 1) op pt) (fun s => s.1.toNat) (fun again s hs ih => ?_) ⟨by dsimp only; omega, by dsimp only; omega, by dsimp only; rw [List.length_replicate]; omega, by dsimp only; rw [zero_sum]; omega, fun x hx => by rw [List.eq_of_mem_replicate hx]; omega, cu_up a4 (by omega)⟩ (by dsimp only; omega)
    obtain ⟨k, code, pos, seed, v⟩ := s
    obtain ⟨g1, g2, g3, g4, g6, g5⟩ := hs
    dsimp only at g1 g2 g3 g4 g5 g6 ih ⊢
    refine dn_cond (fun hpos => ?_) fun _ => dn_some ⟨by dsimp only; omega, cu_up g5 (by omega)⟩
    have hpos' := of_decide_eq_true hpos
    generalize hX : n + 1 + (40 - k.toNat) = X at g5
    refine dn_bind (dn_pick g5 (by omega) (by omega)) fun b hb => ?_
    obtain ⟨⟨b1, -, b2, b3⟩, b4⟩ := hb
    have hbo : b.1 < op := by
      rcases Int.lt_or_le 1 op with hq | hq
      · exact b3 hq
      · have := b2 hq
        omega
    obtain ⟨j, f, hj, hf⟩ := free_place (m := pt) (l := v) (by rw [g3]; omega)
    have hjl : j < v.length := (List.getElem?_eq_some_iff.1 hj).1
    refine dn_loop (fun s : Int => 0 ≤ s ∧ s < op) (fun s : Int => wayTo op j s) (fun again2 s2 hs2 ih2 => ?_) ⟨b1, hbo⟩ (by unfold wayTo; split <;> omega)
    refine dn_getI hs2.1 (by omega) fun x hx => dn_cond (fun he => ?_) fun he => ?_
    · have he' : x = pt := by simpa using he
      obtain ⟨r1, r2, r3⟩ := next_round hs2 (by omega)
      have hne : s2 ≠ (j : Int) := fun hh => by
        rw [hh, Int.toNat_natCast, hj] at hx
        cases hx
        exact hf he'
      have hless := wayTo_less hs2 (by omega) hne
      rw [r1]
      refine dn_is rfl (dn_is r3 ?_)
      rw [r2]
      exact dn_is rfl (ih2 _ hless.1 hless.2)
    · refine dn_getI hs2.1 (by omega) fun y hy => ?_
      obtain rfl : x = y := Option.some.inj (hx.symm.trans hy)
      have hy0 := g6 x (List.mem_of_getElem? hy)
      have he' : x ≠ pt := by simpa using he
      refine dn_wrap (by omega) (dn_getI hs2.1 (by omega) fun z hz => dn_is rfl (dn_wrap (by omega) (ih _ ⟨?_, ?_, ?_, ?_, ?_, ?_⟩ ?_)))
      · dsimp only; omega
      · dsimp only; omega
      · dsimp only; rw [List.length_set]; exact g3
      · dsimp only
        rw [sum_set (b := x + 1) hy]
        omega
      · intro z hz
        rcases List.mem_or_eq_of_mem_set hz with hz | hz
        · exact g6 z hz
        · rw [hz]; omega
      · exact cu_up b4 (by dsimp only; omega)
      · dsimp only; omega
  · -- letters
    refine dn_loop (fun s => 0 ≤ s.1 ∧ s.1 ≤ 40 ∧ (s.2.1.length : Int) + s.1 ≤ 40 ∧ Cu (n + 1 + (40 - s.1.toNat)) s.2.2) (fun s => s.1.toNat) (fun again s hs ih => ?_) ⟨by dsimp only; omega, by dsimp only; omega, by simp only [List.length_nil]; omega, cu_up a4 (by omega)⟩ (by dsimp only; omega)
    obtain ⟨g1, g2, g3, g4⟩ := hs
    refine dn_cond (fun hpos => ?_) fun _ => dn_some ⟨by omega, cu_up g4 (by omega)⟩
    have hpos' := of_decide_eq_true hpos
    refine dn_bind (dn_pick g4 (by omega) (by decide)) fun b hb => ?_
    obtain ⟨⟨b1, -, -, b2⟩, b3⟩ := hb
    have b2' := b2 (by decide)
    refine dn_wrap (by omega) (dn_len (by simp only [List.length_cons, List.length_nil]; omega) (dn_is rfl (dn_wrap (by omega) (ih _ ⟨?_, ?_, ?_, ?_⟩ ?_))))
    · dsimp only; omega
    · dsimp only; omega
    · simp only [List.length_append, List.length_cons, List.length_nil]; omega
    · exact cu_up b3 (by dsimp only; omega)
    · dsimp only; omega
  · -- choices, ranks
    have hk2 : kd ≠ 2 := by simpa using hk
    have hk4' : kd ≠ 4 := by simpa using hk4
    obtain ⟨h1, h2⟩ : (1 ≤ op ∧ op ≤ 8) ∧ mo ≤ op := by
      rcases hkd with ⟨h1, -⟩ | ⟨h1, -⟩ | ⟨-, h1, h2⟩
      · exact absurd h1 hk2
      · exact absurd h1 hk4'
      · exact ⟨h1, h2⟩
    refine dn_loop (fun s => (s.1.length : Int) ≤ m ∧ Cu (n + 1 + s.1.length) s.2) (fun s => 40 - s.1.length) (fun again s hs ih => ?_) ⟨by simp only [List.length_nil]; omega, cu_up a4 (by omega)⟩ (by dsimp only; omega)
    obtain ⟨v, cc⟩ := s
    obtain ⟨g1, g2⟩ := hs
    dsimp only at g1 g2 ih ⊢
    refine dn_cond (fun hpos => ?_) fun _ => dn_some ⟨by dsimp only; omega, cu_up g2 (by omega)⟩
    have hpos' := of_decide_eq_true hpos
    refine dn_bind (dn_pick g2 (by omega) (by omega)) fun b hb => ?_
    obtain ⟨⟨b1, -, b2, b3⟩, b4⟩ := hb
    have hbo : b.1 < op := by
      rcases Int.lt_or_le 1 op with hq | hq
      · exact b3 hq
      · have := b2 hq
        omega
    obtain ⟨j, hj, hf⟩ := free_number (n := op.toNat) (l := v) (by omega)
    refine dn_loop (fun s : Int => 0 ≤ s ∧ s < op) (fun s : Int => wayTo op j s) (fun again2 s2 hs2 ih2 => ?_) ⟨b1, hbo⟩ (by unfold wayTo; split <;> omega)
    refine dn_is (has_eq (by omega)) (dn_cond (fun he => ?_) fun he => ?_)
    · have he' : s2 ∈ v := by simpa using he
      obtain ⟨r1, r2, r3⟩ := next_round hs2 (by omega)
      have hne : s2 ≠ (j : Int) := fun hh => hf (hh ▸ he')
      have hless := wayTo_less hs2 (by omega) hne
      rw [r1]
      refine dn_is rfl (dn_is r3 ?_)
      rw [r2]
      exact dn_is rfl (ih2 _ hless.1 hless.2)
    · have he' : s2 ∉ v := any_not he
      refine dn_cond (fun _ => dn_len (by simp only [List.length_cons, List.length_nil]; omega) (dn_is rfl (ih _ ⟨?_, ?_⟩ ?_))) fun _ => dn_bind (dn_l1Put (by omega)) fun w hw => ih _ ⟨?_, ?_⟩ ?_
      · simp only [List.length_append, List.length_cons, List.length_nil]; omega
      · exact cu_up b4 (by simp only [List.length_append, List.length_cons, List.length_nil]; omega)
      · simp only [List.length_append, List.length_cons, List.length_nil]; omega
      · have := hw he'
        dsimp only; omega
      · have := hw he'
        exact cu_up b4 (by dsimp only; omega)
      · have := hw he'
        dsimp only; omega

def VtI (B : Nat) (s : List (List Int) × Int × CurT) : Prop := 0 ≤ s.2.1 ∧ s.2.1 ≤ 30 ∧ (s.1.length : Int) + s.2.1 ≤ 30 ∧ (∀ v ∈ s.1, v.length ≤ 60) ∧ Cu (B + 100 * (30 - s.2.1.toNat)) s.2.2

theorem vtI_loop {ct : Ct} {B : Nat} {s : List (List Int) × Int × CurT} (hct : CtOK ct) (hB : B ≤ 2000) (h0 : VtI B s) :
    Dn (loopO (fun (again4 : List (List Int) × Int × CurT → Option (List (List Int) × CurT)) (s5 : List (List Int) × Int × CurT) => cond (decide (s5.2.1 > (0 : Int))) (bindO (M_S_l1Cur_vote (s5.2.2, ct)) fun a6 => bindO (guardO (lenOk (s5.1.length + (a6.1 :: ([] : List (List Int))).length))) fun _ =>
      bindO (some (s5.1 ++ (a6.1 :: ([] : List (List Int))))) fun a8 => bindO (some (IntKind.wrap .i64 (s5.2.1 - (1 : Int)))) fun a9 => again4 (a8, (a9, a6.2))) (some (s5.1, s5.2.2))) s) (fun r => (r.1.length ≤ 30 ∧ ∀ v ∈ r.1, v.length ≤ 60) ∧ Cu (B + 3000) r.2) := by
  refine dn_loop (VtI B) (fun s => s.2.1.toNat) (fun again s hs ih => ?_) h0 (by have := h0.2.1; omega)
  obtain ⟨l, k, c⟩ := s
  obtain ⟨h1, h2, h3, h4, h5⟩ := hs
  dsimp only at h1 h2 h3 h4 h5 ih ⊢
  refine dn_cond (fun hp => ?_) fun _ => dn_some ⟨⟨by dsimp only; omega, h4⟩, cu_up h5 (by omega)⟩
  have hp' := of_decide_eq_true hp
  refine dn_bind (dn_vote hct h5 (by omega)) fun v hv => dn_len (by simp only [List.length_cons, List.length_nil]; omega) (dn_is rfl (dn_wrap (by omega) (ih _ ⟨?_, ?_, ?_, ?_, ?_⟩ ?_)))
  · dsimp only; omega
  · dsimp only; omega
  · simp only [List.length_append, List.length_cons, List.length_nil]; omega
  · intro r hr
    rcases List.mem_append.1 hr with hr | hr
    · exact h4 r hr
    · simp only [List.mem_cons, List.not_mem_nil, or_false] at hr
      rw [hr]
      have := hv.1
      omega
  · exact cu_up hv.2 (by dsimp only; omega)
  · dsimp only; omega

theorem dn_votes {n : Nat} {c : CurT} {ct : Ct} (hct : CtOK ct) (h : Cu n c) (hn : n ≤ 1000) : Dn (M_S_l1Cur_votes (c, ct)) (fun r => (r.1.length ≤ 30 ∧ ∀ v ∈ r.1, v.length ≤ 60) ∧ Cu (n + 4000) r.2) := by
  unfold M_S_l1Cur_votes
  refine dn_bind (dn_pick h (by omega) (by decide)) fun k hk => ?_
  obtain ⟨⟨k1, -, -, k2⟩, k3⟩ := hk
  have k2' := k2 (by decide)
  refine dn_bind (dn_one k3 (by omega) (by decide)) fun b hb => dn_cond (fun _ => dn_bind (dn_pick hb (by omega) (by decide)) fun j hj => ?_) (fun _ => ?_)
  · obtain ⟨⟨j1, -, -, j2⟩, j3⟩ := hj
    have j2' := j2 (by decide)
    refine dn_wrap (by omega) ?_
    exact dn_weak (vtI_loop (B := n + 3) hct (by omega) ⟨by dsimp only; omega, by dsimp only; omega, by simp only [List.length_nil]; omega, fun v hv => absurd hv (List.not_mem_nil), cu_up j3 (by omega)⟩) fun r hr => ⟨hr.1, cu_up hr.2 (by omega)⟩
  · exact dn_weak (vtI_loop (B := n + 3) hct (by omega) ⟨by dsimp only; omega, by dsimp only; omega, by simp only [List.length_nil]; omega, fun v hv => absurd hv (List.not_mem_nil), cu_up hb (by omega)⟩) fun r hr => ⟨hr.1, cu_up hr.2 (by omega)⟩

theorem dn_anyVote {n : Nat} {c : CurT} {ct : Ct} (h : Cu n c) (hn : n ≤ 900000) : Dn (M_S_l1Cur_anyVote (c, ct)) (fun r => r.1.length ≤ 60) := by
  unfold M_S_l1Cur_anyVote
  refine dn_bind (dn_vContest ct) fun a ha => dn_cond (fun _ => dn_some (by simp)) fun hat => ?_
  refine dn_bind (dn_vote (ha (by simpa using hat)) h hn) fun v hv => ?_
  obtain ⟨hv1, hv2⟩ := hv
  refine dn_is (own_eq (by omega)) ?_
  refine dn_bind (dn_pick hv2 (by omega) (by decide)) fun k hk => ?_
  obtain ⟨-, k3⟩ := hk
  refine dn_cond (fun _ => ?_) fun _ => dn_cond (fun _ => dn_cond (fun hp => ?_) fun _ => dn_some (by dsimp only; omega)) fun _ => dn_cond (fun _ => dn_cond (fun hp => ?_) fun _ => dn_some (by dsimp only; omega)) fun _ => dn_some (by dsimp only; omega)
  · refine dn_bind (dn_pick k3 (by omega) (by decide)) fun j hj => dn_is rfl (dn_len (by simp only [List.length_cons, List.length_nil]; omega) (dn_is rfl (dn_some ?_)))
    simp only [List.length_append, List.length_cons, List.length_nil]; omega
  · have hp' := of_decide_eq_true hp
    refine dn_bind (dn_pick k3 (by omega) (by omega)) fun i hi => ?_
    obtain ⟨⟨i1, -, i2, i3⟩, i4⟩ := hi
    refine dn_bind (dn_among i4 (by omega) ⟨by simp, by simp⟩) fun w hw => dn_getI i1 (by omega) fun _ _ => dn_is rfl (dn_some ?_)
    rw [List.length_set]; omega
  · have hp' := of_decide_eq_true hp
    refine dn_is (show sliceLN (1 : Int) v.1.length = some (1, v.1.length) from sliceLN_nat (l := 1) (by omega)) (dn_some ?_)
    simp only [List.length_drop, List.length_take]; omega

theorem DrawTallyVotes_ok {code : List Int} (hb : Bytes code) : Dn (M_S_DrawTallyVotes code) (fun r => r.2.length ≤ 30 ∧ ∀ v ∈ r.2, v.length ≤ 1048576) := by
  unfold M_S_DrawTallyVotes
  refine dn_bind (dn_anyContest (cu_start hb) (by decide)) fun ct hct => ?_
  refine dn_bind (dn_vContest ct.1) fun a ha => dn_cond (fun _ => dn_some ⟨Nat.zero_le _, fun v hv => absurd hv (List.not_mem_nil)⟩) fun hat => ?_
  refine dn_bind (dn_votes (ha (by simpa using hat)) hct (by decide)) fun l hl => ?_
  obtain ⟨⟨l1, l2⟩, l3⟩ := hl
  have fin : ∀ v ∈ l.1, v.length ≤ 1048576 := fun v hv => by have := l2 v hv; omega
  refine dn_cond (fun hp => dn_bind (dn_one l3 (by decide) (by decide)) fun b hb => dn_cond (fun _ => ?_) fun _ => dn_some ⟨l1, fin⟩) fun _ => dn_some ⟨l1, fin⟩
  have hp' := of_decide_eq_true hp
  refine dn_bind (dn_anyVote hb (by decide)) fun v hv => dn_getI (by decide) hp' fun _ _ => dn_is rfl (dn_some ⟨by rw [List.length_set]; exact l1, fun w hw => ?_⟩)
  rcases List.mem_or_eq_of_mem_set hw with hw | hw
  · exact fin w hw
  · rw [hw]; omega

theorem DrawDecodeTally_ok {code : List Int} (hb : Bytes code) : Dn (M_S_DrawDecodeTally code) (fun r => r.2.1.length ≤ 30) := by
  unfold M_S_DrawDecodeTally
  refine dn_bind (dn_anyGroup (cu_start hb) (by decide)) fun gr hgr => ?_
  obtain ⟨⟨p, q, g⟩, cc⟩ := gr
  obtain ⟨hd, hc⟩ := hgr
  dsimp only at hd hc ⊢
  refine dn_bind (dn_pick hc (by decide) (by decide)) fun k hk => ?_
  obtain ⟨⟨k1, -, -, k2⟩, k3⟩ := hk
  have k2' := k2 (by decide)
  refine dn_loop (fun s : List Int × Int × CurT => 0 ≤ s.2.1 ∧ s.2.1 ≤ 5 ∧ (s.1.length : Int) + s.2.1 ≤ 5 ∧ Cu (10 + (5 - s.2.1.toNat)) s.2.2) (fun s => s.2.1.toNat) (fun again s hs ih => ?_) ⟨by dsimp only; omega, by dsimp only; omega, by simp only [List.length_nil]; omega, cu_up k3 (by omega)⟩ (by dsimp only; omega)
  obtain ⟨l, m, c⟩ := s
  obtain ⟨h1, h2, h3, h4⟩ := hs
  dsimp only at h1 h2 h3 h4 ih ⊢
  refine dn_cond (fun hp => dn_cond (fun _ => ?_) fun h3' => ?_) fun _ => dn_bind (dn_one h4 (by omega) (by decide)) fun b hb => dn_cond (fun _ => ?_) fun _ => ?_
  · have hp' := of_decide_eq_true hp
    refine dn_len (by simp only [List.length_cons, List.length_nil]; omega) (dn_is rfl (dn_wrap (by omega) (ih _ ⟨?_, ?_, ?_, ?_⟩ ?_)))
    · dsimp only; omega
    · dsimp only; omega
    · simp only [List.length_append, List.length_cons, List.length_nil]; omega
    · exact cu_up h4 (by dsimp only; omega)
    · dsimp only; omega
  · have hp' := of_decide_eq_true hp
    have hp3 : 3 ≤ p := by
      have := of_decide_eq_false h3'
      omega
    have hpm : p ≤ 2000000010 := hd.1.2
    have r1 := Int.emod_nonneg g (show p ≠ 0 by omega)
    have r2 := Int.emod_lt_of_pos g (show 0 < p by omega)
    refine dn_is (nMod_eq (by omega) (by omega)) ?_
    refine dn_bind (dn_pick h4 (by omega) (by decide)) fun e he => ?_
    obtain ⟨⟨e1, e0, -, -⟩, e3⟩ := he
    refine dn_is (nPower_eq r1 (by omega) e1 (by omega) (by omega) (by omega)) ?_
    refine dn_len (by simp only [List.length_cons, List.length_nil]; omega) (dn_is rfl (dn_wrap (by omega) (ih _ ⟨?_, ?_, ?_, ?_⟩ ?_)))
    · dsimp only; omega
    · dsimp only; omega
    · simp only [List.length_append, List.length_cons, List.length_nil]; omega
    · exact cu_up e3 (by dsimp only; omega)
    · dsimp only; omega
  · refine dn_bind (dn_anyElement hd hb (by omega)) fun v hv => dn_len (by simp only [List.length_cons, List.length_nil]; omega) (dn_is rfl (dn_bind (dn_among hv (by omega) ⟨by simp, by simp⟩) fun w hw => dn_some ?_))
    simp only [List.length_append, List.length_cons, List.length_nil]; omega
  · exact dn_bind (dn_among hb (by omega) ⟨by simp, by simp⟩) fun w hw => dn_some (by dsimp only; omega)

theorem tallies_rest {more : List Int} (hb : Bytes more) : (bindO (M_S_DrawDecodeTally more) fun a36 => bindO (M_I_DecodeTally a36) fun a37 => bindO (M_S_DecodeTally a36) fun a38 => cond (a37.2 == a38.2) (bindO (M_L_sameInts (a37.1, a38.1)) fun a39 => some a39) (some false)) = some true := by
  obtain ⟨⟨⟨p, q, g⟩, l, m⟩, e, h1⟩ := DrawDecodeTally_ok hb
  dsimp only at h1
  obtain ⟨r, b, hs, hi, hr⟩ := DecodeTally_eq p q g l m (by omega)
  refine bind_to e ?_
  refine bind_to hi ?_
  refine bind_to hs ?_
  refine yes_to (beq_self_eq_true b) ?_
  exact bind_to (sameInts_eq (a := r) (by omega)) rfl

def Gx (p g : Int) (a : Nat) : Int := g ^ a % p

theorem gx_range {p g : Int} (hp : 1 ≤ p) (a : Nat) : 0 ≤ Gx p g a ∧ Gx p g a < p := pow_range hp

theorem gx_mul {p g : Int} (hp : 1 ≤ p) (a b : Nat) : prodM p 1 [Gx p g a, Gx p g b] = Gx p g (a + b) := by
  rw [mul_out (gx_range hp a)]
  unfold Gx
  rw [← Int.mul_emod, ← Int.pow_add]

theorem gx_pw {p q g e : Int} (he : 0 ≤ e ∧ e ≤ q - 1) : pw p q g e = Gx p g e.toNat := by
  unfold pw Gx
  rw [Int.emod_eq_of_lt he.1 (by omega)]

theorem gx_zero {p q g : Int} (h : Gr p q g) : Gx p g 0 = 1 := by
  have := h.p3
  unfold Gx
  rw [Int.pow_zero, Int.emod_eq_of_lt (by decide) (by omega)]

theorem gx_el {p q g : Int} (h : Gr p q g) (a : Nat) : isEl p q (Gx p g a) = true := isEl_pow h (isEl_g h) a

/-- Different exponents below q have different powers. -/
theorem gx_ne {p q g : Int} (h : Gr p q g) {a b : Nat} (hab : a < b) (hb : (b : Int) < q) : Gx p g a ≠ Gx p g b := by
  intro he
  have h3 := h.p3
  have e1 : prodM p 1 [Gx p g a, Gx p g (b - a)] = prodM p 1 [Gx p g a, Gx p g 0] := by
    rw [gx_mul (by omega), gx_mul (by omega), Nat.add_zero, show a + (b - a) = b by omega, he]
  have e2 := over_mul h (gx_el h a) (gx_range (g := g) (show 1 ≤ p by omega) (b - a))
  rw [e1, over_mul h (gx_el h a) (gx_range (g := g) (show 1 ≤ p by omega) 0), gx_zero h] at e2
  exact order_ne h (e := b - a) (by omega) (by omega) e2.symm

theorem srch_first {f : Nat → Bool} {m : Nat} (hm : f m = true) : ∀ (n i : Nat), i ≤ m → m < i + n → (∀ e, i ≤ e → e < m → f e = false) → srch f i n = some m
  | 0, i, h1, h2, _ => by omega
  | n + 1, i, h1, h2, h3 => by
    unfold srch
    rcases Nat.lt_or_ge i m with h4 | h4
    · rw [h3 i (Nat.le_refl _) h4]
      simp only [Bool.false_eq_true, if_false]
      exact srch_first hm n (i + 1) (by omega) (by omega) fun e he1 he2 => h3 e (by omega) he2
    · obtain rfl : i = m := by omega
      rw [hm]
      rfl

def encN (p g : Int) (m r : Nat) : Int × Int := (Gx p g r, Gx p g (m + r))

theorem EncryptExp_eq {p q g m r : Int} (hok : okG p q g = true) (hm : 0 ≤ m ∧ m ≤ q - 1) (hr : 0 ≤ r ∧ r ≤ q - 1) : M_S_EncryptExp ((p, q, g), g, m, r) = some (encN p g m.toNat r.toNat, true) := by
  have h := okG_spec hok
  have h3 := h.p3
  have hg := isEl_in (isEl_g h)
  have r1 := gx_range (g := g) (show 1 ≤ p by omega) m.toNat
  unfold M_S_EncryptExp
  dsimp only
  refine bind_to (v := true) (eKey_eq.trans (congrArg some (by rw [hok, isEl_g h]; rfl))) ?_
  refine no_to rfl ?_
  refine bind_to (v := true) ((gExps_eq h (show [m, r].length < 2 ^ 62 by simp)).trans (congrArg some (by simp only [List.all_cons, List.all_nil, decide_eq_true hm, decide_eq_true hr, Bool.and_self]))) ?_
  refine no_to rfl ?_
  refine bind_to ((gExp_pw h hg.1 hg.2).trans (congrArg some (gx_pw hm))) ?_
  refine bind_to (eEnc_eq h hg ⟨r1.1, by omega⟩) ?_
  unfold encC encN
  rw [gx_pw hr, gx_mul (by omega)]

theorem DecryptExp_eq {p q g : Int} {m a : Nat} (hok : okG p q g = true) (hq : (1000 : Int) < q) (hm : m ≤ 1000) : M_S_DecryptExp ((p, q, g), 1, encN p g m a, 1000) = some ((m : Int), true) := by
  have h := okG_spec hok
  have h3 := h.p3
  have hci : isCi p q (encN p g m a) = true := by
    simp only [isCi, encN, gx_el h, Bool.and_self]
  have r0 := isEl_range (gx_el (g := g) h a)
  have hdec : dec p q 1 (encN p g m a) = Gx p g m := by
    have e := over_mul h (gx_el h a) (gx_range (g := g) (show 1 ≤ p by omega) m)
    rw [gx_mul (by omega), Nat.add_comm] at e
    have e2 : pw p q (Gx p g a) 1 = Gx p g a := pw_self h (gx_el h a)
    unfold dec encN
    dsimp only
    rw [e2]
    exact e
  unfold M_S_DecryptExp M_S_DecryptElement
  dsimp only
  rw [l2Good_eq, hok, bindO_some']
  refine bind_to (v := (Gx p g m, true)) ?_ ?_
  · refine no_to rfl ?_
    refine bind_to ((eGood1_eq h).trans (congrArg some hci)) ?_
    refine no_to rfl ?_
    have h1 : ([(1 : Int)].all fun e => decide (0 ≤ e ∧ e ≤ q - 1)) = true := by
      simp only [List.all_cons, List.all_nil, Bool.and_true]
      exact decide_eq_true (by omega)
    refine bind_to ((gExps_eq h (show [(1 : Int)].length < 2 ^ 62 by simp)).trans (congrArg some h1)) ?_
    refine no_to rfl ?_
    exact bind_to ((eDec_eq h hci).trans (congrArg some hdec)) rfl
  refine no_to rfl ?_
  refine bind_to ((in_eq _ _ _).trans (congrArg some (decide_eq_true (by decide)))) ?_
  refine no_to rfl ?_
  have hs : srch (isLog p g (Gx p g m)) 0 (tries q 1000) = some m := by
    refine srch_first (by simp [isLog, Gx]) _ _ (Nat.zero_le _) (by unfold tries; omega) fun e _ he => ?_
    have := gx_ne h he (show ((m : Nat) : Int) < q by omega)
    exact beq_eq_false_iff_ne.2 this
  refine bind_to ((gLog_eq h (most := 1000) (by decide)).trans (by rw [hs])) rfl

def rnd (i k : Nat) : Int := (31 * (i : Int) + 7 * (k : Int) + 1) % 1019

def encRow (p g : Int) (i : Nat) (e : List Int) : List (Int × Int) := (List.range e.length).map fun k => encN p g (e.getD k 0).toNat (rnd i k).toNat

def rowsFrom (p g : Int) (f : List Int → List Int) : Nat → List (List Int) → List (List (Int × Int))
  | _, [] => []
  | i, v :: vs => encRow p g i (f v) :: rowsFrom p g f (i + 1) vs

theorem rowsFrom_len {p g : Int} {f : List Int → List Int} : ∀ (vs : List (List Int)) (i : Nat), (rowsFrom p g f i vs).length = vs.length
  | [], _ => rfl
  | v :: vs, i => by rw [rowsFrom, List.length_cons, rowsFrom_len vs, List.length_cons]

theorem rowsFrom_snoc {p g : Int} {f : List Int → List Int} (w : List Int) : ∀ (vs : List (List Int)) (i : Nat), rowsFrom p g f i (vs ++ [w]) = rowsFrom p g f i vs ++ [encRow p g (i + vs.length) (f w)]
  | [], _ => rfl
  | v :: vs, i => by
    rw [List.cons_append, rowsFrom, rowsFrom_snoc w vs (i + 1), rowsFrom, List.cons_append, List.length_cons, show i + 1 + vs.length = i + (vs.length + 1) by omega]

theorem rowsFrom_mem {p g : Int} {f : List Int → List Int} {r : List (Int × Int)} : ∀ {vs : List (List Int)} {i : Nat}, r ∈ rowsFrom p g f i vs → ∃ v ∈ vs, ∃ j, r = encRow p g j (f v)
  | v :: vs, i, h => by
    rw [rowsFrom, List.mem_cons] at h
    rcases h with rfl | h
    · exact ⟨v, List.mem_cons_self, i, rfl⟩
    · obtain ⟨w, h1, j, h2⟩ := rowsFrom_mem h
      exact ⟨w, List.mem_cons_of_mem _ h1, j, h2⟩

theorem encRow_len {p g : Int} {i : Nat} {e : List Int} : (encRow p g i e).length = e.length := by simp [encRow]

theorem encRow_get {p g : Int} {i k : Nat} {e : List Int} (hk : k < e.length) : (encRow p g i e)[k]? = some (encN p g (e.getD k 0).toNat (rnd i k).toNat) := by
  simp [encRow, hk]

/-- The sum of the numbers in column k. -/
def colSum (f : List Int → List Int) (k : Nat) : List (List Int) → Nat
  | [] => 0
  | v :: vs => ((f v).getD k 0).toNat + colSum f k vs

theorem mulC_enc {p q g : Int} (h : Gr p q g) (m a m' a' : Nat) : mulC p (encN p g m a) (encN p g m' a') = encN p g (m + m') (a + a') := by
  have h3 := h.p3
  unfold mulC encN
  dsimp only
  rw [gx_mul (by omega), gx_mul (by omega), show m + a + (m' + a') = m + m' + (a + a') by omega]

theorem hcol_enc {p q g : Int} {f : List Int → List Int} {k : Nat} (h : Gr p q g) : ∀ (vs : List (List Int)) (i m a : Nat), (∀ v ∈ vs, k < (f v).length) → ∃ a', (rowsFrom p g f i vs).foldl (fun x r => mulC p x (r.getD k ci0)) (encN p g m a) = encN p g (m + colSum f k vs) a'
  | [], i, m, a, _ => ⟨a, rfl⟩
  | v :: vs, i, m, a, hv => by
    obtain ⟨a', e⟩ := hcol_enc h vs (i + 1) (m + ((f v).getD k 0).toNat) (a + (rnd i k).toNat) fun w hw => hv w (List.mem_cons_of_mem _ hw)
    refine ⟨a', ?_⟩
    rw [rowsFrom, List.foldl_cons, getD_is (encRow_get (hv v List.mem_cons_self)), mulC_enc h, e, colSum, Nat.add_assoc]

theorem hcol_col {p q g : Int} {f : List Int → List Int} {k : Nat} {vs : List (List Int)} (h : Gr p q g) (hv : ∀ v ∈ vs, k < (f v).length) : ∃ a', hcol p (rowsFrom p g f 0 vs) k = encN p g (colSum f k vs) a' := by
  obtain ⟨a', e⟩ := hcol_enc h vs 0 0 0 hv
  refine ⟨a', ?_⟩
  have e0 : encN p g 0 0 = (1, 1) := by
    unfold encN
    rw [gx_zero h]
  rw [e0, Nat.zero_add] at e
  exact e

theorem addR_get {k : Nat} : ∀ (e : List Int) (i : Nat) (s : List Int), i + e.length = s.length → k < s.length → (addR i e s).getD k 0 = if i ≤ k then IntKind.wrap .i64 (s.getD k 0 + e.getD (k - i) 0) else s.getD k 0
  | [], i, s, h, hk => by
    have : ¬ i ≤ k := by simp at h; omega
    rw [if_neg this]
    rfl
  | x :: e, i, s, h, hk => by
    simp only [List.length_cons] at h
    rw [addR, addR_get e (i + 1) _ (by rw [List.length_set]; omega) (by rw [List.length_set]; exact hk)]
    rcases Nat.lt_trichotomy i k with h1 | h1 | h1
    · rw [if_pos (by omega), if_pos (by omega)]
      have e1 : (s.set i (IntKind.wrap .i64 (s.getD i 0 + x))).getD k 0 = s.getD k 0 := by
        rw [List.getD_eq_getElem?_getD, List.getElem?_set_ne (by omega), ← List.getD_eq_getElem?_getD]
      rw [e1, show k - i = (k - (i + 1)) + 1 by omega, List.getD_cons_succ]
    · subst h1
      rw [if_neg (by omega), if_pos (Nat.le_refl _), Nat.sub_self, List.getD_cons_zero, List.getD_eq_getElem?_getD, List.getElem?_set_self hk]
      rfl
    · rw [if_neg (by omega), if_neg (by omega)]
      rw [List.getD_eq_getElem?_getD, List.getElem?_set_ne (by omega), List.getD_eq_getElem?_getD]

theorem tally_get {kd op : Int} {k n : Nat} (hk : k < n) : ∀ (vs : List (List Int)) (s : List Int), s.length = n → (∀ v ∈ vs, (expsOf kd op v).length = n ∧ ∀ x ∈ expsOf kd op v, 0 ≤ x ∧ x ≤ 5) → (0 ≤ s.getD k 0 ∧ s.getD k 0 + 5 * vs.length ≤ 1000) →
    (tally kd op vs s).getD k 0 = s.getD k 0 + (colSum (expsOf kd op) k vs : Nat) ∧ (colSum (expsOf kd op) k vs : Int) ≤ 5 * vs.length
  | [], s, _, _, _ => ⟨by simp [tally, colSum], by simp [colSum]⟩
  | v :: vs, s, hs, hv, hb => by
    obtain ⟨g1, g2⟩ := hv v List.mem_cons_self
    have hx := g2 _ (List.mem_of_getElem? (getD_at (d := (0 : Int)) (show k < (expsOf kd op v).length by omega)))
    simp only [List.length_cons] at hb
    have e1 : (addR 0 (expsOf kd op v) s).getD k 0 = s.getD k 0 + (expsOf kd op v).getD k 0 := by
      rw [addR_get _ 0 s (by omega) (by omega), if_pos (Nat.zero_le _), Nat.sub_zero, i64_in _ (by omega)]
    obtain ⟨i1, i2⟩ := tally_get hk vs (addR 0 (expsOf kd op v) s) (by rw [addR_len]; exact hs) (fun w hw => hv w (List.mem_cons_of_mem _ hw)) (by rw [e1]; omega)
    rw [show tally kd op (v :: vs) s = tally kd op vs (addR 0 (expsOf kd op v) s) from rfl, i1, e1]
    simp only [colSum, List.length_cons]
    omega

theorem foldl_set_in : ∀ (l : List Int) (s : List Int), (∀ x ∈ s, 0 ≤ x ∧ x ≤ 5) → ∀ x ∈ l.foldl (fun s a => s.set a.toNat 1) s, 0 ≤ x ∧ x ≤ 5
  | [], _, h => h
  | a :: l, s, h => by
    rw [List.foldl_cons]
    refine foldl_set_in l _ fun x hx => ?_
    rcases List.mem_or_eq_of_mem_set hx with hx | hx
    · exact h x hx
    · rw [hx]; decide

theorem exps_in {kd op le mo pt : Int} {v : List Int} (hk : kd = 1 ∨ kd = 2) (hpt : kd = 2 → pt ≤ 5) (h : voteB kd op le mo pt v = true) : ∀ x ∈ expsOf kd op v, 0 ≤ x ∧ x ≤ 5 := by
  rcases hk with rfl | rfl
  · exact foldl_set_in v _ fun x hx => by
      rw [List.eq_of_mem_replicate hx]
      decide
  · simp only [voteB, show ((2 : Int) == 1) = false from rfl, cond_false, Bool.and_eq_true, List.all_eq_true, decide_eq_true_eq] at h
    intro x hx
    have h1 := h.2.1 x hx
    have h2 := hpt rfl
    omega

theorem S_tally_yes {kd op le mo pt : Int} {vs : List (List Int)} {r : List Int} (hv : ∀ v ∈ vs, v.length ≤ 1048576) (h : M_S_TallyVotes ((kd, op, le, mo, pt), vs) = some (r, true)) :
    (kd = 1 ∨ kd = 2) ∧ (1 ≤ op ∧ op ≤ 8) ∧ (kd = 2 → pt ≤ 5) ∧ M_S_vContest (kd, op, le, mo, pt) = some true ∧ vs.all (voteB kd op le mo pt) = true ∧ r = tally kd op vs (List.replicate op.toNat 0) := by
  by_cases hk : kd = 1 ∨ kd = 2
  · obtain ⟨b, hb, hbs, hpt⟩ : ∃ b, M_S_vContest (kd, op, le, mo, pt) = some b ∧ (b = true → 1 ≤ op ∧ op ≤ 8) ∧ (b = true → kd = 2 → pt ≤ 5) := by
      rcases hk with rfl | rfl
      · obtain ⟨b, h1, h2⟩ := contest1 op le mo pt
        exact ⟨b, h1, h2, fun _ h => by omega⟩
      · obtain ⟨b, h1, h2⟩ := contest2 op le mo pt
        exact ⟨b, h1, fun h => (h2 h).1, fun h _ => (h2 h).2.2⟩
    have hS : M_S_TallyVotes ((kd, op, le, mo, pt), vs) = bindO (M_S_tVotes ((kd, op, le, mo, pt), vs)) fun a => cond (not a) (some ([], false)) (bindO (M_S_tTally ((kd, op, le, mo, pt), vs)) fun t => some (t, true)) := by
      rcases hk with rfl | rfl <;> rfl
    rw [hS] at h
    unfold M_S_tVotes at h
    dsimp only at h
    rw [hb, bindO_some'] at h
    cases b with
    | false => cases h
    | true =>
      have ho := hbs rfl
      simp only [Bool.not_true, cond_false] at h
      by_cases h24 : vs.length ≤ 24
      · have e1 : decide (((vs.length : Nat) : Int) > 24) = false := by simp; omega
        rw [e1] at h
        simp only [cond_false] at h
        have hV : ∀ v ∈ vs, v.length < 2 ^ 62 := fun v hm => by have := hv v hm; omega
        have h1 := (loop_walk (body := fun (again1 : Int → Option Bool) (s2 : Int) => cond (decide (s2 < ((List.length vs : Nat) : Int))) (bindO (getI vs s2) fun (a3 : List Int) => bindO (M_S_vVote ((kd, op, le, mo, pt), a3)) fun (a4 : Bool) => cond (not a4) (some false) (bindO (some (IntKind.wrap .i64 (s2 + 1))) fun (a5 : Int) => again1 a5)) (some true)) vs (fun _ r k => if voteB kd op le mo pt r = true then k else some false) (some true) (fun again i a ha hi => by
          simp only [getI_nat, ha, bindO_some', i64_succ (show i < 2 ^ 62 by omega), lt_yes hi, cond_true, vVote_eq hk ho (hV a (List.mem_of_getElem? ha))]
          cases voteB kd op le mo pt a <;> rfl) (fun again => by simp) (by omega)).trans (walk_all (voteB kd op le mo pt) vs 0)
        have h2 : loopO (fun (again1 : Int → Option Bool) (s2 : Int) => cond (decide (s2 < ((List.length vs : Nat) : Int))) (bindO (getI vs s2) fun (a3 : List Int) => bindO (M_S_vVote ((kd, op, le, mo, pt), a3)) fun (a4 : Bool) => cond (not a4) (some false) (bindO (some (IntKind.wrap .i64 (s2 + 1))) fun (a5 : Int) => again1 a5)) (some true)) 0 = some (vs.all (voteB kd op le mo pt)) := h1
        rw [h2, bindO_some'] at h
        cases hall : vs.all (voteB kd op le mo pt) with
        | false => rw [hall] at h; cases h
        | true =>
          rw [hall] at h
          simp only [Bool.not_true, cond_false] at h
          rw [tTally_eq hk ho h24 hv hall, bindO_some'] at h
          exact ⟨hk, ho, hpt rfl, hb, rfl, (Prod.mk.inj (Option.some.inj h)).1.symm⟩
      · have e1 : decide (((vs.length : Nat) : Int) > 24) = true := by simp; omega
        rw [e1] at h
        cases h
  · have h1 : kd ≠ 1 := fun h => hk (.inl h)
    have h2 : kd ≠ 2 := fun h => hk (.inr h)
    have b1 : (kd != 1) = true := by simpa using h1
    have b2 : (kd != 2) = true := by simpa using h2
    unfold M_S_TallyVotes at h
    dsimp only at h
    rw [b1, b2] at h
    cases h

theorem ExponentsOf_eq {kd op le mo pt : Int} {v : List Int} (hk : kd = 1 ∨ kd = 2) (ho : 1 ≤ op ∧ op ≤ 8) (hc : M_S_vContest (kd, op, le, mo, pt) = some true) (hv : v.length ≤ 1048576) (h : voteB kd op le mo pt v = true) : M_S_ExponentsOf ((kd, op, le, mo, pt), v) = some (expsOf kd op v, true) := by
  unfold M_S_ExponentsOf M_S_vGood
  dsimp only
  refine bind_to (v := true) ?_ ?_
  · refine bind_to hc ?_
    refine yes_to rfl ?_
    exact bind_to ((vVote_eq hk ho (by omega)).trans (congrArg some h)) rfl
  refine no_to rfl ?_
  exact bind_to (vExps_eq hk ho hv h).1 rfl

theorem cast_pow (a m k : Nat) : (a : Int) ^ k % (m : Int) = ((a ^ k % m : Nat) : Int) := by
  rw [Int.natCast_emod, Int.natCast_pow]

theorem pow_parts {g m k a b c : Nat} (h : k = a * b + c) : g ^ k % m = ((g ^ a % m) ^ b % m) * (g ^ c % m) % m := by
  rw [h, Nat.pow_add, Nat.pow_mul, Nat.mul_mod, Nat.pow_mod (g ^ a)]

theorem okG_ta : okG 2039 1019 4 = true := by
  have h1 : isP (1019 : Int) = true := by
    rw [show (1019 : Int) = ((1019 : Nat) : Int) from rfl, isP_primeB (b := 64) (by decide)]
    decide
  have h2 : isP (2039 : Int) = true := by
    rw [show (2039 : Int) = ((2039 : Nat) : Int) from rfl, isP_primeB (b := 64) (by decide)]
    decide
  have h3 : ((4 : Int) ^ (1019 : Int).toNat % 2039 == 1) = true := by
    have e := cast_pow 4 2039 (1019 : Int).toNat
    rw [pow_parts (k := (1019 : Int).toNat) (a := 128) (b := 7) (c := 123) rfl] at e
    exact beq_iff_eq.2 e
  unfold okG
  rw [h1, h2, h3]
  decide

theorem gr_ta : Gr 2039 1019 4 := okG_spec okG_ta

theorem rnd_in (i k : Nat) : 0 ≤ rnd i k ∧ rnd i k ≤ 1018 := by
  unfold rnd
  exact ⟨Int.emod_nonneg _ (by decide), by have := Int.emod_lt_of_pos (31 * (i : Int) + 7 * (k : Int) + 1) (show (0 : Int) < 1019 by decide); omega⟩

theorem take_next {α : Type} {l : List α} {i : Nat} {a : α} (h : l[i]? = some a) : l.take (i + 1) = l.take i ++ [a] := by
  rw [List.take_add_one, h]
  rfl

theorem rowOK_enc {i n : Nat} {e : List Int} (h : e.length = n) (hn : n ≤ 24) : rowOK 2039 1019 n (encRow 2039 4 i e) = true := by
  unfold rowOK
  simp only [encRow_len, h, beq_self_eq_true, decide_eq_true hn, Bool.true_and]
  rw [List.all_eq_true]
  intro c hc
  obtain ⟨k, _, rfl⟩ := List.mem_map.1 hc
  simp only [isCi, encN, gx_el gr_ta, Bool.and_self]

theorem htR_enc {f : List Int → List Int} {vs : List (List Int)} {n : Nat} (hv : ∀ v ∈ vs, (f v).length = n) (h1 : 1 ≤ n ∧ n ≤ 24) (h2 : 1 ≤ vs.length ∧ vs.length ≤ 24) :
    htR 2039 1019 4 (rowsFrom 2039 4 f 0 vs) = ((List.range n).map (hcol 2039 (rowsFrom 2039 4 f 0 vs)), true) := by
  have hl := rowsFrom_len (p := 2039) (g := 4) (f := f) vs 0
  have hrow : ∀ i, i < vs.length → ∃ v ∈ vs, ∃ j, (rowsFrom 2039 4 f 0 vs).getD i [] = encRow 2039 4 j (f v) := fun i hi => by
    have := getD_at (d := ([] : List (Int × Int))) (show i < (rowsFrom 2039 4 f 0 vs).length by omega)
    exact rowsFrom_mem (List.mem_of_getElem? this)
  have h0 : ((rowsFrom 2039 4 f 0 vs).getD 0 []).length = n := by
    obtain ⟨v, hvm, j, e⟩ := hrow 0 (by omega)
    rw [e, encRow_len]
    exact hv v hvm
  unfold htR
  rw [h0, okG_ta, hl, decide_eq_true h2]
  have hn0 : (n == 0) = false := by simp; omega
  have hall : ((List.range vs.length).all fun i => rowOK 2039 1019 n ((rowsFrom 2039 4 f 0 vs).getD i [])) = true := by
    rw [List.all_eq_true]
    intro i hi
    obtain ⟨v, hvm, j, e⟩ := hrow i (by simpa using hi)
    rw [e]
    exact rowOK_enc (hv v hvm) h1.2
  rw [hn0, hall]
  rfl

theorem law_FnTallies (x : List Int × List Int) (h : WFI [.data (.sl (.int .u8)), .data (.sl (.int .u8))] x) : M_L_FnTallies x = some true := by
  obtain ⟨code, more⟩ := x
  have hb1 : Bytes code := wf_u8 h.1
  have hb2 : Bytes more := wf_u8 h.2
  obtain ⟨gg, hg⟩ := big_some code more
  obtain ⟨⟨⟨kd, op, le, mo, pt⟩, vs⟩, e1, hl, hv⟩ := DrawTallyVotes_ok hb1
  dsimp only at hl hv
  obtain ⟨r, b, hS, hI, hr⟩ := TallyVotes_eq kd op le mo pt vs hv
  have hrest := tallies_rest hb2
  unfold M_L_FnTallies
  dsimp only
  refine bind_to hg ?_
  cases gg
  rotate_left
  · rfl
  refine no_to rfl ?_
  refine bind_to e1 ?_
  refine bind_to hI ?_
  refine bind_to hS ?_
  refine no_to (by rw [BEq.rfl]; rfl) ?_
  dsimp only
  refine bind_to (sameInts_eq (a := r) (by omega)) ?_
  refine no_to rfl ?_
  cases b
  · exact no_to rfl hrest
  refine yes_to rfl ?_
  obtain ⟨hk, ho, hpt, hc, hall, rfl⟩ := S_tally_yes hv hS
  by_cases hn1 : 0 < vs.length
  rotate_left
  · exact no_to (decide_eq_false (by omega)) hrest
  refine yes_to (decide_eq_true (by omega)) ?_
  by_cases hn2 : vs.length < 9
  rotate_left
  · exact no_to (decide_eq_false (by omega)) hrest
  refine yes_to (decide_eq_true (by omega)) ?_
  have hvote : ∀ v ∈ vs, voteB kd op le mo pt v = true := List.all_eq_true.1 hall
  have hlen : ∀ v ∈ vs, (expsOf kd op v).length = op.toNat := fun v hm => (voteB_spec hk ho (hvote v hm)).2
  have hin := fun v hm => exps_in hk hpt (hvote v hm)
  generalize hop : op.toNat = n at hlen
  have hn : 1 ≤ n ∧ n ≤ 8 := by omega
  refine loopO_to (fun i => (rowsFrom 2039 4 (expsOf kd op) 0 (vs.take i), (i : Int))) vs.length (some true) (by omega) (fun again => ?_) (fun again i hi ih => ?_)
  · dsimp only
    rw [List.take_length]
    refine no_to (lt_no _) ?_
    refine bind_to ((I_HomomorphicTally_eq (p := 2039) (q := 1019) (g := 4) (fun r hm => ?_) (by rw [rowsFrom_len]; omega)).trans (congrArg some (htR_enc hlen (by omega) (by omega)))) ?_
    · obtain ⟨v, hm', j, rfl⟩ := rowsFrom_mem hm
      rw [encRow_len, hlen v hm']
      omega
    refine no_to rfl ?_
    have htl : (tally kd op vs (List.replicate n 0)).length = n := by rw [tally_len, List.length_replicate]
    have hcl : ((List.range n).map (hcol 2039 (rowsFrom 2039 4 (expsOf kd op) 0 vs))).length = n := by simp
    refine no_to (by dsimp only; rw [htl, hcl]; exact bne_self_eq_false _) ?_
    dsimp only
    rw [hcl]
    refine loopO_to (fun k => (k : Int)) n (some true) (by omega) (fun again2 => ?_) (fun again2 k hk2 ih2 => ?_)
    · exact no_to (lt_no _) hrest
    · refine yes_to (lt_yes hk2) ?_
      refine bind_to ((getI_nat _ k).trans (show ((List.range n).map (hcol 2039 (rowsFrom 2039 4 (expsOf kd op) 0 vs)))[k]? = some (hcol 2039 (rowsFrom 2039 4 (expsOf kd op) 0 vs) k) by simp [hk2])) ?_
      obtain ⟨a', ea⟩ := hcol_col (k := k) gr_ta (f := expsOf kd op) (vs := vs) fun v hm => by rw [hlen v hm]; exact hk2
      have hs0 : (List.replicate n (0 : Int)).getD k 0 = 0 := by simp [List.getD_eq_getElem?_getD, hk2]
      obtain ⟨t1, t2⟩ := tally_get (kd := kd) (op := op) hk2 vs (List.replicate n 0) List.length_replicate (fun v hm => ⟨hlen v hm, hin v hm⟩) (by rw [hs0]; omega)
      rw [hs0, Int.zero_add] at t1
      rw [ea]
      refine bind_to (DecryptExp_eq okG_ta (by decide) (by omega)) ?_
      refine no_to rfl ?_
      refine bind_to ((getI_nat _ k).trans (getD_at (d := (0 : Int)) (by rw [htl]; exact hk2))) ?_
      refine no_to (by rw [t1]; exact bne_self_eq_false _) ?_
      exact bind_to (congrArg some (i64_succ (by omega))) ih2
  · dsimp only at ih ⊢
    refine yes_to (lt_yes hi) ?_
    have hvi := getD_at (d := ([] : List Int)) hi
    generalize vs.getD i [] = v at hvi
    have hm := List.mem_of_getElem? hvi
    refine bind_to ((getI_nat _ i).trans hvi) ?_
    refine bind_to (ExponentsOf_eq hk ho hc (hv v hm) (hvote v hm)) ?_
    refine no_to rfl ?_
    have hel := hlen v hm
    have hei := hin v hm
    have hrow : rowsFrom 2039 4 (expsOf kd op) 0 (vs.take (i + 1)) = rowsFrom 2039 4 (expsOf kd op) 0 (vs.take i) ++ [encRow 2039 4 i (expsOf kd op v)] := by
      rw [take_next hvi, rowsFrom_snoc, List.length_take, Nat.min_eq_left (by omega), Nat.zero_add]
    rw [hrow] at ih
    have hrl : (rowsFrom 2039 4 (expsOf kd op) 0 (vs.take i)).length ≤ 8 := by rw [rowsFrom_len, List.length_take]; omega
    dsimp only
    generalize expsOf kd op v = e at hel hei ih ⊢
    generalize rowsFrom 2039 4 (expsOf kd op) 0 (vs.take i) = rows at hrl ih ⊢
    rw [hel]
    refine loopO_to (fun k => ((encRow 2039 4 i e).take k, (k : Int))) n (some true) (by omega) (fun again2 => ?_) (fun again2 k hk2 ih2 => ?_)
    · dsimp only
      refine no_to (lt_no _) ?_
      rw [show (encRow 2039 4 i e).take n = encRow 2039 4 i e from List.take_of_length_le (by rw [encRow_len]; omega)]
      refine bind_to (guardO_of (lenOk_of (by simp only [List.length_cons, List.length_nil]; omega))) ?_
      refine bind_to rfl ?_
      exact bind_to (congrArg some (i64_succ (by omega))) ih
    · dsimp only at ih2 ⊢
      refine yes_to (lt_yes hk2) ?_
      have hek := getD_at (d := (0 : Int)) (show k < e.length by omega)
      have h05 := hei _ (List.mem_of_getElem? hek)
      refine bind_to ((getI_nat _ k).trans hek) ?_
      refine bind_to (congrArg some (i64_in _ (by omega))) ?_
      refine bind_to (congrArg some (i64_in _ (by omega))) ?_
      refine bind_to (congrArg some (i64_in _ (by omega))) ?_
      refine bind_to (congrArg some (i64_in _ (by omega))) ?_
      refine bind_to (v := ()) rfl ?_
      have hrn := rnd_in i k
      refine bind_to (congrArg some (show Int.tmod (31 * (i : Int) + 7 * (k : Int) + 1) 1019 = rnd i k from tmod_nn (by omega))) ?_
      refine bind_to (EncryptExp_eq okG_ta (by omega) (by omega)) ?_
      refine no_to rfl ?_
      have htk : ((encRow 2039 4 i e).take k).length ≤ 8 := by rw [List.length_take]; omega
      refine bind_to (guardO_of (lenOk_of (by simp only [List.length_cons, List.length_nil]; omega))) ?_
      refine bind_to rfl ?_
      rw [take_next (encRow_get (show k < e.length by omega))] at ih2
      exact bind_to (congrArg some (i64_succ (by omega))) ih2

end Go.Proofs.YtgjneigkkgaaiaaGreat.Vd
