/- The law FnBatches as plain functions on data returns true for all arguments. No conditions. -/
import Derived.Test.YtoaabialmenfiaaGreatBatMod2
set_option linter.unusedVariables false
set_option linter.unusedSimpArgs false
set_option linter.unusedSectionVars false
set_option linter.unnecessarySimpa false
namespace Go.Proofs.YtoaabialmenfiaaGreat.Vd
open Go.IntWalk

theorem i64_succ {i : Nat} (h : i < 2 ^ 62) : IntKind.wrap .i64 ((i : Int) + 1) = ((i + 1 : Nat) : Int) := by
  rw [i64_in _ (by omega)]
  rfl

theorem lt_yes {i n : Nat} (h : i < n) : decide ((i : Int) < (n : Int)) = true := by simp [h]

theorem lt_no (n : Nat) : decide ((n : Int) < (n : Int)) = false := by simp

/-- A walk over a list by its numbers, with no other state. -/
def walk {α β : Type} (step : Nat → α → Option β → Option β) (fin : Option β) : Nat → List α → Option β
  | _, [] => fin
  | i, a :: r => step i a (walk step fin (i + 1) r)

theorem loop_walk {α β : Type} {body : (Int → Option β) → Int → Option β} (l : List α) (step : Nat → α → Option β → Option β) (fin : Option β)
    (h : ∀ (again : Int → Option β) (i : Nat) a, l[i]? = some a → i < l.length → body again (i : Int) = step i a (again ((i + 1 : Nat) : Int)))
    (hend : ∀ again : Int → Option β, body again (l.length : Int) = fin) (hl : l.length < 2 ^ 64) : loopO body 0 = walk step fin 0 l := by
  refine (loopO_for (σ := Unit) (fun i _ => (i : Int)) l.length (fun i _ => walk step fin i (l.drop i)) (fun _ _ => True) (fun again _ _ => ?_) (fun again i _ hi _ ih => ?_) hl (i := 0) (s := ()) (Nat.zero_le _) trivial).trans rfl
  · simp [hend, walk]
  · rw [h again i l[i] (List.getElem?_eq_getElem hi) hi, ih () trivial, List.drop_eq_getElem_cons hi, walk]

/-- A walk over a list by its numbers, with a state (before the number). -/
def walkS {α β σ : Type} (step : Nat → α → σ → (σ → Option β) → Option β) (fin : σ → Option β) : Nat → List α → σ → Option β
  | _, [], s => fin s
  | i, a :: r, s => step i a s (walkS step fin (i + 1) r)

/-- The same, where the states keep something. -/
theorem loop_walkI {α β σ τ : Type} {body : (τ → Option β) → τ → Option β} (enc : Int → σ → τ) (l : List α) (step : Nat → α → σ → (σ → Option β) → Option β) (fin : σ → Option β) (Inv : Nat → σ → Prop)
    (hc : ∀ (i : Nat) a s (k k' : σ → Option β), l[i]? = some a → Inv i s → (∀ s', Inv (i + 1) s' → k s' = k' s') → step i a s k = step i a s k')
    (h : ∀ (again : τ → Option β) (i : Nat) a s, l[i]? = some a → i < l.length → Inv i s → body again (enc i s) = step i a s fun s' => again (enc ((i + 1 : Nat) : Int) s'))
    (hend : ∀ (again : τ → Option β) s, Inv l.length s → body again (enc l.length s) = fin s) (hl : l.length < 2 ^ 64) (s : σ) (h0 : Inv 0 s) : loopO body (enc 0 s) = walkS step fin 0 l s := by
  refine (loopO_for (σ := σ) (fun i s => enc (i : Int) s) l.length (fun i s => walkS step fin i (l.drop i) s) Inv (fun again s hs => ?_) (fun again i s hi hs ih => ?_) hl (i := 0) (s := s) (Nat.zero_le _) h0).trans rfl
  · simp [hend _ _ hs, walkS]
  · rw [h again i l[i] s (List.getElem?_eq_getElem hi) hi hs, List.drop_eq_getElem_cons hi, walkS]
    exact hc i l[i] s _ _ (List.getElem?_eq_getElem hi) hs fun s' hs' => ih s' hs'

theorem walk_all {α : Type} (p : α → Bool) : ∀ (l : List α) (i : Nat), walk (fun _ a k => if p a = true then k else some false) (some true) i l = some (l.all p)
  | [], _ => rfl
  | a :: l, i => by
    rw [walk, walk_all p l]
    cases h : p a <;> simp [h]

theorem lenOk_of {n : Nat} (h : n ≤ 68719476736) : lenOk n = true := by simp [lenOk, lim_eq, h]

theorem sliceNH_nat {h n : Nat} (hh : h ≤ n) : sliceNH (h : Int) n = some (0, h) := by
  unfold sliceNH
  rw [if_pos ⟨by omega, by omega⟩]
  simp

/-- A loop whose states go down: a property of its answer. -/
theorem loopO_ind {σ β : Type} {body : (σ → Option β) → σ → Option β} (Q : σ → Option β → Prop) (Inv : σ → Prop) (μ : σ → Nat)
    (step : ∀ (again : σ → Option β) s, Inv s → (∀ s', Inv s' → μ s' < μ s → Q s' (again s')) → Q s (body again s)) {s : σ} (h0 : Inv s) (hm : μ s < 2 ^ 64) : Q s (loopO body s) := by
  rw [loopO_eq]
  have H : ∀ (n : Nat) (s : σ), Inv s → μ s < n → Q s (iter body n s) := by
    intro n
    induction n with
    | zero => intro s _ h; exact absurd h (Nat.not_lt_zero _)
    | succ n ih => intro s hs h; exact step _ s hs fun s' hs' h' => ih s' hs' (by omega)
  exact H many s h0 hm

theorem in_eq (x a b : Int) : M_S_l1In (x, a, b) = some (decide (a ≤ x ∧ x ≤ b)) := by
  by_cases h : a ≤ x <;> by_cases h2 : x ≤ b <;> simp [M_S_l1In, h, h2]

theorem within_eq (x a b : Int) : M_I_within (x, a, b) = some (decide (a ≤ x ∧ x ≤ b)) := by
  by_cases h : a ≤ x <;> by_cases h2 : x ≤ b <;> simp [M_I_within, h, h2]

theorem isModulus_eq (x : Int) : M_I_isModulus x = some (decide (2 ≤ x ∧ x ≤ 2000000000)) := by
  unfold M_I_isModulus
  rw [within_eq]
  rfl

def IsP (n : Int) : Prop := 2 ≤ n ∧ ∀ d, 2 ≤ d → d * d ≤ n → n % d ≠ 0

noncomputable def isP (n : Int) : Bool := @decide (IsP n) (Classical.propDecidable _)

/-- No divisor from d on. -/
def NoDiv (n s : Int) : Prop := ∀ d, s ≤ d → d * d ≤ n → n % d ≠ 0

noncomputable def noDiv (n s : Int) : Bool := @decide (NoDiv n s) (Classical.propDecidable _)

theorem noDiv_end {n s : Int} (hs : 0 ≤ s) (h : n < s * s) : noDiv n s = true := by
  simp only [noDiv, decide_eq_true_eq]
  intro d hd hdd
  have := Int.mul_le_mul hd hd hs (by omega)
  omega

theorem noDiv_hit {n s : Int} (h : s * s ≤ n) (h2 : n % s = 0) : noDiv n s = false := by
  simp only [noDiv, decide_eq_false_iff_not]
  intro hn
  exact hn s (Int.le_refl _) h h2

theorem noDiv_step {n s : Int} (h2 : s * s ≤ n → n % s ≠ 0) : noDiv n s = noDiv n (s + 1) := by
  simp only [noDiv, decide_eq_decide]
  constructor
  · intro h d hd hdd
    exact h d (by omega) hdd
  · intro h d hd hdd
    by_cases he : d = s
    · subst he
      exact h2 hdd
    · exact h d (by omega) hdd

theorem sq_lt {s : Int} (h0 : 0 ≤ s) (h : s * s ≤ 2000000000) : s ≤ 44721 := by
  refine Int.not_lt.1 fun hlt => ?_
  have := Int.mul_le_mul (show (44722 : Int) ≤ s by omega) (show (44722 : Int) ≤ s by omega) (by omega) h0
  omega

theorem sq_le {s k : Int} (h0 : 0 ≤ s) (h : s ≤ k) : s * s ≤ k * k := Int.mul_le_mul h h h0 (by omega)

theorem nPrime_eq {n : Int} (hn : n ≤ 2000000000) : M_S_nPrime n = some (isP n) := by
  unfold M_S_nPrime
  by_cases h2 : n < 2
  · have : isP n = false := by simp only [isP, decide_eq_false_iff_not]; intro h; have := h.1; omega
    simp [h2, this]
  · have hb : decide (n < 2) = false := by simpa using h2
    rw [hb, cond_false]
    have h1 : isP n = noDiv n 2 := by
      simp only [isP, noDiv, decide_eq_decide]
      exact ⟨fun h => h.2, fun h => ⟨by omega, h⟩⟩
    rw [h1]
    refine loopO_spec (fun s => some (noDiv n s)) (fun s => 2 ≤ s ∧ s ≤ 50000) (fun s => (50000 - s).toNat) (fun again s hs ih => ?_) ⟨by omega, by omega⟩ (by omega)
    obtain ⟨hs1, hs2⟩ := hs
    have hq := sq_le (by omega) hs2
    have hq0 : 0 ≤ s * s := Int.mul_nonneg (by omega) (by omega)
    simp only [bindO_some', i64_in _ (show (-9223372036854775808 : Int) ≤ s * s ∧ s * s ≤ 9223372036854775807 by omega)]
    by_cases hle : s * s ≤ n
    · have := sq_lt (by omega) (show s * s ≤ 2000000000 by omega)
      have hgs : guardO (s != 0) = some () := guardO_of (by simp; omega)
      simp only [hle, decide_true, cond_true, hgs, bindO_some', tmod_nn (show 0 ≤ n by omega)]
      by_cases h0 : n % s = 0
      · simp [h0, noDiv_hit hle h0]
      · have hb : (n % s == 0) = false := by simpa using h0
        have hw := i64_in (s + 1) (by omega)
        have hi := ih (s + 1) ⟨by omega, by omega⟩ (by omega)
        have hn := noDiv_step (n := n) (s := s) (fun _ => h0)
        rw [hb, cond_false, hw, hi, hn]
    · simp [hle, noDiv_end (by omega) (show n < s * s by omega)]

theorem odd_loop {n : Int} (hn : n ≤ 2000000000) (h2 : 2 ≤ n) (hodd : n % 2 = 1 ∨ n = 2) : loopO (fun (again9 : (Int → (Option Bool))) => (fun (s10 : Int) => (bindO (some (IntKind.wrap .i64 (s10 * s10))) (fun (a11 : Int) => (cond (decide (a11 ≤ n)) (bindO (guardO (s10 != (0 : Int))) (fun (a12 : Unit) => (bindO (some (Int.tmod n s10)) (fun (a13 : Int) => (cond (a13 == (0 : Int)) (some false) (bindO (some (IntKind.wrap .i64 (s10 + (2 : Int)))) (fun (a14 : Int) => (again9 a14)))))))) (some true)))))) (3 : Int) = some (noDiv n 3) := by
  refine loopO_spec (fun s => some (noDiv n s)) (fun s => 3 ≤ s ∧ s ≤ 50000 ∧ s % 2 = 1) (fun s => (50000 - s).toNat) (fun again s hs ih => ?_) ⟨by omega, by omega, by omega⟩ (by omega)
  obtain ⟨hs1, hs2, hs3⟩ := hs
  have hq := sq_le (by omega) hs2
  have hq0 : 0 ≤ s * s := Int.mul_nonneg (by omega) (by omega)
  simp only [bindO_some', i64_in _ (show (-9223372036854775808 : Int) ≤ s * s ∧ s * s ≤ 9223372036854775807 by omega)]
  by_cases hle : s * s ≤ n
  · have := sq_lt (by omega) (show s * s ≤ 2000000000 by omega)
    have h9 := sq_le (show (0 : Int) ≤ 3 by omega) hs1
    have hgs : guardO (s != 0) = some () := guardO_of (by simp; omega)
    simp only [hle, decide_true, cond_true, hgs, bindO_some', tmod_nn (show 0 ≤ n by omega)]
    by_cases h0 : n % s = 0
    · simp [h0, noDiv_hit hle h0]
    · have hb : (n % s == 0) = false := by simpa using h0
      have hw := i64_in (s + 2) (by omega)
      have hi := ih (s + 2) ⟨by omega, by omega, by omega⟩ (by omega)
      have hn1 := noDiv_step (n := n) (s := s) (fun _ => h0)
      have hn2 := noDiv_step (n := n) (s := s + 1) (fun h8 h1 => by
        have := Int.emod_emod_of_dvd n (show (2 : Int) ∣ (s + 1) by omega)
        rw [h1] at this
        have h3 : n ≠ 2 := fun h => by subst h; omega
        omega)
      rw [hb, cond_false, hw, hi, hn1, hn2, show s + 1 + 1 = s + 2 by omega]
  · simp [hle, noDiv_end (by omega) (show n < s * s by omega)]

theorem isPrime_eq {n : Int} (hn : n ≤ 2000000000) : M_I_isPrime n = some (isP n) := by
  unfold M_I_isPrime
  rw [isModulus_eq]
  by_cases h2 : 2 ≤ n
  · have h1 : isP n = noDiv n 2 := by
      simp only [isP, noDiv, decide_eq_decide]
      exact ⟨fun h => h.2, fun h => ⟨h2, h⟩⟩
    have hg2 : guardO ((2 : Int) != 0) = some () := rfl
    by_cases ho : n % 2 = 1 ∨ n = 2
    · rw [odd_loop hn h2 ho, hg2]
      simp only [bindO_some', h2, hn, and_self, decide_true, Bool.not_true, cond_false, tmod_nn (show 0 ≤ n by omega), h1]
      rcases ho with ho | rfl
      · have hb : (n % 2 == 0) = false := by simp [ho]
        rw [hb, cond_false, noDiv_step (n := n) (s := 2) (fun _ => by omega)]
        rfl
      · rw [noDiv_end (n := 2) (s := 2) (by omega) (by omega), noDiv_end (n := 2) (s := 3) (by omega) (by omega)]
        rfl
    · have he : n % 2 = 0 := by omega
      have hn2 : n ≠ 2 := fun h => ho (.inr h)
      have hb : (n != 2) = true := by simpa using hn2
      simp only [bindO_some', hg2, h2, hn, and_self, decide_true, Bool.not_true, cond_false, tmod_nn (show 0 ≤ n by omega), he, beq_self_eq_true, cond_true, hb, h1]
      rw [noDiv_hit (by omega) he]
  · have : isP n = false := by simp only [isP, decide_eq_false_iff_not]; intro h; have := h.1; omega
    simp [h2, this]

theorem pow_mod (a m : Int) : ∀ k : Nat, (a % m) ^ k % m = a ^ k % m
  | 0 => by simp
  | k + 1 => by rw [Int.pow_succ, Int.pow_succ, Int.mul_emod, pow_mod a m k, ← Int.mul_emod, Int.mul_emod, Int.emod_emod_of_dvd _ (Int.dvd_refl m), ← Int.mul_emod]

theorem sq_pow (a : Int) (k : Nat) : (a * a) ^ k = a ^ (2 * k) := by
  rw [show a * a = a ^ 2 by rw [Int.pow_succ, Int.pow_succ, Int.pow_zero, Int.one_mul], ← Int.pow_mul]

/-- One round of the power loop. -/
theorem pow_round {out a m : Int} {e : Int} (he : 0 < e) : ((if e % 2 = 1 then out * a % m else out) * (a * a % m) ^ (e / 2).toNat) % m = (out * a ^ e.toNat) % m := by
  have hk : e.toNat = 2 * (e / 2).toNat + (e % 2).toNat := by omega
  rw [Int.mul_emod, pow_mod, ← Int.mul_emod, sq_pow]
  by_cases h : e % 2 = 1
  · rw [if_pos h, hk, h, Int.pow_add, show (1 : Int).toNat = 1 by rfl, Int.pow_succ, Int.pow_zero, Int.one_mul, Int.mul_emod, Int.emod_emod_of_dvd _ (Int.dvd_refl m), ← Int.mul_emod]
    congr 1
    rw [Int.mul_assoc, Int.mul_comm a]
  · rw [if_neg h, hk, show e % 2 = 0 by omega]
    rfl

theorem mul_in {a b : Int} (ha : 0 ≤ a) (ha2 : a ≤ 3000000000) (hb : 0 ≤ b) (hb2 : b ≤ 3000000000) : 0 ≤ a * b ∧ a * b ≤ 9000000000000000000 :=
  ⟨Int.mul_nonneg ha hb, by have := Int.mul_le_mul ha2 hb2 hb (by omega); omega⟩

theorem nPower_eq {a e m : Int} (ha : 0 ≤ a) (ha2 : a ≤ 3000000000) (he : 0 ≤ e) (he2 : e ≤ 9223372036854775807) (hm : 1 ≤ m) (hm2 : m ≤ 3000000000) : M_S_nPower (a, e, m) = some (a ^ e.toNat % m) := by
  unfold M_S_nPower
  dsimp only
  have hg : guardO (m != 0) = some () := guardO_of (by simp; omega)
  have hg2 : guardO ((2 : Int) != 0) = some () := rfl
  rw [hg, bindO_some', bindO_some', tmod_nn (by omega)]
  have hfin : a ^ e.toNat % m = (1 % m * a ^ e.toNat) % m := by rw [Int.mul_emod, Int.emod_emod_of_dvd _ (Int.dvd_refl m), ← Int.mul_emod, Int.one_mul]
  rw [hfin]
  refine loopO_spec (fun (s : Int × Int × Int) => some ((s.2.2 * s.1 ^ s.2.1.toNat) % m)) (fun s => 0 ≤ s.1 ∧ s.1 ≤ 3000000000 ∧ 0 ≤ s.2.1 ∧ s.2.1 ≤ 9223372036854775807 ∧ 0 ≤ s.2.2 ∧ s.2.2 < m) (fun s => s.2.1.toNat) (fun again s hs ih => ?_)
    (⟨ha, ha2, he, he2, Int.emod_nonneg _ (by omega), Int.emod_lt_of_pos _ (by omega)⟩) (show e.toNat < 2 ^ 64 by omega)
  obtain ⟨a, e, out⟩ := s
  obtain ⟨h1, h2, h3, h4, h5, h6⟩ := hs
  dsimp only at h1 h2 h3 h4 h5 h6 ih ⊢
  have hoa := mul_in h5 (show out ≤ 3000000000 by omega) h1 h2
  have haa := mul_in h1 h2 h1 h2
  by_cases hpos : e > 0
  · have hr := pow_round (out := out) (a := a) (m := m) hpos
    have haam := Int.emod_nonneg (a * a) (show m ≠ 0 by omega)
    have haam2 := Int.emod_lt_of_pos (a * a) (show 0 < m by omega)
    have hoam := Int.emod_nonneg (out * a) (show m ≠ 0 by omega)
    have hoam2 := Int.emod_lt_of_pos (out * a) (show 0 < m by omega)
    simp only [hpos, decide_true, cond_true, hg, hg2, bindO_some', tmod_nn h3, tdiv_nn h3, i64_in _ (show (-9223372036854775808 : Int) ≤ out * a ∧ out * a ≤ 9223372036854775807 by omega), i64_in _ (show (-9223372036854775808 : Int) ≤ a * a ∧ a * a ≤ 9223372036854775807 by omega),
      tmod_nn hoa.1, tmod_nn haa.1, i64_in _ (show (-9223372036854775808 : Int) ≤ e / 2 ∧ e / 2 ≤ 9223372036854775807 by omega)]
    by_cases ho : e % 2 = 1
    · rw [if_pos ho] at hr
      rw [show (e % 2 == 1) = true by simp [ho], cond_true, ih (a * a % m, e / 2, out * a % m) ⟨haam, by dsimp only; omega, by dsimp only; omega, by dsimp only; omega, hoam, hoam2⟩ (by dsimp only; omega)]
      exact congrArg some hr
    · rw [if_neg ho] at hr
      rw [show (e % 2 == 1) = false by simp [ho], cond_false, ih (a * a % m, e / 2, out) ⟨haam, by dsimp only; omega, by dsimp only; omega, by dsimp only; omega, h5, h6⟩ (by dsimp only; omega)]
      exact congrArg some hr
  · have : e = 0 := by omega
    subst this
    simp [Int.emod_eq_of_lt h5 h6]

theorem bits_one {x : Int} (h : 0 ≤ x) : Vd.bits .and .i64 x 1 = x % 2 := by
  obtain ⟨n, rfl⟩ := Int.eq_ofNat_of_zero_le h
  have h1 : (BitVec.ofInt 64 ((n : Nat) : Int) &&& BitVec.ofInt 64 1).toNat = n % 2 := by
    rw [BitVec.toNat_and]
    have e1 : (BitVec.ofInt 64 ((n : Nat) : Int)).toNat = n % 2 ^ 64 := by simp
    have e2 : (BitVec.ofInt 64 1).toNat = 1 := by decide
    rw [e1, e2, Nat.and_one_is_mod]
    omega
  show IntKind.wrap .i64 (((BitVec.ofInt 64 ((n : Nat) : Int) &&& BitVec.ofInt 64 1).toNat : Nat) : Int) = _
  rw [h1, i64_in _ (by omega)]
  omega

theorem shr_one {x : Int} : Vd.shr .i64 x 1 = x / 2 := by
  show x.fdiv (2 ^ (min (1 : Int).toNat 64)) = x / 2
  rw [show ((2 : Int) ^ (min (1 : Int).toNat 64)) = 2 by decide, fdiv_pos (by omega)]

theorem power_eq {a e m : Int} (he : e ≤ 9223372036854775807) : M_I_power (a, e, m) = M_S_nPower (a, e, m) := by
  unfold M_I_power M_S_nPower
  congr 1
  funext _
  congr 1
  funext out
  refine loopO_congr (fun s => s.2.1 ≤ 9223372036854775807) (fun a1 a2 s hs ih => ?_) he
  by_cases hpos : s.2.1 > 0
  · have hg2 : guardO ((2 : Int) != 0) = some () := rfl
    have hg3 : guardO (decide ((0 : Int) ≤ 1)) = some () := rfl
    have hw : ∀ (x : Int) y, a1 (x, s.2.1 / 2, y) = a2 (x, s.2.1 / 2, y) := fun x y => ih _ (by dsimp only; omega)
    simp only [hpos, decide_true, cond_true, hg2, hg3, bindO_some', bits_one (show 0 ≤ s.2.1 by omega), shr_one, tmod_nn (show 0 ≤ s.2.1 by omega), tdiv_nn (show 0 ≤ s.2.1 by omega),
      i64_in _ (show (-9223372036854775808 : Int) ≤ s.2.1 / 2 ∧ s.2.1 / 2 ≤ 9223372036854775807 by omega), hw]
  · simp [hpos]

theorem l1All_eq {l : List Int} {lo hi : Int} (hl : l.length < 2 ^ 62) : M_S_l1All (l, lo, hi) = some (l.all fun n => decide (lo ≤ n ∧ n ≤ hi)) := by
  unfold M_S_l1All
  refine (loop_walk l (fun _ a k => if (decide (lo ≤ a ∧ a ≤ hi)) = true then k else some false) (some true) (fun again i a ha hi' => ?_) (fun again => ?_) (by omega)).trans (walk_all (fun n => decide (lo ≤ n ∧ n ≤ hi)) l 0)
  · simp only [getI_nat, ha, bindO_some', i64_succ (show i < 2 ^ 62 by omega), lt_yes hi', cond_true, in_eq]
    cases decide (lo ≤ a ∧ a ≤ hi) <;> rfl
  · simp

theorem walk_index_mem {α : Type} (p : α → Bool) (f : α → Option Bool) : ∀ (l : List α) (i : Nat), (∀ a ∈ l, f a = some (p a)) →
    ∃ j : Int, walk (fun i a k => bindO (f a) fun b => cond b (some (i : Int)) k) (some (-1)) i l = some j ∧ decide (j ≥ 0) = l.any p
  | [], _, _ => ⟨-1, rfl, rfl⟩
  | a :: l, i, hf => by
    obtain ⟨j, h1, h2⟩ := walk_index_mem p f l (i + 1) fun b hb => hf b (List.mem_cons_of_mem _ hb)
    have ha := hf a (List.mem_cons_self ..)
    cases h : p a
    · exact ⟨j, by simp [walk, ha, h, h1], by simp [h, h2]⟩
    · exact ⟨i, by simp [walk, ha, h], by simp [h]⟩

theorem containsFunc_eq {l : List Int} {f : Int → Option Bool} {p : Int → Bool} (hl : l.length < 2 ^ 62) (hf : ∀ a ∈ l, f a = some (p a)) : M_slices_ContainsFunc_sint_int (l, f) = some (l.any p) := by
  obtain ⟨j, h1, h2⟩ := walk_index_mem p f l 0 hf
  unfold M_slices_ContainsFunc_sint_int
  have : M_slices_IndexFunc_sint_int (l, f) = some j := by
    unfold M_slices_IndexFunc_sint_int
    refine (loop_walk l _ _ (fun again i a ha hi => ?_) (fun again => ?_) (by omega)).trans h1
    · simp only [getI_nat, ha, bindO_some', i64_succ (show i < 2 ^ 62 by omega), lt_yes hi, cond_true]
    · simp
  dsimp only
  rw [this, bindO_some', h2]

theorem areAll_eq {l : List Int} {f : Int → Option Bool} {p : Int → Bool} (hl : l.length < 2 ^ 62) (hf : ∀ a ∈ l, f a = some (p a)) : M_I_areAll (l, f) = some (l.all p) := by
  unfold M_I_areAll
  dsimp only
  rw [containsFunc_eq (p := fun a => !p a) hl fun a ha => by simp [M_I_areAll_1, hf a ha], bindO_some']
  congr 1
  rw [List.any_eq_not_all_not]
  simp

noncomputable def okG (p q g : Int) : Bool := decide (3 ≤ p ∧ p ≤ 2000000000) && (decide (2 ≤ q ∧ q ≤ p - 1) && ((p - 1) % q == 0 && (decide (2 ≤ g ∧ g ≤ p - 1) && (g ^ q.toNat % p == 1 && (isP q && isP p)))))

theorem l2Good_eq (p q g : Int) : M_S_l2Good (p, q, g) = some (okG p q g) := by
  unfold M_S_l2Good okG
  simp only [in_eq, bindO_some']
  by_cases h1 : 3 ≤ p ∧ p ≤ 2000000000
  · rw [i64_in (p - 1) (by omega)]
    simp only [h1, and_self, decide_true, cond_true, Bool.true_and]
    by_cases h2 : 2 ≤ q ∧ q ≤ p - 1
    · have hq : guardO (q != 0) = some () := guardO_of (by simp; omega)
      simp only [h2, and_self, decide_true, cond_true, Bool.true_and, hq, bindO_some', tmod_nn (show 0 ≤ p - 1 by omega)]
      by_cases h3 : (p - 1) % q = 0
      · simp only [h3, beq_self_eq_true, cond_true, Bool.true_and]
        by_cases h4 : 2 ≤ g ∧ g ≤ p - 1
        · simp only [h4, and_self, decide_true, cond_true, Bool.true_and, nPower_eq (show 0 ≤ g by omega) (show g ≤ 3000000000 by omega) (show 0 ≤ q by omega) (show q ≤ 9223372036854775807 by omega) (show 1 ≤ p by omega) (show p ≤ 3000000000 by omega), bindO_some',
            nPrime_eq (show q ≤ 2000000000 by omega), nPrime_eq (show p ≤ 2000000000 by omega)]
          cases (g ^ q.toNat % p == 1) <;> cases isP q <;> cases isP p <;> rfl
        · simp [h4]
      · have hb : ((p - 1) % q == 0) = false := by simpa using h3
        simp [hb]
    · simp [h2]
  · simp [h1]

theorem IsValidGroup_eq (p q g : Int) : M_I_IsValidGroup (p, q, g) = some (okG p q g) := by
  unfold M_I_IsValidGroup okG
  simp only [within_eq, bindO_some']
  by_cases h1 : 3 ≤ p ∧ p ≤ 2000000000
  · rw [i64_in (p - 1) (by omega)]
    simp only [h1, and_self, decide_true, cond_true, Bool.true_and]
    by_cases h2 : 2 ≤ q ∧ q ≤ p - 1
    · have hq : guardO (q != 0) = some () := guardO_of (by simp; omega)
      simp only [h2, and_self, decide_true, cond_true, Bool.true_and, hq, bindO_some', tmod_nn (show 0 ≤ p - 1 by omega)]
      by_cases h3 : (p - 1) % q = 0
      · simp only [h3, beq_self_eq_true, cond_true, Bool.true_and]
        by_cases h4 : 2 ≤ g ∧ g ≤ p - 1
        · simp only [h4, and_self, decide_true, cond_true, Bool.true_and, power_eq (show q ≤ 9223372036854775807 by omega), nPower_eq (show 0 ≤ g by omega) (show g ≤ 3000000000 by omega) (show 0 ≤ q by omega) (show q ≤ 9223372036854775807 by omega) (show 1 ≤ p by omega) (show p ≤ 3000000000 by omega), bindO_some',
            isPrime_eq (show q ≤ 2000000000 by omega), isPrime_eq (show p ≤ 2000000000 by omega)]
          cases (g ^ q.toNat % p == 1) <;> cases isP q <;> cases isP p <;> rfl
        · simp [h4]
      · have hb : ((p - 1) % q == 0) = false := by simpa using h3
        simp [hb]
    · simp [h2]
  · simp [h1]

/-- What a valid group fulfils. -/
structure Gr (p q g : Int) : Prop where
  p3 : 3 ≤ p
  pm : p ≤ 2000000000
  q2 : 2 ≤ q
  qp : q ≤ p - 1
  dv : (p - 1) % q = 0
  g2 : 2 ≤ g
  gp : g ≤ p - 1
  gq : g ^ q.toNat % p = 1
  pq : isP q = true
  pp : isP p = true

theorem okG_spec {p q g : Int} (h : okG p q g = true) : Gr p q g := by
  simp only [okG, Bool.and_eq_true, decide_eq_true_eq, beq_iff_eq] at h
  obtain ⟨⟨h1, h2⟩, ⟨h3, h4⟩, h5, ⟨h6, h7⟩, h8, h9, h10⟩ := h
  exact ⟨h1, h2, h3, h4, h5, h6, h7, h8, h9, h10⟩

theorem nMod_eq {a m : Int} (hm : 1 ≤ m) (hm2 : m ≤ 4611686018427387903) : M_S_nMod (a, m) = some (a % m) := by
  unfold M_S_nMod
  have hg : guardO (m != 0) = some () := guardO_of (by simp; omega)
  have h1 := Int.tmod_lt_of_pos a (show 0 < m by omega)
  have h2 : -m < a.tmod m := Int.lt_tmod_of_pos a (by omega)
  simp only [hg, bindO_some', i64_in (a.tmod m + m) (by omega), tmod_nn (show 0 ≤ a.tmod m + m by omega)]
  congr 1
  rw [Int.add_emod_right]
  have h3 := Int.mul_tdiv_add_tmod a m
  have : a % m = (m * a.tdiv m + a.tmod m) % m := by rw [h3]
  rw [this, Int.mul_add_emod_self_left]

theorem mod_eq {x : Int × Int} : M_I_mod x = M_S_nMod x := rfl

theorem gExp_eq {p q g x e : Int} (h : Gr p q g) (hx : 0 ≤ x) (hx2 : x ≤ p) : M_S_gExp ((p, q, g), x, e) = some (x ^ (e % q).toNat % p) := by
  unfold M_S_gExp
  have := h.p3; have := h.pm; have := h.q2; have := h.qp
  have h1 := Int.emod_nonneg e (show q ≠ 0 by omega)
  have h2 := Int.emod_lt_of_pos e (show 0 < q by omega)
  dsimp only
  rw [nMod_eq (by omega) (by omega), bindO_some', nPower_eq hx (by omega) h1 (by omega) (by omega) (by omega), bindO_some']

theorem Group_pow_eq {p q g x e : Int} (h : Gr p q g) (hx : 0 ≤ x) (hx2 : x ≤ p) : M_I_Group_pow ((p, q, g), x, e) = some (x ^ (e % q).toNat % p) := by
  unfold M_I_Group_pow
  have := h.p3; have := h.pm; have := h.q2; have := h.qp
  have h1 := Int.emod_nonneg e (show q ≠ 0 by omega)
  have h2 := Int.emod_lt_of_pos e (show 0 < q by omega)
  dsimp only
  rw [mod_eq, nMod_eq (by omega) (by omega), bindO_some', power_eq (by omega), nPower_eq hx (by omega) h1 (by omega) (by omega) (by omega), bindO_some']

theorem isExp_eq {p q g e : Int} (h : Gr p q g) : M_I_Group_isExp ((p, q, g), e) = some (decide (0 ≤ e ∧ e ≤ q - 1)) := by
  unfold M_I_Group_isExp
  have := h.pm; have := h.q2; have := h.qp
  simp only [bindO_some', i64_in (q - 1) (by omega), within_eq]

theorem gExps_eq {p q g : Int} {l : List Int} (h : Gr p q g) (hl : l.length < 2 ^ 62) : M_S_gExps ((p, q, g), l) = some (l.all fun e => decide (0 ≤ e ∧ e ≤ q - 1)) := by
  unfold M_S_gExps
  have := h.pm; have := h.q2; have := h.qp
  simp only [bindO_some', i64_in (q - 1) (by omega), l1All_eq hl]

/-- Is a number an element? -/
def isEl (p q x : Int) : Bool := decide (1 ≤ x ∧ x ≤ p - 1) && x ^ q.toNat % p == 1

theorem has_eq' {p q g x : Int} (h : Gr p q g) : M_I_Group_has ((p, q, g), x) = some (isEl p q x) := by
  unfold M_I_Group_has isEl
  have := h.p3; have := h.pm; have := h.q2; have := h.qp
  simp only [bindO_some', i64_in (p - 1) (by omega), within_eq]
  by_cases hx : 1 ≤ x ∧ x ≤ p - 1
  · simp [hx, power_eq (show q ≤ 9223372036854775807 by omega), nPower_eq (show 0 ≤ x by omega) (show x ≤ 3000000000 by omega) (show 0 ≤ q by omega) (show q ≤ 9223372036854775807 by omega) (show 1 ≤ p by omega) (show p ≤ 3000000000 by omega)]
  · simp [hx]

theorem gIs_eq {p q g : Int} {l : List Int} (h : Gr p q g) (hl : l.length < 2 ^ 62) : M_S_gIs ((p, q, g), l) = some (l.all (isEl p q)) := by
  unfold M_S_gIs
  have := h.p3; have := h.pm; have := h.q2; have := h.qp
  refine (loop_walk l (fun _ a k => if (isEl p q a) = true then k else some false) (some true) (fun again i a ha hi' => ?_) (fun again => ?_) (by omega)).trans (walk_all (isEl p q) l 0)
  · simp only [getI_nat, ha, bindO_some', i64_succ (show i < 2 ^ 62 by omega), lt_yes hi', cond_true, in_eq, i64_in (p - 1) (by omega)]
    by_cases hx : 1 ≤ a ∧ a ≤ p - 1
    · simp only [isEl, hx, and_self, decide_true, Bool.not_true, cond_false, Bool.true_and, nPower_eq (show 0 ≤ a by omega) (show a ≤ 3000000000 by omega) (show 0 ≤ q by omega) (show q ≤ 9223372036854775807 by omega) (show 1 ≤ p by omega) (show p ≤ 3000000000 by omega), bindO_some']
      by_cases h1 : a ^ q.toNat % p = 1 <;> simp [h1, bne_dec]
    · simp [isEl, hx]
  · simp

theorem isEl_range {p q x : Int} (h : isEl p q x = true) : 1 ≤ x ∧ x ≤ p - 1 ∧ x ^ q.toNat % p = 1 := by
  simp only [isEl, Bool.and_eq_true, decide_eq_true_eq, beq_iff_eq] at h
  exact ⟨h.1.1, h.1.2, h.2⟩

/-- A product of residues. -/
def prodM (p : Int) : Int → List Int → Int
  | out, [] => out
  | out, x :: l => prodM p (out * x % p) l

theorem prodM_range {p : Int} (hp : 1 ≤ p) : ∀ (l : List Int) (out : Int), 0 ≤ out → out < p ∨ l ≠ [] → 0 ≤ prodM p out l ∧ (prodM p out l < p)
  | [], out, h, h2 => ⟨h, h2.resolve_right (by simp)⟩
  | x :: l, out, h, _ => prodM_range hp l _ (Int.emod_nonneg _ (by omega)) (.inl (Int.emod_lt_of_pos _ (by omega)))

theorem gMul_loop {p : Int} (hp : 1 ≤ p) (hp2 : p ≤ 3000000000) (l : List Int) (hx : ∀ x ∈ l, 0 ≤ x ∧ x ≤ 3000000000) (hl : l.length < 2 ^ 62) {body : (Int × Int → Option Int) → Int × Int → Option Int} 
    (h : ∀ (again : Int × Int → Option Int) (s : Int × Int), body again s = (cond (decide (s.2 < ((l.length : Nat) : Int))) (bindO (getI l s.2) fun a => bindO (some (IntKind.wrap .i64 (s.1 * a))) fun b => bindO (guardO (p != 0)) fun _ => bindO (some (b.tmod p)) fun c => bindO (some (IntKind.wrap .i64 (s.2 + 1))) fun d => again (c, d)) (some s.1))) :
    loopO body (1, 0) = some (prodM p 1 l) := by
  have hg : guardO (p != 0) = some () := guardO_of (by simp; omega)
  refine (loopO_for (σ := Int) (fun i s => (s, (i : Int))) l.length (fun i s => some (prodM p s (l.drop i))) (fun _ s => 0 ≤ s ∧ s ≤ 3000000000) (fun again s hs => ?_) (fun again i s hi hs ih => ?_) (by omega) (i := 0) (s := 1) (Nat.zero_le _) ⟨by omega, by omega⟩).trans (by simp)
  · rw [h]; simp [prodM]
  · have hm := hx l[i] (List.getElem_mem hi)
    have hb := mul_in hs.1 hs.2 hm.1 hm.2
    have h1 := Int.emod_nonneg (s * l[i]) (show p ≠ 0 by omega)
    have h2 := Int.emod_lt_of_pos (s * l[i]) (show 0 < p by omega)
    rw [h]
    simp only [lt_yes hi, cond_true, getI_nat, List.getElem?_eq_getElem hi, bindO_some', hg, i64_succ (show i < 2 ^ 62 by omega), i64_in (s * l[i]) (by omega), tmod_nn hb.1]
    rw [ih _ ⟨h1, by omega⟩, List.drop_eq_getElem_cons hi, prodM]

theorem gMul_eq {p q g : Int} {l : List Int} (h : Gr p q g) (hx : ∀ x ∈ l, 0 ≤ x ∧ x ≤ 3000000000) (hl : l.length < 2 ^ 62) : M_S_gMul ((p, q, g), l) = some (prodM p 1 l) := by
  unfold M_S_gMul
  have := h.p3; have := h.pm
  exact gMul_loop (by omega) (by omega) l hx hl fun _ _ => rfl

theorem Group_mul_eq {p q g : Int} {l : List Int} (h : Gr p q g) (hx : ∀ x ∈ l, 0 ≤ x ∧ x ≤ 3000000000) (hl : l.length < 2 ^ 62) : M_I_Group_mul ((p, q, g), l) = some (prodM p 1 l) := by
  unfold M_I_Group_mul
  have := h.p3; have := h.pm
  exact gMul_loop (by omega) (by omega) l hx hl fun _ _ => rfl

def hstep (c s k : Int) : Int := (c * s + k + 1) % 2147483647

def absorb (s : Int × Int) (x : Int) : Int × Int :=
  (hstep 48271 (hstep 48271 s.1 (x % 2147483648)) (x / 2147483648), hstep 69621 (hstep 69621 s.2 (x % 2147483648)) (x / 2147483648))

def digest (l : List Int) : Int := ((l.foldl absorb (absorb (1, 2) (l.length : Int))).1) * 2147483648 + (l.foldl absorb (absorb (1, 2) (l.length : Int))).2

def HOk (s : Int × Int) : Prop := 0 ≤ s.1 ∧ s.1 < 2147483648 ∧ 0 ≤ s.2 ∧ s.2 < 2147483648

theorem hstep_range (c s k : Int) : 0 ≤ hstep c s k ∧ hstep c s k < 2147483647 :=
  ⟨Int.emod_nonneg _ (by omega), Int.emod_lt_of_pos _ (by omega)⟩

theorem absorb_ok (s : Int × Int) (x : Int) : HOk (absorb s x) := by
  have h1 := hstep_range 48271 (hstep 48271 s.1 (x % 2147483648)) (x / 2147483648)
  have h2 := hstep_range 69621 (hstep 69621 s.2 (x % 2147483648)) (x / 2147483648)
  exact ⟨h1.1, by show hstep _ _ _ < _; omega, h2.1, by show hstep _ _ _ < _; omega⟩

theorem foldl_ok : ∀ (l : List Int) (s : Int × Int), HOk s → HOk (l.foldl absorb s)
  | [], _, h => h
  | x :: l, s, _ => foldl_ok l _ (absorb_ok s x)

theorem digest_range (l : List Int) : 0 ≤ digest l ∧ digest l ≤ 4611686018427387903 := by
  have h := foldl_ok l _ (absorb_ok (1, 2) (l.length : Int))
  obtain ⟨h1, h2, h3, h4⟩ := h
  unfold digest
  omega

theorem hstep_walk {c s k : Int} (hc : c = 48271 ∨ c = 69621) (hs : 0 ≤ s ∧ s < 2147483648) (hk : 0 ≤ k ∧ k < 2147483648) :
    (IntKind.wrap .i64 (IntKind.wrap .i64 (IntKind.wrap .i64 (c * s) + k) + 1)).tmod 2147483647 = hstep c s k := by
  have h1 : 0 ≤ c * s ∧ c * s ≤ 69621 * 2147483648 := ⟨Int.mul_nonneg (by omega) hs.1, Int.mul_le_mul (by omega) (by omega) hs.1 (by omega)⟩
  rw [i64_in (c * s) (by omega), i64_in (c * s + k) (by omega), i64_in (c * s + k + 1) (by omega), tmod_nn (by omega)]
  rfl

theorem absorb_eq {s : Int × Int} {x : Int} (hs : HOk s) (h0 : 0 ≤ x) (h1 : x ≤ 4611686018427387903) : M_S_l3State_absorb (s, x) = some (absorb s x) := by
  unfold M_S_l3State_absorb
  obtain ⟨h2, h3, h4, h5⟩ := hs
  have hg : guardO ((2147483648 : Int) != 0) = some () := rfl
  have hg2 : guardO ((2147483647 : Int) != 0) = some () := rfl
  dsimp only
  rw [hg]
  simp only [bindO_some', tmod_nn h0, tdiv_nn h0]
  rw [i64_in (x / 2147483648) (by omega)]
  have hb : 0 ≤ x % 2147483648 ∧ x % 2147483648 < 2147483648 := by omega
  have ha : 0 ≤ x / 2147483648 ∧ x / 2147483648 < 2147483648 := by omega
  have hm : ∀ k ∈ [x % 2147483648, x / 2147483648], 0 ≤ k ∧ k < 2147483648 := fun k hk => by
    simp only [List.mem_cons, List.not_mem_nil, or_false] at hk
    rcases hk with rfl | rfl
    · exact hb
    · exact ha
  have hg3 : ∀ (c s k : Int), 0 ≤ hstep c s k ∧ hstep c s k < 2147483648 := fun c s k => by have := hstep_range c s k; omega
  refine (loop_walkI (fun i (s : Int × Int) => (i, (s.1, s.2))) [x % 2147483648, x / 2147483648] (fun _ k s c => c (hstep 48271 s.1 k, hstep 69621 s.2 k)) (fun s => some (s.1, s.2)) (fun _ s => HOk s)
    (fun i a s k k' ha hs hk => hk _ ⟨(hg3 _ _ _).1, (hg3 _ _ _).2, (hg3 _ _ _).1, (hg3 _ _ _).2⟩) (fun again i a t ha hi ht => ?_) (fun again s hs => ?_) (by show (2 : Nat) < 2 ^ 64; omega) (s.1, s.2) ⟨h2, h3, h4, h5⟩).trans rfl
  · have hk := hm a (List.mem_of_getElem? ha)
    have hi2 : i < 2 := hi
    simp only [lt_yes hi, cond_true, getI_nat, ha, hg2, bindO_some', hstep_walk (.inl rfl) ⟨ht.1, ht.2.1⟩ hk, hstep_walk (.inr rfl) ⟨ht.2.2.1, ht.2.2.2⟩ hk, i64_succ (show i < 2 ^ 62 by omega)]
  · simp only [lt_no, cond_false]

theorem hInts_eq {l : List Int} (hl : l.length < 2 ^ 40) (hx : ∀ x ∈ l, 0 ≤ x ∧ x ≤ 4611686018427387903) : M_S_hInts l = some (digest l) := by
  unfold M_S_hInts
  rw [absorb_eq (⟨by omega, by omega, by omega, by omega⟩ : HOk (1, 2)) (by omega) (by omega), bindO_some']
  refine (loopO_for (σ := Int × Int) (fun i s => ((i : Int), (s.1, s.2))) l.length (fun i s => some (((l.drop i).foldl absorb s).1 * 2147483648 + ((l.drop i).foldl absorb s).2)) (fun _ s => HOk s) (fun again s hs => ?_) (fun again i s hi hs ih => ?_) (by omega) (i := 0) (s := absorb (1, 2) (l.length : Int)) (Nat.zero_le _) (absorb_ok _ _)).trans rfl
  · obtain ⟨h1, h2, h3, h4⟩ := hs
    simp only [lt_no, cond_false, List.drop_length, List.foldl_nil, bindO_some']
    rw [i64_in (s.1 * 2147483648) (by omega), i64_in (s.1 * 2147483648 + s.2) (by omega)]
  · have hm := hx l[i] (List.getElem_mem hi)
    simp only [lt_yes hi, cond_true, getI_nat, List.getElem?_eq_getElem hi, bindO_some', absorb_eq (s := (s.1, s.2)) hs hm.1 hm.2, i64_succ (show i < 2 ^ 62 by omega)]
    rw [ih _ (absorb_ok _ _), List.drop_eq_getElem_cons hi, List.foldl_cons]

theorem bits_mask {x : Int} (h : 0 ≤ x) (h2 : x ≤ 9223372036854775807) : Vd.bits .and .i64 x 2147483647 = x % 2147483648 := by
  obtain ⟨n, rfl⟩ := Int.eq_ofNat_of_zero_le h
  have h1 : (BitVec.ofInt 64 ((n : Nat) : Int) &&& BitVec.ofInt 64 2147483647).toNat = n % 2147483648 := by
    rw [BitVec.toNat_and]
    have e1 : (BitVec.ofInt 64 ((n : Nat) : Int)).toNat = n % 2 ^ 64 := by simp
    have e2 : (BitVec.ofInt 64 2147483647).toNat = 2 ^ 31 - 1 := by decide
    rw [e1, e2, Nat.and_two_pow_sub_one_eq_mod]
    omega
  show IntKind.wrap .i64 (((BitVec.ofInt 64 ((n : Nat) : Int) &&& BitVec.ofInt 64 2147483647).toNat : Nat) : Int) = _
  rw [h1, i64_in _ (by omega)]
  omega

theorem shr_31 {x : Int} : Vd.shr .i64 x 31 = x / 2147483648 := by
  show x.fdiv (2 ^ (min (31 : Int).toNat 64)) = _
  rw [show ((2 : Int) ^ (min (31 : Int).toNat 64)) = 2147483648 by decide, fdiv_pos (by omega)]

theorem shl_31 {x : Int} : Vd.shl .i64 x 31 = IntKind.wrap .i64 (x * 2147483648) := by
  show IntKind.wrap .i64 (x * (2 ^ (min (31 : Int).toNat 64))) = _
  rw [show ((2 : Int) ^ (min (31 : Int).toNat 64)) = 2147483648 by decide]

theorem hash_eq {l : List Int} (hl : l.length < 2 ^ 30) (hx : ∀ x ∈ l, 0 ≤ x ∧ x ≤ 4611686018427387903) : M_I_hash l = some (digest l) := by
  unfold M_I_hash
  have hg31 : guardO (decide ((0 : Int) ≤ 31)) = some () := rfl
  have hg2 : guardO ((2147483647 : Int) != 0) = some () := rfl
  rw [guardO_of (lenOk_of (by simp; omega)), bindO_some', bindO_some']
  have hL : ∀ x ∈ ((l.length : Int) :: l), 0 ≤ x ∧ x ≤ 4611686018427387903 := fun x h => by
    rcases List.mem_cons.1 h with rfl | h
    · omega
    · exact hx x h
  have e : [((l.length : Nat) : Int)] ++ l = ((l.length : Int) :: l) := rfl
  rw [e]
  have hlen : ((l.length : Int) :: l).length = l.length + 1 := rfl
  generalize hLL : ((l.length : Int) :: l) = L at hL hlen
  refine (loopO_for (σ := Int × Int) (fun i s => (s.1, (s.2, (i : Int)))) L.length (fun i s => some (((L.drop i).foldl absorb s).1 * 2147483648 + ((L.drop i).foldl absorb s).2)) (fun _ s => HOk s) (fun again s hs => ?_) (fun again i s hi hs ih => ?_) (by omega) (i := 0) (s := (1, 2)) (Nat.zero_le _) ⟨by decide, by decide, by decide, by decide⟩).trans (by rw [← hLL]; rfl)
  · obtain ⟨h1, h2, h3, h4⟩ := hs
    simp only [lt_no, cond_false, List.drop_length, List.foldl_nil, bindO_some', hg31, shl_31]
    rw [i64_in (s.1 * 2147483648) (by omega), i64_in (s.1 * 2147483648 + s.2) (by omega)]
  · have hm := hL L[i] (List.getElem_mem hi)
    obtain ⟨h1, h2, h3, h4⟩ := hs
    have hb : 0 ≤ L[i] % 2147483648 ∧ L[i] % 2147483648 < 2147483648 := by omega
    have ha : 0 ≤ L[i] / 2147483648 ∧ L[i] / 2147483648 < 2147483648 := by omega
    have r1 := hstep_range 48271 s.1 (L[i] % 2147483648)
    have r2 := hstep_range 69621 s.2 (L[i] % 2147483648)
    simp only [lt_yes hi, cond_true, getI_nat, List.getElem?_eq_getElem hi, bindO_some', hg31, hg2, shr_31, bits_mask hm.1 (by omega), hstep_walk (.inl rfl) ⟨h1, h2⟩ hb, hstep_walk (.inr rfl) ⟨h3, h4⟩ hb,
      hstep_walk (.inl rfl) (⟨r1.1, by omega⟩ : 0 ≤ hstep 48271 s.1 (L[i] % 2147483648) ∧ _) ha, hstep_walk (.inr rfl) (⟨r2.1, by omega⟩ : 0 ≤ hstep 69621 s.2 (L[i] % 2147483648) ∧ _) ha, i64_succ (show i < 2 ^ 62 by omega)]
    rw [List.drop_eq_getElem_cons hi, List.foldl_cons, ← ih (absorb s L[i]) (absorb_ok _ _)]
    rfl

def lab (s : ByteArray) (l : List Int) : List Int := (s.size : Int) :: (ofStr s ++ l)

theorem ofStr_length (s : ByteArray) : (ofStr s).length = s.size := by
  unfold ofStr
  rw [List.length_map, Array.length_toList]
  rfl

theorem ofStr_get {s : ByteArray} {i : Nat} (h : i < s.size) : ∃ b : UInt8, s[i]? = some b ∧ (ofStr s)[i]? = some ((b.toNat : Nat) : Int) := by
  refine ⟨s[i], by simp [h], ?_⟩
  have h' : i < s.data.size := h
  simp only [ofStr, List.getElem?_map]
  rw [List.getElem?_eq_getElem (by simpa using h')]
  rfl

theorem ofStr_range {s : ByteArray} {x : Int} (h : x ∈ ofStr s) : 0 ≤ x ∧ x ≤ 255 := by
  simp only [ofStr, List.mem_map] at h
  obtain ⟨b, _, rfl⟩ := h
  have := b.toNat_lt
  omega

theorem label_loop {s : ByteArray} {l : List Int} (hs : s.size < 2 ^ 30) (hl : l.length < 2 ^ 30) : M_S_l3With (s, l) = some (lab s l) := by
  unfold M_S_l3With
  refine (loopO_for (σ := List Int) (fun i a => (a, (i : Int))) s.size (fun i a => some (lab s l)) (fun i a => a = (s.size : Int) :: (ofStr s).take i) (fun again a ha => ?_) (fun again i a hi ha ih => ?_) (by omega) (i := 0) (s := [(s.size : Int)]) (Nat.zero_le _) (by simp)).trans rfl
  · subst ha
    have ht : (ofStr s).take s.size = ofStr s := by rw [← ofStr_length, List.take_length]
    have hlen := ofStr_length s
    simp only [lt_no, cond_false, ht]
    rw [guardO_of (lenOk_of (by simp [hlen]; omega))]
    rfl
  · subst ha
    obtain ⟨b, h1, h2⟩ := ofStr_get hi
    have hb := b.toNat_lt
    have hlen := ofStr_length s
    simp only [lt_yes hi, cond_true, Int.toNat_natCast, h1]
    rw [if_pos (by omega)]
    simp only [bindO_some', i64_in ((b.toNat : Nat) : Int) (by omega), i64_succ (show i < 2 ^ 62 by omega)]
    rw [guardO_of (lenOk_of (by simp; omega)), bindO_some']
    refine ih _ ?_
    rw [List.take_add_one, h2]
    simp

theorem labelled_eq (x : ByteArray × List Int) : M_I_labelled x = M_S_l3With x := rfl

/-- What can be hashed. -/
def okD (l : List Int) : Bool := l.all fun n => decide (0 ≤ n ∧ n ≤ 4611686018427387903)

theorem okD_spec {l : List Int} (h : okD l = true) : ∀ x ∈ l, 0 ≤ x ∧ x ≤ 4611686018427387903 := fun x hx => by
  simpa using List.all_eq_true.1 h x hx

theorem lab_range {s : ByteArray} {l : List Int} (hs : s.size < 2 ^ 30) (h : okD l = true) : ∀ x ∈ lab s l, 0 ≤ x ∧ x ≤ 4611686018427387903 := fun x hx => by
  rcases List.mem_cons.1 hx with rfl | hx
  · omega
  · rcases List.mem_append.1 hx with hx | hx
    · have := ofStr_range hx
      omega
    · exact okD_spec h x hx

theorem lab_okD {s : ByteArray} {l : List Int} (hs : s.size < 2 ^ 30) : okD (lab s l) = okD l := by
  have h1 : ∀ x ∈ ofStr s, decide (0 ≤ x ∧ x ≤ 4611686018427387903) = true := fun x hx => by
    have := ofStr_range hx
    simp only [decide_eq_true_eq]
    omega
  unfold okD lab
  rw [List.all_cons, List.all_append, List.all_eq_true.2 h1]
  have : decide (0 ≤ ((s.size : Nat) : Int) ∧ ((s.size : Nat) : Int) ≤ 4611686018427387903) = true := by
    simp only [decide_eq_true_eq]
    omega
  rw [this]
  rfl

/-- What HashLabelled answers. -/
def hashL (s : ByteArray) (l : List Int) : Int × Bool := if s.size ≤ 40 ∧ okD l = true ∧ 1 + s.size + l.length ≤ 400 then (digest (lab s l), true) else (0, false)

theorem hLabelled_eq {s : ByteArray} {l : List Int} (hs : s.size < 2 ^ 30) (hl : l.length < 2 ^ 30) (h : okD l = true) : M_S_hLabelled (s, l) = some (digest (lab s l)) := by
  unfold M_S_hLabelled
  have hlen : (lab s l).length < 2 ^ 40 := by simp [lab, ofStr_length]; omega
  simp only [label_loop hs hl, bindO_some', hInts_eq hlen (lab_range hs h)]

theorem areDigests_eq {l : List Int} : M_I_areDigests l = some (decide (l.length ≤ 400) && okD l) := by
  unfold M_I_areDigests
  by_cases h : l.length ≤ 400
  · have e1 : decide (((l.length : Nat) : Int) ≤ 400) = true := by simp; omega
    rw [e1, cond_true, areAll_eq (p := fun n => decide (0 ≤ n ∧ n ≤ 4611686018427387903)) (by omega) fun a _ => by simp [M_I_isDigest, within_eq], bindO_some']
    simp [h, okD]
  · have e1 : decide (((l.length : Nat) : Int) ≤ 400) = false := by simp; omega
    simp [e1, h]

theorem I_HashInts_eq {l : List Int} : M_I_HashInts l = some (if l.length ≤ 400 ∧ okD l = true then (digest l, true) else (0, false)) := by
  unfold M_I_HashInts
  rw [areDigests_eq, bindO_some']
  by_cases h : l.length ≤ 400 ∧ okD l = true
  · rw [if_pos h, hash_eq (by omega) (okD_spec h.2)]
    simp [h.1, h.2]
  · rw [if_neg h]
    have : (decide (l.length ≤ 400) && okD l) = false := by
      rw [Bool.and_eq_false_iff, decide_eq_false_iff_not]
      by_cases h1 : l.length ≤ 400
      · right
        cases h2 : okD l
        · rfl
        · exact absurd ⟨h1, h2⟩ h
      · exact .inl h1
    rw [this]
    rfl

theorem I_HashLabelled_eq {s : ByteArray} {l : List Int} : M_I_HashLabelled (s, l) = some (hashL s l) := by
  unfold M_I_HashLabelled hashL
  by_cases h1 : s.size ≤ 40
  · by_cases h2 : l.length ≤ 400
    · have e1 : decide (((s.size : Nat) : Int) > 40) = false := by simp; omega
      have e2 : decide (((l.length : Nat) : Int) > 400) = false := by simp; omega
      simp only [e1, e2, cond_false]
      rw [labelled_eq, label_loop (by omega) (by omega), bindO_some', I_HashInts_eq, bindO_some', lab_okD (by omega)]
      have e3 : ((lab s l).length ≤ 400 ∧ okD l = true) ↔ (s.size ≤ 40 ∧ okD l = true ∧ 1 + s.size + l.length ≤ 400) := by
        simp only [lab, List.length_cons, List.length_append, ofStr_length]
        constructor
        · rintro ⟨a, b⟩; exact ⟨h1, b, by omega⟩
        · rintro ⟨a, b, c⟩; exact ⟨by omega, b⟩
      simp only [e3]
    · have e1 : decide (((s.size : Nat) : Int) > 40) = false := by simp; omega
      have e2 : decide (((l.length : Nat) : Int) > 400) = true := by simp; omega
      rw [if_neg (fun h => by omega)]
      simp only [e1, e2, cond_false, cond_true]
  · have e1 : decide (((s.size : Nat) : Int) > 40) = true := by simp; omega
    rw [if_neg (fun h => h1 h.1)]
    simp only [e1, cond_true]

theorem gInv_eq {p q g x : Int} (h : Gr p q g) (hx : 0 ≤ x) (hx2 : x ≤ p) : M_S_gInv ((p, q, g), x) = some (x ^ (q - 1).toNat % p) := by
  unfold M_S_gInv
  have := h.p3; have := h.pm; have := h.q2; have := h.qp
  dsimp only
  rw [i64_in (q - 1) (by omega), bindO_some', nPower_eq hx (by omega) (by omega) (by omega) (by omega) (by omega), bindO_some']

theorem Group_inv_eq {p q g x : Int} (h : Gr p q g) (hx : 0 ≤ x) (hx2 : x ≤ p) : M_I_Group_inv ((p, q, g), x) = some (x ^ (q - 1).toNat % p) := by
  unfold M_I_Group_inv
  have := h.q2
  have e : (-1 : Int) % q = q - 1 := by
    rw [Int.emod_def]
    have : (-1 : Int) / q = -1 := by
      rw [Int.ediv_eq_iff_of_pos (by omega)]
      omega
    rw [this]
    omega
  dsimp only
  rw [Group_pow_eq h hx hx2, bindO_some', e]

theorem inv_range {p q x : Int} (hp : 1 ≤ p) : 0 ≤ x ^ (q - 1).toNat % p ∧ x ^ (q - 1).toNat % p < p :=
  ⟨Int.emod_nonneg _ (by omega), Int.emod_lt_of_pos _ (by omega)⟩

theorem pow_range {p x : Int} {k : Nat} (hp : 1 ≤ p) : 0 ≤ x ^ k % p ∧ x ^ k % p < p :=
  ⟨Int.emod_nonneg _ (by omega), Int.emod_lt_of_pos _ (by omega)⟩

/-- a over b. -/
def over (p q a b : Int) : Int := prodM p 1 [a, b ^ (q - 1).toNat % p]

theorem over_eq {p q g a b : Int} (h : Gr p q g) (ha : 0 ≤ a ∧ a ≤ p) (hb : 0 ≤ b ∧ b ≤ p) : M_I_Group_over ((p, q, g), a, b) = some (over p q a b) := by
  unfold M_I_Group_over over
  have := h.p3; have := h.pm
  have hr := inv_range (q := q) (x := b) (show 1 ≤ p by omega)
  simp only [Group_inv_eq h hb.1 hb.2, bindO_some']
  rw [Group_mul_eq h (fun x hx => ?_) (by show (2 : Nat) < _; omega)]
  · rfl
  · simp only [List.mem_cons, List.not_mem_nil, or_false] at hx
    rcases hx with rfl | rfl <;> omega

theorem mul2 {p q g a b : Int} (h : Gr p q g) (ha : 0 ≤ a ∧ a ≤ p) (hb : 0 ≤ b ∧ b ≤ p) : M_S_gMul ((p, q, g), [a, b]) = some (prodM p 1 [a, b]) := by
  have := h.p3; have := h.pm
  refine gMul_eq h (fun x hx => ?_) (by show (2 : Nat) < _; omega)
  simp only [List.mem_cons, List.not_mem_nil, or_false] at hx
  rcases hx with rfl | rfl <;> omega

theorem mul2' {p q g a b : Int} (h : Gr p q g) (ha : 0 ≤ a ∧ a ≤ p) (hb : 0 ≤ b ∧ b ≤ p) : M_I_Group_mul ((p, q, g), [a, b]) = some (prodM p 1 [a, b]) := by
  have := h.p3; have := h.pm
  refine Group_mul_eq h (fun x hx => ?_) (by show (2 : Nat) < _; omega)
  simp only [List.mem_cons, List.not_mem_nil, or_false] at hx
  rcases hx with rfl | rfl <;> omega

theorem prod_range {p : Int} {l : List Int} (hp : 2 ≤ p) : 0 ≤ prodM p 1 l ∧ prodM p 1 l < p := prodM_range (by omega) l 1 (by omega) (.inl (by omega))

/-- Steps of a function that calls itself: nothing or the answer; the answer in the end. -/
def Comes {α β : Type} (R : Nat → α → Option β) (x : α) (N : Nat) (y : β) : Prop := ∀ m, (R m x = none ∨ R m x = some y) ∧ (N ≤ m → R m x = some y)

theorem Comes.lim {α β : Type} {R : Nat → α → Option β} {x : α} {N : Nat} {y : β} (h : Comes R x N y) : limO R x = some y :=
  limO_eq ⟨N, (h N).2 (Nat.le_refl _)⟩ fun n z hz => by
    rcases (h n).1 with h1 | h1
    · rw [h1] at hz; cases hz
    · rw [h1] at hz; cases hz; rfl

theorem containsFuncS_eq {l : List (List Int)} {f : List Int → Option Bool} {p : List Int → Bool} (hl : l.length < 2 ^ 62) (hf : ∀ a ∈ l, f a = some (p a)) : M_slices_ContainsFunc_ssint_sint (l, f) = some (l.any p) := by
  obtain ⟨j, h1, h2⟩ := walk_index_mem p f l 0 hf
  unfold M_slices_ContainsFunc_ssint_sint
  have : M_slices_IndexFunc_ssint_sint (l, f) = some j := by
    unfold M_slices_IndexFunc_ssint_sint
    refine (loop_walk l _ _ (fun again i a ha hi => ?_) (fun again => ?_) (by omega)).trans h1
    · simp only [getI_nat, ha, bindO_some', i64_succ (show i < 2 ^ 62 by omega), lt_yes hi, cond_true]
    · simp
  dsimp only
  rw [this, bindO_some', h2]

theorem all_not_any {α : Type} {p q : α → Bool} {l : List α} (h : ∀ a ∈ l, q a = !p a) : l.all p = !l.any q := by
  induction l with
  | nil => rfl
  | cons a l ih =>
    rw [List.all_cons, List.any_cons, ih fun b hb => h b (List.mem_cons_of_mem _ hb), h a (List.mem_cons_self ..)]
    cases p a <;> simp

theorem Nat.beq_eq_decide_eq' (a b : Nat) : (a == b) = decide (a = b) := rfl

theorem wrap_u64 {i : Nat} (h : i < 2 ^ 62) : IntKind.wrap .u64 ((i : Nat) : Int) = (i : Int) := u64_in _ (by omega)

/-- A list is put together, element by element. -/
theorem append_loop {α β : Type} (y : List α) (fin : List α → Option β) {body : (List α × Int → Option β) → List α × Int → Option β}
    (h : ∀ (again : List α × Int → Option β) (i : Nat) a (s : List α), y[i]? = some a → i < y.length → s.length = i → body again (s, (i : Int)) = again (s ++ [a], ((i + 1 : Nat) : Int)))
    (hend : ∀ (again : List α × Int → Option β) (s : List α), s.length = y.length → body again (s, (y.length : Int)) = fin s) (hl : y.length < 2 ^ 62) : loopO body ([], 0) = fin y := by
  refine (loopO_for (σ := List α) (fun i s => (s, (i : Int))) y.length (fun i s => fin y) (fun i s => s = y.take i) (fun again s hs => ?_) (fun again i s hi hs ih => ?_) (by omega) (i := 0) (s := []) (Nat.zero_le _) (by simp)).trans rfl
  · subst hs
    rw [List.take_length]
    exact hend again y rfl
  · subst hs
    have ha := List.getElem?_eq_getElem hi
    rw [h again i y[i] _ ha hi (by simp; omega)]
    refine ih _ ?_
    rw [List.take_add_one, ha]
    rfl

theorem own_eq {l : List Int} (hl : l.length ≤ 1048576) : M_S_l1Own l = some l := by
  unfold M_S_l1Own
  rw [guardO_of (lenOk_of (by simp; omega))]
  rfl

theorem clone_eq {l : List Int} (hl : l.length ≤ 1048576) : M_slices_Clone_sint_int l = some l := by
  unfold M_slices_Clone_sint_int
  rw [guardO_of (lenOk_of (by simp; omega))]
  simp only [bindO_some', List.nil_append, Bool.not_true, cond_false]
  cases l with
  | nil => simp [ambO]
  | cons a l => rfl

def pw (p q x e : Int) : Int := x ^ (e % q).toNat % p

theorem pw_range {p q x e : Int} (hp : 1 ≤ p) : 0 ≤ pw p q x e ∧ pw p q x e < p := pow_range hp

theorem gExp_pw {p q g x e : Int} (h : Gr p q g) (hx : 0 ≤ x) (hx2 : x ≤ p) : M_S_gExp ((p, q, g), x, e) = some (pw p q x e) := gExp_eq h hx hx2

theorem pow_pw {p q g x e : Int} (h : Gr p q g) (hx : 0 ≤ x) (hx2 : x ≤ p) : M_I_Group_pow ((p, q, g), x, e) = some (pw p q x e) := Group_pow_eq h hx hx2

theorem areExps_eq {p q g : Int} {l : List Int} (h : Gr p q g) (hl : l.length < 2 ^ 62) : M_I_Group_areExps ((p, q, g), l) = some (l.all fun e => decide (0 ≤ e ∧ e ≤ q - 1)) := by
  unfold M_I_Group_areExps
  dsimp only
  rw [areAll_eq (p := fun e => decide (0 ≤ e ∧ e ≤ q - 1)) hl fun a _ => by rw [isExp_eq h]; rfl]
  rfl

theorem least_eq (a b : Int) : M_S_l1Least (a, b) = some (if a < b then a else b) := by
  unfold M_S_l1Least
  by_cases h : a < b <;> simp [h]

def small (q : Int) (l : List Int) (i : Nat) : Int := 1 + digest (lab (bytesOf [115, 109, 97, 108, 108]) (l ++ [(i : Int)])) % (if 65535 < q - 1 then 65535 else q - 1)

theorem okD_snoc {l : List Int} (h : okD l = true) {i : Nat} (hi : i < 1000) : okD (l ++ [(i : Int)]) = true := by
  unfold okD at h ⊢
  rw [List.all_append, h]
  simp
  omega

/-- The challenge of a proof. -/
def chal (p q g : Int) (s : ByteArray) (l : List Int) : Int := digest (lab s ([p, q, g] ++ l)) % q

theorem chal_range {p q g : Int} (h : Gr p q g) (s : ByteArray) (l : List Int) : 0 ≤ chal p q g s l ∧ chal p q g s l ≤ q - 1 := by
  have := h.q2
  have e1 := Int.emod_nonneg (digest (lab s ([p, q, g] ++ l))) (show q ≠ 0 by omega)
  have e2 := Int.emod_lt_of_pos (digest (lab s ([p, q, g] ++ l))) (show 0 < q by omega)
  unfold chal
  omega

theorem okD_gr {p q g : Int} (h : Gr p q g) {l : List Int} (hl : okD l = true) : okD ([p, q, g] ++ l) = true := by
  have := h.p3; have := h.pm; have := h.q2; have := h.qp; have := h.g2; have := h.gp
  unfold okD at hl ⊢
  rw [List.all_append, hl]
  simp
  omega

theorem hChallenge_eq {p q g : Int} {s : ByteArray} {l : List Int} (h : Gr p q g) (hs : s.size < 2 ^ 30) (hl : okD l = true) (hn : l.length < 2 ^ 20) : M_S_hChallenge ((p, q, g), s, l) = some (chal p q g s l) := by
  unfold M_S_hChallenge
  have := h.q2
  have hr := digest_range (lab s ([p, q, g] ++ l))
  dsimp only
  rw [guardO_of (lenOk_of (by simp; omega)), bindO_some', bindO_some', hLabelled_eq hs (by simp; omega) (okD_gr h hl), bindO_some', guardO_of (by simp; omega), bindO_some', bindO_some', tmod_nn hr.1]
  rfl

theorem challenge_eq {p q g : Int} {s : ByteArray} {l : List Int} (h : Gr p q g) (hs : s.size ≤ 40) (hl : okD l = true) (hn : s.size + l.length ≤ 396) : M_I_Group_challenge ((p, q, g), s, l) = some (chal p q g s l, true) := by
  unfold M_I_Group_challenge
  have := h.q2
  have hr := digest_range (lab s ([p, q, g] ++ l))
  dsimp only
  rw [guardO_of (lenOk_of (by simp; omega)), bindO_some', bindO_some', I_HashLabelled_eq, hashL, if_pos ⟨hs, okD_gr h hl, by simp; omega⟩, bindO_some']
  simp only [Bool.not_true, cond_false]
  rw [guardO_of (by simp; omega), bindO_some', bindO_some', tmod_nn hr.1]
  rfl

abbrev Pf := List Int × List Int × List Int

def Pf.small (a : Pf) (n : Nat) : Prop := a.1.length ≤ n ∧ a.2.1.length ≤ n ∧ a.2.2.length ≤ n

theorem resp_in {q e r a : Int} (hq : q ≤ 2000000000) (he : 0 ≤ e ∧ e ≤ q - 1) (hr : 0 ≤ r ∧ r ≤ q - 1) (ha : 0 ≤ a ∧ a ≤ q - 1) : IntKind.wrap .i64 (e * r) = e * r ∧ IntKind.wrap .i64 (a + e * r) = a + e * r ∧ 0 ≤ a + e * r := by
  have h1 : 0 ≤ e * r := Int.mul_nonneg he.1 hr.1
  have h2 : e * r ≤ 2000000000 * 2000000000 := Int.mul_le_mul (by omega) (by omega) hr.1 (by omega)
  exact ⟨i64_in _ (by omega), i64_in _ (by omega), by omega⟩

theorem hasAll_eq {p q g : Int} {l : List Int} (h : Gr p q g) (hl : l.length < 2 ^ 62) : M_I_Group_hasAll ((p, q, g), l) = some (l.all (isEl p q)) := by
  unfold M_I_Group_hasAll
  dsimp only
  rw [areAll_eq (p := isEl p q) hl fun a _ => by rw [has_eq' h]; rfl]
  rfl

theorem okD_el {p q g : Int} (h : Gr p q g) {l : List Int} (hl : l.all (isEl p q) = true) : okD l = true := by
  have := h.pm
  refine List.all_eq_true.2 fun x hx => ?_
  have := isEl_range (List.all_eq_true.1 hl x hx)
  rw [decide_eq_true_eq]
  omega

theorem smalls_eq {p q g : Int} {l : List Int} {k : Nat} (h : Gr p q g) (hd : okD l = true) (hlen : 1 + 5 + l.length + 1 ≤ 400) (hn : k ≤ 24) : M_S_wSmall ((p, q, g), l, ((k : Nat) : Int)) = some ((List.range k).map (small q l)) ∧ M_I_Group_smallExponents ((p, q, g), l, ((k : Nat) : Int)) = some ((List.range k).map (small q l), true) := by
  have hp := h.p3; have hpm := h.pm; have hq := h.q2; have hqp := h.qp
  have hl : l.length ≤ 1048576 := by omega
  have hsz : (bytesOf [115, 109, 97, 108, 108]).size = 5 := rfl
  have hmax : (if ((k : Nat) : Int) < 1 then (1 : Int) else ((k : Nat) : Int)) = ((max k 1 : Nat) : Int) := by
    by_cases hk : k = 0
    · subst hk; rfl
    · rw [if_neg (by omega)]; omega
  have hmin : (if q - 1 < 65535 then q - 1 else (65535 : Int)) = (if 65535 < q - 1 then 65535 else q - 1) := by
    split <;> split <;> omega
  have hm1 : 1 ≤ (if 65535 < q - 1 then (65535 : Int) else q - 1) ∧ (if 65535 < q - 1 then (65535 : Int) else q - 1) ≤ 65535 := by split <;> omega
  have hy : ∀ (i : Nat), i < 1000 → M_S_hLabelled (bytesOf [115, 109, 97, 108, 108], l ++ [(i : Int)]) = some (digest (lab (bytesOf [115, 109, 97, 108, 108]) (l ++ [(i : Int)]))) := fun i hi => hLabelled_eq (by rw [hsz]; omega) (by simp; omega) (okD_snoc hd hi)
  have hy2 : ∀ (i : Nat), i < 1000 → M_I_HashLabelled (bytesOf [115, 109, 97, 108, 108], l ++ [(i : Int)]) = some (digest (lab (bytesOf [115, 109, 97, 108, 108]) (l ++ [(i : Int)])), true) := fun i hi => by
    rw [I_HashLabelled_eq, hashL, if_pos ⟨by rw [hsz]; omega, okD_snoc hd hi, by rw [hsz]; simp; omega⟩]
  have hsm : ∀ i : Nat, IntKind.wrap .i64 (1 + (digest (lab (bytesOf [115, 109, 97, 108, 108]) (l ++ [(i : Int)]))).tmod (if 65535 < q - 1 then 65535 else q - 1)) = small q l i := fun i => by
    have hr := digest_range (lab (bytesOf [115, 109, 97, 108, 108]) (l ++ [(i : Int)]))
    rw [tmod_nn hr.1]
    have e1 := Int.emod_nonneg (digest (lab (bytesOf [115, 109, 97, 108, 108]) (l ++ [(i : Int)]))) (show (if 65535 < q - 1 then (65535 : Int) else q - 1) ≠ 0 by omega)
    have e2 := Int.emod_lt_of_pos (digest (lab (bytesOf [115, 109, 97, 108, 108]) (l ++ [(i : Int)]))) (show 0 < (if 65535 < q - 1 then (65535 : Int) else q - 1) by omega)
    rw [i64_in _ (by omega)]
    rfl
  have hgz : guardO ((if 65535 < q - 1 then (65535 : Int) else q - 1) != 0) = some () := guardO_of (by rw [bne_dec, decide_eq_true_eq]; omega)
  have hget : ∀ (N i : Nat) a, ((List.range N).map (small q l))[i]? = some a → a = small q l i := fun N i a ha => by
    simp only [List.getElem?_map, Option.map_eq_some_iff] at ha
    obtain ⟨j, hj, rfl⟩ := ha
    have hlt := (List.getElem?_eq_some_iff.1 hj).1
    simp at hlt
    rw [List.getElem?_range hlt] at hj
    cases hj
    rfl
  have hS : M_S_wSmall ((p, q, g), l, ((k : Nat) : Int)) = some ((List.range k).map (small q l)) := by
    unfold M_S_wSmall
    dsimp only
    rw [i64_in (q - 1) (by omega), bindO_some', least_eq, bindO_some']
    have hkl : ((List.range k).map (small q l)).length = k := by simp
    have hkl' : (k : Int) = (((List.range k).map (small q l)).length : Int) := by rw [hkl]
    rw [hkl']
    refine append_loop ((List.range k).map (small q l)) some (fun again i a t ha hi ht => ?_) (fun again t ht => ?_) (by omega)
    case refine_2 => simp only [lt_no, cond_false]
    have := hget k i a ha
    subst this
    simp only [lt_yes hi, cond_true]
    rw [hkl] at hi
    rw [own_eq (by omega), bindO_some', guardO_of (lenOk_of (by simp; omega)), bindO_some', bindO_some', hy i (by omega), bindO_some', hgz, bindO_some', bindO_some', hsm i, bindO_some', guardO_of (lenOk_of (by simp; omega)), bindO_some', bindO_some', i64_succ (by omega), bindO_some']
  have hI : M_I_Group_smallExponents ((p, q, g), l, ((k : Nat) : Int)) = some ((List.range k).map (small q l), true) := by
    unfold M_I_Group_smallExponents
    dsimp only
    rw [hmax]
    have hkl : ((List.range (max k 1)).map (small q l)).length = max k 1 := by simp
    have hkl' : ((max k 1 : Nat) : Int) = (((List.range (max k 1)).map (small q l)).length : Int) := by rw [hkl]
    rw [hkl']
    refine (append_loop ((List.range (max k 1)).map (small q l)) (fun t => some (t.take k, true)) (fun again i a t ha hi ht => ?_) (fun again t ht => ?_) (by omega)).trans ?_
    · have := hget (max k 1) i a ha
      subst this
      simp only [lt_yes hi, cond_true]
      rw [hkl] at hi
      rw [clone_eq (by omega), bindO_some', guardO_of (lenOk_of (by simp; omega)), bindO_some', bindO_some', hy2 i (by omega), bindO_some']
      simp only [Bool.not_true, cond_false]
      rw [i64_in (q - 1) (by omega), bindO_some', hmin, hgz, bindO_some', bindO_some', hsm i, bindO_some', guardO_of (lenOk_of (by simp; omega)), bindO_some', bindO_some', i64_succ (by omega), bindO_some']
    · simp only [lt_no, cond_false]
      rw [sliceNH_nat (by rw [ht, hkl]; omega)]
      rfl
    · rw [← List.map_take, List.take_range]
      rw [show min k (max k 1) = k by omega]
  exact ⟨hS, hI⟩

def gpf (p q : Int) (l es : List Int) : Int := (l.zip es).foldl (fun o c => o * pw p q c.1 c.2 % p) 1

def gpStep (p q : Int) (_ : Nat) (a : Int × Int) (s : Int) (k : Int → Option Int) : Option Int := k (s * pw p q a.1 a.2 % p)

theorem gpWalk (p q : Int) : ∀ (z : List (Int × Int)) (i : Nat) (s : Int), walkS (gpStep p q) some i z s = some (z.foldl (fun o c => o * pw p q c.1 c.2 % p) s)
  | [], _, _ => rfl
  | a :: z, i, s => by
    rw [walkS, gpStep, gpWalk p q z (i + 1), List.foldl_cons]

theorem foldl_range {p q : Int} (hp : 2 ≤ p) : ∀ (z : List (Int × Int)) (s : Int), 0 ≤ s ∧ s < p → 0 ≤ z.foldl (fun o c => o * pw p q c.1 c.2 % p) s ∧ z.foldl (fun o c => o * pw p q c.1 c.2 % p) s < p
  | [], _, h => h
  | a :: z, s, _ => by
    rw [List.foldl_cons]
    exact foldl_range hp z _ ⟨Int.emod_nonneg _ (by omega), Int.emod_lt_of_pos _ (by omega)⟩

theorem gpf_range {p q : Int} (hp : 2 ≤ p) (l es : List Int) : 0 ≤ gpf p q l es ∧ gpf p q l es < p := foldl_range hp _ 1 (by omega)

theorem zip_get {l es : List Int} {i : Nat} {a : Int × Int} (ha : (l.zip es)[i]? = some a) : l[i]? = some a.1 ∧ es[i]? = some a.2 := by
  obtain ⟨c, e⟩ := a
  rw [List.getElem?_zip_eq_some] at ha
  exact ha

theorem zip_len {α β : Type} {l : List α} {es : List β} (h : es.length = l.length) : (l.zip es).length = l.length := by simp [h]

theorem gProd_eq {p q g : Int} {l es : List Int} (h : Gr p q g) (hl : es.length = l.length) (hx : ∀ x ∈ l, 0 ≤ x ∧ x ≤ p) (hn : l.length < 2 ^ 60) : M_S_gProd ((p, q, g), l, es) = some (gpf p q l es) := by
  unfold M_S_gProd
  dsimp only
  have h3 := h.p3; have hpm := h.pm
  have hz := zip_len hl
  have hg0 : guardO (p != 0) = some () := guardO_of (by simp; omega)
  refine (loop_walkI (fun i (s : Int) => (s, i)) (l.zip es) (gpStep p q) some (fun _ s => 0 ≤ s ∧ s < p) (fun i a s k k' ha hi hk => ?_) (fun again i a s ha hi hs => ?_) (fun again s hs => ?_) (by omega) 1 (by omega)).trans (gpWalk p q _ 0 1)
  · exact hk _ ⟨Int.emod_nonneg _ (by omega), Int.emod_lt_of_pos _ (by omega)⟩
  · obtain ⟨h1, h2⟩ := zip_get ha
    have hxa := hx a.1 (List.mem_of_getElem? h1)
    have r := pw_range (q := q) (x := a.1) (e := a.2) (show 1 ≤ p by omega)
    have e3 : 0 ≤ s * pw p q a.1 a.2 := Int.mul_nonneg hs.1 r.1
    have e4 : s * pw p q a.1 a.2 ≤ 2000000000 * 2000000000 := Int.mul_le_mul (by omega) (by omega) r.1 (by omega)
    simp only [lt_yes (show i < l.length by omega), cond_true, getI_nat, h1, h2, bindO_some', gExp_pw h hxa.1 hxa.2, i64_in (s * pw p q a.1 a.2) (by omega), hg0, tmod_nn e3, i64_succ (show i < 2 ^ 62 by omega)]
    rfl
  · rw [hz]
    simp only [lt_no, cond_false]

theorem mul_out {p s b : Int} (hs : 0 ≤ s ∧ s < p) : prodM p 1 [s, b] = s * b % p := by
  simp only [prodM]
  rw [Int.one_mul, Int.emod_eq_of_lt hs.1 hs.2]

theorem powers_eq {p q g : Int} {l es : List Int} (h : Gr p q g) (hl : es.length = l.length) (hx : ∀ x ∈ l, 0 ≤ x ∧ x ≤ p) (hn : l.length < 2 ^ 60) : M_I_Group_powers ((p, q, g), l, es) = some (gpf p q l es) := by
  unfold M_I_Group_powers
  dsimp only
  have h3 := h.p3; have hpm := h.pm
  have hz := zip_len hl
  refine (loop_walkI (fun i (s : Int) => (s, i)) (l.zip es) (gpStep p q) some (fun _ s => 0 ≤ s ∧ s < p) (fun i a s k k' ha hi hk => ?_) (fun again i a s ha hi hs => ?_) (fun again s hs => ?_) (by omega) 1 (by omega)).trans (gpWalk p q _ 0 1)
  · exact hk _ ⟨Int.emod_nonneg _ (by omega), Int.emod_lt_of_pos _ (by omega)⟩
  · obtain ⟨h1, h2⟩ := zip_get ha
    have hxa := hx a.1 (List.mem_of_getElem? h1)
    have r := pw_range (q := q) (x := a.1) (e := a.2) (show 1 ≤ p by omega)
    simp only [lt_yes (show i < l.length by omega), cond_true, getI_nat, h1, h2, bindO_some', pow_pw h hxa.1 hxa.2, mul2' h (show 0 ≤ s ∧ s ≤ p by omega) (show 0 ≤ pw p q a.1 a.2 ∧ pw p q a.1 a.2 ≤ p by omega), mul_out hs, i64_succ (show i < 2 ^ 62 by omega)]
    rfl
  · rw [hz]
    simp only [lt_no, cond_false]

theorem ne_dec (a b : Nat) : (((a : Nat) : Int) != ((b : Nat) : Int)) = !(a == b) := by
  rw [bne_dec, Nat.beq_eq_decide_eq', ← decide_not, decide_eq_decide]
  omega

def lens (x : List (List Int)) : Nat := (x.map List.length).sum

theorem lens_flat (x : List (List Int)) : x.flatten.length = lens x := by simp [lens, List.length_flatten]

theorem lens_take_le (x : List (List Int)) (i : Nat) : lens (x.take i) ≤ lens x := by
  have h : lens x = lens (x.take i ++ x.drop i) := by rw [List.take_append_drop]
  rw [h]
  simp only [lens, List.map_append, List.sum_append]
  exact Nat.le_add_right _ _

theorem lens_take_succ {x : List (List Int)} {i : Nat} {a : List Int} (h : x[i]? = some a) : lens (x.take (i + 1)) = lens (x.take i) + a.length := by
  rw [List.take_add_one, h]
  simp [lens]

theorem flat_take_succ {x : List (List Int)} {i : Nat} {a : List Int} (h : x[i]? = some a) : (x.take (i + 1)).flatten = (x.take i).flatten ++ a := by
  rw [List.take_add_one, h]
  simp

theorem concat_eq {x : List (List Int)} (hx : x.length < 2 ^ 30) (ht : lens x ≤ 1073741824) : M_slices_Concat_sint_int x = some x.flatten := by
  unfold M_slices_Concat_sint_int
  refine (loopO_for (σ := Int) (fun i s => (s, (i : Int))) x.length (fun i s => some x.flatten) (fun i s => s = (lens (x.take i) : Int)) (fun again s hs => ?_) (fun again i s hi hs ih => ?_) (by omega) (i := 0) (s := 0) (Nat.zero_le _) (by simp [lens])).trans rfl
  · rw [List.take_length] at hs
    subst hs
    simp only [lt_no, cond_false]
    have hgrow : M_slices_Grow_sint_int ([], (lens x : Int)) = some [] := by
      unfold M_slices_Grow_sint_int
      dsimp only
      rw [if_pos]
      simp only [List.length_nil]
      omega
    rw [hgrow, bindO_some']
    refine (loopO_for (σ := List Int) (fun i s => (s, (i : Int))) x.length (fun i s => some x.flatten) (fun i s => s = (x.take i).flatten) (fun again s hs => ?_) (fun again i s hi hs ih => ?_) (by omega) (i := 0) (s := []) (Nat.zero_le _) (by simp)).trans rfl
    · subst hs
      simp only [lt_no, cond_false, List.take_length]
    · subst hs
      have ha := List.getElem?_eq_getElem hi
      have h1 : (x.take i).flatten.length + x[i].length ≤ 68719476736 := by
        have := lens_take_succ ha
        have := lens_take_le x (i + 1)
        rw [lens_flat]
        omega
      simp only [lt_yes hi, cond_true, getI_nat, ha, bindO_some', guardO_of (lenOk_of h1), i64_succ (show i < 2 ^ 62 by omega)]
      exact ih _ (flat_take_succ ha).symm
  · subst hs
    have ha := List.getElem?_eq_getElem hi
    have h1 := lens_take_succ ha
    have h2 := lens_take_le x (i + 1)
    have h3 : ((lens (x.take i) : Int) + (x[i].length : Int)) = ((lens (x.take (i + 1)) : Nat) : Int) := by omega
    simp only [lt_yes hi, cond_true, getI_nat, ha, bindO_some', h3, i64_in ((lens (x.take (i + 1)) : Nat) : Int) (by omega), i64_succ (show i < 2 ^ 62 by omega)]
    rw [show decide (((lens (x.take (i + 1)) : Nat) : Int) < 0) = false from decide_eq_false (by omega)]
    exact ih _ rfl

theorem concat3_eq {a b c : List Int} (h : a.length + b.length + c.length ≤ 1073741824) : M_slices_Concat_sint_int [a, b, c] = some (a ++ (b ++ c)) := by
  rw [concat_eq (by simp) (by simp only [lens, List.map_cons, List.map_nil, List.sum_cons, List.sum_nil]; omega)]
  simp

theorem concat2_eq {a b : List Int} (h : a.length + b.length ≤ 1073741824) : M_slices_Concat_sint_int [a, b] = some (a ++ b) := by
  rw [concat_eq (by simp) (by simp only [lens, List.map_cons, List.map_nil, List.sum_cons, List.sum_nil]; omega)]
  simp

theorem sStatement_eq {x : List (List Int)} {a b : List Int} (hx : x.length < 2 ^ 30) (ht : lens x + a.length + b.length ≤ 1073741824) : M_S_sStatement (x, a, b) = some (x.flatten ++ (a ++ b)) := by
  unfold M_S_sStatement
  dsimp only
  refine (loopO_for (σ := List Int) (fun i s => (s, (i : Int))) x.length (fun i s => some (x.flatten ++ (a ++ b))) (fun i s => s = (x.take i).flatten) (fun again s hs => ?_) (fun again i s hi hs ih => ?_) (by omega) (i := 0) (s := []) (Nat.zero_le _) (by simp)).trans rfl
  · subst hs
    have hf := lens_flat x
    simp only [lt_no, cond_false, List.take_length, guardO_of (lenOk_of (show x.flatten.length + a.length ≤ 68719476736 by omega)), bindO_some', guardO_of (lenOk_of (show (x.flatten ++ a).length + b.length ≤ 68719476736 by rw [List.length_append]; omega)), List.append_assoc]
  · subst hs
    have ha := List.getElem?_eq_getElem hi
    have h1 : (x.take i).flatten.length + x[i].length ≤ 68719476736 := by
      have := lens_take_succ ha
      have := lens_take_le x (i + 1)
      rw [lens_flat]
      omega
    simp only [lt_yes hi, cond_true, getI_nat, ha, bindO_some', guardO_of (lenOk_of h1), i64_succ (show i < 2 ^ 62 by omega)]
    exact ih _ (flat_take_succ ha).symm

/-- Rows of n bases each, of the group. -/
def goodB (p q : Int) (n : Nat) (rows : List (List Int)) : Prop := ∀ r ∈ rows, r.length = n ∧ r.all (isEl p q) = true

theorem isEl_in {p q x : Int} (hx : isEl p q x = true) : 0 ≤ x ∧ x ≤ p := by
  have := isEl_range hx
  omega

theorem all_in {p q : Int} {l : List Int} (hl : l.all (isEl p q) = true) : ∀ x ∈ l, 0 ≤ x ∧ x ≤ p := fun x hx => isEl_in (List.all_eq_true.1 hl x hx)

theorem images_eq {p q g : Int} {rows : List (List Int)} {es : List Int} (h : Gr p q g) (hr : goodB p q es.length rows) (hn : rows.length < 2 ^ 30) (he : es.length < 2 ^ 30) :
    M_I_Group_images ((p, q, g), rows, es) = some (rows.map fun r => gpf p q r es) := by
  unfold M_I_Group_images
  dsimp only
  have hm : (rows.map fun r => gpf p q r es).length = rows.length := List.length_map ..
  refine append_loop (rows.map fun r => gpf p q r es) some (fun again i a s ha hi hs => ?_) (fun again s hs => ?_) (by omega)
  · rw [hm] at hi
    have hg := List.getElem?_eq_getElem hi
    rw [List.getElem?_map, hg] at ha
    cases ha
    obtain ⟨h1, h2⟩ := hr _ (List.getElem_mem hi)
    have h3 : s.length + [gpf p q rows[i] es].length ≤ 68719476736 := by simp; omega
    simp only [lt_yes hi, cond_true, getI_nat, hg, bindO_some', powers_eq h h1.symm (all_in h2) (by omega), guardO_of (lenOk_of h3), i64_succ (show i < 2 ^ 62 by omega)]
  · rw [hm]
    simp only [lt_no, cond_false]

theorem range_loop {n : Nat} (c : Nat → Bool) {body : (Int → Option Bool) → Int → Option Bool} (hn : n < 2 ^ 62)
    (h : ∀ (again : Int → Option Bool) (i : Nat), i < n → body again (i : Int) = bif c i then again ((i + 1 : Nat) : Int) else some false)
    (hend : ∀ again : Int → Option Bool, body again (n : Int) = some true) : loopO body 0 = some ((List.range n).all c) := by
  have hlen : (List.range n).length = n := List.length_range
  refine (loop_walk (List.range n) (fun _ a k => if c a = true then k else some false) (some true) (fun again i a ha hi => ?_) (fun again => ?_) (by omega)).trans (walk_all c _ 0)
  · rw [hlen] at hi
    rw [List.getElem?_range hi] at ha
    cases ha
    rw [h again i hi]
    cases c i <;> rfl
  · rw [hlen]
    exact hend again

def linC (p q g : Int) (s : ByteArray) (rows : List (List Int)) (ims : List Int) (cs : List Int) : Int := chal p q g s (rows.flatten ++ (ims ++ cs))

def linB (p q g : Int) (s : ByteArray) (rows : List (List Int)) (ims : List Int) (pf : Pf) : Bool :=
  (pf.1.length == rows.length) && ((pf.2.1.length == 1) && ((pf.2.2.length == (rows.getD 0 []).length) && (pf.1.all (isEl p q) && ((pf.2.2.all fun e => decide (0 ≤ e ∧ e ≤ q - 1)) && ((pf.2.1.getD 0 0 == linC p q g s rows ims pf.1) &&
    (List.range rows.length).all fun i => gpf p q (rows.getD i []) pf.2.2 == prodM p 1 [pf.1.getD i 0, pw p q (ims.getD i 0) (linC p q g s rows ims pf.1)])))))

theorem getD_at {α : Type} {l : List α} {i : Nat} {d : α} (h : i < l.length) : l[i]? = some (l.getD i d) := by
  rw [List.getElem?_eq_getElem h, List.getD_eq_getElem?_getD, List.getElem?_eq_getElem h]
  rfl

/-- Rows that a proof may be asked of. -/
structure LinOK (p q : Int) (rows : List (List Int)) (ims : List Int) : Prop where
  n1 : 1 ≤ rows.length
  n8 : rows.length ≤ 8
  m1 : 1 ≤ (rows.getD 0 []).length
  m8 : (rows.getD 0 []).length ≤ 8
  good : goodB p q (rows.getD 0 []).length rows
  len : ims.length = rows.length
  ims : ims.all (isEl p q) = true

theorem lens_good {p q : Int} {n : Nat} : ∀ {rows : List (List Int)}, goodB p q n rows → lens rows = rows.length * n
  | [], _ => by simp [lens]
  | r :: rows, h => by
    have ih := lens_good (rows := rows) fun x hx => h x (List.mem_cons_of_mem _ hx)
    have h1 := (h r List.mem_cons_self).1
    simp only [lens, List.map_cons, List.sum_cons, List.length_cons] at ih ⊢
    rw [ih, h1, Nat.add_mul, Nat.one_mul, Nat.add_comm]

theorem okD_append {a b : List Int} : okD (a ++ b) = (okD a && okD b) := by simp [okD]

theorem okD_flat {p q g : Int} (h : Gr p q g) {n : Nat} {rows : List (List Int)} (hr : goodB p q n rows) : okD rows.flatten = true := by
  simp only [okD, List.all_eq_true]
  intro x hx
  obtain ⟨r, h1, h2⟩ := List.mem_flatten.1 hx
  have := okD_el h (hr r h1).2
  simp only [okD, List.all_eq_true] at this
  exact this x h2

theorem lin_okD {p q g : Int} (h : Gr p q g) {rows : List (List Int)} {ims cs : List Int} (hL : LinOK p q rows ims) (hc : cs.all (isEl p q) = true) : okD (rows.flatten ++ (ims ++ cs)) = true := by
  rw [okD_append, okD_append, okD_flat h hL.good, okD_el h hL.ims, okD_el h hc]
  rfl

theorem lin_len {p q : Int} {rows : List (List Int)} {ims cs : List Int} (hL : LinOK p q rows ims) (hc : cs.length = rows.length) : lens rows ≤ 64 ∧ (rows.flatten ++ (ims ++ cs)).length ≤ 80 := by
  have h1 := lens_good hL.good
  have h2 : rows.length * (rows.getD 0 []).length ≤ 8 * 8 := Nat.mul_le_mul hL.n8 hL.m8
  have h3 := hL.len; have h4 := hL.n8
  simp only [List.length_append, lens_flat]
  omega

theorem lin_challenge {p q g : Int} {s : ByteArray} (h : Gr p q g) (hs : s.size ≤ 40) {rows : List (List Int)} {ims cs : List Int} (hL : LinOK p q rows ims) (hc : cs.all (isEl p q) = true) (hlen : cs.length = rows.length) :
    M_S_hChallenge ((p, q, g), s, rows.flatten ++ (ims ++ cs)) = some (linC p q g s rows ims cs) ∧ M_I_Group_challenge ((p, q, g), s, rows.flatten ++ (ims ++ cs)) = some (linC p q g s rows ims cs, true) := by
  have h1 := lin_okD h hL hc
  have h2 := (lin_len hL hlen).2
  exact ⟨hChallenge_eq h (by omega) h1 (by omega), challenge_eq h hs h1 (by omega)⟩

theorem sVerify_eq {p q g : Int} {s : ByteArray} {rows : List (List Int)} {ims : List Int} {pf : Pf} (h : Gr p q g) (hs : s.size ≤ 40) (hL : LinOK p q rows ims) (hp : pf.small 1048576) :
    M_S_sVerify ((p, q, g), s, rows, ims, pf) = some (linB p q g s rows ims pf) := by
  obtain ⟨cs, ch, rs⟩ := pf
  obtain ⟨p1, p2, p3⟩ := hp
  dsimp only at p1 p2 p3
  unfold M_S_sVerify linB
  have h0 : rows[0]? = some (rows.getD 0 []) := getD_at (by have := hL.n1; omega)
  simp only [getI_zero, h0, bindO_some', ne_dec, gIs_eq h (show cs.length < 2 ^ 62 by omega), gExps_eq h (show rs.length < 2 ^ 62 by omega)]
  rw [show (((ch.length : Nat) : Int) != 1) = !(ch.length == 1) from ne_dec ch.length 1]
  cases e1 : cs.length == rows.length
  · rfl
  cases e2 : ch.length == 1
  · rfl
  cases e3 : rs.length == (rows.getD 0 []).length
  · rfl
  cases e4 : cs.all (isEl p q)
  · rfl
  cases e5 : rs.all fun e => decide (0 ≤ e ∧ e ≤ q - 1)
  · rfl
  have e1' : cs.length = rows.length := by simpa using e1
  have e2' : ch.length = 1 := by simpa using e2
  have e3' : rs.length = (rows.getD 0 []).length := by simpa using e3
  have hl := lin_len hL e1'
  have hn := hL.n8; have hi := hL.len
  simp only [Bool.not_true, cond_false, getD_at (d := (0 : Int)) (show 0 < ch.length by omega), bindO_some', sStatement_eq (show rows.length < 2 ^ 30 by omega) (show lens rows + ims.length + cs.length ≤ 1073741824 by omega), (lin_challenge h hs hL e4 e1').1]
  cases e6 : ch.getD 0 0 == linC p q g s rows ims cs
  · simp only [bne, e6]
    rfl
  have e6' : ch.getD 0 0 = linC p q g s rows ims cs := by simpa using e6
  simp only [bne, e6, Bool.not_true, cond_false, Bool.true_and]
  refine range_loop _ (by omega) (fun again i hi => ?_) (fun again => ?_)
  · have hm := hL.good (rows.getD i []) (List.mem_of_getElem? (getD_at hi))
    have hci := isEl_in (List.all_eq_true.1 e4 _ (List.mem_of_getElem? (getD_at (d := (0 : Int)) (show i < cs.length by omega))))
    have hii := isEl_in (List.all_eq_true.1 hL.ims _ (List.mem_of_getElem? (getD_at (d := (0 : Int)) (show i < ims.length by omega))))
    have r := pw_range (q := q) (x := ims.getD i 0) (e := linC p q g s rows ims cs) (show 1 ≤ p by have := h.p3; omega)
    simp only [lt_yes hi, cond_true, getI_nat, getD_at (d := ([] : List Int)) hi, getD_at (d := (0 : Int)) (show i < cs.length by omega), getD_at (d := (0 : Int)) (show i < ims.length by omega), bindO_some', gProd_eq h (e3'.trans hm.1.symm) (all_in hm.2) (by rw [hm.1]; have := hL.m8; omega), e6',
      gExp_pw h hii.1 hii.2, mul2 h hci (show 0 ≤ pw p q (ims.getD i 0) (linC p q g s rows ims cs) ∧ pw p q (ims.getD i 0) (linC p q g s rows ims cs) ≤ p by omega), i64_succ (show i < 2 ^ 62 by omega), bne]
    cases gpf p q (rows.getD i []) rs == prodM p 1 [cs.getD i 0, pw p q (ims.getD i 0) (linC p q g s rows ims cs)] <;> rfl
  · simp only [lt_no, cond_false]

theorem verifyLinear_eq {p q g : Int} {s : ByteArray} {rows : List (List Int)} {ims : List Int} {pf : Pf} (h : Gr p q g) (hs : s.size ≤ 40) (hL : LinOK p q rows ims) (hp : pf.small 1048576) :
    M_I_Group_verifyLinear ((p, q, g), s, rows, ims, pf) = some (linB p q g s rows ims pf) := by
  obtain ⟨cs, ch, rs⟩ := pf
  obtain ⟨p1, p2, p3⟩ := hp
  dsimp only at p1 p2 p3
  unfold M_I_Group_verifyLinear linB
  have h0 : rows[0]? = some (rows.getD 0 []) := getD_at (by have := hL.n1; omega)
  simp only [getI_zero, h0, bindO_some', ne_dec, hasAll_eq h (show cs.length < 2 ^ 62 by omega), areExps_eq h (show rs.length < 2 ^ 62 by omega)]
  rw [show (((ch.length : Nat) : Int) != 1) = !(ch.length == 1) from ne_dec ch.length 1]
  cases e1 : cs.length == rows.length
  · rfl
  cases e2 : ch.length == 1
  · rfl
  cases e3 : rs.length == (rows.getD 0 []).length
  · rfl
  cases e4 : cs.all (isEl p q)
  · rfl
  cases e5 : rs.all fun e => decide (0 ≤ e ∧ e ≤ q - 1)
  · rfl
  have e1' : cs.length = rows.length := by simpa using e1
  have e2' : ch.length = 1 := by simpa using e2
  have e3' : rs.length = (rows.getD 0 []).length := by simpa using e3
  have hl := lin_len hL e1'
  have hf := lens_flat rows
  have hn := hL.n8; have hi := hL.len; have hm8 := hL.m8
  simp only [Bool.not_true, cond_false, concat_eq (show rows.length < 2 ^ 30 by omega) (show lens rows ≤ 1073741824 by omega), bindO_some', concat3_eq (show rows.flatten.length + ims.length + cs.length ≤ 1073741824 by omega), (lin_challenge h hs hL e4 e1').2,
    getD_at (d := (0 : Int)) (show 0 < ch.length by omega), images_eq h (show goodB p q rs.length rows by rw [e3']; exact hL.good) (show rows.length < 2 ^ 30 by omega) (show rs.length < 2 ^ 30 by omega)]
  cases e6 : ch.getD 0 0 == linC p q g s rows ims cs
  · simp only [bne, e6]
    rfl
  simp only [bne, e6, Bool.not_true, cond_false, Bool.true_and, List.length_map]
  refine range_loop _ (by omega) (fun again i hi => ?_) (fun again => ?_)
  · have hci := isEl_in (List.all_eq_true.1 e4 _ (List.mem_of_getElem? (getD_at (d := (0 : Int)) (show i < cs.length by omega))))
    have hii := isEl_in (List.all_eq_true.1 hL.ims _ (List.mem_of_getElem? (getD_at (d := (0 : Int)) (show i < ims.length by omega))))
    have r := pw_range (q := q) (x := ims.getD i 0) (e := linC p q g s rows ims cs) (show 1 ≤ p by have := h.p3; omega)
    simp only [lt_yes hi, cond_true, getI_nat, List.getElem?_map, getD_at (d := ([] : List Int)) hi, Option.map_some, getD_at (d := (0 : Int)) (show i < cs.length by omega), getD_at (d := (0 : Int)) (show i < ims.length by omega), bindO_some',
      pow_pw h hii.1 hii.2, mul2' h hci (show 0 ≤ pw p q (ims.getD i 0) (linC p q g s rows ims cs) ∧ pw p q (ims.getD i 0) (linC p q g s rows ims cs) ≤ p by omega), i64_succ (show i < 2 ^ 62 by omega)]
    cases gpf p q (rows.getD i []) rs == prodM p 1 [cs.getD i 0, pw p q (ims.getD i 0) (linC p q g s rows ims cs)] <;> rfl
  · simp only [lt_no, cond_false]

theorem isEl_of {p q g t : Int} (h : Gr p q g) (ht : t ^ q.toNat % p = 1) : isEl p q (t % p) = true := by
  have h3 := h.p3; have h2 := h.q2
  have e1 : (t % p) ^ q.toNat % p = 1 := by rw [pow_mod, ht]
  have e2 := Int.emod_nonneg t (show p ≠ 0 by omega)
  have e3 := Int.emod_lt_of_pos t (show 0 < p by omega)
  have e4 : t % p ≠ 0 := by
    intro h0
    rw [h0, Int.zero_pow (show q.toNat ≠ 0 by omega)] at e1
    simp at e1
  unfold isEl
  rw [e1]
  simp only [BEq.rfl, Bool.and_true, decide_eq_true_eq]
  omega

theorem pow_one_mod {p t : Int} {k n : Nat} (hp : 3 ≤ p) (h : t ^ n % p = 1) : (t ^ k) ^ n % p = 1 := by
  rw [← Int.pow_mul, Nat.mul_comm, Int.pow_mul, ← pow_mod, h, Int.one_pow]
  exact Int.emod_eq_of_lt (by omega) (by omega)

theorem isEl_pow {p q g x : Int} (h : Gr p q g) (hx : isEl p q x = true) (k : Nat) : isEl p q (x ^ k % p) = true := isEl_of h (pow_one_mod h.p3 (isEl_range hx).2.2)

theorem isEl_pw {p q g x e : Int} (h : Gr p q g) (hx : isEl p q x = true) : isEl p q (pw p q x e) = true := isEl_pow h hx _

def rowsB (p q : Int) (rows : List (List Int)) : Bool := decide (1 ≤ rows.length ∧ rows.length ≤ 8) && (decide (1 ≤ (rows.getD 0 []).length ∧ (rows.getD 0 []).length ≤ 8) && rows.all fun r => (r.length == (rows.getD 0 []).length) && r.all (isEl p q))

theorem cast_in8 (n : Nat) : decide ((1 : Int) ≤ (n : Int) ∧ (n : Int) ≤ 8) = decide (1 ≤ n ∧ n ≤ 8) := decide_eq_decide.2 (by omega)

theorem areRows_eq {p q g : Int} {rows : List (List Int)} (h : Gr p q g) (hr : ∀ r ∈ rows, r.length < 2 ^ 62) : M_I_Group_areRows ((p, q, g), rows) = some (rowsB p q rows) := by
  unfold M_I_Group_areRows rowsB
  dsimp only
  rw [within_eq, bindO_some', cast_in8]
  by_cases hn : 1 ≤ rows.length ∧ rows.length ≤ 8
  · have h0 : rows[0]? = some (rows.getD 0 []) := getD_at (by omega)
    rw [decide_eq_true hn]
    simp only [Bool.not_true, cond_false, getI_zero, h0, bindO_some', within_eq, Bool.true_and]
    rw [cast_in8]
    cases hm : decide (1 ≤ (rows.getD 0 []).length ∧ (rows.getD 0 []).length ≤ 8)
    · rfl
    simp only [Bool.not_true, cond_false, Bool.true_and]
    rw [containsFuncS_eq (p := fun r => !((r.length == (rows.getD 0 []).length) && r.all (isEl p q))) (by omega) (fun r hrm => ?_), bindO_some', ← all_not_any (l := rows) (p := fun r : List Int => (r.length == (rows.getD 0 []).length) && r.all (isEl p q)) (q := fun r : List Int => !((r.length == (rows.getD 0 []).length) && r.all (isEl p q))) (fun a _ => rfl)]
    unfold M_I_Group_areRows_1
    dsimp only
    simp only [getI_zero, h0, bindO_some', ne_dec, hasAll_eq h (hr r hrm)]
    cases r.length == (rows.getD 0 []).length <;> rfl
  · rw [decide_eq_false hn]
    rfl

theorem LinOK_rowsB {p q : Int} {rows : List (List Int)} {ims : List Int} (hL : LinOK p q rows ims) : rowsB p q rows = true := by
  unfold rowsB
  rw [decide_eq_true ⟨hL.n1, hL.n8⟩, decide_eq_true ⟨hL.m1, hL.m8⟩, Bool.true_and, Bool.true_and, List.all_eq_true]
  intro r hr
  obtain ⟨h1, h2⟩ := hL.good r hr
  rw [h1, h2, BEq.rfl]
  rfl

theorem isLabel_eq {s : ByteArray} (hs : s.size ≤ 40) : M_I_isLabel s = some true := by
  unfold M_I_isLabel
  rw [decide_eq_true (by omega)]

theorem VerifyLinear_eq {p q g : Int} {s : ByteArray} {rows : List (List Int)} {ims : List Int} {pf : Pf} (hok : okG p q g = true) (hs : s.size ≤ 40) (hL : LinOK p q rows ims) (hp : pf.small 1048576) :
    M_I_VerifyLinear ((p, q, g), s, rows, ims, pf) = some (linB p q g s rows ims pf, true) := by
  have h := okG_spec hok
  unfold M_I_VerifyLinear
  dsimp only
  have hrl : ∀ r ∈ rows, r.length < 2 ^ 62 := fun r hr => by rw [(hL.good r hr).1]; have := hL.m8; omega
  have hn := hL.n8
  rw [IsValidGroup_eq, hok, bindO_some', isLabel_eq hs, bindO_some', areRows_eq h hrl, LinOK_rowsB hL, bindO_some', ne_dec, hL.len, hasAll_eq h (by rw [hL.len]; omega), hL.ims, bindO_some', verifyLinear_eq h hs hL hp, bindO_some', BEq.rfl]
  rfl

theorem eqRows_ok {p q g1 y1 g2 y2 : Int} (h1 : isEl p q g1 = true) (h2 : isEl p q y1 = true) (h3 : isEl p q g2 = true) (h4 : isEl p q y2 = true) : LinOK p q [[g1], [g2]] [y1, y2] where
  n1 := by simp
  n8 := by simp
  m1 := by simp
  m8 := by simp
  good := by
    intro r hr
    simp only [List.mem_cons, List.not_mem_nil, or_false] at hr
    rcases hr with rfl | rfl <;> exact ⟨rfl, by simp [*]⟩
  len := rfl
  ims := by simp [*]

theorem sVerifyEq_eq {p q g : Int} {s : ByteArray} {g1 y1 g2 y2 : Int} {pf : Pf} (h : Gr p q g) (hs : s.size ≤ 40) (hL : LinOK p q [[g1], [g2]] [y1, y2]) (hp : pf.small 1048576) :
    M_S_sVerifyEq ((p, q, g), s, (g1, y1, g2, y2), pf) = some (linB p q g s [[g1], [g2]] [y1, y2] pf) := by
  unfold M_S_sVerifyEq
  rw [show M_S_sVerify ((p, q, g), s, [[g1], [g2]], [y1, y2], pf) = _ from sVerify_eq h hs hL hp, bindO_some']

theorem VerifyEqual_eq {p q g : Int} {s : ByteArray} {g1 y1 g2 y2 : Int} {pf : Pf} (hok : okG p q g = true) (hs : s.size ≤ 40) (hL : LinOK p q [[g1], [g2]] [y1, y2]) (hp : pf.small 1048576) :
    M_I_VerifyEqual ((p, q, g), s, (g1, y1, g2, y2), pf) = some (linB p q g s [[g1], [g2]] [y1, y2] pf, true) := by
  unfold M_I_VerifyEqual M_I_equalRows
  rw [bindO_some', show M_I_VerifyLinear ((p, q, g), s, [[g1], [g2]], [y1, y2], pf) = _ from VerifyLinear_eq hok hs hL hp, bindO_some']

def resp (q e : Int) (ss cs : List Int) : List Int := (cs.zip ss).map fun c => (c.1 + e * c.2) % q

theorem resp_len {q e : Int} {ss cs : List Int} (h : cs.length = ss.length) : (resp q e ss cs).length = ss.length := by simp [resp, h]

theorem resp_get {q e : Int} {ss cs : List Int} {i : Nat} {a b : Int} (ha : ss[i]? = some a) (hb : cs[i]? = some b) : (resp q e ss cs)[i]? = some ((b + e * a) % q) := by
  simp only [resp, List.getElem?_map, List.getElem?_zip_eq_some.2 (show cs[i]? = some (b, a).1 ∧ ss[i]? = some (b, a).2 from ⟨hb, ha⟩), Option.map_some]

def linI (p q : Int) (rows : List (List Int)) (es : List Int) : List Int := rows.map fun r => gpf p q r es

def linP (p q g : Int) (s : ByteArray) (rows : List (List Int)) (ss cs : List Int) : Pf :=
  (linI p q rows cs, [linC p q g s rows (linI p q rows ss) (linI p q rows cs)], resp q (linC p q g s rows (linI p q rows ss) (linI p q rows cs)) ss cs)

structure ProOK (p q : Int) (rows : List (List Int)) (ss cs : List Int) : Prop where
  n1 : 1 ≤ rows.length
  n8 : rows.length ≤ 8
  m1 : 1 ≤ (rows.getD 0 []).length
  m8 : (rows.getD 0 []).length ≤ 8
  good : goodB p q (rows.getD 0 []).length rows
  sl : ss.length = (rows.getD 0 []).length
  cl : cs.length = (rows.getD 0 []).length
  sx : (ss.all fun e => decide (0 ≤ e ∧ e ≤ q - 1)) = true
  cx : (cs.all fun e => decide (0 ≤ e ∧ e ≤ q - 1)) = true

theorem all_exp {q : Int} {l : List Int} (h : (l.all fun e => decide (0 ≤ e ∧ e ≤ q - 1)) = true) {i : Nat} {a : Int} (ha : l[i]? = some a) : 0 ≤ a ∧ a ≤ q - 1 := by
  have := List.all_eq_true.1 h a (List.mem_of_getElem? ha)
  simpa using this

theorem sImages_eq {p q g : Int} {rows : List (List Int)} {es : List Int} (h : Gr p q g) (hr : goodB p q es.length rows) (hn : rows.length < 2 ^ 30) (he : es.length < 2 ^ 30) :
    M_S_sImages ((p, q, g), rows, es) = some (linI p q rows es) := by
  unfold M_S_sImages linI
  dsimp only
  have hm : (rows.map fun r => gpf p q r es).length = rows.length := List.length_map ..
  refine append_loop (rows.map fun r => gpf p q r es) some (fun again i a s ha hi hs => ?_) (fun again s hs => ?_) (by omega)
  · rw [hm] at hi
    have hg := List.getElem?_eq_getElem hi
    rw [List.getElem?_map, hg] at ha
    cases ha
    obtain ⟨h1, h2⟩ := hr _ (List.getElem_mem hi)
    have h3 : s.length + [gpf p q rows[i] es].length ≤ 68719476736 := by simp; omega
    simp only [lt_yes hi, cond_true, getI_nat, hg, bindO_some', gProd_eq h h1.symm (all_in h2) (by omega), guardO_of (lenOk_of h3), i64_succ (show i < 2 ^ 62 by omega)]
  · rw [hm]
    simp only [lt_no, cond_false]

theorem linI_okD {p q g : Int} (h : Gr p q g) (rows : List (List Int)) (es : List Int) : okD (linI p q rows es) = true := by
  simp only [okD, linI, List.all_eq_true, List.mem_map]
  rintro x ⟨r, _, rfl⟩
  have := gpf_range (q := q) (show 2 ≤ p by have := h.p3; omega) r es
  have := h.pm
  simp only [decide_eq_true_eq]
  omega

theorem tail_loop {A B β : Type} (a : A) (b : B) (y : List Int) (fin : List Int → Option β) {body : (Int × A × B × List Int → Option β) → Int × A × B × List Int → Option β}
    (h : ∀ (again : Int × A × B × List Int → Option β) (i : Nat) c (s : List Int), y[i]? = some c → i < y.length → s.length = i → body again ((i : Int), a, b, s) = again (((i + 1 : Nat) : Int), a, b, s ++ [c]))
    (hend : ∀ (again : Int × A × B × List Int → Option β) (s : List Int), s.length = y.length → body again ((y.length : Int), a, b, s) = fin s) (hl : y.length < 2 ^ 62) : loopO body (0, a, b, []) = fin y := by
  refine (loopO_for (σ := List Int) (fun i s => ((i : Int), a, b, s)) y.length (fun i s => fin y) (fun i s => s = y.take i) (fun again s hs => ?_) (fun again i s hi hs ih => ?_) (by omega) (i := 0) (s := []) (Nat.zero_le _) (by simp)).trans rfl
  · subst hs
    rw [List.take_length]
    exact hend again y rfl
  · subst hs
    have ha := List.getElem?_eq_getElem hi
    rw [h again i y[i] _ ha hi (by simp; omega)]
    refine ih _ ?_
    rw [List.take_add_one, ha]
    rfl

theorem lin_chal {p q g : Int} {rows : List (List Int)} {ss cs : List Int} (h : Gr p q g) (hP : ProOK p q rows ss cs) :
    okD (rows.flatten ++ (linI p q rows ss ++ linI p q rows cs)) = true ∧ (rows.flatten ++ (linI p q rows ss ++ linI p q rows cs)).length ≤ 80 ∧ lens rows ≤ 64 := by
  have h1 := lens_good hP.good
  have h2 : rows.length * (rows.getD 0 []).length ≤ 8 * 8 := Nat.mul_le_mul hP.n8 hP.m8
  have h4 := hP.n8
  refine ⟨?_, ?_, by omega⟩
  · rw [okD_append, okD_append, okD_flat h hP.good, linI_okD h, linI_okD h]
    rfl
  · simp only [List.length_append, lens_flat, linI, List.length_map]
    omega

theorem sProve_eq {p q g : Int} {s : ByteArray} {rows : List (List Int)} {ss cs : List Int} (h : Gr p q g) (hs : s.size ≤ 40) (hP : ProOK p q rows ss cs) : M_S_sProve ((p, q, g), s, rows, ss, cs) = some (linP p q g s rows ss cs) := by
  obtain ⟨c1, c2, c3⟩ := lin_chal h hP
  have hn := hP.n8; have hm := hP.m8; have hsl := hP.sl; have hcl := hP.cl; have hq2 := h.q2; have hqp := h.qp; have hpm := h.pm
  unfold M_S_sProve
  dsimp only
  have hg0 : guardO (q != 0) = some () := guardO_of (by simp; omega)
  have hl1 : ∀ es, (linI p q rows es).length = rows.length := fun es => by simp [linI]
  rw [sImages_eq h (by rw [hcl]; exact hP.good) (by omega) (by omega), bindO_some', sImages_eq h (by rw [hsl]; exact hP.good) (by omega) (by omega), bindO_some', sStatement_eq (by omega) (by rw [hl1, hl1]; omega), bindO_some', hChallenge_eq h (by omega) c1 (by omega), bindO_some']
  have hr := chal_range h s (rows.flatten ++ (linI p q rows ss ++ linI p q rows cs))
  have hlen := resp_len (q := q) (e := linC p q g s rows (linI p q rows ss) (linI p q rows cs)) (hcl.trans hsl.symm)
  refine (tail_loop _ _ (resp q (linC p q g s rows (linI p q rows ss) (linI p q rows cs)) ss cs) (fun l => some (linI p q rows cs, [linC p q g s rows (linI p q rows ss) (linI p q rows cs)], l)) (fun again i c l hc hi hl => ?_) (fun again l hl => ?_) (by omega)).trans rfl
  · rw [hlen] at hi
    have hsi := List.getElem?_eq_getElem hi
    have hci := List.getElem?_eq_getElem (show i < cs.length by omega)
    rw [resp_get hsi hci] at hc
    cases hc
    obtain ⟨r1, r2, r3⟩ := resp_in (q := q) (by omega) hr (all_exp hP.sx hsi) (all_exp hP.cx hci)
    have h3 : ∀ z : Int, guardO (lenOk (l.length + [z].length)) = some () := fun z => guardO_of (lenOk_of (by simp only [List.length_cons, List.length_nil]; omega))
    simp only [lt_yes hi, cond_true, getI_nat, hsi, hci, bindO_some']
    rw [r1, r2, hg0, bindO_some', tmod_nn r3, h3, bindO_some', i64_succ (by omega)]
    rfl
  · rw [hlen]
    simp only [lt_no, cond_false]
    rfl

theorem mul_one {p x : Int} (hp : 2 ≤ p) (hx : 0 ≤ x ∧ x < p) : prodM p 1 [1, x] = x := by
  rw [mul_out (by omega), Int.one_mul, Int.emod_eq_of_lt hx.1 hx.2]

theorem over_mul {p q g a y : Int} (h : Gr p q g) (ha : isEl p q a = true) (hy : 0 ≤ y ∧ y < p) : over p q (prodM p 1 [a, y]) a = y := by
  have h3 := h.p3; have h2 := h.q2
  have r := isEl_range ha
  have e1 : a * a ^ (q - 1).toNat = a ^ q.toNat := by
    rw [show q.toNat = (q - 1).toNat + 1 by omega, Int.pow_succ, Int.mul_comm]
  have e2 : prodM p 1 [a, y] = a * y % p := mul_out (by omega)
  have e3 : 0 ≤ a * y % p ∧ a * y % p < p := ⟨Int.emod_nonneg _ (by omega), Int.emod_lt_of_pos _ (by omega)⟩
  unfold over
  rw [e2, mul_out e3, ← Int.mul_emod, Int.mul_right_comm, e1, Int.mul_emod, r.2.2, Int.one_mul, Int.emod_emod_of_dvd _ (Int.dvd_refl p), Int.emod_eq_of_lt hy.1 hy.2]

def iterN {σ : Type} (f : Nat → σ → σ) (s0 : σ) : Nat → σ
  | 0 => s0
  | n + 1 => f n (iterN f s0 n)

theorem iterN_pair {σ τ : Type} (f : Nat → σ → σ) (g : Nat → τ → τ) (a : σ) (b : τ) : ∀ n, iterN (fun i (s : σ × τ) => (f i s.1, g i s.2)) (a, b) n = (iterN f a n, iterN g b n)
  | 0 => rfl
  | n + 1 => by simp only [iterN, iterN_pair f g a b n]

theorem iter_loop {σ τ β : Type} (f : Nat → σ → σ) (s0 : σ) (n : Nat) (enc : Int → σ → τ) (fin : σ → Option β) (Inv : Nat → σ → Prop) {body : (τ → Option β) → τ → Option β} (hn : n < 2 ^ 62) (h0 : Inv 0 s0) (hs : ∀ i s, i < n → Inv i s → Inv (i + 1) (f i s))
    (h : ∀ (again : τ → Option β) (i : Nat) s, i < n → Inv i s → body again (enc (i : Int) s) = again (enc ((i + 1 : Nat) : Int) (f i s))) (hend : ∀ (again : τ → Option β) s, Inv n s → body again (enc (n : Int) s) = fin s) : loopO body (enc 0 s0) = fin (iterN f s0 n) := by
  refine (loopO_for (σ := σ) (fun i s => enc (i : Int) s) n (fun _ _ => fin (iterN f s0 n)) (fun i s => s = iterN f s0 i ∧ Inv i s) (fun again s hs => ?_) (fun again i s hi hv ih => ?_) (by omega) (i := 0) (s := s0) (Nat.zero_le _) ⟨rfl, h0⟩).trans rfl
  · obtain ⟨rfl, h2⟩ := hs
    exact hend again _ h2
  · obtain ⟨rfl, h2⟩ := hv
    rw [h again i _ hi h2]
    exact ih _ ⟨rfl, hs i _ hi h2⟩

theorem guard_loop {β : Type} {n : Nat} (c : Nat → Bool) (yes no : Option β) {body : (Int → Option β) → Int → Option β} (hn : n < 2 ^ 62)
    (h : ∀ (again : Int → Option β) (i : Nat), i < n → body again (i : Int) = bif c i then again ((i + 1 : Nat) : Int) else no)
    (hend : (∀ i, i < n → c i = true) → ∀ again : Int → Option β, body again (n : Int) = yes) : loopO body 0 = bif (List.range n).all c then yes else no := by
  have hlen : (List.range n).length = n := List.length_range
  by_cases hall : ∀ i, i < n → c i = true
  · rw [show (List.range n).all c = true from by simpa using hall, cond_true]
    refine (loopO_for (σ := Unit) (fun i _ => (i : Int)) n (fun _ _ => yes) (fun _ _ => True) (fun again _ _ => hend hall again) (fun again i _ hi _ ih => ?_) (by omega) (i := 0) (s := ()) (Nat.zero_le _) trivial).trans rfl
    rw [h again i hi, hall i hi, cond_true]
    exact ih () trivial
  · have hf : (List.range n).all c = false := by
      rw [Bool.eq_false_iff]
      intro hh
      exact hall (by simpa using hh)
    rw [hf, cond_false]
    refine (loopO_for (σ := Unit) (fun i _ => (i : Int)) n (fun _ _ => no) (fun i _ => ∀ j, j < i → c j = true) (fun again _ hg => absurd hg hall) (fun again i _ hi hg ih => ?_) (by omega) (i := 0) (s := ()) (Nat.zero_le _) (fun j hj => by omega)).trans rfl
    rw [h again i hi]
    cases hc : c i
    · rfl
    · rw [cond_true]
      refine ih () fun j hj => ?_
      rcases Nat.lt_or_ge j i with h1 | h1
      · exact hg j h1
      · obtain rfl : j = i := by omega
        exact hc

def formB (p q g : Int) (s : ByteArray) (bases ims : List Int) (a : Pf) : Bool :=
  (a.1.length == bases.length) && ((a.2.1.length == 1) && ((a.2.2.length == 1) && (a.1.all (isEl p q) && (decide (0 ≤ a.2.2.getD 0 0 ∧ a.2.2.getD 0 0 ≤ q - 1) && (a.2.1.getD 0 0 == chal p q g s (bases ++ (ims ++ a.1)))))))

theorem isLinearForm_eq {p q g : Int} {s : ByteArray} {bases ims : List Int} {a : Pf} (h : Gr p q g) (hs : s.size ≤ 40) (hb : bases.all (isEl p q) = true) (hi : ims.all (isEl p q) = true) (hbl : bases.length ≤ 8) (hil : ims.length ≤ 8) (hp : a.small 1048576) :
    M_I_Group_isLinearForm ((p, q, g), s, bases, ims, a) = some (formB p q g s bases ims a) := by
  obtain ⟨cs, ch, rs⟩ := a
  obtain ⟨p1, p2, p3⟩ := hp
  dsimp only at p1 p2 p3
  unfold M_I_Group_isLinearForm formB
  dsimp only
  rw [ne_dec, show (((ch.length : Nat) : Int) != 1) = !(ch.length == 1) from ne_dec ch.length 1, show (((rs.length : Nat) : Int) != 1) = !(rs.length == 1) from ne_dec rs.length 1, hasAll_eq h (by omega), bindO_some']
  cases e1 : cs.length == bases.length
  · rfl
  cases e2 : ch.length == 1
  · rfl
  cases e3 : rs.length == 1
  · rfl
  cases e4 : cs.all (isEl p q)
  · rfl
  have e1' : cs.length = bases.length := by simpa using e1
  have e2' : ch.length = 1 := by simpa using e2
  have e3' : rs.length = 1 := by simpa using e3
  have hd : okD (bases ++ (ims ++ cs)) = true := by
    rw [okD_append, okD_append, okD_el h hb, okD_el h hi, okD_el h e4]
    rfl
  simp only [Bool.not_true, cond_false, getI_zero, getD_at (d := (0 : Int)) (show 0 < rs.length by omega), getD_at (d := (0 : Int)) (show 0 < ch.length by omega), bindO_some', isExp_eq h, concat3_eq (show bases.length + ims.length + cs.length ≤ 1073741824 by omega),
    challenge_eq h hs hd (show s.size + (bases ++ (ims ++ cs)).length ≤ 396 by simp only [List.length_append]; omega), Bool.true_and, cond_true]
  cases decide (0 ≤ rs.getD 0 0 ∧ rs.getD 0 0 ≤ q - 1) <;> rfl

def form9 (p q : Int) (a : Pf) (i j k : Nat) : Bool := (a.1.length == i) && ((a.2.1.length == j) && ((a.2.2.length == k) && (a.1.all (isEl p q) && ((a.2.1.all fun e => decide (0 ≤ e ∧ e ≤ q - 1)) && a.2.2.all fun e => decide (0 ≤ e ∧ e ≤ q - 1)))))

theorem eq_dec' (a b : Nat) : (((a : Nat) : Int) == ((b : Nat) : Int)) = (a == b) := by
  rw [Bool.eq_iff_iff]
  simp only [beq_iff_eq]
  omega

theorem l9Form_eq {p q g : Int} {a : Pf} {i j k : Nat} (h : Gr p q g) (hp : a.small 1048576) : M_S_l9Form ((p, q, g), a, (i : Int), (j : Int), (k : Int)) = some (form9 p q a i j k) := by
  obtain ⟨cs, ch, rs⟩ := a
  obtain ⟨p1, p2, p3⟩ := hp
  dsimp only at p1 p2 p3
  unfold M_S_l9Form form9
  dsimp only
  rw [eq_dec', eq_dec', eq_dec', gIs_eq h (by omega), bindO_some', gExps_eq h (by omega), bindO_some', gExps_eq h (by omega), bindO_some']
  cases cs.length == i <;> cases ch.length == j <;> cases rs.length == k <;> cases cs.all (isEl p q) <;> cases (ch.all fun e => decide (0 ≤ e ∧ e ≤ q - 1)) <;> rfl

theorem all_one {c : Int → Bool} {l : List Int} (h : l.length = 1) : l.all c = c (l.getD 0 0) := by
  match l, h with
  | [x], _ => simp

theorem form9_formB {p q g : Int} {s : ByteArray} {bases ims : List Int} {a : Pf} (h : Gr p q g) : (form9 p q a bases.length 1 1 && (a.2.1.getD 0 0 == chal p q g s (bases ++ (ims ++ a.1)))) = formB p q g s bases ims a := by
  obtain ⟨cs, ch, rs⟩ := a
  unfold form9 formB
  dsimp only
  cases cs.length == bases.length
  · rfl
  cases e2 : ch.length == 1
  · rfl
  cases e3 : rs.length == 1
  · rfl
  cases cs.all (isEl p q)
  · rfl
  have e2' : ch.length = 1 := by simpa using e2
  have e3' : rs.length = 1 := by simpa using e3
  rw [all_one e2', all_one e3']
  cases e6 : ch.getD 0 0 == chal p q g s (bases ++ (ims ++ cs))
  · simp
  · have e6' : ch.getD 0 0 = chal p q g s (bases ++ (ims ++ cs)) := by simpa using e6
    rw [e6', decide_eq_true (chal_range h s _)]
    simp

/-- One challenge, one response each. -/
def oneEach (l : List Pf) : Prop := ∀ a ∈ l, a.2.1.length = 1 ∧ a.2.2.length = 1

theorem formB_one {p q g : Int} {s : ByteArray} {bases ims : List Int} {a : Pf} (h : formB p q g s bases ims a = true) : a.1.length = bases.length ∧ a.2.1.length = 1 ∧ a.2.2.length = 1 ∧ a.1.all (isEl p q) = true ∧ (0 ≤ a.2.2.getD 0 0 ∧ a.2.2.getD 0 0 ≤ q - 1) ∧ a.2.1.getD 0 0 = chal p q g s (bases ++ (ims ++ a.1)) := by
  simp only [formB, Bool.and_eq_true, decide_eq_true_eq, beq_iff_eq] at h
  exact ⟨h.1, h.2.1, h.2.2.1, h.2.2.2.1, h.2.2.2.2.1, h.2.2.2.2.2⟩

def esOf (l : List Pf) : List Int := l.map fun a => a.2.1.getD 0 0

def zsOf (l : List Pf) : List Int := l.map fun a => a.2.2.getD 0 0

theorem one_list {l : List Int} (h : l.length = 1) : l = [l.getD 0 0] := by
  match l, h with
  | [x], _ => rfl

theorem map_take_succ {α β : Type} {f : α → β} {l : List α} {i : Nat} {a : α} (h : l[i]? = some a) : (l.map f).take (i + 1) = (l.map f).take i ++ [f a] := by
  rw [List.take_add_one, List.getElem?_map, h]
  rfl

theorem tops_eq {l : List Pf} (hl : l.length < 2 ^ 30) (h1 : oneEach l) : M_I_tops l = some (esOf l, zsOf l) := by
  unfold M_I_tops
  refine (loopO_for (σ := Unit) (fun i _ => ((esOf l).take i, (zsOf l).take i, (i : Int))) l.length (fun _ _ => some (esOf l, zsOf l)) (fun _ _ => True) (fun again _ _ => ?_) (fun again i _ hi _ ih => ?_) (by omega) (i := 0) (s := ()) (Nat.zero_le _) trivial).trans rfl
  · have e1 : (esOf l).length = l.length := List.length_map ..
    have e2 : (zsOf l).length = l.length := List.length_map ..
    simp only [lt_no, cond_false]
    rw [List.take_of_length_le (by omega), List.take_of_length_le (by omega)]
  · have ha := List.getElem?_eq_getElem hi
    obtain ⟨a1, a2⟩ := h1 _ (List.getElem_mem hi)
    generalize l[i] = a at ha a1 a2
    have g1 : ((esOf l).take i).length + [a.2.1.getD 0 0].length ≤ 68719476736 := by simp [esOf]; omega
    have g2 : ((zsOf l).take i).length + [a.2.2.getD 0 0].length ≤ 68719476736 := by simp [zsOf]; omega
    simp only [lt_yes hi, cond_true, getI_nat, ha, getI_zero, getD_at (d := (0 : Int)) (show 0 < a.2.1.length by omega), getD_at (d := (0 : Int)) (show 0 < a.2.2.length by omega), bindO_some', guardO_of (lenOk_of g1), guardO_of (lenOk_of g2), i64_succ (show i < 2 ^ 62 by omega)]
    rw [← ih () trivial]
    rw [show (esOf l).take (i + 1) = (esOf l).take i ++ [a.2.1.getD 0 0] from map_take_succ ha, show (zsOf l).take (i + 1) = (zsOf l).take i ++ [a.2.2.getD 0 0] from map_take_succ ha]

theorem wBoth_eq {l : List Pf} (hl : l.length < 2 ^ 30) (h1 : oneEach l) : M_S_wBoth l = some (esOf l ++ zsOf l) := by
  unfold M_S_wBoth
  have e1 : (esOf l).length = l.length := List.length_map ..
  have e2 : (zsOf l).length = l.length := List.length_map ..
  refine (loopO_for (σ := Unit) (fun i _ => ((esOf l).take i, (zsOf l).take i, (i : Int))) l.length (fun _ _ => some (esOf l ++ zsOf l)) (fun _ _ => True) (fun again _ _ => ?_) (fun again i _ hi _ ih => ?_) (by omega) (i := 0) (s := ()) (Nat.zero_le _) trivial).trans rfl
  · rw [List.take_of_length_le (by omega), List.take_of_length_le (by omega)]
    simp only [lt_no, cond_false, guardO_of (lenOk_of (show (esOf l).length + (zsOf l).length ≤ 68719476736 by omega)), bindO_some']
  · have ha := List.getElem?_eq_getElem hi
    obtain ⟨a1, a2⟩ := h1 _ (List.getElem_mem hi)
    generalize l[i] = a at ha a1 a2
    have g1 : ((esOf l).take i).length + a.2.1.length ≤ 68719476736 := by simp [esOf]; omega
    have g2 : ((zsOf l).take i).length + a.2.2.length ≤ 68719476736 := by simp [zsOf]; omega
    simp only [lt_yes hi, cond_true, getI_nat, ha, bindO_some', guardO_of (lenOk_of g1), guardO_of (lenOk_of g2), i64_succ (show i < 2 ^ 62 by omega)]
    rw [← ih () trivial]
    rw [show (esOf l).take (i + 1) = (esOf l).take i ++ [a.2.1.getD 0 0] from map_take_succ ha, show (zsOf l).take (i + 1) = (zsOf l).take i ++ [a.2.2.getD 0 0] from map_take_succ ha, ← one_list a1, ← one_list a2]

theorem small_range {q : Int} (hq : 2 ≤ q) (l : List Int) (i : Nat) : 1 ≤ small q l i ∧ small q l i ≤ 65535 := by
  have hm1 : 1 ≤ (if 65535 < q - 1 then (65535 : Int) else q - 1) ∧ (if 65535 < q - 1 then (65535 : Int) else q - 1) ≤ 65535 := by split <;> omega
  unfold small
  have e1 := Int.emod_nonneg (digest (lab (bytesOf [115, 109, 97, 108, 108]) (l ++ [(i : Int)]))) (show (if 65535 < q - 1 then (65535 : Int) else q - 1) ≠ 0 by omega)
  have e2 := Int.emod_lt_of_pos (digest (lab (bytesOf [115, 109, 97, 108, 108]) (l ++ [(i : Int)]))) (show 0 < (if 65535 < q - 1 then (65535 : Int) else q - 1) by omega)
  omega

theorem small_get {q : Int} {l : List Int} {n i : Nat} (hi : i < n) : ((List.range n).map (small q l))[i]? = some (small q l i) := by
  rw [List.getElem?_map, List.getElem?_range hi]
  rfl

def bkSum (q : Int) (l : List Pf) (i : Nat) (s : Int) : Int := (s + small q (esOf l ++ zsOf l) i * (zsOf l).getD i 0) % q

def bkMul (p q : Int) (ys : List Int) (l : List Pf) (i : Nat) (s : Int) : Int := prodM p 1 [s, pw p q (prodM p 1 [(l.getD i ([], [], [])).1.getD 0 0, pw p q (ys.getD i 0) ((esOf l).getD i 0)]) (small q (esOf l ++ zsOf l) i)]

noncomputable def bKnow (p q g : Int) (s : ByteArray) (base : Int) (ys : List Int) (l : List Pf) : Bool × Bool :=
  bif okG p q g && (decide (s.size ≤ 40) && (isEl p q base && (decide (ys.length ≤ 24) && (ys.all (isEl p q) && (l.length == ys.length))))) then
    (bif (List.range l.length).all (fun i => formB p q g s [base] [ys.getD i 0] (l.getD i ([], [], []))) then
      (pw p q base (iterN (bkSum q l) 0 l.length) == iterN (bkMul p q ys l) 1 l.length, true) else (false, true)) else (false, false)

theorem zip_forms {p q g : Int} {s : ByteArray} {bases ims : Nat → List Int} {l : List Pf} (h : ∀ i, i < l.length → formB p q g s (bases i) (ims i) (l.getD i ([], [], [])) = true) : oneEach l := by
  intro a ha
  obtain ⟨i, hi, rfl⟩ := List.mem_iff_getElem.1 ha
  have := formB_one (h i hi)
  rw [List.getD_eq_getElem?_getD, List.getElem?_eq_getElem hi] at this
  exact ⟨this.2.1, this.2.2.1⟩

theorem esOf_get {l : List Pf} {i : Nat} {a : Pf} (h : l[i]? = some a) : (esOf l)[i]? = some (a.2.1.getD 0 0) := by
  rw [esOf, List.getElem?_map, h]
  rfl

theorem zsOf_get {l : List Pf} {i : Nat} {a : Pf} (h : l[i]? = some a) : (zsOf l)[i]? = some (a.2.2.getD 0 0) := by
  rw [zsOf, List.getElem?_map, h]
  rfl

theorem getD_is {α : Type} {l : List α} {i : Nat} {a d : α} (h : l[i]? = some a) : l.getD i d = a := by
  rw [List.getD_eq_getElem?_getD, h]
  rfl

theorem forms_okD {p q g : Int} {s : ByteArray} {bases ims : Nat → List Int} {l : List Pf} (hg : Gr p q g) (h : ∀ i, i < l.length → formB p q g s (bases i) (ims i) (l.getD i ([], [], [])) = true) : okD (esOf l ++ zsOf l) = true := by
  have hqp := hg.qp; have hpm := hg.pm
  rw [okD_append, Bool.and_eq_true]
  constructor
  · simp only [okD, esOf, List.all_eq_true, List.mem_map]
    rintro x ⟨a, ha, rfl⟩
    obtain ⟨i, hi, rfl⟩ := List.mem_iff_getElem.1 ha
    have := formB_one (h i hi)
    rw [getD_is (List.getElem?_eq_getElem hi)] at this
    have e := this.2.2.2.2.2
    have r := chal_range hg s (bases i ++ (ims i ++ l[i].1))
    rw [← e] at r
    simp only [decide_eq_true_eq]
    omega
  · simp only [okD, zsOf, List.all_eq_true, List.mem_map]
    rintro x ⟨a, ha, rfl⟩
    obtain ⟨i, hi, rfl⟩ := List.mem_iff_getElem.1 ha
    have := formB_one (h i hi)
    rw [getD_is (List.getElem?_eq_getElem hi)] at this
    have e := this.2.2.2.2.1
    simp only [decide_eq_true_eq]
    omega

theorem gt24 (n : Nat) : decide ((n : Int) > 24) = !decide (n ≤ 24) := by
  rw [Bool.eq_iff_iff]
  simp
  omega

theorem sz40 (n : Nat) : decide ((n : Int) ≤ 40) = decide (n ≤ 40) := decide_eq_decide.2 (by omega)

theorem S_BatchKnowledge_eq {p q g : Int} {s : ByteArray} {base : Int} {ys : List Int} {l : List Pf} (hy : ys.length < 2 ^ 62) (hr : ∀ r ∈ l, r.small 1048576) : M_S_BatchKnowledge ((p, q, g), s, base, ys, l) = some (bKnow p q g s base ys l) := by
  unfold M_S_BatchKnowledge M_S_sLabel bKnow
  dsimp only
  rw [l2Good_eq, bindO_some']
  cases hok : okG p q g
  · rfl
  have h := okG_spec hok
  have hp3 := h.p3; have hq2 := h.q2; have hqp := h.qp; have hpm := h.pm
  rw [cond_true, sz40, bindO_some', gIs_eq h (by simp), bindO_some', gt24, gIs_eq h hy, bindO_some', ne_dec]
  cases hs : decide (s.size ≤ 40)
  · rfl
  rw [show [base].all (isEl p q) = isEl p q base from by simp]
  cases hb : isEl p q base
  · rfl
  cases h24 : decide (ys.length ≤ 24)
  · rfl
  cases hya : ys.all (isEl p q)
  · rfl
  cases hln : l.length == ys.length
  · rfl
  have hs' : s.size ≤ 40 := by simpa using hs
  have h24' : ys.length ≤ 24 := by simpa using h24
  have hln' : l.length = ys.length := by simpa using hln
  simp only [Bool.not_true, cond_false, Bool.and_self, cond_true]
  refine (guard_loop (n := l.length) (fun i => formB p q g s [base] [ys.getD i 0] (l.getD i ([], [], []))) (some (pw p q base (iterN (bkSum q l) 0 l.length) == iterN (bkMul p q ys l) 1 l.length, true)) (some (false, true)) (by omega) (fun again i hi => ?_) (fun hall again => ?_)).trans ?_
  · have ha := List.getElem?_eq_getElem hi
    have hsm := hr _ (List.getElem_mem hi)
    have hyi := getD_at (d := (0 : Int)) (show i < ys.length by omega)
    have hye := List.all_eq_true.1 hya _ (List.mem_of_getElem? hyi)
    rw [getD_is ha]
    generalize l[i] = a at ha hsm
    simp only [lt_yes hi, cond_true, getI_nat, ha, bindO_some', hyi]
    rw [show M_S_l9Form ((p, q, g), (a.1, a.2.1, a.2.2), 1, 1, 1) = some (form9 p q a 1 1 1) from l9Form_eq (i := 1) (j := 1) (k := 1) h hsm, bindO_some', ← form9_formB (bases := [base]) h]
    cases hf : form9 p q a 1 1 1
    · rfl
    · simp only [form9, Bool.and_eq_true, beq_iff_eq] at hf
      obtain ⟨f1, f2, f3, f4, f5, f6⟩ := hf
      have hd : okD [base, ys.getD i 0, a.1.getD 0 0] = true := okD_el h (by simp only [List.all_cons, List.all_nil, hb, hye, List.all_eq_true.1 f4 _ (List.mem_of_getElem? (getD_at (d := (0 : Int)) (show 0 < a.1.length by omega))), Bool.and_self])
      simp only [Bool.not_true, cond_false, getI_zero, getD_at (d := (0 : Int)) (show 0 < a.2.1.length by omega), getD_at (d := (0 : Int)) (show 0 < a.1.length by omega), bindO_some', hChallenge_eq h (show s.size < 2 ^ 30 by omega) hd (by simp), i64_succ (show i < 2 ^ 62 by omega), Bool.true_and]
      rw [show [base] ++ ([ys.getD i 0] ++ a.1) = [base, ys.getD i 0, a.1.getD 0 0] from by rw [one_list f1]; rfl]
      cases hc : a.2.1.getD 0 0 == chal p q g s [base, ys.getD i 0, a.1.getD 0 0] <;> (simp only [bne, hc]; rfl)
  · have hone := zip_forms hall
    have hokd := forms_okD h hall
    have e1 : (esOf l).length = l.length := List.length_map ..
    have e2 : (zsOf l).length = l.length := List.length_map ..
    simp only [lt_no, cond_false]
    rw [wBoth_eq (by omega) hone, bindO_some', (smalls_eq h hokd (by simp only [List.length_append]; omega) (by omega)).1, bindO_some']
    refine (iter_loop (fun i (st : Int × Int) => (bkSum q l i st.1, bkMul p q ys l i st.2)) (0, 1) l.length (fun i st => (st.1, st.2, i)) (fun st => some (pw p q base st.1 == st.2, true)) (fun _ st => (0 ≤ st.1 ∧ st.1 < q) ∧ 0 ≤ st.2 ∧ st.2 < p) (by omega) ⟨⟨by omega, by dsimp only; omega⟩, by dsimp only; omega, by dsimp only; omega⟩ (fun i st hi hv => ⟨⟨Int.emod_nonneg _ (by omega), Int.emod_lt_of_pos _ (by omega)⟩, prod_range (by omega)⟩) (fun again i st hi hv => ?_) (fun again st hv => ?_)).trans ?_
    · obtain ⟨⟨v1, v2⟩, v3, v4⟩ := hv
      dsimp only
      have ha := List.getElem?_eq_getElem hi
      obtain ⟨f1, f2, f3, f4, f5, f6⟩ := formB_one (hall i hi)
      have hyi := getD_at (d := (0 : Int)) (show i < ys.length by omega)
      have hye := isEl_in (List.all_eq_true.1 hya _ (List.mem_of_getElem? hyi))
      have ez : (zsOf l).getD i 0 = l[i].2.2.getD 0 0 := getD_is (zsOf_get ha)
      have ee : (esOf l).getD i 0 = l[i].2.1.getD 0 0 := getD_is (esOf_get ha)
      unfold bkSum bkMul
      rw [ez, ee, getD_is ha]
      rw [getD_is ha] at f1 f2 f3 f4 f5
      generalize l[i] = a at ha f1 f2 f3 f4 f5
      have f1' : a.1.length = 1 := f1
      have hc0 := isEl_in (List.all_eq_true.1 f4 _ (List.mem_of_getElem? (getD_at (d := (0 : Int)) (show 0 < a.1.length by omega))))
      have hd := small_range (q := q) (by omega) (esOf l ++ zsOf l) i
      have r1 := pw_range (q := q) (x := ys.getD i 0) (e := a.2.1.getD 0 0) (show 1 ≤ p by omega)
      have r2 := prod_range (p := p) (l := [a.1.getD 0 0, pw p q (ys.getD i 0) (a.2.1.getD 0 0)]) (by omega)
      have r3 := pw_range (q := q) (x := prodM p 1 [a.1.getD 0 0, pw p q (ys.getD i 0) (a.2.1.getD 0 0)]) (e := small q (esOf l ++ zsOf l) i) (show 1 ≤ p by omega)
      have m1 : 0 ≤ small q (esOf l ++ zsOf l) i * a.2.2.getD 0 0 := Int.mul_nonneg (by omega) f5.1
      have m2 : small q (esOf l ++ zsOf l) i * a.2.2.getD 0 0 ≤ 65535 * 2000000000 := Int.mul_le_mul hd.2 (by omega) f5.1 (by omega)
      have hg0 : guardO (q != 0) = some () := guardO_of (by simp; omega)
      simp only [lt_yes hi, cond_true, getI_nat, ha, small_get hi, getI_zero, getD_at (d := (0 : Int)) (show 0 < a.2.1.length by omega), getD_at (d := (0 : Int)) (show 0 < a.2.2.length by omega), getD_at (d := (0 : Int)) (show 0 < a.1.length by omega), bindO_some', hyi, hg0, i64_in (small q (esOf l ++ zsOf l) i * a.2.2.getD 0 0) (by omega),
        i64_in (st.1 + small q (esOf l ++ zsOf l) i * a.2.2.getD 0 0) (by omega), tmod_nn (show 0 ≤ st.1 + small q (esOf l ++ zsOf l) i * a.2.2.getD 0 0 by omega), gExp_pw h hye.1 hye.2, mul2 h hc0 (show 0 ≤ pw p q (ys.getD i 0) (a.2.1.getD 0 0) ∧ pw p q (ys.getD i 0) (a.2.1.getD 0 0) ≤ p by omega),
        gExp_pw h r2.1 (Int.le_of_lt r2.2), mul2 h (show 0 ≤ st.2 ∧ st.2 ≤ p by omega) (show 0 ≤ pw p q (prodM p 1 [a.1.getD 0 0, pw p q (ys.getD i 0) (a.2.1.getD 0 0)]) (small q (esOf l ++ zsOf l) i) ∧ pw p q (prodM p 1 [a.1.getD 0 0, pw p q (ys.getD i 0) (a.2.1.getD 0 0)]) (small q (esOf l ++ zsOf l) i) ≤ p by omega), i64_succ (show i < 2 ^ 62 by omega)]
    · obtain ⟨⟨v1, v2⟩, v3, v4⟩ := hv
      have hbe := isEl_in hb
      simp only [lt_no, cond_false, gExp_pw h hbe.1 hbe.2, bindO_some']
    · rw [iterN_pair]
  · cases (List.range l.length).all fun i => formB p q g s [base] [ys.getD i 0] (l.getD i ([], [], [])) <;> rfl

theorem dot_eq {a b : List Int} {m : Int} {A B : Nat → Int} (hm : 1 ≤ m ∧ m ≤ 2000000000) (hl : a.length < 2 ^ 30) (ha : ∀ i, i < a.length → a[i]? = some (A i) ∧ b[i]? = some (B i) ∧ (0 ≤ A i ∧ A i ≤ 65535) ∧ 0 ≤ B i ∧ B i ≤ 2000000000) :
    M_I_dot (a, b, m) = some (iterN (fun i s => (s + A i * B i) % m) 0 a.length) := by
  unfold M_I_dot
  dsimp only
  have hg0 : guardO (m != 0) = some () := guardO_of (by simp; omega)
  refine (iter_loop (fun i s => (s + A i * B i) % m) 0 a.length (fun i st => (st, i)) (fun st => some st) (fun _ st => 0 ≤ st ∧ st < m) (by omega) (by omega) (fun i st hi hv => ⟨Int.emod_nonneg _ (by omega), Int.emod_lt_of_pos _ (by omega)⟩) (fun again i st hi hv => ?_) (fun again st hv => ?_)).trans rfl
  · obtain ⟨h1, h2, h3, h4⟩ := ha i hi
    have m1 : 0 ≤ A i * B i := Int.mul_nonneg h3.1 h4.1
    have m2 : A i * B i ≤ 65535 * 2000000000 := Int.mul_le_mul h3.2 h4.2 h4.1 (by omega)
    have r1 := Int.emod_nonneg (A i * B i) (show m ≠ 0 by omega)
    have r2 := Int.emod_lt_of_pos (A i * B i) (show 0 < m by omega)
    simp only [lt_yes hi, cond_true, getI_nat, h1, h2, bindO_some', hg0, i64_in (A i * B i) (by omega), tmod_nn m1, i64_in (st + A i * B i % m) (by omega), tmod_nn (show 0 ≤ st + A i * B i % m by omega), i64_succ (show i < 2 ^ 62 by omega), Int.add_emod_emod]
  · simp only [lt_no, cond_false]

theorem forms_zs {p q g : Int} {s : ByteArray} {bases ims : Nat → List Int} {l : List Pf} (h : ∀ i, i < l.length → formB p q g s (bases i) (ims i) (l.getD i ([], [], [])) = true) {i : Nat} (hi : i < l.length) : 0 ≤ (zsOf l).getD i 0 ∧ (zsOf l).getD i 0 ≤ q - 1 := by
  have ha := List.getElem?_eq_getElem hi
  have := formB_one (h i hi)
  rw [getD_is ha] at this
  rw [getD_is (zsOf_get ha)]
  exact this.2.2.2.2.1

theorem I_BatchKnowledge_eq {p q g : Int} {s : ByteArray} {base : Int} {ys : List Int} {l : List Pf} (hy : ys.length < 2 ^ 62) (hr : ∀ r ∈ l, r.small 1048576) : M_I_BatchKnowledge ((p, q, g), s, base, ys, l) = some (bKnow p q g s base ys l) := by
  unfold M_I_BatchKnowledge M_I_isLabel bKnow
  dsimp only
  rw [IsValidGroup_eq, bindO_some', bindO_some', sz40]
  cases hok : okG p q g
  · rfl
  have h := okG_spec hok
  have hp3 := h.p3; have hq2 := h.q2; have hqp := h.qp; have hpm := h.pm
  rw [has_eq' h, bindO_some', gt24, hasAll_eq h hy, bindO_some', ne_dec]
  cases hs : decide (s.size ≤ 40)
  · rfl
  cases hb : isEl p q base
  · rfl
  cases h24 : decide (ys.length ≤ 24)
  · rfl
  cases hya : ys.all (isEl p q)
  · cases l.length == ys.length <;> rfl
  cases hln : l.length == ys.length
  · rfl
  have hs' : s.size ≤ 40 := by simpa using hs
  have h24' : ys.length ≤ 24 := by simpa using h24
  have hln' : l.length = ys.length := by simpa using hln
  simp only [Bool.not_true, cond_false, Bool.and_self, cond_true]
  refine (guard_loop (n := l.length) (fun i => formB p q g s [base] [ys.getD i 0] (l.getD i ([], [], []))) (some (pw p q base (iterN (bkSum q l) 0 l.length) == iterN (bkMul p q ys l) 1 l.length, true)) (some (false, true)) (by omega) (fun again i hi => ?_) (fun hall again => ?_)).trans ?_
  · have ha := List.getElem?_eq_getElem hi
    have hsm := hr _ (List.getElem_mem hi)
    have hyi := getD_at (d := (0 : Int)) (show i < ys.length by omega)
    have hye := List.all_eq_true.1 hya _ (List.mem_of_getElem? hyi)
    rw [getD_is ha]
    generalize l[i] = a at ha hsm
    simp only [lt_yes hi, cond_true, getI_nat, ha, bindO_some', hyi]
    rw [show M_I_Group_isLinearForm ((p, q, g), s, [base], [ys.getD i 0], a.1, a.2.1, a.2.2) = _ from isLinearForm_eq h hs' (by simp only [List.all_cons, List.all_nil, hb, Bool.and_self]) (by simp only [List.all_cons, List.all_nil, hye, Bool.and_self]) (by simp) (by simp) hsm, bindO_some', i64_succ (by omega)]
    cases formB p q g s [base] [ys.getD i 0] a <;> rfl
  · have hone := zip_forms hall
    have hokd := forms_okD h hall
    have e1 : (esOf l).length = l.length := List.length_map ..
    have e2 : (zsOf l).length = l.length := List.length_map ..
    have hbe := isEl_in hb
    simp only [lt_no, cond_false]
    rw [tops_eq (by omega) hone, bindO_some', concat2_eq (show (esOf l).length + (zsOf l).length ≤ 1073741824 by omega), bindO_some', (smalls_eq h hokd (by simp only [List.length_append]; omega) (by omega)).2, bindO_some']
    simp only [Bool.not_true, cond_false]
    refine (iter_loop (bkMul p q ys l) 1 l.length (fun i st => (st, i)) (fun st => some (pw p q base (iterN (bkSum q l) 0 l.length) == st, true)) (fun _ st => 0 ≤ st ∧ st < p) (by omega) ⟨by omega, by omega⟩ (fun i st hi hv => prod_range (by omega)) (fun again i st hi hv => ?_) (fun again st hv => ?_)).trans rfl
    · obtain ⟨v3, v4⟩ := hv
      have ha := List.getElem?_eq_getElem hi
      obtain ⟨f1, f2, f3, f4, f5, f6⟩ := formB_one (hall i hi)
      have hyi := getD_at (d := (0 : Int)) (show i < ys.length by omega)
      have hye := isEl_in (List.all_eq_true.1 hya _ (List.mem_of_getElem? hyi))
      unfold bkMul
      rw [getD_is ha]
      have ee := esOf_get ha
      have ee' : (esOf l).getD i 0 = l[i].2.1.getD 0 0 := getD_is ee
      rw [ee']
      rw [getD_is ha] at f1 f2 f3 f4 f5
      generalize l[i] = a at ha f1 f2 f3 f4 f5 ee
      have f1' : a.1.length = 1 := f1
      have hc0 := isEl_in (List.all_eq_true.1 f4 _ (List.mem_of_getElem? (getD_at (d := (0 : Int)) (show 0 < a.1.length by omega))))
      have r1 := pw_range (q := q) (x := ys.getD i 0) (e := a.2.1.getD 0 0) (show 1 ≤ p by omega)
      have r2 := prod_range (p := p) (l := [a.1.getD 0 0, pw p q (ys.getD i 0) (a.2.1.getD 0 0)]) (by omega)
      have r3 := pw_range (q := q) (x := prodM p 1 [a.1.getD 0 0, pw p q (ys.getD i 0) (a.2.1.getD 0 0)]) (e := small q (esOf l ++ zsOf l) i) (show 1 ≤ p by omega)
      simp only [lt_yes hi, cond_true, getI_nat, ha, small_get hi, ee, getI_zero, getD_at (d := (0 : Int)) (show 0 < a.1.length by omega), bindO_some', hyi, pow_pw h hye.1 hye.2, mul2' h hc0 (show 0 ≤ pw p q (ys.getD i 0) (a.2.1.getD 0 0) ∧ pw p q (ys.getD i 0) (a.2.1.getD 0 0) ≤ p by omega),
        pow_pw h r2.1 (Int.le_of_lt r2.2), mul2' h (show 0 ≤ st ∧ st ≤ p by omega) (show 0 ≤ pw p q (prodM p 1 [a.1.getD 0 0, pw p q (ys.getD i 0) (a.2.1.getD 0 0)]) (small q (esOf l ++ zsOf l) i) ∧ pw p q (prodM p 1 [a.1.getD 0 0, pw p q (ys.getD i 0) (a.2.1.getD 0 0)]) (small q (esOf l ++ zsOf l) i) ≤ p by omega), i64_succ (show i < 2 ^ 62 by omega)]
    · have hd : M_I_dot ((List.range l.length).map (small q (esOf l ++ zsOf l)), zsOf l, q) = some (iterN (bkSum q l) 0 l.length) := by
        rw [dot_eq (A := small q (esOf l ++ zsOf l)) (B := fun i => (zsOf l).getD i 0) ⟨by omega, by omega⟩ (by simp; omega) (fun i hi => ?_)]
        · simp only [List.length_map, List.length_range]
          rfl
        · simp only [List.length_map, List.length_range] at hi
          have hz := forms_zs hall hi
          have hd := small_range (q := q) (by omega) (esOf l ++ zsOf l) i
          exact ⟨small_get hi, getD_at (by omega), ⟨by omega, by omega⟩, hz.1, by omega⟩
      simp only [lt_no, cond_false, hd, pow_pw h hbe.1 hbe.2, bindO_some']
  · cases (List.range l.length).all fun i => formB p q g s [base] [ys.getD i 0] (l.getD i ([], [], [])) <;> rfl

abbrev El := Int × Int × Int × Int

def isEq (p q : Int) (e : El) : Bool := [e.1, e.2.1, e.2.2.1, e.2.2.2].all (isEl p q)

def ratio (p q g z x y e : Int) : Int := over p q (pw p q g z) (prodM p 1 [x, pw p q y e])

theorem ratio_range {p q g z x y e : Int} (hp : 2 ≤ p) : 0 ≤ ratio p q g z x y e ∧ ratio p q g z x y e < p := prod_range hp

theorem wRatio_eq {p q g g1 z x y e : Int} (h : Gr p q g) (hg : 0 ≤ g1 ∧ g1 ≤ p) (hx : 0 ≤ x ∧ x ≤ p) (hy : 0 ≤ y ∧ y ≤ p) : M_S_wRatio ((p, q, g), g1, z, x, y, e) = some (ratio p q g1 z x y e) := by
  have hp := h.p3
  have r1 := pw_range (q := q) (x := g1) (e := z) (show 1 ≤ p by omega)
  have r2 := pw_range (q := q) (x := y) (e := e) (show 1 ≤ p by omega)
  have r3 := prod_range (p := p) (l := [x, pw p q y e]) (by omega)
  have r4 := inv_range (p := p) (q := q) (x := prodM p 1 [x, pw p q y e]) (by omega)
  unfold M_S_wRatio ratio over
  dsimp only
  rw [gExp_pw h hg.1 hg.2, bindO_some', gExp_pw h hy.1 hy.2, bindO_some', mul2 h hx ⟨r2.1, by omega⟩, bindO_some', gInv_eq h r3.1 (by omega), bindO_some', mul2 h ⟨r1.1, by omega⟩ ⟨r4.1, by omega⟩, bindO_some']

theorem ratio_I {p q g g1 z x y e : Int} (h : Gr p q g) : M_I_Group_over ((p, q, g), pw p q g1 z, prodM p 1 [x, pw p q y e]) = some (ratio p q g1 z x y e) := by
  have hp := h.p3
  have r1 := pw_range (q := q) (x := g1) (e := z) (show 1 ≤ p by omega)
  have r3 := prod_range (p := p) (l := [x, pw p q y e]) (by omega)
  exact over_eq h ⟨r1.1, by omega⟩ ⟨r3.1, by omega⟩

def formE (p q g : Int) (s : ByteArray) (e : El) (a : Pf) : Bool := formB p q g s [e.1, e.2.2.1] [e.2.1, e.2.2.2] a

def e0 : El := (0, 0, 0, 0)

def beMul (p q : Int) (es : List El) (l : List Pf) (i : Nat) (s : Int) : Int :=
  prodM p 1 [s, pw p q (ratio p q (es.getD i e0).1 ((zsOf l).getD i 0) ((l.getD i ([], [], [])).1.getD 0 0) (es.getD i e0).2.1 ((esOf l).getD i 0)) (small q (esOf l ++ zsOf l) i),
    pw p q (ratio p q (es.getD i e0).2.2.1 ((zsOf l).getD i 0) ((l.getD i ([], [], [])).1.getD 1 0) (es.getD i e0).2.2.2 ((esOf l).getD i 0)) (small q (esOf l ++ zsOf l) (l.length + i))]

def beB (p q g : Int) (s : ByteArray) (es : List El) (l : List Pf) : Bool :=
  (List.range l.length).all (fun i => formE p q g s (es.getD i e0) (l.getD i ([], [], []))) && (iterN (beMul p q es l) 1 l.length == 1)

theorem mul3 {p q g a b c : Int} (h : Gr p q g) (ha : 0 ≤ a ∧ a ≤ p) (hb : 0 ≤ b ∧ b ≤ p) (hc : 0 ≤ c ∧ c ≤ p) : M_S_gMul ((p, q, g), [a, b, c]) = some (prodM p 1 [a, b, c]) := by
  have := h.pm
  refine gMul_eq h (fun x hx => ?_) (by simp)
  simp only [List.mem_cons, List.not_mem_nil, or_false] at hx
  rcases hx with rfl | rfl | rfl <;> omega

theorem mul3' {p q g a b c : Int} (h : Gr p q g) (ha : 0 ≤ a ∧ a ≤ p) (hb : 0 ≤ b ∧ b ≤ p) (hc : 0 ≤ c ∧ c ≤ p) : M_I_Group_mul ((p, q, g), [a, b, c]) = some (prodM p 1 [a, b, c]) := by
  have := h.pm
  refine Group_mul_eq h (fun x hx => ?_) (by simp)
  simp only [List.mem_cons, List.not_mem_nil, or_false] at hx
  rcases hx with rfl | rfl | rfl <;> omega

theorem two_list {l : List Int} (h : l.length = 2) : l = [l.getD 0 0, l.getD 1 0] := by
  match l, h with
  | [x, y], _ => rfl

theorem i64_double {n : Nat} (h : n ≤ 1000) : IntKind.wrap .i64 (2 * (n : Int)) = ((2 * n : Nat) : Int) := by
  rw [i64_in _ (by omega)]
  omega

theorem i64_addN {n i : Nat} (h : n + i ≤ 1000000) : IntKind.wrap .i64 ((n : Int) + (i : Int)) = ((n + i : Nat) : Int) := by
  rw [i64_in _ (by omega)]
  omega

theorem isEq_spec {p q : Int} {e : El} (h : isEq p q e = true) : isEl p q e.1 = true ∧ isEl p q e.2.1 = true ∧ isEl p q e.2.2.1 = true ∧ isEl p q e.2.2.2 = true := by
  simpa [isEq] using h

theorem wEqual_eq {p q g : Int} {s : ByteArray} {es : List El} {l : List Pf} (h : Gr p q g) (hs : s.size ≤ 40) (he : ∀ e ∈ es, isEq p q e = true) (hl : l.length = es.length) (h12 : es.length ≤ 12) (hr : ∀ r ∈ l, r.small 1048576) :
    M_S_wEqual ((p, q, g), s, es, l) = some (beB p q g s es l) := by
  have hp3 := h.p3; have hq2 := h.q2; have hqp := h.qp; have hpm := h.pm
  unfold M_S_wEqual beB
  dsimp only
  refine (guard_loop (n := l.length) (fun i => formE p q g s (es.getD i e0) (l.getD i ([], [], []))) (some (iterN (beMul p q es l) 1 l.length == 1)) (some false) (by omega) (fun again i hi => ?_) (fun hall again => ?_)).trans ?_
  · have ha := List.getElem?_eq_getElem hi
    have hsm := hr _ (List.getElem_mem hi)
    have hei := getD_at (d := e0) (show i < es.length by omega)
    obtain ⟨i1, i2, i3, i4⟩ := isEq_spec (he _ (List.mem_of_getElem? hei))
    rw [getD_is ha]
    generalize l[i] = a at ha hsm
    generalize es.getD i e0 = e at hei i1 i2 i3 i4
    simp only [lt_yes hi, cond_true, getI_nat, ha, bindO_some', hei]
    unfold formE
    rw [show M_S_l9Form ((p, q, g), (a.1, a.2.1, a.2.2), 2, 1, 1) = some (form9 p q a 2 1 1) from l9Form_eq (i := 2) (j := 1) (k := 1) h hsm, bindO_some', ← form9_formB (bases := [e.1, e.2.2.1]) h]
    cases hf : form9 p q a 2 1 1
    · rfl
    · simp only [form9, Bool.and_eq_true, beq_iff_eq] at hf
      obtain ⟨f1, f2, f3, f4, f5, f6⟩ := hf
      have c1 := getD_at (d := (0 : Int)) (show 0 < a.1.length by omega)
      have c2 := getD_at (d := (0 : Int)) (show 1 < a.1.length by omega)
      have hd : okD [e.1, e.2.2.1, e.2.1, e.2.2.2, a.1.getD 0 0, a.1.getD 1 0] = true := okD_el h (by simp only [List.all_cons, List.all_nil, i1, i2, i3, i4, List.all_eq_true.1 f4 _ (List.mem_of_getElem? c1), List.all_eq_true.1 f4 _ (List.mem_of_getElem? c2), Bool.and_self])
      simp only [Bool.not_true, cond_false, getI_zero, show ∀ m : List Int, getI m 1 = m[1]? from fun m => getI_nat m 1, getD_at (d := (0 : Int)) (show 0 < a.2.1.length by omega), c1, c2, bindO_some', hChallenge_eq h (show s.size < 2 ^ 30 by omega) hd (by simp), i64_succ (show i < 2 ^ 62 by omega), Bool.true_and]
      rw [show [e.1, e.2.2.1] ++ ([e.2.1, e.2.2.2] ++ a.1) = [e.1, e.2.2.1, e.2.1, e.2.2.2, a.1.getD 0 0, a.1.getD 1 0] from by rw [two_list f1]; rfl]
      cases hc : a.2.1.getD 0 0 == chal p q g s [e.1, e.2.2.1, e.2.1, e.2.2.2, a.1.getD 0 0, a.1.getD 1 0] <;> (simp only [bne, hc]; rfl)
  · have hone := zip_forms hall
    have hokd := forms_okD h hall
    have e1 : (esOf l).length = l.length := List.length_map ..
    have e2 : (zsOf l).length = l.length := List.length_map ..
    simp only [lt_no, cond_false]
    rw [wBoth_eq (by omega) hone, bindO_some', i64_double (by omega), bindO_some', (smalls_eq h hokd (by simp only [List.length_append]; omega) (by omega)).1, bindO_some']
    refine (iter_loop (beMul p q es l) 1 l.length (fun i st => (st, i)) (fun st => some (st == 1)) (fun _ st => 0 ≤ st ∧ st < p) (by omega) ⟨by omega, by omega⟩ (fun i st hi hv => prod_range (by omega)) (fun again i st hi hv => ?_) (fun again st hv => ?_)).trans rfl
    · have ha := List.getElem?_eq_getElem hi
      obtain ⟨f1, f2, f3, f4, f5, f6⟩ := formB_one (hall i hi)
      have hei := getD_at (d := e0) (show i < es.length by omega)
      obtain ⟨i1, i2, i3, i4⟩ := isEq_spec (he _ (List.mem_of_getElem? hei))
      unfold beMul
      rw [getD_is (zsOf_get ha), getD_is (esOf_get ha), getD_is ha]
      rw [getD_is ha] at f1 f2 f3 f4
      generalize l[i] = a at ha f1 f2 f3 f4
      generalize es.getD i e0 = e at hei i1 i2 i3 i4 f1
      have f1' : a.1.length = 2 := f1
      have g1 := getD_at (d := (0 : Int)) (show 0 < a.1.length by omega)
      have g2 := getD_at (d := (0 : Int)) (show 1 < a.1.length by omega)
      have c1 := isEl_in (List.all_eq_true.1 f4 _ (List.mem_of_getElem? g1))
      have c2 := isEl_in (List.all_eq_true.1 f4 _ (List.mem_of_getElem? g2))
      have r1 := ratio_range (q := q) (g := e.1) (z := a.2.2.getD 0 0) (x := a.1.getD 0 0) (y := e.2.1) (e := a.2.1.getD 0 0) (show 2 ≤ p by omega)
      have r2 := ratio_range (q := q) (g := e.2.2.1) (z := a.2.2.getD 0 0) (x := a.1.getD 1 0) (y := e.2.2.2) (e := a.2.1.getD 0 0) (show 2 ≤ p by omega)
      have w1 := wRatio_eq (z := a.2.2.getD 0 0) (e := a.2.1.getD 0 0) h (isEl_in i1) c1 (isEl_in i2)
      have w2 := wRatio_eq (z := a.2.2.getD 0 0) (e := a.2.1.getD 0 0) h (isEl_in i3) c2 (isEl_in i4)
      generalize ratio p q e.1 (a.2.2.getD 0 0) (a.1.getD 0 0) e.2.1 (a.2.1.getD 0 0) = x1 at r1 w1
      generalize ratio p q e.2.2.1 (a.2.2.getD 0 0) (a.1.getD 1 0) e.2.2.2 (a.2.1.getD 0 0) = x2 at r2 w2
      have y1 := pw_range (q := q) (x := x1) (e := small q (esOf l ++ zsOf l) i) (show 1 ≤ p by omega)
      have y2 := pw_range (q := q) (x := x2) (e := small q (esOf l ++ zsOf l) (l.length + i)) (show 1 ≤ p by omega)
      simp only [lt_yes hi, cond_true, getI_nat, ha, hei, getI_zero, show ∀ m : List Int, getI m 1 = m[1]? from fun m => getI_nat m 1, getD_at (d := (0 : Int)) (show 0 < a.2.1.length by omega), getD_at (d := (0 : Int)) (show 0 < a.2.2.length by omega), g1, g2, bindO_some', w1, w2, small_get (show i < 2 * l.length by omega),
        i64_addN (show l.length + i ≤ 1000000 by omega), small_get (show l.length + i < 2 * l.length by omega), gExp_pw h r1.1 (Int.le_of_lt r1.2), gExp_pw h r2.1 (Int.le_of_lt r2.2), mul3 h (show 0 ≤ st ∧ st ≤ p by omega) ⟨y1.1, Int.le_of_lt y1.2⟩ ⟨y2.1, Int.le_of_lt y2.2⟩, i64_succ (show i < 2 ^ 62 by omega)]
    · simp only [lt_no, cond_false]
  · cases (List.range l.length).all fun i => formE p q g s (es.getD i e0) (l.getD i ([], [], [])) <;> rfl

theorem batchEqual_eq {p q g : Int} {s : ByteArray} {es : List El} {l : List Pf} (h : Gr p q g) (hs : s.size ≤ 40) (he : ∀ e ∈ es, isEq p q e = true) (hl : l.length = es.length) (h12 : es.length ≤ 12) (hr : ∀ r ∈ l, r.small 1048576) :
    M_I_Group_batchEqual ((p, q, g), s, es, l) = some (beB p q g s es l, true) := by
  have hp3 := h.p3; have hq2 := h.q2; have hqp := h.qp; have hpm := h.pm
  unfold M_I_Group_batchEqual beB
  dsimp only
  refine (guard_loop (n := l.length) (fun i => formE p q g s (es.getD i e0) (l.getD i ([], [], []))) (some (iterN (beMul p q es l) 1 l.length == 1, true)) (some (false, true)) (by omega) (fun again i hi => ?_) (fun hall again => ?_)).trans ?_
  · have ha := List.getElem?_eq_getElem hi
    have hsm := hr _ (List.getElem_mem hi)
    have hei := getD_at (d := e0) (show i < es.length by omega)
    obtain ⟨i1, i2, i3, i4⟩ := isEq_spec (he _ (List.mem_of_getElem? hei))
    rw [getD_is ha]
    generalize l[i] = a at ha hsm
    generalize es.getD i e0 = e at hei i1 i2 i3 i4
    simp only [lt_yes hi, cond_true, getI_nat, ha, bindO_some', hei]
    unfold formE
    rw [show M_I_Group_isLinearForm ((p, q, g), s, [e.1, e.2.2.1], [e.2.1, e.2.2.2], a.1, a.2.1, a.2.2) = _ from isLinearForm_eq h hs (by simp only [List.all_cons, List.all_nil, i1, i3, Bool.and_self]) (by simp only [List.all_cons, List.all_nil, i2, i4, Bool.and_self]) (by simp) (by simp) hsm, bindO_some', i64_succ (by omega)]
    cases formB p q g s [e.1, e.2.2.1] [e.2.1, e.2.2.2] a <;> rfl
  · have hone := zip_forms hall
    have hokd := forms_okD h hall
    have e1 : (esOf l).length = l.length := List.length_map ..
    have e2 : (zsOf l).length = l.length := List.length_map ..
    simp only [lt_no, cond_false]
    rw [tops_eq (by omega) hone, bindO_some', concat2_eq (show (esOf l).length + (zsOf l).length ≤ 1073741824 by omega), bindO_some', i64_double (by omega), bindO_some', (smalls_eq h hokd (by simp only [List.length_append]; omega) (by omega)).2, bindO_some']
    simp only [Bool.not_true, cond_false]
    refine (iter_loop (beMul p q es l) 1 l.length (fun i st => (st, i)) (fun st => some (st == 1, true)) (fun _ st => 0 ≤ st ∧ st < p) (by omega) ⟨by omega, by omega⟩ (fun i st hi hv => prod_range (by omega)) (fun again i st hi hv => ?_) (fun again st hv => ?_)).trans rfl
    · have ha := List.getElem?_eq_getElem hi
      obtain ⟨f1, f2, f3, f4, f5, f6⟩ := formB_one (hall i hi)
      have hei := getD_at (d := e0) (show i < es.length by omega)
      obtain ⟨i1, i2, i3, i4⟩ := isEq_spec (he _ (List.mem_of_getElem? hei))
      have hz := zsOf_get ha
      have hE := esOf_get ha
      unfold beMul
      rw [getD_is hz, getD_is hE, getD_is ha]
      rw [getD_is ha] at f1 f2 f3 f4
      generalize l[i] = a at ha f1 f2 f3 f4 hz hE
      generalize es.getD i e0 = e at hei i1 i2 i3 i4 f1
      have f1' : a.1.length = 2 := f1
      have g1 := getD_at (d := (0 : Int)) (show 0 < a.1.length by omega)
      have g2 := getD_at (d := (0 : Int)) (show 1 < a.1.length by omega)
      have c1 := isEl_in (List.all_eq_true.1 f4 _ (List.mem_of_getElem? g1))
      have c2 := isEl_in (List.all_eq_true.1 f4 _ (List.mem_of_getElem? g2))
      have b1 := pw_range (q := q) (x := e.2.1) (e := a.2.1.getD 0 0) (show 1 ≤ p by omega)
      have b2 := pw_range (q := q) (x := e.2.2.2) (e := a.2.1.getD 0 0) (show 1 ≤ p by omega)
      have r1 := ratio_range (q := q) (g := e.1) (z := a.2.2.getD 0 0) (x := a.1.getD 0 0) (y := e.2.1) (e := a.2.1.getD 0 0) (show 2 ≤ p by omega)
      have r2 := ratio_range (q := q) (g := e.2.2.1) (z := a.2.2.getD 0 0) (x := a.1.getD 1 0) (y := e.2.2.2) (e := a.2.1.getD 0 0) (show 2 ≤ p by omega)
      have w1 := ratio_I (g1 := e.1) (z := a.2.2.getD 0 0) (x := a.1.getD 0 0) (y := e.2.1) (e := a.2.1.getD 0 0) h
      have w2 := ratio_I (g1 := e.2.2.1) (z := a.2.2.getD 0 0) (x := a.1.getD 1 0) (y := e.2.2.2) (e := a.2.1.getD 0 0) h
      generalize ratio p q e.1 (a.2.2.getD 0 0) (a.1.getD 0 0) e.2.1 (a.2.1.getD 0 0) = x1 at r1 w1
      generalize ratio p q e.2.2.1 (a.2.2.getD 0 0) (a.1.getD 1 0) e.2.2.2 (a.2.1.getD 0 0) = x2 at r2 w2
      have y1 := pw_range (q := q) (x := x1) (e := small q (esOf l ++ zsOf l) i) (show 1 ≤ p by omega)
      have y2 := pw_range (q := q) (x := x2) (e := small q (esOf l ++ zsOf l) (l.length + i)) (show 1 ≤ p by omega)
      simp only [lt_yes hi, cond_true, getI_nat, ha, hei, hz, hE, getI_zero, show ∀ m : List Int, getI m 1 = m[1]? from fun m => getI_nat m 1, g1, g2, bindO_some', pow_pw h (isEl_in i1).1 (isEl_in i1).2, pow_pw h (isEl_in i2).1 (isEl_in i2).2, pow_pw h (isEl_in i3).1 (isEl_in i3).2, pow_pw h (isEl_in i4).1 (isEl_in i4).2,
        mul2' h c1 ⟨b1.1, Int.le_of_lt b1.2⟩, mul2' h c2 ⟨b2.1, Int.le_of_lt b2.2⟩, w1, w2, small_get (show i < 2 * l.length by omega),
        i64_addN (show l.length + i ≤ 1000000 by omega), small_get (show l.length + i < 2 * l.length by omega), pow_pw h r1.1 (Int.le_of_lt r1.2), pow_pw h r2.1 (Int.le_of_lt r2.2), mul3' h (show 0 ≤ st ∧ st ≤ p by omega) ⟨y1.1, Int.le_of_lt y1.2⟩ ⟨y2.1, Int.le_of_lt y2.2⟩, i64_succ (show i < 2 ^ 62 by omega)]
    · simp only [lt_no, cond_false]
  · cases (List.range l.length).all fun i => formE p q g s (es.getD i e0) (l.getD i ([], [], [])) <;> rfl

noncomputable def stB (p q g : Int) (s : ByteArray) (es : List El) (n : Nat) : Bool := okG p q g && (decide (s.size ≤ 40) && (decide (es.length ≤ 12) && ((n == es.length) && es.all (isEq p q))))

theorem gt12 (n : Nat) : decide ((n : Int) > 12) = !decide (n ≤ 12) := by
  rw [Bool.eq_iff_iff]
  simp
  omega

theorem le12 (n : Nat) : decide ((n : Int) ≤ 12) = decide (n ≤ 12) := decide_eq_decide.2 (by omega)

theorem range_all {α : Type} {d : α} {c : α → Bool} {l : List α} : ((List.range l.length).all fun i => c (l.getD i d)) = l.all c := by
  rw [Bool.eq_iff_iff, List.all_eq_true, List.all_eq_true]
  constructor
  · intro h a ha
    obtain ⟨i, hi, rfl⟩ := List.mem_iff_getElem.1 ha
    have := h i (List.mem_range.2 hi)
    rwa [getD_is (List.getElem?_eq_getElem hi)] at this
  · intro h i hi
    rw [getD_is (List.getElem?_eq_getElem (List.mem_range.1 hi))]
    exact h _ (List.getElem_mem _)

theorem wStatements_eq {p q g : Int} {s : ByteArray} {es : List El} {l : List Pf} : M_S_wStatements ((p, q, g), s, es, l) = some (stB p q g s es l.length) := by
  unfold M_S_wStatements M_S_sLabel stB
  dsimp only
  rw [l2Good_eq, bindO_some']
  cases hok : okG p q g
  · rfl
  have h := okG_spec hok
  rw [cond_true, sz40, bindO_some', gt12, ne_dec]
  cases hs : decide (s.size ≤ 40)
  · rfl
  cases h12 : decide (es.length ≤ 12)
  · rfl
  cases hl : l.length == es.length
  · rfl
  have h12' : es.length ≤ 12 := by simpa using h12
  simp only [Bool.not_true, cond_false, Bool.true_and]
  rw [← range_all (d := e0)]
  refine range_loop _ (by omega) (fun again i hi => ?_) (fun again => ?_)
  · have hei := getD_at (d := e0) hi
    generalize es.getD i e0 = e at hei
    simp only [lt_yes hi, cond_true, getI_nat, hei, bindO_some', M_S_sElements, gIs_eq h (show [e.1, e.2.1, e.2.2.1, e.2.2.2].length < 2 ^ 62 by simp), i64_succ (show i < 2 ^ 62 by omega)]
    rw [show [e.1, e.2.1, e.2.2.1, e.2.2.2].all (isEl p q) = isEq p q e from rfl]
    cases isEq p q e <;> rfl
  · simp only [lt_no, cond_false]

theorem containsFuncE_eq {l : List El} {f : El → Option Bool} {p : El → Bool} (hl : l.length < 2 ^ 62) (hf : ∀ a ∈ l, f a = some (p a)) : M_slices_ContainsFunc_sI_EqualLog_I_EqualLog (l, f) = some (l.any p) := by
  obtain ⟨j, h1, h2⟩ := walk_index_mem p f l 0 hf
  unfold M_slices_ContainsFunc_sI_EqualLog_I_EqualLog
  have : M_slices_IndexFunc_sI_EqualLog_I_EqualLog (l, f) = some j := by
    unfold M_slices_IndexFunc_sI_EqualLog_I_EqualLog
    refine (loop_walk l _ _ (fun again i a ha hi => ?_) (fun again => ?_) (by omega)).trans h1
    · simp only [getI_nat, ha, bindO_some', i64_succ (show i < 2 ^ 62 by omega), lt_yes hi, cond_true]
    · simp
  dsimp only
  rw [this, bindO_some', h2]

theorem areBatch_eq {p q g : Int} {s : ByteArray} {es : List El} {l : List Pf} : M_I_areBatch ((p, q, g), s, es, l) = some (stB p q g s es l.length) := by
  unfold M_I_areBatch M_I_isLabel stB
  dsimp only
  rw [IsValidGroup_eq, bindO_some', bindO_some', sz40, le12, eq_dec']
  cases hok : okG p q g
  · rfl
  have h := okG_spec hok
  cases hs : decide (s.size ≤ 40)
  · rfl
  cases h12 : decide (es.length ≤ 12)
  · rfl
  cases hl : l.length == es.length
  · rfl
  have h12' : es.length ≤ 12 := by simpa using h12
  simp only [cond_true, Bool.true_and]
  rw [containsFuncE_eq (p := fun e => !isEq p q e) (by omega) (fun e _ => ?_), bindO_some', ← all_not_any (l := es) (p := isEq p q) (q := fun e => !isEq p q e) (fun a _ => rfl)]
  unfold M_I_areBatch_1 M_I_Group_hasEqual
  dsimp only
  rw [hasAll_eq h (by simp), bindO_some', bindO_some', bindO_some']
  rfl

theorem stB_spec {p q g : Int} {s : ByteArray} {es : List El} {n : Nat} (h : stB p q g s es n = true) : okG p q g = true ∧ s.size ≤ 40 ∧ es.length ≤ 12 ∧ n = es.length ∧ ∀ e ∈ es, isEq p q e = true := by
  simpa [stB] using h

noncomputable def bEqual (p q g : Int) (s : ByteArray) (es : List El) (l : List Pf) : Bool × Bool := bif stB p q g s es l.length then (beB p q g s es l, true) else (false, false)

theorem S_BatchEqual_eq {p q g : Int} {s : ByteArray} {es : List El} {l : List Pf} (hr : ∀ r ∈ l, r.small 1048576) : M_S_BatchEqual ((p, q, g), s, es, l) = some (bEqual p q g s es l) := by
  unfold M_S_BatchEqual bEqual
  dsimp only
  rw [wStatements_eq, bindO_some']
  cases hst : stB p q g s es l.length
  · rfl
  obtain ⟨h1, h2, h3, h4, h5⟩ := stB_spec hst
  rw [wEqual_eq (okG_spec h1) h2 h5 h4 h3 hr]
  rfl

theorem I_BatchEqual_eq {p q g : Int} {s : ByteArray} {es : List El} {l : List Pf} (hr : ∀ r ∈ l, r.small 1048576) : M_I_BatchEqual ((p, q, g), s, es, l) = some (bEqual p q g s es l) := by
  unfold M_I_BatchEqual bEqual
  dsimp only
  rw [areBatch_eq, bindO_some']
  cases hst : stB p q g s es l.length
  · rfl
  obtain ⟨h1, h2, h3, h4, h5⟩ := stB_spec hst
  rw [batchEqual_eq (okG_spec h1) h2 h5 h4 h3 hr]
  rfl

def fb (B : Nat → Nat → Bool) : Nat → Nat → Nat → List Int × Int
  | 0, _, _ => ([], 1)
  | n + 1, lo, hi => bif B lo hi then ([], 1) else bif hi - lo == 1 then ([(lo : Int)], 1) else
      ((fb B n lo (lo + (hi - lo + 1) / 2)).1 ++ (fb B n (lo + (hi - lo + 1) / 2) hi).1, (fb B n lo (lo + (hi - lo + 1) / 2)).2 + (fb B n (lo + (hi - lo + 1) / 2) hi).2 + 1)

theorem fb_size (B : Nat → Nat → Bool) : ∀ (n lo hi : Nat), lo < hi → hi - lo ≤ n → (fb B n lo hi).1.length ≤ hi - lo ∧ 1 ≤ (fb B n lo hi).2 ∧ (fb B n lo hi).2 ≤ 2 * ((hi - lo : Nat) : Int) - 1
  | 0, lo, hi, h1, h2 => by omega
  | n + 1, lo, hi, h1, h2 => by
    unfold fb
    cases B lo hi
    · cases h3 : hi - lo == 1
      · have h3' : hi - lo ≠ 1 := by simpa using h3
        obtain ⟨a1, a2, a3⟩ := fb_size B n lo (lo + (hi - lo + 1) / 2) (by omega) (by omega)
        obtain ⟨b1, b2, b3⟩ := fb_size B n (lo + (hi - lo + 1) / 2) hi (by omega) (by omega)
        simp only [cond_false, List.length_append]
        omega
      · simp only [cond_false, cond_true, List.length_cons, List.length_nil]
        omega
    · simp only [cond_true, List.length_nil]
      omega

theorem sliceLH_nat {l h n : Nat} (h1 : l ≤ h) (h2 : h ≤ n) : sliceLH (l : Int) (h : Int) n = some (l, h) := by
  unfold sliceLH
  rw [if_pos ⟨by omega, by omega, by omega⟩]
  simp

def cutB (p q g : Int) (s : ByteArray) (es : List El) (l : List Pf) (lo hi : Nat) : Bool := beB p q g s ((es.take hi).drop lo) ((l.take hi).drop lo)

theorem mem_cut {α : Type} {l : List α} {lo hi : Nat} {a : α} (h : a ∈ (l.take hi).drop lo) : a ∈ l := List.mem_of_mem_take (List.mem_of_mem_drop h)

theorem mid_walk {lo hi : Nat} (h1 : lo < hi) (h2 : hi ≤ 1000) : IntKind.wrap .i64 ((hi : Int) - (lo : Int)) = ((hi - lo : Nat) : Int) ∧ IntKind.wrap .i64 (((hi - lo : Nat) : Int) + 1) = ((hi - lo + 1 : Nat) : Int) ∧ IntKind.wrap .i64 (((hi - lo + 1 : Nat) : Int).tdiv 2) = (((hi - lo + 1) / 2 : Nat) : Int) ∧
    IntKind.wrap .i64 ((lo : Int) + (((hi - lo + 1) / 2 : Nat) : Int)) = ((lo + (hi - lo + 1) / 2 : Nat) : Int) := by
  refine ⟨?_, ?_, ?_, ?_⟩
  · rw [i64_in _ (by omega)]; omega
  · rw [i64_in _ (by omega)]; omega
  · rw [tdiv_nn (by omega), i64_in _ (by omega)]; omega
  · rw [i64_in _ (by omega)]; omega

theorem wSearch_comes {p q g : Int} {s : ByteArray} {es : List El} {l : List Pf} (h : Gr p q g) (hs : s.size ≤ 40) (he : ∀ e ∈ es, isEq p q e = true) (hl : l.length = es.length) (h12 : es.length ≤ 12) (hr : ∀ r ∈ l, r.small 1048576) :
    ∀ (n lo hi : Nat), lo < hi → hi ≤ es.length → hi - lo ≤ n → Comes R_S_wSearch ((p, q, g), s, es, l, (lo : Int), (hi : Int)) n (fb (cutB p q g s es l) n lo hi)
  | 0, lo, hi, h1, h2, h3 => by omega
  | n + 1, lo, hi, h1, h2, h3 => by
    intro m
    cases m with
    | zero => exact ⟨.inl rfl, fun h => by omega⟩
    | succ m =>
      obtain ⟨w1, w2, w3, w4⟩ := mid_walk h1 (by omega)
      have hcut : M_S_wEqual ((p, q, g), s, List.drop lo (List.take hi es), List.drop lo (List.take hi l)) = some (cutB p q g s es l lo hi) := wEqual_eq h hs (fun e hm => he e (mem_cut hm)) (by simp; omega) (by simp; omega) (fun r hm => hr r (mem_cut hm))
      have hB : ∀ (x : Option (List Int × Int)), bindO (sliceLH (lo : Int) (hi : Int) es.length) (fun a0 => bindO (sliceLH (lo : Int) (hi : Int) l.length) fun a1 => bindO (M_S_wEqual ((p, q, g), s, List.drop a0.1 (List.take a0.2 es), List.drop a1.1 (List.take a1.2 l))) fun a2 => cond a2 (some ([], 1)) x) = cond (cutB p q g s es l lo hi) (some ([], 1)) x := fun x => by
        rw [sliceLH_nat (by omega) h2, bindO_some', sliceLH_nat (by omega) (by omega), bindO_some']
        dsimp only
        rw [hcut, bindO_some']
      have e : R_S_wSearch (m + 1) ((p, q, g), s, es, l, (lo : Int), (hi : Int)) = cond (cutB p q g s es l lo hi) (some ([], 1)) (cond (hi - lo == 1) (some ([(lo : Int)], 1)) (bindO (R_S_wSearch m ((p, q, g), s, es, l, (lo : Int), ((lo + (hi - lo + 1) / 2 : Nat) : Int))) fun a9 => bindO (R_S_wSearch m ((p, q, g), s, es, l, ((lo + (hi - lo + 1) / 2 : Nat) : Int), (hi : Int))) fun a10 =>
          bindO (guardO (lenOk (a9.1.length + a10.1.length))) fun _ => bindO (some (a9.1 ++ a10.1)) fun a12 => bindO (some (IntKind.wrap .i64 (a9.2 + a10.2))) fun a13 => bindO (some (IntKind.wrap .i64 (a13 + 1))) fun a14 => some (a12, a14))) := by
        rw [R_S_wSearch]
        dsimp only
        rw [hB]
        simp only [w1, w2, w3, w4, bindO_some', guardO_of (show ((2 : Int) != 0) = true from rfl)]
        rw [show (((hi - lo : Nat) : Int) == 1) = (hi - lo == 1) from eq_dec' (hi - lo) 1]
      rw [e]
      unfold fb
      cases cutB p q g s es l lo hi
      · cases h4 : hi - lo == 1
        · have h4' : hi - lo ≠ 1 := by simpa using h4
          simp only [cond_false]
          obtain ⟨a1, a2, a3⟩ := fb_size (cutB p q g s es l) n lo (lo + (hi - lo + 1) / 2) (by omega) (by omega)
          obtain ⟨b1, b2, b3⟩ := fb_size (cutB p q g s es l) n (lo + (hi - lo + 1) / 2) hi (by omega) (by omega)
          obtain ⟨c1, c2⟩ := wSearch_comes h hs he hl h12 hr n lo (lo + (hi - lo + 1) / 2) (by omega) (by omega) (by omega) m
          obtain ⟨d1, d2⟩ := wSearch_comes h hs he hl h12 hr n (lo + (hi - lo + 1) / 2) hi (by omega) (by omega) (by omega) m
          generalize fb (cutB p q g s es l) n lo (lo + (hi - lo + 1) / 2) = x at a1 a2 a3 c1 c2
          generalize fb (cutB p q g s es l) n (lo + (hi - lo + 1) / 2) hi = y at b1 b2 b3 d1 d2
          have fin : (bindO (some x) fun a9 => bindO (some y) fun a10 => bindO (guardO (lenOk (a9.1.length + a10.1.length))) fun _ => bindO (some (a9.1 ++ a10.1)) fun a12 => bindO (some (IntKind.wrap .i64 (a9.2 + a10.2))) fun a13 => bindO (some (IntKind.wrap .i64 (a13 + 1))) fun a14 => some (a12, a14)) = some (x.1 ++ y.1, x.2 + y.2 + 1) := by
            rw [bindO_some', bindO_some', guardO_of (lenOk_of (by omega)), bindO_some', bindO_some', i64_in _ (by omega), bindO_some', i64_in _ (by omega), bindO_some']
          refine ⟨?_, fun hm => ?_⟩
          · rcases c1 with c1 | c1
            · rw [c1]; exact .inl rfl
            · rcases d1 with d1 | d1
              · rw [c1, d1]; exact .inl rfl
              · rw [c1, d1, fin]; exact .inr rfl
          · rw [c2 (by omega), d2 (by omega), fin]
        · exact ⟨.inr rfl, fun _ => rfl⟩
      · exact ⟨.inr rfl, fun _ => rfl⟩

theorem findBad_comes {p q g : Int} {s : ByteArray} {es : List El} {l : List Pf} (h : Gr p q g) (hs : s.size ≤ 40) (he : ∀ e ∈ es, isEq p q e = true) (hl : l.length = es.length) (h12 : es.length ≤ 12) (hr : ∀ r ∈ l, r.small 1048576) :
    ∀ (n lo hi : Nat) (out : List Int) (c : Int), lo < hi → hi ≤ es.length → hi - lo ≤ n → out.length + (hi - lo) ≤ 1000 → 0 ≤ c → c + 2 * ((hi - lo : Nat) : Int) ≤ 1000 →
      Comes R_I_Group_findBad ((p, q, g), s, es, l, (lo : Int), (hi : Int), out, c) n (true, out ++ (fb (cutB p q g s es l) n lo hi).1, c + (fb (cutB p q g s es l) n lo hi).2)
  | 0, lo, hi, out, c, h1, h2, h3, h5, h6, h7 => by omega
  | n + 1, lo, hi, out, c, h1, h2, h3, h5, h6, h7 => by
    intro m
    cases m with
    | zero => exact ⟨.inl rfl, fun h => by omega⟩
    | succ m =>
      obtain ⟨w1, w2, w3, w4⟩ := mid_walk h1 (by omega)
      have hcut : M_I_Group_batchEqual ((p, q, g), s, List.drop lo (List.take hi es), List.drop lo (List.take hi l)) = some (cutB p q g s es l lo hi, true) := batchEqual_eq h hs (fun e hm => he e (mem_cut hm)) (by simp; omega) (by simp; omega) (fun r hm => hr r (mem_cut hm))
      have e : R_I_Group_findBad (m + 1) ((p, q, g), s, es, l, (lo : Int), (hi : Int), out, c) = cond (cutB p q g s es l lo hi) (some (true, out, c + 1)) (cond (hi - lo == 1) (some (true, out ++ [(lo : Int)], c + 1)) (bindO (R_I_Group_findBad m ((p, q, g), s, es, l, (lo : Int), ((lo + (hi - lo + 1) / 2 : Nat) : Int), out, c + 1)) fun a12 => cond a12.1 (bindO (R_I_Group_findBad m ((p, q, g), s, es, l, ((lo + (hi - lo + 1) / 2 : Nat) : Int), (hi : Int), a12.2.1, a12.2.2)) fun a13 => some (a13.1, a13.2.1, a13.2.2)) (some (false, a12.2.1, a12.2.2)))) := by
        have hg : guardO (lenOk (out.length + [(lo : Int)].length)) = some () := guardO_of (lenOk_of (by simp only [List.length_cons, List.length_nil]; omega))
        rw [R_I_Group_findBad]
        dsimp only
        rw [i64_in (c + 1) (by omega), bindO_some', sliceLH_nat (by omega) h2, bindO_some', sliceLH_nat (by omega) (by omega), bindO_some']
        dsimp only
        rw [hcut, bindO_some']
        simp only [w1, w2, w3, w4, bindO_some', guardO_of (show ((2 : Int) != 0) = true from rfl), hg, Bool.not_true, cond_false]
        rw [show (((hi - lo : Nat) : Int) == 1) = (hi - lo == 1) from eq_dec' (hi - lo) 1]
      rw [e]
      unfold fb
      cases cutB p q g s es l lo hi
      · cases h4 : hi - lo == 1
        · have h4' : hi - lo ≠ 1 := by simpa using h4
          simp only [cond_false]
          obtain ⟨a1, a2, a3⟩ := fb_size (cutB p q g s es l) n lo (lo + (hi - lo + 1) / 2) (by omega) (by omega)
          obtain ⟨b1, b2, b3⟩ := fb_size (cutB p q g s es l) n (lo + (hi - lo + 1) / 2) hi (by omega) (by omega)
          obtain ⟨c1, c2⟩ := findBad_comes h hs he hl h12 hr n lo (lo + (hi - lo + 1) / 2) out (c + 1) (by omega) (by omega) (by omega) (by omega) (by omega) (by omega) m
          generalize fb (cutB p q g s es l) n lo (lo + (hi - lo + 1) / 2) = x at a1 a2 a3 c1 c2
          obtain ⟨d1, d2⟩ := findBad_comes h hs he hl h12 hr n (lo + (hi - lo + 1) / 2) hi (out ++ x.1) (c + 1 + x.2) (by omega) (by omega) (by omega) (by rw [List.length_append]; omega) (by omega) (by omega) m
          generalize fb (cutB p q g s es l) n (lo + (hi - lo + 1) / 2) hi = y at b1 b2 b3 d1 d2
          have e1 : c + 1 + x.2 + y.2 = c + (x.2 + y.2 + 1) := by omega
          rw [e1, List.append_assoc] at d1 d2
          refine ⟨?_, fun hm => ?_⟩
          · rcases c1 with c1 | c1
            · rw [c1]; exact .inl rfl
            · rw [c1, bindO_some', cond_true]
              rcases d1 with d1 | d1
              · rw [d1]; exact .inl rfl
              · rw [d1]; exact .inr rfl
          · rw [c2 (by omega), bindO_some', cond_true]
            dsimp only
            rw [d2 (by omega)]
            rfl
        · exact ⟨.inr rfl, fun _ => rfl⟩
      · exact ⟨.inr (by simp), fun _ => by simp⟩

noncomputable def findBad (p q g : Int) (s : ByteArray) (es : List El) (l : List Pf) : List Int × Int × Bool :=
  bif stB p q g s es l.length then bif l.length == 0 then ([], 0, true) else ((fb (cutB p q g s es l) l.length 0 l.length).1, (fb (cutB p q g s es l) l.length 0 l.length).2, true) else ([], 0, false)

theorem S_FindBadEqual_eq {p q g : Int} {s : ByteArray} {es : List El} {l : List Pf} (hr : ∀ r ∈ l, r.small 1048576) : M_S_FindBadEqual ((p, q, g), s, es, l) = some (findBad p q g s es l) := by
  unfold M_S_FindBadEqual findBad
  dsimp only
  rw [wStatements_eq, bindO_some', show (((l.length : Nat) : Int) == 0) = (l.length == 0) from eq_dec' l.length 0]
  cases hst : stB p q g s es l.length
  · rfl
  obtain ⟨h1, h2, h3, h4, h5⟩ := stB_spec hst
  cases h0 : l.length == 0
  · have h0' : l.length ≠ 0 := by simpa using h0
    have hc := Comes.lim (wSearch_comes (okG_spec h1) h2 h5 h4 h3 hr l.length 0 l.length (by omega) (by omega) (by omega))
    simp only [Bool.not_true, cond_false, cond_true]
    rw [show M_S_wSearch ((p, q, g), s, es, l, 0, ((l.length : Nat) : Int)) = _ from hc, bindO_some']
  · rfl

theorem I_FindBadEqual_eq {p q g : Int} {s : ByteArray} {es : List El} {l : List Pf} (hr : ∀ r ∈ l, r.small 1048576) : M_I_FindBadEqual ((p, q, g), s, es, l) = some (findBad p q g s es l) := by
  unfold M_I_FindBadEqual findBad
  dsimp only
  rw [areBatch_eq, bindO_some']
  cases hst : stB p q g s es l.length
  · rfl
  obtain ⟨h1, h2, h3, h4, h5⟩ := stB_spec hst
  cases h0 : l.length == 0
  · have h0' : l.length ≠ 0 := by simpa using h0
    have hc := Comes.lim (findBad_comes (okG_spec h1) h2 h5 h4 h3 hr l.length 0 l.length [] 0 (by omega) (by omega) (by omega) (by simp only [List.length_nil]; omega) (by omega) (by omega))
    rw [decide_eq_true (show ((l.length : Nat) : Int) > 0 by omega)]
    simp only [Bool.not_true, cond_false, cond_true]
    rw [show M_I_Group_findBad ((p, q, g), s, es, l, 0, ((l.length : Nat) : Int), [], 0) = _ from hc, bindO_some']
    simp
  · have h0' : l.length = 0 := by simpa using h0
    rw [decide_eq_false (show ¬ ((l.length : Nat) : Int) > 0 by omega)]
    rfl

theorem findBad_small (p q g : Int) (s : ByteArray) (es : List El) (l : List Pf) (hl : l.length ≤ 1048576) : (findBad p q g s es l).1.length ≤ 1048576 := by
  unfold findBad
  cases stB p q g s es l.length
  · simp
  · cases h0 : l.length == 0
    · have h0' : l.length ≠ 0 := by simpa using h0
      have := fb_size (cutB p q g s es l) l.length 0 l.length (by omega) (by omega)
      simp only [cond_true, cond_false]
      omega
    · simp

abbrev Pp := List Int × List Int × List Int × Pf

def Pp.small (P : Pp) (n : Nat) : Prop := P.1.length ≤ n ∧ P.2.1.length ≤ n ∧ P.2.2.1.length ≤ n ∧ P.2.2.2.small n

abbrev Mp := List Int × List Int × Pf

abbrev Stg := Int × List (Int × Int) × Mp × Pp

def Mp.small (a : Mp) (n : Nat) : Prop := a.1.length ≤ n ∧ a.2.1.length ≤ n ∧ a.2.2.small n

def Stg.small (s : Stg) : Prop := s.2.1.length ≤ 1048576 ∧ Mp.small s.2.2.1 1048576 ∧ Pp.small s.2.2.2 1048576

theorem bits_255 (x : Int) : 0 ≤ Vd.bits .and .u64 x 255 ∧ Vd.bits .and .u64 x 255 ≤ 255 := by
  have h : (BitVec.ofInt (IntKind.bits .u64) x &&& BitVec.ofInt (IntKind.bits .u64) 255).toNat ≤ 255 := by
    rw [BitVec.toNat_and]
    exact Nat.le_trans Nat.and_le_right (by decide)
  show 0 ≤ IntKind.wrap .u64 ((BitVec.ofInt (IntKind.bits .u64) x &&& BitVec.ofInt (IntKind.bits .u64) 255).toNat : Int) ∧ IntKind.wrap .u64 ((BitVec.ofInt (IntKind.bits .u64) x &&& BitVec.ofInt (IntKind.bits .u64) 255).toNat : Int) ≤ 255
  generalize (BitVec.ofInt (IntKind.bits .u64) x &&& BitVec.ofInt (IntKind.bits .u64) 255).toNat = n at h ⊢
  rw [wrap_u64 (by omega)]
  omega

def Bytes (code : List Int) : Prop := ∀ a ∈ code, 0 ≤ a ∧ a ≤ 255

theorem next_ok {code : List Int} {pos seed : Int} (hb : Bytes code) (h0 : 0 ≤ pos) (h1 : pos ≤ 2 ^ 40) : ∃ v seed', M_S_l1Cur_next (code, pos, seed) = some (v, code, pos + 1, seed') ∧ 0 ≤ v ∧ v ≤ 255 := by
  obtain ⟨k, rfl⟩ : ∃ k : Nat, pos = (k : Int) := ⟨pos.toNat, by omega⟩
  unfold M_S_l1Cur_next
  dsimp only
  by_cases hl : k < code.length
  · have hg := List.getElem?_eq_getElem hl
    have ha := hb _ (List.getElem_mem hl)
    rw [lt_yes hl, cond_true, getI_nat, hg, bindO_some', i64_in ((k : Int) + 1) (by omega), bindO_some', bindO_some', bindO_some', bindO_some', decide_eq_true (show (k : Int) + 1 ≤ ((code.length : Nat) : Int) by omega), cond_true, i64_in code[k] (by omega)]
    exact ⟨_, _, rfl, ha.1, ha.2⟩
  · rw [decide_eq_false (show ¬ (k : Int) < ((code.length : Nat) : Int) by omega), cond_false, i64_in ((k : Int) + 1) (by omega), bindO_some', bindO_some', bindO_some', bindO_some', decide_eq_false (show ¬ (k : Int) + 1 ≤ ((code.length : Nat) : Int) by omega), cond_false, guardO_of (by decide), bindO_some', bindO_some', bindO_some']
    have hx := bits_255 (shr .u64 (IntKind.wrap .u64 (IntKind.wrap .u64 (IntKind.wrap .u64 (seed * 6364136223846793005) + IntKind.wrap .u64 0) + 1442695040888963407)) 40)
    rw [i64_in _ (by omega)]
    exact ⟨_, _, rfl, hx.1, hx.2⟩

theorem pick_ok {code : List Int} {pos seed n : Int} (hb : Bytes code) (h0 : 0 ≤ pos) (h1 : pos ≤ 2 ^ 39) (hn : n ≤ 2 ^ 40) : ∃ v pos' seed', M_S_l1Cur_pick ((code, pos, seed), n) = some (v, code, pos', seed') ∧ 0 ≤ v ∧ v ≤ 65535 ∧ (n ≤ 1 → v = 0) ∧ (1 < n → v < n) ∧ pos ≤ pos' ∧ pos' ≤ pos + 2 := by
  unfold M_S_l1Cur_pick
  dsimp only
  by_cases hn1 : n ≤ 1
  · rw [decide_eq_true hn1, cond_true]
    exact ⟨_, _, _, rfl, by omega, by omega, fun _ => rfl, fun h => by omega, by omega, by omega⟩
  have hg0 : guardO (n != 0) = some () := guardO_of (bne_iff_ne.2 (by omega))
  obtain ⟨v, s1, e1, v1, v2⟩ := next_ok (seed := seed) hb h0 (by omega)
  rw [decide_eq_false hn1, cond_false, e1, bindO_some']
  dsimp only
  by_cases h2 : n > 200
  · obtain ⟨w, s2, e2, w1, w2⟩ := next_ok (seed := s1) hb (show 0 ≤ pos + 1 by omega) (by omega)
    rw [decide_eq_true h2, cond_true, i64_in _ (by omega), bindO_some', e2, bindO_some']
    dsimp only
    rw [i64_in _ (by omega), bindO_some', hg0, bindO_some', tmod_nn (by omega), bindO_some']
    have r1 := Int.emod_nonneg (v * 256 + w) (show n ≠ 0 by omega)
    have r2 := Int.emod_lt_of_pos (v * 256 + w) (show 0 < n by omega)
    have r3 : (v * 256 + w) % n ≤ v * 256 + w := by
      by_cases hlt : v * 256 + w < n
      · rw [Int.emod_eq_of_lt (by omega) hlt]
        exact Int.le_refl _
      · omega
    exact ⟨_, _, _, rfl, r1, by omega, fun h => by omega, fun _ => r2, by omega, by omega⟩
  · rw [decide_eq_false h2, cond_false, hg0, bindO_some', tmod_nn v1, bindO_some']
    have r1 := Int.emod_nonneg v (show n ≠ 0 by omega)
    have r2 := Int.emod_lt_of_pos v (show 0 < n by omega)
    exact ⟨_, _, _, rfl, r1, by omega, fun h => by omega, fun _ => r2, by omega, by omega⟩

theorem one_ok {code : List Int} {pos seed n : Int} (hb : Bytes code) (h0 : 0 ≤ pos) (h1 : pos ≤ 2 ^ 39) (hn : n ≤ 2 ^ 40) : ∃ b pos' seed', M_S_l1Cur_one ((code, pos, seed), n) = some (b, code, pos', seed') ∧ pos ≤ pos' ∧ pos' ≤ pos + 2 := by
  obtain ⟨v, p, s, e, -, -, -, -, h3, h4⟩ := pick_ok (seed := seed) hb h0 h1 hn
  refine ⟨v == 0, p, s, ?_, h3, h4⟩
  unfold M_S_l1Cur_one
  dsimp only
  rw [e, bindO_some']

theorem among_ok {code l : List Int} {pos seed : Int} (hb : Bytes code) (h0 : 0 ≤ pos) (h1 : pos ≤ 2 ^ 39) (hl : 1 ≤ l.length ∧ l.length ≤ 1000) : ∃ v pos' seed', M_S_l1Cur_among ((code, pos, seed), l) = some (v, code, pos', seed') ∧ v ∈ l ∧ pos ≤ pos' ∧ pos' ≤ pos + 2 := by
  obtain ⟨v, p, s, e, h2, -, h5, h6, h3, h4⟩ := pick_ok (seed := seed) (n := (l.length : Int)) hb h0 h1 (by omega)
  obtain ⟨k, rfl⟩ : ∃ k : Nat, v = (k : Int) := ⟨v.toNat, by omega⟩
  have hk : k < l.length := by omega
  refine ⟨l[k], p, s, ?_, List.getElem_mem hk, h3, h4⟩
  unfold M_S_l1Cur_among
  dsimp only
  rw [e, bindO_some']
  dsimp only
  rw [getI_nat, List.getElem?_eq_getElem hk, bindO_some']

theorem wf_u8 {code : List Int} (h : WF (.sl (.int .u8)) code) : Bytes code := fun a ha => by
  have h1 : IntKind.u8.min ≤ a ∧ a ≤ IntKind.u8.max := h.2 a ha
  have e1 : IntKind.u8.min = 0 := by decide
  have e2 : IntKind.u8.max = 255 := by decide
  omega

theorem qInts_eq {a : List Int} (h : a.length < 2 ^ 62) : M_L_qInts (a, a) = some true := by
  unfold M_L_qInts
  dsimp only
  rw [bne_self_eq_false, cond_false]
  refine loopO_for (σ := Unit) (fun i _ => (i : Int)) a.length (fun _ _ => some true) (fun _ _ => True) (fun again _ _ => ?_) (fun again i _ hi _ ih => ?_) (by omega) (i := 0) (s := ()) (Nat.zero_le _) trivial
  · rw [lt_no, cond_false]
  · have hg := List.getElem?_eq_getElem hi
    rw [lt_yes hi, cond_true, getI_nat, hg, bindO_some', bindO_some', bne_self_eq_false, cond_false, i64_succ (by omega), bindO_some']
    exact ih () trivial

/-- A loop that counts, to a given end. -/
theorem loopO_to {τ β : Type} {body : (τ → Option β) → τ → Option β} (enc : Nat → τ) (N : Nat) (r : Option β) (hN : N < 2 ^ 62)
    (hend : ∀ again : τ → Option β, body again (enc N) = r) (hin : ∀ (again : τ → Option β) (i : Nat), i < N → again (enc (i + 1)) = r → body again (enc i) = r) : loopO body (enc 0) = r :=
  loopO_for (body := body) (σ := Unit) (fun i _ => enc i) N (fun _ _ => r) (fun _ _ => True) (fun again _ _ => hend again) (fun again i _ hi _ ih => hin again i hi (ih () trivial)) (by omega) (i := 0) (s := ()) (Nat.zero_le _) trivial

theorem bind_to {α β : Type} {m : Option α} {v : α} {f : α → Option β} {r : Option β} (h : m = some v) (h2 : f v = r) : bindO m f = r := by
  rw [h]
  exact h2

theorem yes_to {β : Type} {c : Bool} {a b r : Option β} (h : c = true) (h2 : a = r) : cond c a b = r := by
  rw [h]
  exact h2

theorem no_to {β : Type} {c : Bool} {a b r : Option β} (h : c = false) (h2 : b = r) : cond c a b = r := by
  rw [h]
  exact h2

theorem sameInts_eq {a : List Int} (h : a.length < 2 ^ 62) : M_L_sameInts (a, a) = some true := qInts_eq h

theorem big_some (a b : List Int) : ∃ v, M_L_big (a, b) = some v := by
  unfold M_L_big
  dsimp only
  cases decide (((a.length : Nat) : Int) > 1048576) <;> exact ⟨_, rfl⟩

def primeB (b n : Nat) : Bool := decide (2 ≤ n) && (List.range b).all fun d => decide (d < 2) || (decide (n < d * d) || !(n % d == 0))

theorem isP_primeB {b n : Nat} (h : n < b * b) : isP (n : Int) = primeB b n := by
  rw [Bool.eq_iff_iff]
  simp only [isP, decide_eq_true_eq, primeB, Bool.and_eq_true, List.all_eq_true, List.mem_range, Bool.or_eq_true, Bool.not_eq_true', beq_eq_false_iff_ne, ne_eq]
  constructor
  · rintro ⟨h1, h2⟩
    refine ⟨by omega, fun d _ => ?_⟩
    rcases Nat.lt_or_ge d 2 with h3 | h3
    · exact .inl h3
    · rcases Nat.lt_or_ge n (d * d) with h4 | h4
      · exact .inr (.inl h4)
      · refine .inr (.inr fun h5 => h2 (d : Int) (by omega) (by exact_mod_cast h4) ?_)
        rw [← Int.natCast_emod, h5]
        rfl
  · rintro ⟨h1, h2⟩
    refine ⟨by omega, fun d hd hdd h5 => ?_⟩
    obtain ⟨m, rfl⟩ : ∃ m : Nat, d = (m : Int) := ⟨d.toNat, by omega⟩
    have h6 : m * m ≤ n := by exact_mod_cast hdd
    have hm : m < b := Nat.lt_of_not_ge fun h7 => by
      have := Nat.mul_le_mul h7 h7
      omega
    rcases h2 m hm with h8 | h8 | h8
    · omega
    · omega
    · apply h8
      rw [← Int.natCast_emod] at h5
      exact_mod_cast h5

/-- All that is asked of a group's numbers to be made: q a prime, K the first with K q + 1 a prime, 2 to the K-th not 1. -/
def mgB (b q K : Nat) : Bool := decide (2 ≤ q ∧ q ≤ 1000000) && (decide (1 ≤ K) && (decide (K * q + 1 ≤ 2000000000) && (decide (K * q + 1 < b * b) && (primeB b q && ((List.range K).all (fun k => !primeB b (k * q + 1)) && (primeB b (K * q + 1) && !(2 ^ K % (K * q + 1) == 1)))))))

theorem makeGroup_ok {b q K : Nat} (h : mgB b q K = true) : M_S_MakeGroup (q : Int) = some ((((K * q + 1 : Nat) : Int), (q : Int), ((2 ^ K % (K * q + 1) : Nat) : Int)), true) := by
  simp only [mgB, Bool.and_eq_true, decide_eq_true_eq, List.all_eq_true, List.mem_range, Bool.not_eq_true', beq_eq_false_iff_ne, ne_eq] at h
  obtain ⟨h1, h2, h3, h4, h5, h6, h7, h8⟩ := h
  have hKq : q ≤ K * q := by
    have := Nat.mul_le_mul_right q h2
    omega
  have hK9 : K ≤ 2000000000 := by
    have := Nat.mul_le_mul_left K h1.1
    omega
  have hq : isP (q : Int) = true := by rw [isP_primeB (b := b) (by omega)]; exact h5
  unfold M_S_MakeGroup
  rw [in_eq, bindO_some', decide_eq_true (show (2 : Int) ≤ (q : Int) ∧ (q : Int) ≤ 1000000 by omega), Bool.not_true, cond_false, nPrime_eq (by omega), bindO_some', hq, Bool.not_true, cond_false, i64_in ((q : Int) + 1) (by omega), bindO_some']
  have hstart : (((q : Int) + 1), (0 : Int), (0 : Int), (0 : Int)) = ((((0 + 1) * q + 1 : Nat) : Int), (0 : Int), (0 : Int), (0 : Int)) := by
    rw [Nat.zero_add, Nat.one_mul]
    rfl
  rw [hstart]
  refine loopO_to (fun k => ((((k + 1) * q + 1 : Nat) : Int), (0 : Int), (0 : Int), (0 : Int))) (K - 1) _ (by omega) (fun again => ?_) (fun again k hk ih => ?_)
  · have hK : K - 1 + 1 = K := by omega
    dsimp only
    rw [hK, decide_eq_true (show ((K * q + 1 : Nat) : Int) ≤ 2000000000 by omega), cond_true, nPrime_eq (by omega), bindO_some', isP_primeB (b := b) h4, h7, Bool.not_true, cond_false]
    have e1 : IntKind.wrap .i64 (((K * q + 1 : Nat) : Int) - 1) = ((K * q : Nat) : Int) := by
      rw [i64_in _ (by omega)]
      omega
    have e2 : IntKind.wrap .i64 (((K * q : Nat) : Int).tdiv (q : Int)) = (K : Int) := by
      rw [tdiv_nn (by omega), show ((K * q : Nat) : Int) = (K : Int) * (q : Int) by simp, Int.mul_ediv_cancel _ (by omega), i64_in _ (by omega)]
    have e3 : M_S_nPower (2, (K : Int), ((K * q + 1 : Nat) : Int)) = some (((2 ^ K % (K * q + 1) : Nat) : Int)) := by
      rw [nPower_eq (by omega) (by omega) (by omega) (by omega) (by omega) (by omega), Int.toNat_natCast]
      congr 1
    have hg : guardO ((q : Int) != 0) = some () := guardO_of (bne_iff_ne.2 (by omega))
    refine loopO_to (fun _ => (2 : Int)) 0 _ (by decide) (fun again2 => ?_) (fun _ i hi => absurd hi (Nat.not_lt_zero _))
    refine bind_to (congrArg some e1) ?_
    refine bind_to hg ?_
    refine bind_to (congrArg some e2) ?_
    refine bind_to e3 ?_
    refine no_to (beq_eq_false_iff_ne.2 (by omega)) ?_
    refine bind_to (congrArg some e1) ?_
    refine bind_to hg ?_
    refine bind_to (congrArg some e2) ?_
    refine bind_to e3 ?_
    rfl
  · have hlt : (k + 1) * q ≤ K * q := Nat.mul_le_mul_right q (by omega)
    have hp := h6 (k + 1) (by omega)
    dsimp only
    rw [decide_eq_true (show (((k + 1) * q + 1 : Nat) : Int) ≤ 2000000000 by omega), cond_true, nPrime_eq (by omega), bindO_some', isP_primeB (b := b) (by omega), hp, Bool.not_false, cond_true, i64_in _ (by omega), bindO_some']
    have e : (((k + 1) * q + 1 : Nat) : Int) + (q : Int) = (((k + 1 + 1) * q + 1 : Nat) : Int) := by
      rw [show (k + 1 + 1) * q = (k + 1) * q + q by rw [Nat.succ_mul]]
      omega
    rw [e]
    exact ih

set_option maxRecDepth 100000 in
theorem made {q : Int} (h : q ∈ ([3, 5, 5, 7, 11, 11, 13, 23] : List Int) ∨ q ∈ ([101, 1009, 1019, 65537, 999983] : List Int)) : ∃ p g : Int, M_S_MakeGroup q = some ((p, q, g), true) ∧ 3 ≤ p ∧ p ≤ 2000000000 ∧ 0 ≤ g ∧ g ≤ 2000000000 ∧ 2 ≤ q ∧ q ≤ 1000000 := by
  have fin : ∀ (b q K : Nat), mgB b q K = true → ∃ p g : Int, M_S_MakeGroup (q : Int) = some ((p, (q : Int), g), true) ∧ 3 ≤ p ∧ p ≤ 2000000000 ∧ 0 ≤ g ∧ g ≤ 2000000000 ∧ (2 : Int) ≤ (q : Int) ∧ (q : Int) ≤ 1000000 := fun b q K h => by
    have h' := h
    simp only [mgB, Bool.and_eq_true, decide_eq_true_eq] at h'
    obtain ⟨h1, h2, h3, -⟩ := h'
    have hKq : q ≤ K * q := by
      have := Nat.mul_le_mul_right q h2
      omega
    have hm := Nat.mod_lt (2 ^ K) (show 0 < K * q + 1 by omega)
    exact ⟨_, _, makeGroup_ok h, by omega, by omega, by omega, by omega, by omega, by omega⟩
  simp only [List.mem_cons, List.not_mem_nil, or_false] at h
  rcases h with (rfl | rfl | rfl | rfl | rfl | rfl | rfl | rfl) | (rfl | rfl | rfl | rfl | rfl)
  · exact fin 10 3 2 (by decide +kernel)
  · exact fin 10 5 2 (by decide +kernel)
  · exact fin 10 5 2 (by decide +kernel)
  · exact fin 10 7 4 (by decide +kernel)
  · exact fin 10 11 2 (by decide +kernel)
  · exact fin 10 11 2 (by decide +kernel)
  · exact fin 10 13 4 (by decide +kernel)
  · exact fin 10 23 2 (by decide +kernel)
  · exact fin 40 101 6 (by decide +kernel)
  · exact fin 110 1009 10 (by decide +kernel)
  · exact fin 60 1019 2 (by decide +kernel)
  · exact fin 1000 65537 14 (by decide +kernel)
  · exact fin 3500 999983 12 (by decide +kernel)

theorem gExp_any {p q g x e : Int} (hp : 1 ≤ p ∧ p ≤ 3000000000) (hq : 1 ≤ q ∧ q ≤ 3000000000) (hx : 0 ≤ x ∧ x ≤ 3000000000) : ∃ v, M_S_gExp ((p, q, g), x, e) = some v ∧ 0 ≤ v ∧ v < p := by
  have h1 := Int.emod_nonneg e (show q ≠ 0 by omega)
  have h2 := Int.emod_lt_of_pos e (show 0 < q by omega)
  unfold M_S_gExp
  dsimp only
  rw [nMod_eq hq.1 (by omega), bindO_some', nPower_eq hx.1 hx.2 h1 (by omega) hp.1 hp.2, bindO_some']
  exact ⟨_, rfl, Int.emod_nonneg _ (by omega), Int.emod_lt_of_pos _ (by omega)⟩

def DG (p q g : Int) : Prop := (-10 ≤ p ∧ p ≤ 2000000010) ∧ (-10 ≤ q ∧ q ≤ 2000000010) ∧ (-10 ≤ g ∧ g ≤ 2000000010)

theorem tiny_ok {code : List Int} {pos seed : Int} (hb : Bytes code) (h0 : 0 ≤ pos) (h1 : pos ≤ 2 ^ 38) : ∃ p q g pos' seed', M_S_l1Cur_tiny (code, pos, seed) = some ((p, q, g), code, pos', seed') ∧ (3 ≤ p ∧ p ≤ 2000000000) ∧ (2 ≤ q ∧ q ≤ 1000000) ∧ (0 ≤ g ∧ g ≤ 2000000000) ∧ pos ≤ pos' ∧ pos' ≤ pos + 2 := by
  obtain ⟨v, p', s', e, hv, h2, h3⟩ := among_ok (l := [3, 5, 5, 7, 11, 11, 13, 23]) (seed := seed) hb h0 (by omega) ⟨by simp, by simp⟩
  obtain ⟨p, g, m1, m2, m3, m4, m5, m6, m7⟩ := made (.inl hv)
  refine ⟨p, v, g, p', s', ?_, ⟨m2, m3⟩, ⟨m6, m7⟩, ⟨m4, m5⟩, h2, h3⟩
  unfold M_S_l1Cur_tiny
  dsimp only
  rw [e, bindO_some']
  dsimp only
  rw [m1, bindO_some']

theorem group_ok {code : List Int} {pos seed : Int} (hb : Bytes code) (h0 : 0 ≤ pos) (h1 : pos ≤ 2 ^ 37) : ∃ p q g pos' seed', M_S_l1Cur_group (code, pos, seed) = some ((p, q, g), code, pos', seed') ∧ (3 ≤ p ∧ p ≤ 2000000000) ∧ (2 ≤ q ∧ q ≤ 1000000000) ∧ (0 ≤ g ∧ g ≤ 2000000000) ∧ pos ≤ pos' ∧ pos' ≤ pos + 6 := by
  unfold M_S_l1Cur_group
  dsimp only
  obtain ⟨k, p1, s1, e1, -, -, -, -, a1, a2⟩ := pick_ok (seed := seed) (n := 6) hb h0 (by omega) (by omega)
  rw [e1, bindO_some']
  dsimp only
  cases hk0 : k == (0 : Int)
  · cases hk1 : k == (1 : Int)
    · obtain ⟨p, q, g, p2, s2, e2, b1, b2, b3, a3, a4⟩ := tiny_ok (seed := s1) hb (show 0 ≤ p1 by omega) (by omega)
      rw [cond_false, cond_false, e2, bindO_some']
      dsimp only
      rw [i64_in (q - 1) (by omega), bindO_some']
      obtain ⟨z, p3, s3, e3, c1, c2, -, -, a5, a6⟩ := pick_ok (seed := s2) (n := q - 1) hb (show 0 ≤ p2 by omega) (by omega) (by omega)
      rw [e3, bindO_some']
      dsimp only
      rw [i64_in (1 + z) (by omega), bindO_some']
      obtain ⟨v, e4, c3, c4⟩ := gExp_any (p := p) (q := q) (g := g) (x := g) (e := 1 + z) ⟨by omega, by omega⟩ ⟨by omega, by omega⟩ ⟨by omega, by omega⟩
      rw [e4, bindO_some']
      exact ⟨p, q, v, p3, s3, rfl, b1, ⟨b2.1, by omega⟩, ⟨c3, by omega⟩, by omega, by omega⟩
    · obtain ⟨v, p2, s2, e2, hv, a3, a4⟩ := among_ok (l := [101, 1009, 1019, 65537, 999983]) (seed := s1) hb (show 0 ≤ p1 by omega) (by omega) ⟨by simp, by simp⟩
      obtain ⟨p, g, m1, m2, m3, m4, m5, m6, m7⟩ := made (.inr hv)
      rw [cond_false, cond_true, e2, bindO_some']
      dsimp only
      rw [m1, bindO_some']
      exact ⟨p, v, g, p2, s2, rfl, ⟨m2, m3⟩, ⟨m6, by omega⟩, ⟨m4, m5⟩, by omega, by omega⟩
  · exact ⟨1000000007, 500000003, 4, p1, s1, rfl, by omega, by omega, by omega, by omega, by omega⟩

theorem anyGroup_ok {code : List Int} {pos seed : Int} (hb : Bytes code) (h0 : 0 ≤ pos) (h1 : pos ≤ 2 ^ 36) : ∃ p q g pos' seed', M_S_l1Cur_anyGroup (code, pos, seed) = some ((p, q, g), code, pos', seed') ∧ DG p q g ∧ pos ≤ pos' ∧ pos' ≤ pos + 10 := by
  obtain ⟨p, q, g, p1, s1, e1, b1, b2, b3, a1, a2⟩ := group_ok (seed := seed) hb h0 (by omega)
  obtain ⟨k, p2, s2, e2, -, -, -, -, a3, a4⟩ := pick_ok (seed := s1) (n := 24) hb (show 0 ≤ p1 by omega) (by omega) (by omega)
  unfold M_S_l1Cur_anyGroup
  dsimp only
  rw [e1, bindO_some']
  dsimp only
  rw [e2, bindO_some']
  dsimp only
  cases hk0 : k == (0 : Int)
  · cases hk1 : k == (1 : Int)
    · cases hk2 : k == (2 : Int)
      · exact ⟨p, q, g, p2, s2, rfl, ⟨by omega, by omega, by omega⟩, by omega, by omega⟩
      · obtain ⟨v, p3, s3, e3, hv, a5, a6⟩ := among_ok (l := [0, 1, p - 1, p, g + 1]) (seed := s2) hb (show 0 ≤ p2 by omega) (by omega) ⟨by simp, by simp⟩
        rw [cond_false, cond_false, cond_true, i64_in (p - 1) (by omega), bindO_some', i64_in (g + 1) (by omega), bindO_some', e3, bindO_some']
        refine ⟨p, q, v, p3, s3, rfl, ⟨by omega, by omega, ?_⟩, by omega, by omega⟩
        simp only [List.mem_cons, List.not_mem_nil, or_false] at hv
        omega
    · obtain ⟨v, p3, s3, e3, hv, a5, a6⟩ := among_ok (l := [0, 1, q + 1, p - 1]) (seed := s2) hb (show 0 ≤ p2 by omega) (by omega) ⟨by simp, by simp⟩
      rw [cond_false, cond_true, i64_in (q + 1) (by omega), bindO_some', i64_in (p - 1) (by omega), bindO_some', e3, bindO_some']
      refine ⟨p, v, g, p3, s3, rfl, ⟨by omega, ?_, by omega⟩, by omega, by omega⟩
      simp only [List.mem_cons, List.not_mem_nil, or_false] at hv
      omega
  · obtain ⟨v, p3, s3, e3, hv, a5, a6⟩ := among_ok (l := [0, p + 2, 4, -7]) (seed := s2) hb (show 0 ≤ p2 by omega) (by omega) ⟨by simp, by simp⟩
    rw [cond_true, i64_in (p + 2) (by omega), bindO_some', e3, bindO_some']
    refine ⟨v, q, g, p3, s3, rfl, ⟨?_, by omega, by omega⟩, by omega, by omega⟩
    simp only [List.mem_cons, List.not_mem_nil, or_false] at hv
    omega

theorem expo_ok {code : List Int} {pos seed p q g : Int} (hd : DG p q g) (hb : Bytes code) (h0 : 0 ≤ pos) (h1 : pos ≤ 2 ^ 38) : ∃ v pos' seed', M_S_l1Cur_expo ((code, pos, seed), p, q, g) = some (v, code, pos', seed') ∧ (0 ≤ v ∧ v ≤ 2000000010) ∧ (2 ≤ q → v < q) ∧ pos ≤ pos' ∧ pos' ≤ pos + 4 := by
  obtain ⟨d1, d2, d3⟩ := hd
  unfold M_S_l1Cur_expo
  dsimp only
  by_cases hq : q < 2
  · rw [decide_eq_true hq, cond_true]
    exact ⟨0, pos, seed, rfl, by omega, fun h => by omega, by omega, by omega⟩
  · obtain ⟨v, p1, s1, e1, a1, a2, -, -, b1, b2⟩ := pick_ok (seed := seed) (n := 60000) hb h0 (by omega) (by omega)
    obtain ⟨w, p2, s2, e2, a3, a4, -, -, b3, b4⟩ := pick_ok (seed := s1) (n := 60000) hb (show 0 ≤ p1 by omega) (by omega) (by omega)
    have r1 := Int.emod_nonneg (v * 60000 + w) (show q ≠ 0 by omega)
    have r2 := Int.emod_lt_of_pos (v * 60000 + w) (show 0 < q by omega)
    rw [decide_eq_false hq, cond_false, e1, bindO_some']
    dsimp only
    rw [i64_in (v * 60000) (by omega), bindO_some', e2, bindO_some']
    dsimp only
    rw [i64_in (v * 60000 + w) (by omega), bindO_some', guardO_of (bne_iff_ne.2 (show q ≠ 0 by omega)), bindO_some', tmod_nn (by omega), bindO_some']
    exact ⟨_, p2, s2, rfl, ⟨r1, by omega⟩, fun _ => r2, by omega, by omega⟩

theorem element_ok {code : List Int} {pos seed p q g : Int} (hd : DG p q g) (hb : Bytes code) (h0 : 0 ≤ pos) (h1 : pos ≤ 2 ^ 38) : ∃ v pos' seed', M_S_l1Cur_element ((code, pos, seed), p, q, g) = some (v, code, pos', seed') ∧ (0 ≤ v ∧ v ≤ 2000000010) ∧ pos ≤ pos' ∧ pos' ≤ pos + 4 := by
  have hd' := hd
  obtain ⟨d1, d2, d3⟩ := hd
  unfold M_S_l1Cur_element
  dsimp only
  by_cases hp : p < 3
  · rw [decide_eq_true hp, cond_true]
    exact ⟨1, pos, seed, rfl, by omega, by omega, by omega⟩
  by_cases hq : q < 1
  · rw [decide_eq_false hp, cond_false, decide_eq_true hq, cond_true]
    exact ⟨1, pos, seed, rfl, by omega, by omega, by omega⟩
  obtain ⟨x, p1, s1, e1, a1, -, b1, b2⟩ := expo_ok (seed := seed) hd' hb h0 h1
  have r1 := Int.emod_nonneg g (show p ≠ 0 by omega)
  have r2 := Int.emod_lt_of_pos g (show 0 < p by omega)
  obtain ⟨v, e4, c3, c4⟩ := gExp_any (p := p) (q := q) (g := g) (x := g % p) (e := x) ⟨by omega, by omega⟩ ⟨by omega, by omega⟩ ⟨by omega, by omega⟩
  rw [decide_eq_false hp, cond_false, decide_eq_false hq, cond_false, nMod_eq (by omega) (by omega), bindO_some', e1, bindO_some']
  dsimp only
  rw [e4, bindO_some']
  exact ⟨v, p1, s1, rfl, by omega, by omega, by omega⟩

theorem anyExpo_ok {code : List Int} {pos seed p q g : Int} (hd : DG p q g) (hb : Bytes code) (h0 : 0 ≤ pos) (h1 : pos ≤ 2 ^ 37) : ∃ v pos' seed', M_S_l1Cur_anyExpo ((code, pos, seed), p, q, g) = some (v, code, pos', seed') ∧ pos ≤ pos' ∧ pos' ≤ pos + 6 := by
  have hd' := hd
  obtain ⟨d1, d2, d3⟩ := hd
  obtain ⟨b, p1, s1, e1, a1, a2⟩ := one_ok (seed := seed) (n := 24) hb h0 (by omega) (by omega)
  unfold M_S_l1Cur_anyExpo
  dsimp only
  rw [e1, bindO_some']
  dsimp only
  cases b
  · obtain ⟨x, p2, s2, e2, -, -, b1, b2⟩ := expo_ok (seed := s1) hd' hb (show 0 ≤ p1 by omega) (by omega)
    rw [cond_false, e2, bindO_some']
    exact ⟨x, p2, s2, rfl, by omega, by omega⟩
  · obtain ⟨v, p3, s3, e3, hv, a5, a6⟩ := among_ok (l := [q, -1, q - 1]) (seed := s1) hb (show 0 ≤ p1 by omega) (by omega) ⟨by simp, by simp⟩
    rw [cond_true, i64_in (q - 1) (by omega), bindO_some', e3, bindO_some']
    exact ⟨v, p3, s3, rfl, by omega, by omega⟩

theorem anyElement_ok {code : List Int} {pos seed p q g : Int} (hd : DG p q g) (hb : Bytes code) (h0 : 0 ≤ pos) (h1 : pos ≤ 2 ^ 37) : ∃ v pos' seed', M_S_l1Cur_anyElement ((code, pos, seed), p, q, g) = some (v, code, pos', seed') ∧ pos ≤ pos' ∧ pos' ≤ pos + 6 := by
  have hd' := hd
  obtain ⟨d1, d2, d3⟩ := hd
  obtain ⟨b, p1, s1, e1, a1, a2⟩ := one_ok (seed := seed) (n := 20) hb h0 (by omega) (by omega)
  unfold M_S_l1Cur_anyElement
  dsimp only
  rw [e1, bindO_some']
  dsimp only
  cases b
  · obtain ⟨x, p2, s2, e2, -, b1, b2⟩ := element_ok (seed := s1) hd' hb (show 0 ≤ p1 by omega) (by omega)
    rw [cond_false, e2, bindO_some']
    exact ⟨x, p2, s2, rfl, by omega, by omega⟩
  · obtain ⟨v, p3, s3, e3, hv, a5, a6⟩ := among_ok (l := [0, 1, p - 1, p, -1, 5]) (seed := s1) hb (show 0 ≤ p1 by omega) (by omega) ⟨by simp, by simp⟩
    rw [cond_true, i64_in (p - 1) (by omega), bindO_some', e3, bindO_some']
    exact ⟨v, p3, s3, rfl, by omega, by omega⟩

def Dn {α : Type} (m : Option α) (Q : α → Prop) : Prop := ∃ v, m = some v ∧ Q v

theorem dn_some {α : Type} {v : α} {Q : α → Prop} (h : Q v) : Dn (some v) Q := ⟨v, rfl, h⟩

theorem dn_bind {α β : Type} {m : Option α} {f : α → Option β} {Q : α → Prop} {R : β → Prop} (h : Dn m Q) (k : ∀ v, Q v → Dn (f v) R) : Dn (bindO m f) R := by
  obtain ⟨v, e, hv⟩ := h
  rw [e, bindO_some']
  exact k v hv

theorem dn_is {α β : Type} {m : Option α} {v : α} {f : α → Option β} {R : β → Prop} (h : m = some v) (k : Dn (f v) R) : Dn (bindO m f) R := by
  rw [h, bindO_some']
  exact k

theorem dn_cond {β : Type} {b : Bool} {x y : Option β} {R : β → Prop} (h1 : b = true → Dn x R) (h2 : b = false → Dn y R) : Dn (cond b x y) R := by
  cases b
  · exact h2 rfl
  · exact h1 rfl

theorem dn_yes {β : Type} {b : Bool} {x y : Option β} {R : β → Prop} (h : b = true) (k : Dn x R) : Dn (cond b x y) R := by
  rw [h]
  exact k

theorem dn_no {β : Type} {b : Bool} {x y : Option β} {R : β → Prop} (h : b = false) (k : Dn y R) : Dn (cond b x y) R := by
  rw [h]
  exact k

theorem dn_weak {α : Type} {m : Option α} {Q R : α → Prop} (h : Dn m Q) (k : ∀ v, Q v → R v) : Dn m R := by
  obtain ⟨v, e, hv⟩ := h
  exact ⟨v, e, k v hv⟩

theorem dn_wrap {β : Type} {e : Int} {f : Int → Option β} {R : β → Prop} (h : -1000000000000000000 ≤ e ∧ e ≤ 1000000000000000000) (k : Dn (f e) R) : Dn (bindO (some (IntKind.wrap .i64 e)) f) R := by
  rw [i64_in _ (by omega), bindO_some']
  exact k

theorem dn_len {β : Type} {n : Nat} {f : Unit → Option β} {R : β → Prop} (h : n ≤ 1000000000) (k : Dn (f ()) R) : Dn (bindO (guardO (lenOk n)) f) R := by
  rw [guardO_of (lenOk_of (by omega)), bindO_some']
  exact k

theorem dn_loop {σ β : Type} {body : (σ → Option β) → σ → Option β} {R : β → Prop} (Inv : σ → Prop) (μ : σ → Nat)
    (step : ∀ (again : σ → Option β) s, Inv s → (∀ s', Inv s' → μ s' < μ s → Dn (again s') R) → Dn (body again s) R) {s : σ} (h0 : Inv s) (hm : μ s < 2 ^ 64) : Dn (loopO body s) R :=
  loopO_ind (fun _ y => Dn y R) Inv μ step h0 hm

theorem dn_getI {α β : Type} {l : List α} {i : Int} {f : α → Option β} {R : β → Prop} (h0 : 0 ≤ i) (h1 : i < l.length) (k : ∀ a, l[i.toNat]? = some a → Dn (f a) R) : Dn (bindO (getI l i) f) R := by
  obtain ⟨n, rfl⟩ := Int.eq_ofNat_of_zero_le h0
  have hn : n < l.length := by omega
  have e := List.getElem?_eq_getElem hn
  rw [getI_nat, e, bindO_some']
  exact k _ e

abbrev CurT := List Int × Int × Int

/-- The cursor stands no further than 1000 n. -/
def Cu (n : Nat) (c : CurT) : Prop := Bytes c.1 ∧ 0 ≤ c.2.1 ∧ c.2.1 ≤ 1000 * (n : Int)

theorem cu_up {n m : Nat} {c : CurT} (h : Cu n c) (hm : n ≤ m) : Cu m c := ⟨h.1, h.2.1, by have := h.2.2; omega⟩

theorem cu_start {code : List Int} (h : Bytes code) : Cu 0 (code, 0, 0) := ⟨h, Int.le_refl _, Int.le_refl _⟩

theorem cu_step {n : Nat} {code : List Int} {pos pos' s s' : Int} (h : Cu n (code, pos, s)) (h1 : pos ≤ pos') (h2 : pos' ≤ pos + 1000) : Cu (n + 1) (code, pos', s') := by
  obtain ⟨a, b, c⟩ := h
  dsimp only at b c
  exact ⟨a, by dsimp only; omega, by dsimp only; omega⟩

theorem dn_pick {n : Nat} {c : CurT} {k : Int} (h : Cu n c) (hn : n ≤ 1000000) (hk : k ≤ 2 ^ 40) : Dn (M_S_l1Cur_pick (c, k)) (fun r => (0 ≤ r.1 ∧ r.1 ≤ 65535 ∧ (k ≤ 1 → r.1 = 0) ∧ (1 < k → r.1 < k)) ∧ Cu (n + 1) r.2) := by
  obtain ⟨code, pos, seed⟩ := c
  have h' := h
  obtain ⟨a, b, d⟩ := h
  dsimp only at a b d
  obtain ⟨v, p, s, e, h1, h2, h3, h4, h5, h6⟩ := pick_ok (seed := seed) (n := k) a b (by omega) hk
  exact ⟨_, e, ⟨h1, h2, h3, h4⟩, cu_step h' h5 (by omega)⟩

theorem dn_one {n : Nat} {c : CurT} {k : Int} (h : Cu n c) (hn : n ≤ 1000000) (hk : k ≤ 2 ^ 40) : Dn (M_S_l1Cur_one (c, k)) (fun r => Cu (n + 1) r.2) := by
  obtain ⟨code, pos, seed⟩ := c
  have h' := h
  obtain ⟨a, b, d⟩ := h
  dsimp only at a b d
  obtain ⟨v, p, s, e, h5, h6⟩ := one_ok (seed := seed) (n := k) a b (by omega) hk
  exact ⟨_, e, cu_step h' h5 (by omega)⟩

def DGt (gr : Int × Int × Int) : Prop := DG gr.1 gr.2.1 gr.2.2

theorem dn_anyGroup {n : Nat} {c : CurT} (h : Cu n c) (hn : n ≤ 1000000) : Dn (M_S_l1Cur_anyGroup c) (fun r => DGt r.1 ∧ Cu (n + 1) r.2) := by
  obtain ⟨code, pos, seed⟩ := c
  have h' := h
  obtain ⟨a, b, d⟩ := h
  dsimp only at a b d
  obtain ⟨p, q, g, p', s, e, h1, h5, h6⟩ := anyGroup_ok (seed := seed) a b (by omega)
  exact ⟨_, e, h1, cu_step h' h5 (by omega)⟩

theorem dn_expo {n : Nat} {c : CurT} {gr : Int × Int × Int} (hd : DGt gr) (h : Cu n c) (hn : n ≤ 1000000) : Dn (M_S_l1Cur_expo (c, gr)) (fun r => ((0 ≤ r.1 ∧ r.1 ≤ 2000000010) ∧ (2 ≤ gr.2.1 → r.1 < gr.2.1)) ∧ Cu (n + 1) r.2) := by
  obtain ⟨code, pos, seed⟩ := c
  have h' := h
  obtain ⟨a, b, d⟩ := h
  dsimp only at a b d
  obtain ⟨v, p', s, e, h1, h2, h5, h6⟩ := expo_ok (seed := seed) hd a b (by omega)
  exact ⟨_, e, ⟨h1, h2⟩, cu_step h' h5 (by omega)⟩

theorem dn_element {n : Nat} {c : CurT} {gr : Int × Int × Int} (hd : DGt gr) (h : Cu n c) (hn : n ≤ 1000000) : Dn (M_S_l1Cur_element (c, gr)) (fun r => (0 ≤ r.1 ∧ r.1 ≤ 2000000010) ∧ Cu (n + 1) r.2) := by
  obtain ⟨code, pos, seed⟩ := c
  have h' := h
  obtain ⟨a, b, d⟩ := h
  dsimp only at a b d
  obtain ⟨v, p', s, e, h1, h5, h6⟩ := element_ok (seed := seed) hd a b (by omega)
  exact ⟨_, e, h1, cu_step h' h5 (by omega)⟩

theorem dn_anyExpo {n : Nat} {c : CurT} {gr : Int × Int × Int} (hd : DGt gr) (h : Cu n c) (hn : n ≤ 1000000) : Dn (M_S_l1Cur_anyExpo (c, gr)) (fun r => Cu (n + 1) r.2) := by
  obtain ⟨code, pos, seed⟩ := c
  have h' := h
  obtain ⟨a, b, d⟩ := h
  dsimp only at a b d
  obtain ⟨v, p', s, e, h5, h6⟩ := anyExpo_ok (seed := seed) hd a b (by omega)
  exact ⟨_, e, cu_step h' h5 (by omega)⟩

theorem dn_anyElement {n : Nat} {c : CurT} {gr : Int × Int × Int} (hd : DGt gr) (h : Cu n c) (hn : n ≤ 1000000) : Dn (M_S_l1Cur_anyElement (c, gr)) (fun r => Cu (n + 1) r.2) := by
  obtain ⟨code, pos, seed⟩ := c
  have h' := h
  obtain ⟨a, b, d⟩ := h
  dsimp only at a b d
  obtain ⟨v, p', s, e, h5, h6⟩ := anyElement_ok (seed := seed) hd a b (by omega)
  exact ⟨_, e, cu_step h' h5 (by omega)⟩

theorem dn_of {n : Nat} {c : CurT} {l : List ByteArray} (h : Cu n c) (hn : n ≤ 1000000) (hl : 1 ≤ l.length ∧ l.length ≤ 1000) : Dn (M_S_l1Cur_of (c, l)) (fun r => r.1 ∈ l ∧ Cu (n + 1) r.2) := by
  unfold M_S_l1Cur_of
  dsimp only
  refine dn_bind (dn_pick h hn (by omega)) fun r hr => ?_
  obtain ⟨⟨r1, r2, r3, r4⟩, r5⟩ := hr
  refine dn_getI r1 (by omega) fun a ha => dn_some ⟨List.mem_of_getElem? ha, r5⟩

theorem dn_label {n : Nat} {c : CurT} (h : Cu n c) (hn : n ≤ 900000) : Dn (M_S_l1Cur_label c) (fun r => r.1.size ≤ 41 ∧ Cu (n + 60) r.2) := by
  unfold M_S_l1Cur_label
  refine dn_bind (Q := fun r => r.1.size ≤ 40 ∧ Cu (n + 1) r.2) (dn_weak (dn_of h (by omega) ⟨by simp, by simp⟩) fun r hr => ⟨?_, hr.2⟩) fun r hr => ?_
  · have := hr.1
    simp only [List.mem_cons, List.not_mem_nil, or_false] at this
    rcases this with e | e | e | e | e | e | e <;> rw [e] <;> decide
  refine dn_bind (dn_one hr.2 (by omega) (by decide)) fun b hb => ?_
  refine dn_cond (fun _ => ?_) (fun _ => dn_some ⟨by dsimp only; omega, cu_up hb (by omega)⟩)
  refine dn_loop (fun s => s.1.size ≤ 41 ∧ Cu (n + 3 + s.1.size) s.2) (fun s => 50 - s.1.size) (fun again s hs ih => ?_) ⟨by dsimp only; omega, cu_up hb (by dsimp only; omega)⟩ (by dsimp only; omega)
  obtain ⟨h1, h2⟩ := hs
  refine dn_bind (dn_pick h2 (by omega) (by decide)) fun k hk => ?_
  obtain ⟨⟨k1, k2, k3, k4⟩, k5⟩ := hk
  have k4' := k4 (by decide)
  refine dn_wrap (by omega) (dn_cond (fun hlt => ?_) (fun _ => dn_some ⟨h1, cu_up k5 (by omega)⟩))
  simp only [decide_eq_true_eq] at hlt
  have hx : (bytesOf [120]).size = 1 := by decide
  refine dn_len (by omega) (ih _ ⟨?_, ?_⟩ ?_)
  · rw [ByteArray.size_append, hx]; omega
  · exact cu_up k5 (by rw [ByteArray.size_append, hx]; omega)
  · dsimp only
    rw [ByteArray.size_append, hx]; omega

theorem linP_small {p q g : Int} {s : ByteArray} {rows : List (List Int)} {ss cs : List Int} (hP : ProOK p q rows ss cs) : (linP p q g s rows ss cs).small 8 := by
  have h1 := hP.n8; have h2 := hP.m8; have h3 := hP.sl; have h4 := hP.cl
  refine ⟨?_, ?_, ?_⟩
  · simp only [linP, linI, List.length_map]; omega
  · simp [linP]
  · simp only [linP]
    rw [resp_len (by rw [h4, h3])]; omega

theorem small_nil (n : Nat) : Pf.small ([], [], []) n := ⟨Nat.zero_le _, Nat.zero_le _, Nat.zero_le _⟩

theorem pair_ok {p q g1 g2 x c : Int} (h1 : isEl p q g1 = true) (h2 : isEl p q g2 = true) (hx : 0 ≤ x ∧ x ≤ q - 1) (hc : 0 ≤ c ∧ c ≤ q - 1) : ProOK p q [[g1], [g2]] [x] [c] where
  n1 := by simp
  n8 := by simp
  m1 := by simp
  m8 := by simp
  good := by
    intro r hr
    simp only [List.mem_cons, List.not_mem_nil, or_false] at hr
    rcases hr with rfl | rfl <;> exact ⟨rfl, by simp [*]⟩
  sl := rfl
  cl := rfl
  sx := by simp only [List.all_cons, List.all_nil, decide_eq_true hx, Bool.and_true]
  cx := by simp only [List.all_cons, List.all_nil, decide_eq_true hc, Bool.and_true]

theorem single_ok {p q g1 x c : Int} (h1 : isEl p q g1 = true) (hx : 0 ≤ x ∧ x ≤ q - 1) (hc : 0 ≤ c ∧ c ≤ q - 1) : ProOK p q [[g1]] [x] [c] where
  n1 := by simp
  n8 := by simp
  m1 := by simp
  m8 := by simp
  good := by
    intro r hr
    simp only [List.mem_cons, List.not_mem_nil, or_false] at hr
    rw [hr]
    exact ⟨rfl, by simp [*]⟩
  sl := rfl
  cl := rfl
  sx := by simp only [List.all_cons, List.all_nil, decide_eq_true hx, Bool.and_true]
  cx := by simp only [List.all_cons, List.all_nil, decide_eq_true hc, Bool.and_true]

theorem one_exp {q x : Int} (h : ([x].all fun e => decide (0 ≤ e ∧ e ≤ q - 1)) = true) : 0 ≤ x ∧ x ≤ q - 1 := by
  simpa using h

theorem dn_isTrueEqual {p q g g1 y1 g2 y2 x : Int} : Dn (M_S_IsTrueEqual ((p, q, g), (g1, y1, g2, y2), x)) (fun r => r.2 = true → okG p q g = true ∧ isEl p q g1 = true ∧ isEl p q g2 = true ∧ (0 ≤ x ∧ x ≤ q - 1)) := by
  unfold M_S_IsTrueEqual
  dsimp only
  refine dn_is (l2Good_eq p q g) ?_
  cases hok : okG p q g
  · exact dn_some fun h => by cases h
  have h := okG_spec hok
  unfold M_S_sElements
  dsimp only
  refine dn_no rfl ?_
  rw [gIs_eq h (show [g1, y1, g2, y2].length < 2 ^ 62 by simp), bindO_some']
  refine dn_is rfl ?_
  cases he : [g1, y1, g2, y2].all (isEl p q)
  · exact dn_some fun h => by cases h
  simp only [List.all_cons, List.all_nil, Bool.and_true, Bool.and_eq_true] at he
  obtain ⟨e1, e2, e3, e4⟩ := he
  refine dn_no rfl ?_
  refine dn_is (gExps_eq h (show [x].length < 2 ^ 62 by simp)) ?_
  cases hx : ([x].all fun e => decide (0 ≤ e ∧ e ≤ q - 1))
  · exact dn_some fun h => by cases h
  refine dn_no rfl ?_
  unfold M_S_sTrue
  dsimp only
  rw [gExp_pw h (isEl_in e1).1 (isEl_in e1).2, bindO_some']
  refine dn_bind (Q := fun _ => True) ?_ fun v _ => dn_some fun _ => ⟨rfl, e1, e3, one_exp hx⟩
  refine dn_cond (fun _ => ?_) fun _ => dn_some trivial
  exact dn_is (gExp_pw h (isEl_in e3).1 (isEl_in e3).2) (dn_some trivial)

theorem dn_proveEqual {p q g g1 y1 g2 y2 x c : Int} {s : ByteArray} : Dn (M_S_ProveEqual ((p, q, g), s, (g1, y1, g2, y2), x, c)) (fun r => Pf.small r.1 8) := by
  unfold M_S_ProveEqual
  dsimp only
  refine dn_bind dn_isTrueEqual fun r hr => ?_
  refine dn_cond (fun _ => dn_some (small_nil 8)) fun h2 => ?_
  refine dn_cond (fun _ => dn_some (small_nil 8)) fun _ => ?_
  refine dn_cond (fun _ => dn_some (small_nil 8)) fun hs => ?_
  obtain ⟨hok, e1, e3, hx⟩ := hr (by simpa using h2)
  have h := okG_spec hok
  have hs' : s.size ≤ 40 := by
    have := of_decide_eq_false hs
    omega
  refine dn_is (gExps_eq h (show [c].length < 2 ^ 62 by simp)) ?_
  cases hc : ([c].all fun e => decide (0 ≤ e ∧ e ≤ q - 1))
  · exact dn_some (small_nil 8)
  refine dn_no rfl ?_
  exact dn_is (sProve_eq h hs' (pair_ok e1 e3 hx (one_exp hc))) (dn_some (linP_small (pair_ok e1 e3 hx (one_exp hc))))

theorem dn_sBases {p q g b : Int} (h : Gr p q g) : Dn (M_S_sBases ((p, q, g), [[b]])) (fun r => r = true → isEl p q b = true) := by
  unfold M_S_sBases
  dsimp only
  refine dn_is (in_eq _ _ _) (dn_no rfl (dn_is (v := [b]) rfl (dn_is (in_eq _ _ _) (dn_no rfl ?_))))
  refine dn_loop (fun s => s = 0 ∨ s = 1 ∧ isEl p q b = true) (fun s => 2 - s.toNat) (fun again s hs ih => ?_) (.inl rfl) (by decide)
  rcases hs with rfl | ⟨rfl, hb⟩
  · refine dn_yes rfl (dn_is (v := [b]) rfl (dn_is (v := [b]) rfl (dn_no rfl ?_)))
    refine dn_is (gIs_eq h (show [b].length < 2 ^ 62 by simp)) ?_
    have e : [b].all (isEl p q) = isEl p q b := by simp
    rw [e]
    refine dn_cond (fun _ => dn_some fun h => by cases h) fun hb => ?_
    exact dn_wrap (by omega) (ih (0 + 1) (.inr ⟨rfl, by simpa using hb⟩) (by decide))
  · exact dn_some fun _ => hb

theorem dn_proveKnowledge {p q g b x c : Int} {s : ByteArray} : Dn (M_S_ProveKnowledge ((p, q, g), s, b, x, c)) (fun r => Pf.small r.1 8) := by
  unfold M_S_ProveKnowledge M_S_ProveLinear
  dsimp only
  refine dn_bind (Q := fun r => Pf.small r.1 8) ?_ fun v hv => dn_some hv
  unfold M_S_sLabel
  dsimp only
  rw [l2Good_eq, bindO_some']
  cases hok : okG p q g
  · exact dn_some (small_nil 8)
  have h := okG_spec hok
  refine dn_is rfl (dn_cond (fun _ => dn_some (small_nil 8)) fun hs => ?_)
  have hs' : s.size ≤ 40 := by
    have := hs
    simp only [Bool.not_eq_false', decide_eq_true_eq] at this
    omega
  refine dn_bind (dn_sBases h) fun v hv => dn_cond (fun _ => dn_some (small_nil 8)) fun hv2 => ?_
  have hb := hv (by simpa using hv2)
  refine dn_is (v := [b]) rfl (dn_no rfl (dn_no rfl ?_))
  refine dn_is (gExps_eq h (show [x].length < 2 ^ 62 by simp)) ?_
  cases hx : ([x].all fun e => decide (0 ≤ e ∧ e ≤ q - 1))
  · exact dn_some (small_nil 8)
  refine dn_no rfl ?_
  refine dn_is (gExps_eq h (show [c].length < 2 ^ 62 by simp)) ?_
  cases hc : ([c].all fun e => decide (0 ≤ e ∧ e ≤ q - 1))
  · exact dn_some (small_nil 8)
  refine dn_no rfl ?_
  exact dn_is (sProve_eq h hs' (single_ok hb (one_exp hx) (one_exp hc))) (dn_some (linP_small (single_ok hb (one_exp hx) (one_exp hc))))

theorem dn_spoiltProof {n : Nat} {c : CurT} {gr : Int × Int × Int} {a : Pf} {m : Nat} (hd : DGt gr) (h : Cu n c) (hn : n ≤ 900000) (ha : a.small m) (hm : m ≤ 1000) : Dn (M_S_l1Cur_spoiltProof (c, gr, a)) (fun r => Pf.small r.1 (m + 1) ∧ Cu (n + 3) r.2.1) := by
  obtain ⟨a0, a1, a2⟩ := a
  have ha' := ha
  obtain ⟨b0, b1, b2⟩ := ha
  dsimp only at b0 b1 b2
  have l0 : a0.length ≤ m + 1 := by omega
  have l1 : a1.length ≤ m + 1 := by omega
  have l2 : a2.length ≤ m + 1 := by omega
  unfold M_S_l1Cur_spoiltProof
  dsimp only
  refine dn_is (own_eq (by omega)) (dn_is (own_eq (by omega)) (dn_is (own_eq (by omega)) ?_))
  refine dn_bind (dn_pick h (by omega) (by decide)) fun k hk => ?_
  have k2 := hk.2
  have k3 : Cu (n + 3) k.2 := cu_up k2 (by omega)
  refine dn_cond (fun _ => ?_) fun _ => ?_
  · refine dn_cond (fun hp => ?_) fun _ => dn_some ⟨⟨l0, l1, l2⟩, k3⟩
    have hp' := of_decide_eq_true hp
    refine dn_bind (dn_pick k2 (by omega) (by omega)) fun i hi => ?_
    obtain ⟨⟨i1, -, i2, i3⟩, i4⟩ := hi
    refine dn_bind (dn_anyExpo hd i4 (by omega)) fun e he => ?_
    refine dn_getI i1 (by omega) fun _ _ => dn_is rfl (dn_some ⟨⟨l0, l1, ?_⟩, he⟩)
    rw [List.length_set]; exact l2
  refine dn_cond (fun _ => ?_) fun _ => ?_
  · refine dn_cond (fun hp => ?_) fun _ => dn_some ⟨⟨l0, l1, l2⟩, k3⟩
    have hp' := of_decide_eq_true hp
    refine dn_bind (dn_pick k2 (by omega) (by omega)) fun i hi => ?_
    obtain ⟨⟨i1, -, i2, i3⟩, i4⟩ := hi
    refine dn_bind (dn_anyElement hd i4 (by omega)) fun e he => ?_
    refine dn_getI i1 (by omega) fun _ _ => dn_is rfl (dn_some ⟨⟨?_, l1, l2⟩, he⟩)
    rw [List.length_set]; exact l0
  refine dn_cond (fun _ => ?_) fun _ => ?_
  · refine dn_cond (fun hp => ?_) fun _ => dn_some ⟨⟨l0, l1, l2⟩, k3⟩
    have hp' := of_decide_eq_true hp
    refine dn_bind (dn_pick k2 (by omega) (by omega)) fun i hi => ?_
    obtain ⟨⟨i1, -, i2, i3⟩, i4⟩ := hi
    refine dn_bind (dn_anyExpo hd i4 (by omega)) fun e he => ?_
    refine dn_getI i1 (by omega) fun _ _ => dn_is rfl (dn_some ⟨⟨l0, ?_, l2⟩, he⟩)
    rw [List.length_set]; exact l1
  refine dn_cond (fun _ => ?_) fun _ => ?_
  · refine dn_len (by simp only [List.length_cons, List.length_nil]; omega) (dn_is rfl (dn_some ⟨⟨l0, l1, ?_⟩, k3⟩))
    simp only [List.length_append, List.length_cons, List.length_nil]; omega
  refine dn_cond (fun _ => dn_some ⟨small_nil _, k3⟩) fun _ => dn_some ⟨⟨l0, l1, l2⟩, k3⟩

def EqI (B : Nat) (s : List El × List Pf × Int × CurT) : Prop :=
  s.2.2.1 ≤ 20 ∧ s.1.length + s.2.2.1.toNat ≤ 20 ∧ s.2.1.length + s.2.2.1.toNat ≤ 20 ∧ (∀ a ∈ s.2.1, Pf.small a 9) ∧ Cu (B + 20 * (20 - s.2.2.1.toNat)) s.2.2.2

theorem eqI_next {B k : Nat} {es : List El} {ps : List Pf} {n : Int} {c c' : CurT} {e : El} {a : Pf} (h : EqI B (es, ps, n, c)) (hn : 0 < n) (ha : Pf.small a 9) (hc : Cu k c') (hk : k ≤ B + 20 * (20 - n.toNat) + 20) : EqI B (es ++ [e], ps ++ [a], n - 1, c') := by
  obtain ⟨h1, h2, h3, h4, h5⟩ := h
  dsimp only at h1 h2 h3 h4 h5
  refine ⟨?_, ?_, ?_, ?_, ?_⟩
  · dsimp only; omega
  · simp only [List.length_append, List.length_cons, List.length_nil]; omega
  · simp only [List.length_append, List.length_cons, List.length_nil]; omega
  · intro r hr
    rcases List.mem_append.1 hr with hr | hr
    · exact h4 r hr
    · simp only [List.mem_cons, List.not_mem_nil, or_false] at hr
      rw [hr]; exact ha
  · exact cu_up hc (by dsimp only; omega)

theorem eqI_push {β : Type} {R : β → Prop} {B k : Nat} {es : List El} {ps : List Pf} {n : Int} {c c' : CurT} {e : El} {a : Pf} {again : List El × List Pf × Int × CurT → Option β} (h : EqI B (es, ps, n, c)) (hn : 0 < n) (ha : Pf.small a 9) (hc : Cu k c') (hk : k ≤ B + 20 * (20 - n.toNat) + 20)
    (ih : ∀ s', EqI B s' → s'.2.2.1.toNat < n.toNat → Dn (again s') R) :
    Dn (bindO (guardO (lenOk (es.length + (e :: ([] : List El)).length))) fun _ => bindO (some (es ++ (e :: ([] : List El)))) fun es' => bindO (guardO (lenOk (ps.length + (a :: ([] : List Pf)).length))) fun _ => bindO (some (ps ++ (a :: ([] : List Pf)))) fun ps' =>
      bindO (some (IntKind.wrap .i64 (n - 1))) fun n' => again (es', ps', n', c')) R := by
  have h' := h
  obtain ⟨h1, h2, h3, -, -⟩ := h
  dsimp only at h1 h2 h3
  refine dn_len (by simp only [List.length_cons, List.length_nil]; omega) (dn_is rfl (dn_len (by simp only [List.length_cons, List.length_nil]; omega) (dn_is rfl (dn_wrap (by omega) ?_))))
  exact ih _ (eqI_next h' hn ha hc hk) (by dsimp only; omega)

theorem dn_have {α : Type} {m : Option α} {P : Prop} {R : α → Prop} (h : P) (k : P → Dn m R) : Dn m R := k h

theorem small_up {a : Pf} {m n : Nat} (h : Pf.small a m) (hm : m ≤ n) : Pf.small a n := ⟨Nat.le_trans h.1 hm, Nat.le_trans h.2.1 hm, Nat.le_trans h.2.2 hm⟩

theorem gExp_done {gr : Int × Int × Int} {x e : Int} (hd : DGt gr) (hok : okG gr.1 gr.2.1 gr.2.2 = true) (hx : 0 ≤ x ∧ x ≤ 2000000010) : Dn (M_S_gExp (gr, x, e)) (fun _ => True) := by
  obtain ⟨p, q, g⟩ := gr
  have h := okG_spec hok
  have h1 : 3 ≤ p := h.p3
  have h2 : p ≤ 2000000000 := h.pm
  have h3 : 2 ≤ q := h.q2
  have h4 : q ≤ p - 1 := h.qp
  obtain ⟨v, e1, -, -⟩ := gExp_any (p := p) (q := q) (g := g) (x := x) (e := e) ⟨by omega, by omega⟩ ⟨by omega, by omega⟩ ⟨by omega, by omega⟩
  exact ⟨v, e1, trivial⟩

theorem dn_equals {n : Nat} {c : CurT} {gr : Int × Int × Int} {s : ByteArray} (hd : DGt gr) (hc : Cu n c) (hn : n ≤ 1000) : Dn (M_S_l1Cur_equals (c, gr, s)) (fun r => (r.1.length ≤ 20 ∧ r.2.1.length ≤ 20 ∧ ∀ a ∈ r.2.1, Pf.small a 9) ∧ Cu (n + 500) r.2.2) := by
  obtain ⟨p, q, g⟩ := gr
  unfold M_S_l1Cur_equals
  dsimp only
  refine dn_bind (dn_pick hc (by omega) (by decide)) fun k hk => ?_
  obtain ⟨⟨k1, -, -, k2⟩, k3⟩ := hk
  have k2' := k2 (by decide)
  refine dn_bind (dn_one k3 (by omega) (by decide)) fun b hb => dn_cond (fun _ => ?yes) (fun _ => ?no)
  case' yes =>
    refine dn_bind (dn_pick hb (by omega) (by decide)) fun j hj => ?_
    obtain ⟨⟨j1, -, -, j2⟩, j3⟩ := hj
    have j2' := j2 (by decide)
    refine dn_wrap (by omega) ?_
  all_goals
    refine dn_loop (EqI (n + 3)) (fun s => s.2.2.1.toNat) (fun again s hs ih => ?_) ?_ ?_
    rotate_left
    · exact ⟨by dsimp only; omega, by simp only [List.length_nil]; omega, by simp only [List.length_nil]; omega, by simp, cu_up (by assumption) (by dsimp only; omega)⟩
    · dsimp only; omega
    obtain ⟨es, ps, m, cc⟩ := s
    have hs' := hs
    obtain ⟨h1, h2, h3, h4, h5⟩ := hs
    dsimp only at h1 h2 h3 h4 h5 ih ⊢
    refine dn_cond (fun hm => ?_) (fun _ => dn_some ⟨⟨by dsimp only; omega, by dsimp only; omega, h4⟩, cu_up h5 (by omega)⟩)
    have hm' := of_decide_eq_true hm
    generalize hX : n + 3 + 20 * (20 - m.toNat) = X at h5
    refine dn_bind (dn_expo hd h5 (by omega)) fun x hx => ?_
    refine dn_bind (dn_element hd hx.2 (by omega)) fun g1 hg1 => ?_
    refine dn_bind (dn_element hd hg1.2 (by omega)) fun g2 hg2 => ?_
    refine dn_is (l2Good_eq p q g) ?_
    refine dn_cond (fun hok => dn_bind (gExp_done hd hok hg1.1) fun y1 _ => dn_bind (gExp_done hd hok hg2.1) fun y2 _ => ?_) (fun _ => ?_)
    all_goals
      refine dn_bind (dn_expo hd hg2.2 (by omega)) fun z hz => ?_
      refine dn_bind dn_proveEqual fun pf hpf => ?_
      refine dn_bind (dn_one hz.2 (by omega) (by decide)) fun b1 hb1 => ?_
      refine dn_cond (fun _ => dn_bind (dn_spoiltProof hd hb1 (by omega) hpf (by decide)) fun sp hsp => ?_) (fun _ => dn_have (And.intro (small_up hpf (show 8 ≤ 9 by decide)) (cu_up hb1 (show X + 1 + 1 + 1 + 1 + 1 ≤ X + 1 + 1 + 1 + 1 + 1 + 3 by omega))) fun hsp => ?_)
      all_goals
        refine dn_bind (dn_one hsp.2 (by omega) (by decide)) fun b2 hb2 => ?_
        exact dn_cond (fun _ => dn_bind (dn_anyElement hd hb2 (by omega)) fun w hw => eqI_push hs' hm' hsp.1 hw (by omega) ih) (fun _ => eqI_push hs' hm' hsp.1 hb2 (by omega) ih)

theorem DrawBatchEqual_ok {code : List Int} (hb : Bytes code) : Dn (M_S_DrawBatchEqual code) (fun r => ∀ a ∈ r.2.2.2, Pf.small a 1048576) := by
  unfold M_S_DrawBatchEqual
  refine dn_bind (dn_anyGroup (cu_start hb) (by decide)) fun gr hgr => ?_
  refine dn_bind (dn_label hgr.2 (by decide)) fun s hs => ?_
  refine dn_bind (dn_equals hgr.1 hs.2 (by decide)) fun r hr => ?_
  refine dn_bind (dn_one hr.2 (by decide) (by decide)) fun b hb => ?_
  obtain ⟨⟨r1, r2, r3⟩, -⟩ := hr
  refine dn_cond (fun _ => ?_) (fun _ => dn_some fun a ha => small_up (r3 a ha) (by decide))
  refine dn_len (by simp only [List.length_cons, List.length_nil]; omega) (dn_is rfl (dn_some fun a ha => ?_))
  rcases List.mem_append.1 ha with ha | ha
  · exact small_up (r3 a ha) (by decide)
  · simp only [List.mem_cons, List.not_mem_nil, or_false] at ha
    rw [ha]; exact small_nil _

def KnI (B : Nat) (s : List Int × List Pf × Int × CurT) : Prop :=
  s.2.2.1 ≤ 30 ∧ s.1.length + s.2.2.1.toNat ≤ 30 ∧ s.2.1.length + s.2.2.1.toNat ≤ 30 ∧ (∀ a ∈ s.2.1, Pf.small a 9) ∧ Cu (B + 20 * (30 - s.2.2.1.toNat)) s.2.2.2

theorem knI_next {B k : Nat} {es : List Int} {ps : List Pf} {n : Int} {c c' : CurT} {e : Int} {a : Pf} (h : KnI B (es, ps, n, c)) (hn : 0 < n) (ha : Pf.small a 9) (hc : Cu k c') (hk : k ≤ B + 20 * (30 - n.toNat) + 20) : KnI B (es ++ [e], ps ++ [a], n - 1, c') := by
  obtain ⟨h1, h2, h3, h4, h5⟩ := h
  dsimp only at h1 h2 h3 h4 h5
  refine ⟨?_, ?_, ?_, ?_, ?_⟩
  · dsimp only; omega
  · simp only [List.length_append, List.length_cons, List.length_nil]; omega
  · simp only [List.length_append, List.length_cons, List.length_nil]; omega
  · intro r hr
    rcases List.mem_append.1 hr with hr | hr
    · exact h4 r hr
    · simp only [List.mem_cons, List.not_mem_nil, or_false] at hr
      rw [hr]; exact ha
  · exact cu_up hc (by dsimp only; omega)

theorem knI_push {β : Type} {R : β → Prop} {B k : Nat} {es : List Int} {ps : List Pf} {n : Int} {c c' : CurT} {e : Int} {a : Pf} {again : List Int × List Pf × Int × CurT → Option β} (h : KnI B (es, ps, n, c)) (hn : 0 < n) (ha : Pf.small a 9) (hc : Cu k c') (hk : k ≤ B + 20 * (30 - n.toNat) + 20)
    (ih : ∀ s', KnI B s' → s'.2.2.1.toNat < n.toNat → Dn (again s') R) :
    Dn (bindO (guardO (lenOk (ps.length + (a :: ([] : List Pf)).length))) fun _ => bindO (some (ps ++ (a :: ([] : List Pf)))) fun ps' =>
      bindO (some (IntKind.wrap .i64 (n - 1))) fun n' => again (es ++ [e], ps', n', c')) R := by
  have h' := h
  obtain ⟨h1, h2, h3, -, -⟩ := h
  dsimp only at h1 h2 h3
  refine dn_len (by simp only [List.length_cons, List.length_nil]; omega) (dn_is rfl (dn_wrap (by omega) ?_))
  exact ih _ (knI_next h' hn ha hc hk) (by dsimp only; omega)

theorem nPower_done {p q g b x : Int} (hd : DG p q g) (hp : p > 1) (hx : (0 ≤ x ∧ x ≤ 2000000010)) : Dn (bindO (M_S_nMod (b, p)) fun a => M_S_nPower (a, x, p)) (fun _ => True) := by
  obtain ⟨d1, d2, d3⟩ := hd
  have h1 := Int.emod_nonneg b (show p ≠ 0 by omega)
  have h2 := Int.emod_lt_of_pos b (show 0 < p by omega)
  rw [nMod_eq (by omega) (by omega), bindO_some', nPower_eq (by omega) (by omega) (by omega) (by omega) (by omega) (by omega)]
  exact dn_some trivial

theorem dn_bind2 {α β γ : Type} {m : Option α} {f : α → Option β} {h : β → Option γ} {R : γ → Prop} (e : Dn (bindO m f) (fun _ => True)) (k : ∀ v, Dn (h v) R) : Dn (bindO m fun a => bindO (f a) h) R := by
  cases m with
  | none => obtain ⟨v, e, -⟩ := e; cases e
  | some a =>
    rw [bindO_some'] at e ⊢
    exact dn_bind e fun v _ => k v

theorem DrawBatchKnowledge_ok {code : List Int} (hb : Bytes code) : Dn (M_S_DrawBatchKnowledge code) (fun r => r.2.2.2.1.length ≤ 30 ∧ ∀ a ∈ r.2.2.2.2, Pf.small a 1048576) := by
  unfold M_S_DrawBatchKnowledge
  refine dn_bind (dn_anyGroup (cu_start hb) (by decide)) fun gr hgr => ?_
  obtain ⟨⟨p, q, g⟩, c0'⟩ := gr
  obtain ⟨hd, hc0⟩ := hgr
  dsimp only at hd hc0 ⊢
  refine dn_bind (dn_label hc0 (by decide)) fun s hs => ?_
  refine dn_bind (dn_element hd hs.2 (by decide)) fun base hbase => ?_
  refine dn_bind (dn_pick hbase.2 (by decide) (by decide)) fun k hk => ?_
  obtain ⟨⟨k1, -, -, k2⟩, k3⟩ := hk
  have k2' := k2 (by decide)
  refine dn_bind (dn_one k3 (by omega) (by decide)) fun b hb => dn_cond (fun _ => ?yes) (fun _ => ?no)
  case' yes =>
    refine dn_bind (dn_pick hb (by omega) (by decide)) fun j hj => ?_
    obtain ⟨⟨j1, -, -, j2⟩, j3⟩ := hj
    have j2' := j2 (by decide)
    refine dn_wrap (by omega) ?_
  all_goals
    refine dn_loop (KnI 100) (fun s => s.2.2.1.toNat) (fun again s hs ih => ?_) ?_ ?_
    rotate_left
    · exact ⟨by dsimp only; omega, by simp only [List.length_nil]; omega, by simp only [List.length_nil]; omega, by simp, cu_up (by assumption) (by dsimp only; omega)⟩
    · dsimp only; omega
    obtain ⟨es, ps, m, cc⟩ := s
    have hs' := hs
    obtain ⟨h1, h2, h3, h4, h5⟩ := hs
    dsimp only at h1 h2 h3 h4 h5 ih ⊢
    generalize hX : 100 + 20 * (30 - m.toNat) = X at h5
    refine dn_cond (fun hm => ?_) (fun _ => dn_bind (dn_one h5 (by omega) (by decide)) fun b2 hb2 => dn_cond (fun _ => dn_bind (dn_anyElement hd hb2 (by omega)) fun w hw => dn_some ⟨by dsimp only; omega, fun a ha => small_up (h4 a ha) (by decide)⟩) (fun _ => dn_some ⟨by dsimp only; omega, fun a ha => small_up (h4 a ha) (by decide)⟩))
    have hm' := of_decide_eq_true hm
    refine dn_bind (dn_expo hd h5 (by omega)) fun x hx => ?_
    refine dn_bind (dn_expo hd hx.2 (by omega)) fun z hz => ?_
    refine dn_bind dn_proveKnowledge fun pf hpf => ?_
    refine dn_cond (fun hp => dn_bind2 (nPower_done hd (of_decide_eq_true hp) hx.1.1) fun y => ?_) (fun _ => ?_)
    all_goals
      refine dn_len (by simp only [List.length_cons, List.length_nil]; omega) (dn_is rfl ?_)
      refine dn_bind (dn_one hz.2 (by omega) (by decide)) fun b1 hb1 => ?_
      exact dn_cond (fun _ => dn_bind (dn_spoiltProof hd hb1 (by omega) hpf (by decide)) fun sp hsp => knI_push hs' hm' hsp.1 hsp.2 (by omega) ih) (fun _ => knI_push hs' hm' (small_up hpf (by decide)) hb1 (by omega) ih)

theorem gpf_one {p q g x e : Int} (h : Gr p q g) : gpf p q [x] [e] = pw p q x e := by
  have h3 := h.p3
  have r := pw_range (q := q) (x := x) (e := e) (show 1 ≤ p by omega)
  simp only [gpf, List.zip_cons_cons, List.zip_nil_right, List.foldl_cons, List.foldl_nil]
  rw [Int.one_mul, Int.emod_eq_of_lt r.1 r.2]

theorem over_self {p q g a : Int} (h : Gr p q g) (ha : isEl p q a = true) : over p q a a = 1 := by
  have h3 := h.p3
  have r := isEl_range ha
  have e := over_mul (y := 1) h ha ⟨by omega, by omega⟩
  rw [mul_out (by omega), Int.mul_one, Int.emod_eq_of_lt (by omega) (by omega)] at e
  exact e

def eqB (p q g : Int) (s : ByteArray) (e : El) (a : Pf) : Bool := linB p q g s [[e.1], [e.2.2.1]] [e.2.1, e.2.2.2] a

theorem lin_parts {p q g : Int} {s : ByteArray} {e : El} {a : Pf} (h : Gr p q g) (he : isEq p q e = true) (hb : eqB p q g s e a = true) : formE p q g s e a = true ∧ ratio p q e.1 (a.2.2.getD 0 0) (a.1.getD 0 0) e.2.1 (a.2.1.getD 0 0) = 1 ∧ ratio p q e.2.2.1 (a.2.2.getD 0 0) (a.1.getD 1 0) e.2.2.2 (a.2.1.getD 0 0) = 1 := by
  obtain ⟨i1, i2, i3, i4⟩ := isEq_spec he
  simp only [eqB, linB, Bool.and_eq_true, beq_iff_eq] at hb
  obtain ⟨f1, f2, f3, f4, f5, f6, f7⟩ := hb
  have f1' : a.1.length = 2 := f1
  have f3' : a.2.2.length = 1 := f3
  have hz := one_list f3'
  have z1 := all_exp f5 (getD_at (d := (0 : Int)) (show 0 < a.2.2.length by omega))
  have e0 := List.all_eq_true.1 f7 0 (by simp)
  have e1 := List.all_eq_true.1 f7 1 (by simp)
  rw [hz, ← f6] at e0 e1
  simp only [List.getD_cons_zero, List.getD_cons_succ, gpf_one h, beq_iff_eq] at e0 e1
  refine ⟨?_, ?_, ?_⟩
  · have hf : [e.1, e.2.2.1] ++ ([e.2.1, e.2.2.2] ++ a.1) = [[e.1], [e.2.2.1]].flatten ++ ([e.2.1, e.2.2.2] ++ a.1) := rfl
    simp only [formE, formB, Bool.and_eq_true, beq_iff_eq, decide_eq_true_eq]
    exact ⟨f1', f2, f3', f4, z1, f6⟩
  · unfold ratio
    rw [← e0]
    exact over_self h (isEl_pw h i1)
  · unfold ratio
    rw [← e1]
    exact over_self h (isEl_pw h i3)

theorem iter_one {f : Nat → Int → Int} : ∀ {n : Nat}, (∀ i, i < n → f i 1 = 1) → iterN f 1 n = 1
  | 0, _ => rfl
  | n + 1, h => by
    rw [iterN, iter_one fun i hi => h i (by omega), h n (by omega)]

theorem pw_of_one {p q g e : Int} (h : Gr p q g) : pw p q 1 e = 1 := by
  have h3 := h.p3
  unfold pw
  rw [Int.one_pow, Int.emod_eq_of_lt (by omega) (by omega)]

theorem lin_be {p q g : Int} {s : ByteArray} {es : List El} {l : List Pf} (h : Gr p q g) (he : ∀ e ∈ es, isEq p q e = true) (hl : l.length = es.length) (hall : ∀ i, i < l.length → eqB p q g s (es.getD i e0) (l.getD i ([], [], [])) = true) : beB p q g s es l = true := by
  have h3 := h.p3
  have hp : ∀ i, i < l.length → _ := fun i hi => lin_parts h (he _ (List.mem_of_getElem? (getD_at (d := e0) (show i < es.length by omega)))) (hall i hi)
  unfold beB
  rw [Bool.and_eq_true, List.all_eq_true, beq_iff_eq]
  refine ⟨fun i hi => (hp i (List.mem_range.1 hi)).1, iter_one fun i hi => ?_⟩
  obtain ⟨-, r1, r2⟩ := hp i hi
  have ha := List.getElem?_eq_getElem hi
  unfold beMul
  rw [getD_is (zsOf_get ha), getD_is (esOf_get ha)]
  rw [getD_is ha] at r1 r2 ⊢
  rw [r1, r2, pw_of_one h, pw_of_one h]
  simp only [prodM]
  rw [Int.one_mul, Int.emod_eq_of_lt (show (0 : Int) ≤ 1 by omega) (by omega), Int.one_mul, Int.emod_eq_of_lt (show (0 : Int) ≤ 1 by omega) (by omega), Int.one_mul, Int.emod_eq_of_lt (show (0 : Int) ≤ 1 by omega) (by omega)]

theorem fb_mem (B : Nat → Nat → Bool) : ∀ (n lo hi : Nat), lo < hi → ∀ x ∈ (fb B n lo hi).1, ∃ k : Nat, x = (k : Int) ∧ lo ≤ k ∧ k < hi ∧ B k (k + 1) = false
  | 0, lo, hi, _, x, hx => by simp [fb] at hx
  | n + 1, lo, hi, h1, x, hx => by
    unfold fb at hx
    cases hB : B lo hi
    · rw [hB] at hx
      cases h3 : hi - lo == 1
      · have h3' : hi - lo ≠ 1 := by simpa using h3
        rw [h3] at hx
        simp only [cond_false] at hx
        rcases List.mem_append.1 hx with hx | hx
        · obtain ⟨k, e, a, b, c⟩ := fb_mem B n lo (lo + (hi - lo + 1) / 2) (by omega) x hx
          exact ⟨k, e, a, by omega, c⟩
        · obtain ⟨k, e, a, b, c⟩ := fb_mem B n (lo + (hi - lo + 1) / 2) hi (by omega) x hx
          exact ⟨k, e, by omega, b, c⟩
      · have h3' : hi - lo = 1 := by simpa using h3
        rw [h3] at hx
        simp only [cond_false, cond_true, List.mem_cons, List.not_mem_nil, or_false] at hx
        exact ⟨lo, hx, Nat.le_refl _, h1, by rw [show lo + 1 = hi by omega]; exact hB⟩
    · rw [hB] at hx
      simp at hx

theorem cut_one {α : Type} {l : List α} {k : Nat} {a : α} (h : l[k]? = some a) : (l.take (k + 1)).drop k = [a] := by
  have hk : k < l.length := by
    rcases Nat.lt_or_ge k l.length with h1 | h1
    · exact h1
    · rw [List.getElem?_eq_none h1] at h; cases h
  rw [List.take_add_one, h, List.drop_append_of_le_length (by rw [List.length_take]; omega), List.drop_eq_nil_of_le (by rw [List.length_take]; omega)]
  rfl

theorem bad_one {p q g : Int} {s : ByteArray} {es : List El} {l : List Pf} {k : Nat} {e : El} {a : Pf} (h : Gr p q g) (he : ∀ e ∈ es, isEq p q e = true) (h1 : es[k]? = some e) (h2 : l[k]? = some a) (hB : cutB p q g s es l k (k + 1) = false) : eqB p q g s e a = false := by
  unfold cutB at hB
  rw [cut_one h1, cut_one h2] at hB
  cases hq : eqB p q g s e a
  · rfl
  · rw [lin_be h (es := [e]) (l := [a]) (fun x hx => ?_) rfl (fun i hi => ?_)] at hB
    · cases hB
    · simp only [List.mem_cons, List.not_mem_nil, or_false] at hx
      rw [hx]
      exact he e (List.mem_of_getElem? h1)
    · obtain rfl : i = 0 := by simpa using hi
      exact hq

theorem S_VerifyEqual_eq {p q g : Int} {s : ByteArray} {e : El} {pf : Pf} (hok : okG p q g = true) (hs : s.size ≤ 40) (he : isEq p q e = true) (hp : Pf.small pf 1048576) : M_S_VerifyEqual ((p, q, g), s, e, pf) = some (eqB p q g s e pf, true) := by
  have h := okG_spec hok
  obtain ⟨i1, i2, i3, i4⟩ := isEq_spec he
  unfold M_S_VerifyEqual M_S_sLabel M_S_sElements
  dsimp only
  rw [l2Good_eq, bindO_some', hok, cond_true, bindO_some', decide_eq_true (show ((s.size : Nat) : Int) ≤ 40 by omega)]
  refine no_to rfl ?_
  rw [gIs_eq h (show [e.1, e.2.1, e.2.2.1, e.2.2.2].length < 2 ^ 62 by simp), bindO_some', bindO_some']
  refine no_to (by rw [show [e.1, e.2.1, e.2.2.1, e.2.2.2].all (isEl p q) = true from he]; rfl) ?_
  exact bind_to (sVerifyEq_eq h hs (eqRows_ok i1 i2 i3 i4) hp) rfl

theorem I_VerifyEqual_eq {p q g : Int} {s : ByteArray} {e : El} {pf : Pf} (hok : okG p q g = true) (hs : s.size ≤ 40) (he : isEq p q e = true) (hp : Pf.small pf 1048576) : M_I_VerifyEqual ((p, q, g), s, e, pf) = some (eqB p q g s e pf, true) := by
  obtain ⟨i1, i2, i3, i4⟩ := isEq_spec he
  exact VerifyEqual_eq hok hs (eqRows_ok i1 i2 i3 i4) hp

theorem batches_rest {more : List Int} (hb : Bytes more) : (bindO (M_S_DrawBatchKnowledge more) (fun a22 => bindO (M_I_BatchKnowledge ((a22.1.1, (a22.1.2.1, a22.1.2.2)), (a22.2.1, (a22.2.2.1, (a22.2.2.2.1, a22.2.2.2.2))))) (fun a23 => bindO (M_S_BatchKnowledge ((a22.1.1, (a22.1.2.1, a22.1.2.2)), (a22.2.1, (a22.2.2.1, (a22.2.2.2.1, a22.2.2.2.2))))) (fun a24 => cond (a23.2 == a24.2) (some (a23.1 == a24.1)) (some false))))) = some true := by
  obtain ⟨⟨⟨p, q, g⟩, s, base, ys, l⟩, e, h1, h2⟩ := DrawBatchKnowledge_ok hb
  dsimp only at h1 h2
  have hS := S_BatchKnowledge_eq (p := p) (q := q) (g := g) (s := s) (base := base) (ys := ys) (l := l) (by omega) h2
  have hI := I_BatchKnowledge_eq (p := p) (q := q) (g := g) (s := s) (base := base) (ys := ys) (l := l) (by omega) h2
  refine bind_to e ?_
  refine bind_to hI ?_
  refine bind_to hS ?_
  rw [BEq.rfl, BEq.rfl]
  rfl

theorem batches_bad {p q g : Int} {s : ByteArray} {es : List El} {l : List Pf} {R : Option Bool} (hr : ∀ r ∈ l, Pf.small r 1048576) (hst : stB p q g s es l.length = true) (hR : R = some true) :
    (bindO (M_I_FindBadEqual ((p, q, g), s, es, l)) fun a12 => bindO (M_S_FindBadEqual ((p, q, g), s, es, l)) fun a13 => cond (not (a12.2.2 == a13.2.2)) (some false) (cond (a12.2.1 != a13.2.1) (some false) (bindO (M_L_sameInts (a12.1, a13.1)) fun a14 => cond (not a14) (some false)
      (loopO (fun (again15 : Int → Option Bool) (s16 : Int) => cond (decide (s16 < ((a13.1.length : Nat) : Int))) (bindO (getI a13.1 s16) fun (a17 : Int) => bindO (getI es a17) fun a18 => bindO (getI l a17) fun a19 => bindO (M_I_VerifyEqual ((p, q, g), s, (a18.1, a18.2.1, a18.2.2.1, a18.2.2.2), a19.1, a19.2.1, a19.2.2)) fun a20 =>
        cond (not a20.2) (some false) (cond a20.1 (some false) (bindO (some (IntKind.wrap .i64 (s16 + (1 : Int)))) fun (a21 : Int) => again15 a21))) R) (0 : Int))))) = some true := by
  obtain ⟨h1, h2, h3, h4, h5⟩ := stB_spec hst
  have h := okG_spec h1
  have hsz := findBad_small p q g s es l (by omega)
  have hmem : ∀ x ∈ (findBad p q g s es l).1, ∃ k : Nat, x = (k : Int) ∧ k < l.length ∧ cutB p q g s es l k (k + 1) = false := by
    intro x hx
    unfold findBad at hx
    rw [hst, cond_true] at hx
    cases h0 : l.length == 0
    · rw [h0] at hx
      have h0' : l.length ≠ 0 := by simpa using h0
      obtain ⟨k, e, a, b, c⟩ := fb_mem _ _ _ _ (by omega) x hx
      exact ⟨k, e, b, c⟩
    · rw [h0] at hx
      simp at hx
  refine bind_to (I_FindBadEqual_eq hr) ?_
  refine bind_to (S_FindBadEqual_eq hr) ?_
  generalize findBad p q g s es l = o at hsz hmem
  refine no_to (by rw [BEq.rfl]; rfl) ?_
  refine no_to (by simp) ?_
  refine bind_to (sameInts_eq (a := o.1) (by omega)) ?_
  refine no_to rfl ?_
  refine loopO_to (fun i => (i : Int)) o.1.length _ (by omega) (fun again => ?_) (fun again i hi ih => ?_)
  · exact no_to (by simp) hR
  have ha := List.getElem?_eq_getElem hi
  obtain ⟨k, e, hk, hB⟩ := hmem _ (List.getElem_mem hi)
  rw [e] at ha
  have hke := List.getElem?_eq_getElem (show k < es.length by omega)
  have hkl := List.getElem?_eq_getElem hk
  have hbad := bad_one h h5 hke hkl hB
  refine yes_to (by simpa using hi) ?_
  refine bind_to ((getI_nat _ _).trans ha) ?_
  refine bind_to ((getI_nat _ _).trans hke) ?_
  refine bind_to ((getI_nat _ _).trans hkl) ?_
  refine bind_to (I_VerifyEqual_eq h1 h2 (h5 _ (List.getElem_mem (show k < es.length by omega))) (hr _ (List.getElem_mem hk))) ?_
  refine no_to rfl ?_
  refine no_to hbad ?_
  refine bind_to (congrArg some (i64_in _ (by omega))) ?_
  exact ih

theorem law_FnBatches (x : List Int × List Int) (h : WFI [.data (.sl (.int .u8)), .data (.sl (.int .u8))] x) : M_L_FnBatches x = some true := by
  obtain ⟨code, more⟩ := x
  have hb1 : Bytes code := wf_u8 h.1
  have hb2 : Bytes more := wf_u8 h.2
  obtain ⟨gg, hg⟩ := big_some code more
  obtain ⟨⟨⟨p, q, g⟩, s, es, l⟩, e, hr⟩ := DrawBatchEqual_ok hb1
  dsimp only at hr
  have hI := I_BatchEqual_eq (p := p) (q := q) (g := g) (s := s) (es := es) (l := l) hr
  have hS := S_BatchEqual_eq (p := p) (q := q) (g := g) (s := s) (es := es) (l := l) hr
  have hrest := batches_rest hb2
  unfold M_L_FnBatches
  dsimp only
  refine bind_to hg ?_
  cases gg
  rotate_left
  · rfl
  refine no_to rfl ?_
  refine bind_to e ?_
  refine bind_to hI ?_
  refine bind_to hS ?_
  refine no_to (by rw [BEq.rfl]; rfl) ?_
  refine no_to (by rw [BEq.rfl]; rfl) ?_
  unfold bEqual
  cases hst : stB p q g s es l.length
  · exact no_to rfl hrest
  obtain ⟨h1, h2, h3, h4, h5⟩ := stB_spec hst
  have hG := okG_spec h1
  refine yes_to rfl ?_
  have hbad := fun (R : Option Bool) (hR : R = some true) => batches_bad hr hst hR
  refine loopO_ind (fun _ y => y = some true) (fun (st : Bool × Int) => ∃ i : Nat, st.2 = (i : Int) ∧ i ≤ es.length ∧ (st.1 = true → ∀ j, j < i → eqB p q g s (es.getD j e0) (l.getD j ([], [], [])) = true)) (fun st => es.length - st.2.toNat) (fun again st hs ih => ?_) ⟨0, rfl, Nat.zero_le _, fun _ j hj => absurd hj (Nat.not_lt_zero _)⟩ (by dsimp only; omega)
  obtain ⟨all, ii⟩ := st
  obtain ⟨i, e1, e2, e3⟩ := hs
  dsimp only at e1 e3 ih ⊢
  subst e1
  rcases Nat.lt_or_ge i es.length with hi | hi
  · have hke := getD_at (d := e0) hi
    have hkl := getD_at (d := (([], [], []) : Pf)) (show i < l.length by omega)
    refine yes_to (by simpa using hi) ?_
    refine bind_to ((getI_nat _ _).trans hke) ?_
    refine bind_to ((getI_nat _ _).trans hkl) ?_
    refine bind_to (S_VerifyEqual_eq h1 h2 (h5 _ (List.mem_of_getElem? hke)) (hr _ (List.mem_of_getElem? hkl))) ?_
    cases all
    · refine no_to rfl ?_
      refine bind_to (congrArg some (i64_in _ (by omega))) ?_
      exact ih _ ⟨i + 1, by dsimp only; omega, by omega, fun hh => by cases hh⟩ (by dsimp only; omega)
    · refine yes_to rfl ?_
      refine yes_to rfl ?_
      refine bind_to (congrArg some (i64_in _ (by omega))) ?_
      refine ih _ ⟨i + 1, by dsimp only; omega, by omega, fun hh j hj => ?_⟩ (by dsimp only; omega)
      rcases Nat.lt_or_ge j i with hj2 | hj2
      · exact e3 rfl j hj2
      · obtain rfl : j = i := by omega
        exact hh
  · refine no_to (by simpa using hi) ?_
    cases all
    · exact no_to rfl (hbad _ hrest)
    · refine yes_to rfl ?_
      have hbe : beB p q g s es l = true := lin_be hG h5 h4 fun j hj => e3 rfl j (by omega)
      refine no_to (by rw [cond_true]; dsimp only; rw [hbe]; rfl) ?_
      exact hbad _ hrest

end Go.Proofs.YtoaabialmenfiaaGreat.Vd
