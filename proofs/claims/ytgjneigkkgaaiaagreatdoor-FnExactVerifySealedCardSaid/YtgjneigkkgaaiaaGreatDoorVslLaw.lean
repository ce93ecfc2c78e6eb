/- The law FnExactVerifySealed as plain functions on data returns true for all arguments. No conditions. -/
import Derived.Test.YtgjneigkkgaaiaaGreatDoorVslMod
set_option linter.unusedVariables false
set_option linter.unusedSimpArgs false
set_option linter.unusedSectionVars false
set_option linter.unnecessarySimpa false
namespace Go.Proofs.YtgjneigkkgaaiaaGreatDoor.Vd
open Go.IntWalk

theorem i64_succ {i : Nat} (h : i < 2 ^ 62) : IntKind.wrap .i64 ((i : Int) + 1) = ((i + 1 : Nat) : Int) := by
  rw [i64_in _ (by omega)]
  rfl

theorem lt_yes {i n : Nat} (h : i < n) : decide ((i : Int) < (n : Int)) = true := by simp [h]

theorem lt_no (n : Nat) : decide ((n : Int) < (n : Int)) = false := by simp

/-- A walk over a list by its numbers, with no other state. -/
def walk {α β : Type} (step : Nat → α → Option β → Option β) (fin : Option β) : Nat → List α → Option β
  | _, [] => fin
  | i, a :: r => step i a (walk step fin (i + 1) r)

theorem loop_walk {α β : Type} {body : (Int → Option β) → Int → Option β} (l : List α) (step : Nat → α → Option β → Option β) (fin : Option β)
    (h : ∀ (again : Int → Option β) (i : Nat) a, l[i]? = some a → i < l.length → body again (i : Int) = step i a (again ((i + 1 : Nat) : Int)))
    (hend : ∀ again : Int → Option β, body again (l.length : Int) = fin) (hl : l.length < 2 ^ 64) : loopO body 0 = walk step fin 0 l := by
  refine (loopO_for (σ := Unit) (fun i _ => (i : Int)) l.length (fun i _ => walk step fin i (l.drop i)) (fun _ _ => True) (fun again _ _ => ?_) (fun again i _ hi _ ih => ?_) hl (i := 0) (s := ()) (Nat.zero_le _) trivial).trans rfl
  · simp [hend, walk]
  · rw [h again i l[i] (List.getElem?_eq_getElem hi) hi, ih () trivial, List.drop_eq_getElem_cons hi, walk]

/-- A walk over a list by its numbers, with a state (before the number). -/
def walkS {α β σ : Type} (step : Nat → α → σ → (σ → Option β) → Option β) (fin : σ → Option β) : Nat → List α → σ → Option β
  | _, [], s => fin s
  | i, a :: r, s => step i a s (walkS step fin (i + 1) r)

/-- The same, where the states keep something. -/
theorem loop_walkI {α β σ τ : Type} {body : (τ → Option β) → τ → Option β} (enc : Int → σ → τ) (l : List α) (step : Nat → α → σ → (σ → Option β) → Option β) (fin : σ → Option β) (Inv : Nat → σ → Prop)
    (hc : ∀ (i : Nat) a s (k k' : σ → Option β), l[i]? = some a → Inv i s → (∀ s', Inv (i + 1) s' → k s' = k' s') → step i a s k = step i a s k')
    (h : ∀ (again : τ → Option β) (i : Nat) a s, l[i]? = some a → i < l.length → Inv i s → body again (enc i s) = step i a s fun s' => again (enc ((i + 1 : Nat) : Int) s'))
    (hend : ∀ (again : τ → Option β) s, Inv l.length s → body again (enc l.length s) = fin s) (hl : l.length < 2 ^ 64) (s : σ) (h0 : Inv 0 s) : loopO body (enc 0 s) = walkS step fin 0 l s := by
  refine (loopO_for (σ := σ) (fun i s => enc (i : Int) s) l.length (fun i s => walkS step fin i (l.drop i) s) Inv (fun again s hs => ?_) (fun again i s hi hs ih => ?_) hl (i := 0) (s := s) (Nat.zero_le _) h0).trans rfl
  · simp [hend _ _ hs, walkS]
  · rw [h again i l[i] s (List.getElem?_eq_getElem hi) hi hs, List.drop_eq_getElem_cons hi, walkS]
    exact hc i l[i] s _ _ (List.getElem?_eq_getElem hi) hs fun s' hs' => ih s' hs'

theorem walk_all {α : Type} (p : α → Bool) : ∀ (l : List α) (i : Nat), walk (fun _ a k => if p a = true then k else some false) (some true) i l = some (l.all p)
  | [], _ => rfl
  | a :: l, i => by
    rw [walk, walk_all p l]
    cases h : p a <;> simp [h]

theorem toIntS_eq {x : List Int} (h : x.length ≤ 1048576) : M_L_toIntS x = some x := by
  unfold M_L_toIntS
  have hx : (x.length : Int) ≤ ((lim : Nat) : Int) := by rw [lim_eq]; omega
  rw [guardO_of (by simpa using hx), bindO_some']
  refine (loopO_for (σ := List Int) (fun i s => ((i : Int), s)) x.length (fun i s => some (x.take i ++ x.drop i)) (fun i s => s = x.take i ++ List.replicate (x.length - i) 0) (fun again s hs => ?_) (fun again i s hi hs ih => ?_) (by omega) (i := 0) (s := List.replicate x.length 0) (Nat.zero_le _) (by simp)).trans (by simp)
  · subst hs; simp
  · subst hs
    have h1 : (x.take i ++ List.replicate (x.length - i) (0 : Int))[i]? = some 0 := by
      rw [List.getElem?_append_right (by simp; omega)]
      simp [List.getElem?_replicate]
      omega
    have h2 : (x.take i ++ List.replicate (x.length - i) (0 : Int)).set i x[i] = x.take (i + 1) ++ List.replicate (x.length - (i + 1)) 0 := by
      refine List.ext_getElem? fun j => ?_
      rw [List.getElem?_set]
      by_cases hij : i = j
      · subst hij
        rw [if_pos rfl, if_pos (by simp; omega), List.getElem?_append_left (by simp; omega), List.getElem?_take, if_pos (by omega), List.getElem?_eq_getElem hi]
      · rw [if_neg hij]
        by_cases hj : j < i
        · rw [List.getElem?_append_left (by simp; omega), List.getElem?_append_left (by simp; omega), List.getElem?_take, List.getElem?_take, if_pos hj, if_pos (by omega)]
        · rw [List.getElem?_append_right (by simp; omega), List.getElem?_append_right (by simp; omega)]
          simp only [List.length_take, List.getElem?_replicate]
          rw [Nat.min_eq_left (by omega), Nat.min_eq_left (by omega)]
          by_cases hjx : j < x.length
          · rw [if_pos (by omega), if_pos (by omega)]
          · rw [if_neg (by omega), if_neg (by omega)]
    simp only [getI_nat, List.getElem?_eq_getElem hi, h1, bindO_some', Int.toNat_natCast, h2, i64_succ (show i < 2 ^ 62 by omega)]
    rw [ih _ rfl]
    simp [hi]

theorem eqIntS_eq {a b : List Int} (h : a.length < 2 ^ 62) : M_L_eqIntS (a, b) = some (decide (a = b)) := by
  unfold M_L_eqIntS
  by_cases hl : a.length = b.length
  · have e1 : ((a.length : Int) != (b.length : Int)) = false := by simp [hl]
    dsimp only
    rw [e1]
    simp only [cond_false]
    refine (loopO_for (σ := Unit) (fun i _ => (i : Int)) a.length (fun i _ => some (decide (a.drop i = b.drop i))) (fun _ _ => True) (fun again _ _ => ?_) (fun again i _ hi _ ih => ?_) (by omega) (i := 0) (s := ()) (Nat.zero_le _) trivial).trans (by simp)
    · simp [hl]
    · have hi' : i < b.length := by omega
      simp only [getI_nat, List.getElem?_eq_getElem hi, List.getElem?_eq_getElem hi', bindO_some', i64_succ (show i < 2 ^ 62 by omega), ih () trivial]
      rw [List.drop_eq_getElem_cons hi, List.drop_eq_getElem_cons hi']
      by_cases he : a[i] = b[i] <;> simp [bne_dec, he, hi, -List.getElem_cons_drop]
  · have e1 : ((a.length : Int) != (b.length : Int)) = true := by simp; omega
    dsimp only
    rw [e1]
    simp only [cond_true, Option.some.injEq]
    symm
    simp only [decide_eq_false_iff_not]
    rintro rfl
    exact hl rfl

theorem lenOk_of {n : Nat} (h : n ≤ 68719476736) : lenOk n = true := by simp [lenOk, lim_eq, h]

/-- A loop whose states go down: a property of its answer. -/
theorem loopO_ind {σ β : Type} {body : (σ → Option β) → σ → Option β} (Q : σ → Option β → Prop) (Inv : σ → Prop) (μ : σ → Nat)
    (step : ∀ (again : σ → Option β) s, Inv s → (∀ s', Inv s' → μ s' < μ s → Q s' (again s')) → Q s (body again s)) {s : σ} (h0 : Inv s) (hm : μ s < 2 ^ 64) : Q s (loopO body s) := by
  rw [loopO_eq]
  have H : ∀ (n : Nat) (s : σ), Inv s → μ s < n → Q s (iter body n s) := by
    intro n
    induction n with
    | zero => intro s _ h; exact absurd h (Nat.not_lt_zero _)
    | succ n ih => intro s hs h; exact step _ s hs fun s' hs' h' => ih s' hs' (by omega)
  exact H many s h0 hm

theorem in_eq (x a b : Int) : M_S_l1In (x, a, b) = some (decide (a ≤ x ∧ x ≤ b)) := by
  by_cases h : a ≤ x <;> by_cases h2 : x ≤ b <;> simp [M_S_l1In, h, h2]

theorem within_eq (x a b : Int) : M_I_within (x, a, b) = some (decide (a ≤ x ∧ x ≤ b)) := by
  by_cases h : a ≤ x <;> by_cases h2 : x ≤ b <;> simp [M_I_within, h, h2]

theorem isModulus_eq (x : Int) : M_I_isModulus x = some (decide (2 ≤ x ∧ x ≤ 2000000000)) := by
  unfold M_I_isModulus
  rw [within_eq]
  rfl

def IsP (n : Int) : Prop := 2 ≤ n ∧ ∀ d, 2 ≤ d → d * d ≤ n → n % d ≠ 0

noncomputable def isP (n : Int) : Bool := @decide (IsP n) (Classical.propDecidable _)

/-- No divisor from d on. -/
def NoDiv (n s : Int) : Prop := ∀ d, s ≤ d → d * d ≤ n → n % d ≠ 0

noncomputable def noDiv (n s : Int) : Bool := @decide (NoDiv n s) (Classical.propDecidable _)

theorem noDiv_end {n s : Int} (hs : 0 ≤ s) (h : n < s * s) : noDiv n s = true := by
  simp only [noDiv, decide_eq_true_eq]
  intro d hd hdd
  have := Int.mul_le_mul hd hd hs (by omega)
  omega

theorem noDiv_hit {n s : Int} (h : s * s ≤ n) (h2 : n % s = 0) : noDiv n s = false := by
  simp only [noDiv, decide_eq_false_iff_not]
  intro hn
  exact hn s (Int.le_refl _) h h2

theorem noDiv_step {n s : Int} (h2 : s * s ≤ n → n % s ≠ 0) : noDiv n s = noDiv n (s + 1) := by
  simp only [noDiv, decide_eq_decide]
  constructor
  · intro h d hd hdd
    exact h d (by omega) hdd
  · intro h d hd hdd
    by_cases he : d = s
    · subst he
      exact h2 hdd
    · exact h d (by omega) hdd

theorem sq_lt {s : Int} (h0 : 0 ≤ s) (h : s * s ≤ 2000000000) : s ≤ 44721 := by
  refine Int.not_lt.1 fun hlt => ?_
  have := Int.mul_le_mul (show (44722 : Int) ≤ s by omega) (show (44722 : Int) ≤ s by omega) (by omega) h0
  omega

theorem sq_le {s k : Int} (h0 : 0 ≤ s) (h : s ≤ k) : s * s ≤ k * k := Int.mul_le_mul h h h0 (by omega)

theorem nPrime_eq {n : Int} (hn : n ≤ 2000000000) : M_S_nPrime n = some (isP n) := by
  unfold M_S_nPrime
  by_cases h2 : n < 2
  · have : isP n = false := by simp only [isP, decide_eq_false_iff_not]; intro h; have := h.1; omega
    simp [h2, this]
  · have hb : decide (n < 2) = false := by simpa using h2
    rw [hb, cond_false]
    have h1 : isP n = noDiv n 2 := by
      simp only [isP, noDiv, decide_eq_decide]
      exact ⟨fun h => h.2, fun h => ⟨by omega, h⟩⟩
    rw [h1]
    refine loopO_spec (fun s => some (noDiv n s)) (fun s => 2 ≤ s ∧ s ≤ 50000) (fun s => (50000 - s).toNat) (fun again s hs ih => ?_) ⟨by omega, by omega⟩ (by omega)
    obtain ⟨hs1, hs2⟩ := hs
    have hq := sq_le (by omega) hs2
    have hq0 : 0 ≤ s * s := Int.mul_nonneg (by omega) (by omega)
    simp only [bindO_some', i64_in _ (show (-9223372036854775808 : Int) ≤ s * s ∧ s * s ≤ 9223372036854775807 by omega)]
    by_cases hle : s * s ≤ n
    · have := sq_lt (by omega) (show s * s ≤ 2000000000 by omega)
      have hgs : guardO (s != 0) = some () := guardO_of (by simp; omega)
      simp only [hle, decide_true, cond_true, hgs, bindO_some', tmod_nn (show 0 ≤ n by omega)]
      by_cases h0 : n % s = 0
      · simp [h0, noDiv_hit hle h0]
      · have hb : (n % s == 0) = false := by simpa using h0
        have hw := i64_in (s + 1) (by omega)
        have hi := ih (s + 1) ⟨by omega, by omega⟩ (by omega)
        have hn := noDiv_step (n := n) (s := s) (fun _ => h0)
        rw [hb, cond_false, hw, hi, hn]
    · simp [hle, noDiv_end (by omega) (show n < s * s by omega)]

theorem odd_loop {n : Int} (hn : n ≤ 2000000000) (h2 : 2 ≤ n) (hodd : n % 2 = 1 ∨ n = 2) : loopO (fun (again9 : (Int → (Option Bool))) => (fun (s10 : Int) => (bindO (some (IntKind.wrap .i64 (s10 * s10))) (fun (a11 : Int) => (cond (decide (a11 ≤ n)) (bindO (guardO (s10 != (0 : Int))) (fun (a12 : Unit) => (bindO (some (Int.tmod n s10)) (fun (a13 : Int) => (cond (a13 == (0 : Int)) (some false) (bindO (some (IntKind.wrap .i64 (s10 + (2 : Int)))) (fun (a14 : Int) => (again9 a14)))))))) (some true)))))) (3 : Int) = some (noDiv n 3) := by
  refine loopO_spec (fun s => some (noDiv n s)) (fun s => 3 ≤ s ∧ s ≤ 50000 ∧ s % 2 = 1) (fun s => (50000 - s).toNat) (fun again s hs ih => ?_) ⟨by omega, by omega, by omega⟩ (by omega)
  obtain ⟨hs1, hs2, hs3⟩ := hs
  have hq := sq_le (by omega) hs2
  have hq0 : 0 ≤ s * s := Int.mul_nonneg (by omega) (by omega)
  simp only [bindO_some', i64_in _ (show (-9223372036854775808 : Int) ≤ s * s ∧ s * s ≤ 9223372036854775807 by omega)]
  by_cases hle : s * s ≤ n
  · have := sq_lt (by omega) (show s * s ≤ 2000000000 by omega)
    have h9 := sq_le (show (0 : Int) ≤ 3 by omega) hs1
    have hgs : guardO (s != 0) = some () := guardO_of (by simp; omega)
    simp only [hle, decide_true, cond_true, hgs, bindO_some', tmod_nn (show 0 ≤ n by omega)]
    by_cases h0 : n % s = 0
    · simp [h0, noDiv_hit hle h0]
    · have hb : (n % s == 0) = false := by simpa using h0
      have hw := i64_in (s + 2) (by omega)
      have hi := ih (s + 2) ⟨by omega, by omega, by omega⟩ (by omega)
      have hn1 := noDiv_step (n := n) (s := s) (fun _ => h0)
      have hn2 := noDiv_step (n := n) (s := s + 1) (fun h8 h1 => by
        have := Int.emod_emod_of_dvd n (show (2 : Int) ∣ (s + 1) by omega)
        rw [h1] at this
        have h3 : n ≠ 2 := fun h => by subst h; omega
        omega)
      rw [hb, cond_false, hw, hi, hn1, hn2, show s + 1 + 1 = s + 2 by omega]
  · simp [hle, noDiv_end (by omega) (show n < s * s by omega)]

theorem isPrime_eq {n : Int} (hn : n ≤ 2000000000) : M_I_isPrime n = some (isP n) := by
  unfold M_I_isPrime
  rw [isModulus_eq]
  by_cases h2 : 2 ≤ n
  · have h1 : isP n = noDiv n 2 := by
      simp only [isP, noDiv, decide_eq_decide]
      exact ⟨fun h => h.2, fun h => ⟨h2, h⟩⟩
    have hg2 : guardO ((2 : Int) != 0) = some () := rfl
    by_cases ho : n % 2 = 1 ∨ n = 2
    · rw [odd_loop hn h2 ho, hg2]
      simp only [bindO_some', h2, hn, and_self, decide_true, Bool.not_true, cond_false, tmod_nn (show 0 ≤ n by omega), h1]
      rcases ho with ho | rfl
      · have hb : (n % 2 == 0) = false := by simp [ho]
        rw [hb, cond_false, noDiv_step (n := n) (s := 2) (fun _ => by omega)]
        rfl
      · rw [noDiv_end (n := 2) (s := 2) (by omega) (by omega), noDiv_end (n := 2) (s := 3) (by omega) (by omega)]
        rfl
    · have he : n % 2 = 0 := by omega
      have hn2 : n ≠ 2 := fun h => ho (.inr h)
      have hb : (n != 2) = true := by simpa using hn2
      simp only [bindO_some', hg2, h2, hn, and_self, decide_true, Bool.not_true, cond_false, tmod_nn (show 0 ≤ n by omega), he, beq_self_eq_true, cond_true, hb, h1]
      rw [noDiv_hit (by omega) he]
  · have : isP n = false := by simp only [isP, decide_eq_false_iff_not]; intro h; have := h.1; omega
    simp [h2, this]

theorem pow_mod (a m : Int) : ∀ k : Nat, (a % m) ^ k % m = a ^ k % m
  | 0 => by simp
  | k + 1 => by rw [Int.pow_succ, Int.pow_succ, Int.mul_emod, pow_mod a m k, ← Int.mul_emod, Int.mul_emod, Int.emod_emod_of_dvd _ (Int.dvd_refl m), ← Int.mul_emod]

theorem sq_pow (a : Int) (k : Nat) : (a * a) ^ k = a ^ (2 * k) := by
  rw [show a * a = a ^ 2 by rw [Int.pow_succ, Int.pow_succ, Int.pow_zero, Int.one_mul], ← Int.pow_mul]

/-- One round of the power loop. -/
theorem pow_round {out a m : Int} {e : Int} (he : 0 < e) : ((if e % 2 = 1 then out * a % m else out) * (a * a % m) ^ (e / 2).toNat) % m = (out * a ^ e.toNat) % m := by
  have hk : e.toNat = 2 * (e / 2).toNat + (e % 2).toNat := by omega
  rw [Int.mul_emod, pow_mod, ← Int.mul_emod, sq_pow]
  by_cases h : e % 2 = 1
  · rw [if_pos h, hk, h, Int.pow_add, show (1 : Int).toNat = 1 by rfl, Int.pow_succ, Int.pow_zero, Int.one_mul, Int.mul_emod, Int.emod_emod_of_dvd _ (Int.dvd_refl m), ← Int.mul_emod]
    congr 1
    rw [Int.mul_assoc, Int.mul_comm a]
  · rw [if_neg h, hk, show e % 2 = 0 by omega]
    rfl

theorem mul_in {a b : Int} (ha : 0 ≤ a) (ha2 : a ≤ 3000000000) (hb : 0 ≤ b) (hb2 : b ≤ 3000000000) : 0 ≤ a * b ∧ a * b ≤ 9000000000000000000 :=
  ⟨Int.mul_nonneg ha hb, by have := Int.mul_le_mul ha2 hb2 hb (by omega); omega⟩

theorem nPower_eq {a e m : Int} (ha : 0 ≤ a) (ha2 : a ≤ 3000000000) (he : 0 ≤ e) (he2 : e ≤ 9223372036854775807) (hm : 1 ≤ m) (hm2 : m ≤ 3000000000) : M_S_nPower (a, e, m) = some (a ^ e.toNat % m) := by
  unfold M_S_nPower
  dsimp only
  have hg : guardO (m != 0) = some () := guardO_of (by simp; omega)
  have hg2 : guardO ((2 : Int) != 0) = some () := rfl
  rw [hg, bindO_some', bindO_some', tmod_nn (by omega)]
  have hfin : a ^ e.toNat % m = (1 % m * a ^ e.toNat) % m := by rw [Int.mul_emod, Int.emod_emod_of_dvd _ (Int.dvd_refl m), ← Int.mul_emod, Int.one_mul]
  rw [hfin]
  refine loopO_spec (fun (s : Int × Int × Int) => some ((s.2.2 * s.1 ^ s.2.1.toNat) % m)) (fun s => 0 ≤ s.1 ∧ s.1 ≤ 3000000000 ∧ 0 ≤ s.2.1 ∧ s.2.1 ≤ 9223372036854775807 ∧ 0 ≤ s.2.2 ∧ s.2.2 < m) (fun s => s.2.1.toNat) (fun again s hs ih => ?_)
    (⟨ha, ha2, he, he2, Int.emod_nonneg _ (by omega), Int.emod_lt_of_pos _ (by omega)⟩) (show e.toNat < 2 ^ 64 by omega)
  obtain ⟨a, e, out⟩ := s
  obtain ⟨h1, h2, h3, h4, h5, h6⟩ := hs
  dsimp only at h1 h2 h3 h4 h5 h6 ih ⊢
  have hoa := mul_in h5 (show out ≤ 3000000000 by omega) h1 h2
  have haa := mul_in h1 h2 h1 h2
  by_cases hpos : e > 0
  · have hr := pow_round (out := out) (a := a) (m := m) hpos
    have haam := Int.emod_nonneg (a * a) (show m ≠ 0 by omega)
    have haam2 := Int.emod_lt_of_pos (a * a) (show 0 < m by omega)
    have hoam := Int.emod_nonneg (out * a) (show m ≠ 0 by omega)
    have hoam2 := Int.emod_lt_of_pos (out * a) (show 0 < m by omega)
    simp only [hpos, decide_true, cond_true, hg, hg2, bindO_some', tmod_nn h3, tdiv_nn h3, i64_in _ (show (-9223372036854775808 : Int) ≤ out * a ∧ out * a ≤ 9223372036854775807 by omega), i64_in _ (show (-9223372036854775808 : Int) ≤ a * a ∧ a * a ≤ 9223372036854775807 by omega),
      tmod_nn hoa.1, tmod_nn haa.1, i64_in _ (show (-9223372036854775808 : Int) ≤ e / 2 ∧ e / 2 ≤ 9223372036854775807 by omega)]
    by_cases ho : e % 2 = 1
    · rw [if_pos ho] at hr
      rw [show (e % 2 == 1) = true by simp [ho], cond_true, ih (a * a % m, e / 2, out * a % m) ⟨haam, by dsimp only; omega, by dsimp only; omega, by dsimp only; omega, hoam, hoam2⟩ (by dsimp only; omega)]
      exact congrArg some hr
    · rw [if_neg ho] at hr
      rw [show (e % 2 == 1) = false by simp [ho], cond_false, ih (a * a % m, e / 2, out) ⟨haam, by dsimp only; omega, by dsimp only; omega, by dsimp only; omega, h5, h6⟩ (by dsimp only; omega)]
      exact congrArg some hr
  · have : e = 0 := by omega
    subst this
    simp [Int.emod_eq_of_lt h5 h6]

theorem bits_one {x : Int} (h : 0 ≤ x) : Vd.bits .and .i64 x 1 = x % 2 := by
  obtain ⟨n, rfl⟩ := Int.eq_ofNat_of_zero_le h
  have h1 : (BitVec.ofInt 64 ((n : Nat) : Int) &&& BitVec.ofInt 64 1).toNat = n % 2 := by
    rw [BitVec.toNat_and]
    have e1 : (BitVec.ofInt 64 ((n : Nat) : Int)).toNat = n % 2 ^ 64 := by simp
    have e2 : (BitVec.ofInt 64 1).toNat = 1 := by decide
    rw [e1, e2, Nat.and_one_is_mod]
    omega
  show IntKind.wrap .i64 (((BitVec.ofInt 64 ((n : Nat) : Int) &&& BitVec.ofInt 64 1).toNat : Nat) : Int) = _
  rw [h1, i64_in _ (by omega)]
  omega

theorem shr_one {x : Int} : Vd.shr .i64 x 1 = x / 2 := by
  show x.fdiv (2 ^ (min (1 : Int).toNat 64)) = x / 2
  rw [show ((2 : Int) ^ (min (1 : Int).toNat 64)) = 2 by decide, fdiv_pos (by omega)]

theorem power_eq {a e m : Int} (he : e ≤ 9223372036854775807) : M_I_power (a, e, m) = M_S_nPower (a, e, m) := by
  unfold M_I_power M_S_nPower
  congr 1
  funext _
  congr 1
  funext out
  refine loopO_congr (fun s => s.2.1 ≤ 9223372036854775807) (fun a1 a2 s hs ih => ?_) he
  by_cases hpos : s.2.1 > 0
  · have hg2 : guardO ((2 : Int) != 0) = some () := rfl
    have hg3 : guardO (decide ((0 : Int) ≤ 1)) = some () := rfl
    have hw : ∀ (x : Int) y, a1 (x, s.2.1 / 2, y) = a2 (x, s.2.1 / 2, y) := fun x y => ih _ (by dsimp only; omega)
    simp only [hpos, decide_true, cond_true, hg2, hg3, bindO_some', bits_one (show 0 ≤ s.2.1 by omega), shr_one, tmod_nn (show 0 ≤ s.2.1 by omega), tdiv_nn (show 0 ≤ s.2.1 by omega),
      i64_in _ (show (-9223372036854775808 : Int) ≤ s.2.1 / 2 ∧ s.2.1 / 2 ≤ 9223372036854775807 by omega), hw]
  · simp [hpos]

theorem l1All_eq {l : List Int} {lo hi : Int} (hl : l.length < 2 ^ 62) : M_S_l1All (l, lo, hi) = some (l.all fun n => decide (lo ≤ n ∧ n ≤ hi)) := by
  unfold M_S_l1All
  refine (loop_walk l (fun _ a k => if (decide (lo ≤ a ∧ a ≤ hi)) = true then k else some false) (some true) (fun again i a ha hi' => ?_) (fun again => ?_) (by omega)).trans (walk_all (fun n => decide (lo ≤ n ∧ n ≤ hi)) l 0)
  · simp only [getI_nat, ha, bindO_some', i64_succ (show i < 2 ^ 62 by omega), lt_yes hi', cond_true, in_eq]
    cases decide (lo ≤ a ∧ a ≤ hi) <;> rfl
  · simp

theorem walk_index_mem {α : Type} (p : α → Bool) (f : α → Option Bool) : ∀ (l : List α) (i : Nat), (∀ a ∈ l, f a = some (p a)) →
    ∃ j : Int, walk (fun i a k => bindO (f a) fun b => cond b (some (i : Int)) k) (some (-1)) i l = some j ∧ decide (j ≥ 0) = l.any p
  | [], _, _ => ⟨-1, rfl, rfl⟩
  | a :: l, i, hf => by
    obtain ⟨j, h1, h2⟩ := walk_index_mem p f l (i + 1) fun b hb => hf b (List.mem_cons_of_mem _ hb)
    have ha := hf a (List.mem_cons_self ..)
    cases h : p a
    · exact ⟨j, by simp [walk, ha, h, h1], by simp [h, h2]⟩
    · exact ⟨i, by simp [walk, ha, h], by simp [h]⟩

theorem containsFunc_eq {l : List Int} {f : Int → Option Bool} {p : Int → Bool} (hl : l.length < 2 ^ 62) (hf : ∀ a ∈ l, f a = some (p a)) : M_slices_ContainsFunc_sint_int (l, f) = some (l.any p) := by
  obtain ⟨j, h1, h2⟩ := walk_index_mem p f l 0 hf
  unfold M_slices_ContainsFunc_sint_int
  have : M_slices_IndexFunc_sint_int (l, f) = some j := by
    unfold M_slices_IndexFunc_sint_int
    refine (loop_walk l _ _ (fun again i a ha hi => ?_) (fun again => ?_) (by omega)).trans h1
    · simp only [getI_nat, ha, bindO_some', i64_succ (show i < 2 ^ 62 by omega), lt_yes hi, cond_true]
    · simp
  dsimp only
  rw [this, bindO_some', h2]

theorem areAll_eq {l : List Int} {f : Int → Option Bool} {p : Int → Bool} (hl : l.length < 2 ^ 62) (hf : ∀ a ∈ l, f a = some (p a)) : M_I_areAll (l, f) = some (l.all p) := by
  unfold M_I_areAll
  dsimp only
  rw [containsFunc_eq (p := fun a => !p a) hl fun a ha => by simp [M_I_areAll_1, hf a ha], bindO_some']
  congr 1
  rw [List.any_eq_not_all_not]
  simp

noncomputable def okG (p q g : Int) : Bool := decide (3 ≤ p ∧ p ≤ 2000000000) && (decide (2 ≤ q ∧ q ≤ p - 1) && ((p - 1) % q == 0 && (decide (2 ≤ g ∧ g ≤ p - 1) && (g ^ q.toNat % p == 1 && (isP q && isP p)))))

theorem l2Good_eq (p q g : Int) : M_S_l2Good (p, q, g) = some (okG p q g) := by
  unfold M_S_l2Good okG
  simp only [in_eq, bindO_some']
  by_cases h1 : 3 ≤ p ∧ p ≤ 2000000000
  · rw [i64_in (p - 1) (by omega)]
    simp only [h1, and_self, decide_true, cond_true, Bool.true_and]
    by_cases h2 : 2 ≤ q ∧ q ≤ p - 1
    · have hq : guardO (q != 0) = some () := guardO_of (by simp; omega)
      simp only [h2, and_self, decide_true, cond_true, Bool.true_and, hq, bindO_some', tmod_nn (show 0 ≤ p - 1 by omega)]
      by_cases h3 : (p - 1) % q = 0
      · simp only [h3, beq_self_eq_true, cond_true, Bool.true_and]
        by_cases h4 : 2 ≤ g ∧ g ≤ p - 1
        · simp only [h4, and_self, decide_true, cond_true, Bool.true_and, nPower_eq (show 0 ≤ g by omega) (show g ≤ 3000000000 by omega) (show 0 ≤ q by omega) (show q ≤ 9223372036854775807 by omega) (show 1 ≤ p by omega) (show p ≤ 3000000000 by omega), bindO_some',
            nPrime_eq (show q ≤ 2000000000 by omega), nPrime_eq (show p ≤ 2000000000 by omega)]
          cases (g ^ q.toNat % p == 1) <;> cases isP q <;> cases isP p <;> rfl
        · simp [h4]
      · have hb : ((p - 1) % q == 0) = false := by simpa using h3
        simp [hb]
    · simp [h2]
  · simp [h1]

theorem IsValidGroup_eq (p q g : Int) : M_I_IsValidGroup (p, q, g) = some (okG p q g) := by
  unfold M_I_IsValidGroup okG
  simp only [within_eq, bindO_some']
  by_cases h1 : 3 ≤ p ∧ p ≤ 2000000000
  · rw [i64_in (p - 1) (by omega)]
    simp only [h1, and_self, decide_true, cond_true, Bool.true_and]
    by_cases h2 : 2 ≤ q ∧ q ≤ p - 1
    · have hq : guardO (q != 0) = some () := guardO_of (by simp; omega)
      simp only [h2, and_self, decide_true, cond_true, Bool.true_and, hq, bindO_some', tmod_nn (show 0 ≤ p - 1 by omega)]
      by_cases h3 : (p - 1) % q = 0
      · simp only [h3, beq_self_eq_true, cond_true, Bool.true_and]
        by_cases h4 : 2 ≤ g ∧ g ≤ p - 1
        · simp only [h4, and_self, decide_true, cond_true, Bool.true_and, power_eq (show q ≤ 9223372036854775807 by omega), nPower_eq (show 0 ≤ g by omega) (show g ≤ 3000000000 by omega) (show 0 ≤ q by omega) (show q ≤ 9223372036854775807 by omega) (show 1 ≤ p by omega) (show p ≤ 3000000000 by omega), bindO_some',
            isPrime_eq (show q ≤ 2000000000 by omega), isPrime_eq (show p ≤ 2000000000 by omega)]
          cases (g ^ q.toNat % p == 1) <;> cases isP q <;> cases isP p <;> rfl
        · simp [h4]
      · have hb : ((p - 1) % q == 0) = false := by simpa using h3
        simp [hb]
    · simp [h2]
  · simp [h1]

/-- What a valid group fulfils. -/
structure Gr (p q g : Int) : Prop where
  p3 : 3 ≤ p
  pm : p ≤ 2000000000
  q2 : 2 ≤ q
  qp : q ≤ p - 1
  dv : (p - 1) % q = 0
  g2 : 2 ≤ g
  gp : g ≤ p - 1
  gq : g ^ q.toNat % p = 1
  pq : isP q = true
  pp : isP p = true

theorem okG_spec {p q g : Int} (h : okG p q g = true) : Gr p q g := by
  simp only [okG, Bool.and_eq_true, decide_eq_true_eq, beq_iff_eq] at h
  obtain ⟨⟨h1, h2⟩, ⟨h3, h4⟩, h5, ⟨h6, h7⟩, h8, h9, h10⟩ := h
  exact ⟨h1, h2, h3, h4, h5, h6, h7, h8, h9, h10⟩

theorem nMod_eq {a m : Int} (hm : 1 ≤ m) (hm2 : m ≤ 4611686018427387903) : M_S_nMod (a, m) = some (a % m) := by
  unfold M_S_nMod
  have hg : guardO (m != 0) = some () := guardO_of (by simp; omega)
  have h1 := Int.tmod_lt_of_pos a (show 0 < m by omega)
  have h2 : -m < a.tmod m := Int.lt_tmod_of_pos a (by omega)
  simp only [hg, bindO_some', i64_in (a.tmod m + m) (by omega), tmod_nn (show 0 ≤ a.tmod m + m by omega)]
  congr 1
  rw [Int.add_emod_right]
  have h3 := Int.mul_tdiv_add_tmod a m
  have : a % m = (m * a.tdiv m + a.tmod m) % m := by rw [h3]
  rw [this, Int.mul_add_emod_self_left]

theorem mod_eq {x : Int × Int} : M_I_mod x = M_S_nMod x := rfl

theorem gExp_eq {p q g x e : Int} (h : Gr p q g) (hx : 0 ≤ x) (hx2 : x ≤ p) : M_S_gExp ((p, q, g), x, e) = some (x ^ (e % q).toNat % p) := by
  unfold M_S_gExp
  have := h.p3; have := h.pm; have := h.q2; have := h.qp
  have h1 := Int.emod_nonneg e (show q ≠ 0 by omega)
  have h2 := Int.emod_lt_of_pos e (show 0 < q by omega)
  dsimp only
  rw [nMod_eq (by omega) (by omega), bindO_some', nPower_eq hx (by omega) h1 (by omega) (by omega) (by omega), bindO_some']

theorem Group_pow_eq {p q g x e : Int} (h : Gr p q g) (hx : 0 ≤ x) (hx2 : x ≤ p) : M_I_Group_pow ((p, q, g), x, e) = some (x ^ (e % q).toNat % p) := by
  unfold M_I_Group_pow
  have := h.p3; have := h.pm; have := h.q2; have := h.qp
  have h1 := Int.emod_nonneg e (show q ≠ 0 by omega)
  have h2 := Int.emod_lt_of_pos e (show 0 < q by omega)
  dsimp only
  rw [mod_eq, nMod_eq (by omega) (by omega), bindO_some', power_eq (by omega), nPower_eq hx (by omega) h1 (by omega) (by omega) (by omega), bindO_some']

theorem isExp_eq {p q g e : Int} (h : Gr p q g) : M_I_Group_isExp ((p, q, g), e) = some (decide (0 ≤ e ∧ e ≤ q - 1)) := by
  unfold M_I_Group_isExp
  have := h.pm; have := h.q2; have := h.qp
  simp only [bindO_some', i64_in (q - 1) (by omega), within_eq]

theorem gExps_eq {p q g : Int} {l : List Int} (h : Gr p q g) (hl : l.length < 2 ^ 62) : M_S_gExps ((p, q, g), l) = some (l.all fun e => decide (0 ≤ e ∧ e ≤ q - 1)) := by
  unfold M_S_gExps
  have := h.pm; have := h.q2; have := h.qp
  simp only [bindO_some', i64_in (q - 1) (by omega), l1All_eq hl]

/-- Is a number an element? -/
def isEl (p q x : Int) : Bool := decide (1 ≤ x ∧ x ≤ p - 1) && x ^ q.toNat % p == 1

theorem has_eq' {p q g x : Int} (h : Gr p q g) : M_I_Group_has ((p, q, g), x) = some (isEl p q x) := by
  unfold M_I_Group_has isEl
  have := h.p3; have := h.pm; have := h.q2; have := h.qp
  simp only [bindO_some', i64_in (p - 1) (by omega), within_eq]
  by_cases hx : 1 ≤ x ∧ x ≤ p - 1
  · simp [hx, power_eq (show q ≤ 9223372036854775807 by omega), nPower_eq (show 0 ≤ x by omega) (show x ≤ 3000000000 by omega) (show 0 ≤ q by omega) (show q ≤ 9223372036854775807 by omega) (show 1 ≤ p by omega) (show p ≤ 3000000000 by omega)]
  · simp [hx]

theorem gIs_eq {p q g : Int} {l : List Int} (h : Gr p q g) (hl : l.length < 2 ^ 62) : M_S_gIs ((p, q, g), l) = some (l.all (isEl p q)) := by
  unfold M_S_gIs
  have := h.p3; have := h.pm; have := h.q2; have := h.qp
  refine (loop_walk l (fun _ a k => if (isEl p q a) = true then k else some false) (some true) (fun again i a ha hi' => ?_) (fun again => ?_) (by omega)).trans (walk_all (isEl p q) l 0)
  · simp only [getI_nat, ha, bindO_some', i64_succ (show i < 2 ^ 62 by omega), lt_yes hi', cond_true, in_eq, i64_in (p - 1) (by omega)]
    by_cases hx : 1 ≤ a ∧ a ≤ p - 1
    · simp only [isEl, hx, and_self, decide_true, Bool.not_true, cond_false, Bool.true_and, nPower_eq (show 0 ≤ a by omega) (show a ≤ 3000000000 by omega) (show 0 ≤ q by omega) (show q ≤ 9223372036854775807 by omega) (show 1 ≤ p by omega) (show p ≤ 3000000000 by omega), bindO_some']
      by_cases h1 : a ^ q.toNat % p = 1 <;> simp [h1, bne_dec]
    · simp [isEl, hx]
  · simp

theorem isEl_range {p q x : Int} (h : isEl p q x = true) : 1 ≤ x ∧ x ≤ p - 1 ∧ x ^ q.toNat % p = 1 := by
  simp only [isEl, Bool.and_eq_true, decide_eq_true_eq, beq_iff_eq] at h
  exact ⟨h.1.1, h.1.2, h.2⟩

/-- A product of residues. -/
def prodM (p : Int) : Int → List Int → Int
  | out, [] => out
  | out, x :: l => prodM p (out * x % p) l

theorem prodM_range {p : Int} (hp : 1 ≤ p) : ∀ (l : List Int) (out : Int), 0 ≤ out → out < p ∨ l ≠ [] → 0 ≤ prodM p out l ∧ (prodM p out l < p)
  | [], out, h, h2 => ⟨h, h2.resolve_right (by simp)⟩
  | x :: l, out, h, _ => prodM_range hp l _ (Int.emod_nonneg _ (by omega)) (.inl (Int.emod_lt_of_pos _ (by omega)))

theorem gMul_loop {p : Int} (hp : 1 ≤ p) (hp2 : p ≤ 3000000000) (l : List Int) (hx : ∀ x ∈ l, 0 ≤ x ∧ x ≤ 3000000000) (hl : l.length < 2 ^ 62) {body : (Int × Int → Option Int) → Int × Int → Option Int} 
    (h : ∀ (again : Int × Int → Option Int) (s : Int × Int), body again s = (cond (decide (s.2 < ((l.length : Nat) : Int))) (bindO (getI l s.2) fun a => bindO (some (IntKind.wrap .i64 (s.1 * a))) fun b => bindO (guardO (p != 0)) fun _ => bindO (some (b.tmod p)) fun c => bindO (some (IntKind.wrap .i64 (s.2 + 1))) fun d => again (c, d)) (some s.1))) :
    loopO body (1, 0) = some (prodM p 1 l) := by
  have hg : guardO (p != 0) = some () := guardO_of (by simp; omega)
  refine (loopO_for (σ := Int) (fun i s => (s, (i : Int))) l.length (fun i s => some (prodM p s (l.drop i))) (fun _ s => 0 ≤ s ∧ s ≤ 3000000000) (fun again s hs => ?_) (fun again i s hi hs ih => ?_) (by omega) (i := 0) (s := 1) (Nat.zero_le _) ⟨by omega, by omega⟩).trans (by simp)
  · rw [h]; simp [prodM]
  · have hm := hx l[i] (List.getElem_mem hi)
    have hb := mul_in hs.1 hs.2 hm.1 hm.2
    have h1 := Int.emod_nonneg (s * l[i]) (show p ≠ 0 by omega)
    have h2 := Int.emod_lt_of_pos (s * l[i]) (show 0 < p by omega)
    rw [h]
    simp only [lt_yes hi, cond_true, getI_nat, List.getElem?_eq_getElem hi, bindO_some', hg, i64_succ (show i < 2 ^ 62 by omega), i64_in (s * l[i]) (by omega), tmod_nn hb.1]
    rw [ih _ ⟨h1, by omega⟩, List.drop_eq_getElem_cons hi, prodM]

theorem gMul_eq {p q g : Int} {l : List Int} (h : Gr p q g) (hx : ∀ x ∈ l, 0 ≤ x ∧ x ≤ 3000000000) (hl : l.length < 2 ^ 62) : M_S_gMul ((p, q, g), l) = some (prodM p 1 l) := by
  unfold M_S_gMul
  have := h.p3; have := h.pm
  exact gMul_loop (by omega) (by omega) l hx hl fun _ _ => rfl

theorem Group_mul_eq {p q g : Int} {l : List Int} (h : Gr p q g) (hx : ∀ x ∈ l, 0 ≤ x ∧ x ≤ 3000000000) (hl : l.length < 2 ^ 62) : M_I_Group_mul ((p, q, g), l) = some (prodM p 1 l) := by
  unfold M_I_Group_mul
  have := h.p3; have := h.pm
  exact gMul_loop (by omega) (by omega) l hx hl fun _ _ => rfl

def hstep (c s k : Int) : Int := (c * s + k + 1) % 2147483647

def absorb (s : Int × Int) (x : Int) : Int × Int :=
  (hstep 48271 (hstep 48271 s.1 (x % 2147483648)) (x / 2147483648), hstep 69621 (hstep 69621 s.2 (x % 2147483648)) (x / 2147483648))

def digest (l : List Int) : Int := ((l.foldl absorb (absorb (1, 2) (l.length : Int))).1) * 2147483648 + (l.foldl absorb (absorb (1, 2) (l.length : Int))).2

def HOk (s : Int × Int) : Prop := 0 ≤ s.1 ∧ s.1 < 2147483648 ∧ 0 ≤ s.2 ∧ s.2 < 2147483648

theorem hstep_range (c s k : Int) : 0 ≤ hstep c s k ∧ hstep c s k < 2147483647 :=
  ⟨Int.emod_nonneg _ (by omega), Int.emod_lt_of_pos _ (by omega)⟩

theorem absorb_ok (s : Int × Int) (x : Int) : HOk (absorb s x) := by
  have h1 := hstep_range 48271 (hstep 48271 s.1 (x % 2147483648)) (x / 2147483648)
  have h2 := hstep_range 69621 (hstep 69621 s.2 (x % 2147483648)) (x / 2147483648)
  exact ⟨h1.1, by show hstep _ _ _ < _; omega, h2.1, by show hstep _ _ _ < _; omega⟩

theorem foldl_ok : ∀ (l : List Int) (s : Int × Int), HOk s → HOk (l.foldl absorb s)
  | [], _, h => h
  | x :: l, s, _ => foldl_ok l _ (absorb_ok s x)

theorem digest_range (l : List Int) : 0 ≤ digest l ∧ digest l ≤ 4611686018427387903 := by
  have h := foldl_ok l _ (absorb_ok (1, 2) (l.length : Int))
  obtain ⟨h1, h2, h3, h4⟩ := h
  unfold digest
  omega

theorem hstep_walk {c s k : Int} (hc : c = 48271 ∨ c = 69621) (hs : 0 ≤ s ∧ s < 2147483648) (hk : 0 ≤ k ∧ k < 2147483648) :
    (IntKind.wrap .i64 (IntKind.wrap .i64 (IntKind.wrap .i64 (c * s) + k) + 1)).tmod 2147483647 = hstep c s k := by
  have h1 : 0 ≤ c * s ∧ c * s ≤ 69621 * 2147483648 := ⟨Int.mul_nonneg (by omega) hs.1, Int.mul_le_mul (by omega) (by omega) hs.1 (by omega)⟩
  rw [i64_in (c * s) (by omega), i64_in (c * s + k) (by omega), i64_in (c * s + k + 1) (by omega), tmod_nn (by omega)]
  rfl

theorem absorb_eq {s : Int × Int} {x : Int} (hs : HOk s) (h0 : 0 ≤ x) (h1 : x ≤ 4611686018427387903) : M_S_l3State_absorb (s, x) = some (absorb s x) := by
  unfold M_S_l3State_absorb
  obtain ⟨h2, h3, h4, h5⟩ := hs
  have hg : guardO ((2147483648 : Int) != 0) = some () := rfl
  have hg2 : guardO ((2147483647 : Int) != 0) = some () := rfl
  dsimp only
  rw [hg]
  simp only [bindO_some', tmod_nn h0, tdiv_nn h0]
  rw [i64_in (x / 2147483648) (by omega)]
  have hb : 0 ≤ x % 2147483648 ∧ x % 2147483648 < 2147483648 := by omega
  have ha : 0 ≤ x / 2147483648 ∧ x / 2147483648 < 2147483648 := by omega
  have hm : ∀ k ∈ [x % 2147483648, x / 2147483648], 0 ≤ k ∧ k < 2147483648 := fun k hk => by
    simp only [List.mem_cons, List.not_mem_nil, or_false] at hk
    rcases hk with rfl | rfl
    · exact hb
    · exact ha
  have hg3 : ∀ (c s k : Int), 0 ≤ hstep c s k ∧ hstep c s k < 2147483648 := fun c s k => by have := hstep_range c s k; omega
  refine (loop_walkI (fun i (s : Int × Int) => (i, (s.1, s.2))) [x % 2147483648, x / 2147483648] (fun _ k s c => c (hstep 48271 s.1 k, hstep 69621 s.2 k)) (fun s => some (s.1, s.2)) (fun _ s => HOk s)
    (fun i a s k k' ha hs hk => hk _ ⟨(hg3 _ _ _).1, (hg3 _ _ _).2, (hg3 _ _ _).1, (hg3 _ _ _).2⟩) (fun again i a t ha hi ht => ?_) (fun again s hs => ?_) (by show (2 : Nat) < 2 ^ 64; omega) (s.1, s.2) ⟨h2, h3, h4, h5⟩).trans rfl
  · have hk := hm a (List.mem_of_getElem? ha)
    have hi2 : i < 2 := hi
    simp only [lt_yes hi, cond_true, getI_nat, ha, hg2, bindO_some', hstep_walk (.inl rfl) ⟨ht.1, ht.2.1⟩ hk, hstep_walk (.inr rfl) ⟨ht.2.2.1, ht.2.2.2⟩ hk, i64_succ (show i < 2 ^ 62 by omega)]
  · simp only [lt_no, cond_false]

theorem hInts_eq {l : List Int} (hl : l.length < 2 ^ 40) (hx : ∀ x ∈ l, 0 ≤ x ∧ x ≤ 4611686018427387903) : M_S_hInts l = some (digest l) := by
  unfold M_S_hInts
  rw [absorb_eq (⟨by omega, by omega, by omega, by omega⟩ : HOk (1, 2)) (by omega) (by omega), bindO_some']
  refine (loopO_for (σ := Int × Int) (fun i s => ((i : Int), (s.1, s.2))) l.length (fun i s => some (((l.drop i).foldl absorb s).1 * 2147483648 + ((l.drop i).foldl absorb s).2)) (fun _ s => HOk s) (fun again s hs => ?_) (fun again i s hi hs ih => ?_) (by omega) (i := 0) (s := absorb (1, 2) (l.length : Int)) (Nat.zero_le _) (absorb_ok _ _)).trans rfl
  · obtain ⟨h1, h2, h3, h4⟩ := hs
    simp only [lt_no, cond_false, List.drop_length, List.foldl_nil, bindO_some']
    rw [i64_in (s.1 * 2147483648) (by omega), i64_in (s.1 * 2147483648 + s.2) (by omega)]
  · have hm := hx l[i] (List.getElem_mem hi)
    simp only [lt_yes hi, cond_true, getI_nat, List.getElem?_eq_getElem hi, bindO_some', absorb_eq (s := (s.1, s.2)) hs hm.1 hm.2, i64_succ (show i < 2 ^ 62 by omega)]
    rw [ih _ (absorb_ok _ _), List.drop_eq_getElem_cons hi, List.foldl_cons]

theorem bits_mask {x : Int} (h : 0 ≤ x) (h2 : x ≤ 9223372036854775807) : Vd.bits .and .i64 x 2147483647 = x % 2147483648 := by
  obtain ⟨n, rfl⟩ := Int.eq_ofNat_of_zero_le h
  have h1 : (BitVec.ofInt 64 ((n : Nat) : Int) &&& BitVec.ofInt 64 2147483647).toNat = n % 2147483648 := by
    rw [BitVec.toNat_and]
    have e1 : (BitVec.ofInt 64 ((n : Nat) : Int)).toNat = n % 2 ^ 64 := by simp
    have e2 : (BitVec.ofInt 64 2147483647).toNat = 2 ^ 31 - 1 := by decide
    rw [e1, e2, Nat.and_two_pow_sub_one_eq_mod]
    omega
  show IntKind.wrap .i64 (((BitVec.ofInt 64 ((n : Nat) : Int) &&& BitVec.ofInt 64 2147483647).toNat : Nat) : Int) = _
  rw [h1, i64_in _ (by omega)]
  omega

theorem shr_31 {x : Int} : Vd.shr .i64 x 31 = x / 2147483648 := by
  show x.fdiv (2 ^ (min (31 : Int).toNat 64)) = _
  rw [show ((2 : Int) ^ (min (31 : Int).toNat 64)) = 2147483648 by decide, fdiv_pos (by omega)]

theorem shl_31 {x : Int} : Vd.shl .i64 x 31 = IntKind.wrap .i64 (x * 2147483648) := by
  show IntKind.wrap .i64 (x * (2 ^ (min (31 : Int).toNat 64))) = _
  rw [show ((2 : Int) ^ (min (31 : Int).toNat 64)) = 2147483648 by decide]

theorem hash_eq {l : List Int} (hl : l.length < 2 ^ 30) (hx : ∀ x ∈ l, 0 ≤ x ∧ x ≤ 4611686018427387903) : M_I_hash l = some (digest l) := by
  unfold M_I_hash
  have hg31 : guardO (decide ((0 : Int) ≤ 31)) = some () := rfl
  have hg2 : guardO ((2147483647 : Int) != 0) = some () := rfl
  rw [guardO_of (lenOk_of (by simp; omega)), bindO_some', bindO_some']
  have hL : ∀ x ∈ ((l.length : Int) :: l), 0 ≤ x ∧ x ≤ 4611686018427387903 := fun x h => by
    rcases List.mem_cons.1 h with rfl | h
    · omega
    · exact hx x h
  have e : [((l.length : Nat) : Int)] ++ l = ((l.length : Int) :: l) := rfl
  rw [e]
  have hlen : ((l.length : Int) :: l).length = l.length + 1 := rfl
  generalize hLL : ((l.length : Int) :: l) = L at hL hlen
  refine (loopO_for (σ := Int × Int) (fun i s => (s.1, (s.2, (i : Int)))) L.length (fun i s => some (((L.drop i).foldl absorb s).1 * 2147483648 + ((L.drop i).foldl absorb s).2)) (fun _ s => HOk s) (fun again s hs => ?_) (fun again i s hi hs ih => ?_) (by omega) (i := 0) (s := (1, 2)) (Nat.zero_le _) ⟨by decide, by decide, by decide, by decide⟩).trans (by rw [← hLL]; rfl)
  · obtain ⟨h1, h2, h3, h4⟩ := hs
    simp only [lt_no, cond_false, List.drop_length, List.foldl_nil, bindO_some', hg31, shl_31]
    rw [i64_in (s.1 * 2147483648) (by omega), i64_in (s.1 * 2147483648 + s.2) (by omega)]
  · have hm := hL L[i] (List.getElem_mem hi)
    obtain ⟨h1, h2, h3, h4⟩ := hs
    have hb : 0 ≤ L[i] % 2147483648 ∧ L[i] % 2147483648 < 2147483648 := by omega
    have ha : 0 ≤ L[i] / 2147483648 ∧ L[i] / 2147483648 < 2147483648 := by omega
    have r1 := hstep_range 48271 s.1 (L[i] % 2147483648)
    have r2 := hstep_range 69621 s.2 (L[i] % 2147483648)
    simp only [lt_yes hi, cond_true, getI_nat, List.getElem?_eq_getElem hi, bindO_some', hg31, hg2, shr_31, bits_mask hm.1 (by omega), hstep_walk (.inl rfl) ⟨h1, h2⟩ hb, hstep_walk (.inr rfl) ⟨h3, h4⟩ hb,
      hstep_walk (.inl rfl) (⟨r1.1, by omega⟩ : 0 ≤ hstep 48271 s.1 (L[i] % 2147483648) ∧ _) ha, hstep_walk (.inr rfl) (⟨r2.1, by omega⟩ : 0 ≤ hstep 69621 s.2 (L[i] % 2147483648) ∧ _) ha, i64_succ (show i < 2 ^ 62 by omega)]
    rw [List.drop_eq_getElem_cons hi, List.foldl_cons, ← ih (absorb s L[i]) (absorb_ok _ _)]
    rfl

def lab (s : ByteArray) (l : List Int) : List Int := (s.size : Int) :: (ofStr s ++ l)

theorem ofStr_length (s : ByteArray) : (ofStr s).length = s.size := by
  unfold ofStr
  rw [List.length_map, Array.length_toList]
  rfl

theorem ofStr_get {s : ByteArray} {i : Nat} (h : i < s.size) : ∃ b : UInt8, s[i]? = some b ∧ (ofStr s)[i]? = some ((b.toNat : Nat) : Int) := by
  refine ⟨s[i], by simp [h], ?_⟩
  have h' : i < s.data.size := h
  simp only [ofStr, List.getElem?_map]
  rw [List.getElem?_eq_getElem (by simpa using h')]
  rfl

theorem ofStr_range {s : ByteArray} {x : Int} (h : x ∈ ofStr s) : 0 ≤ x ∧ x ≤ 255 := by
  simp only [ofStr, List.mem_map] at h
  obtain ⟨b, _, rfl⟩ := h
  have := b.toNat_lt
  omega

theorem label_loop {s : ByteArray} {l : List Int} (hs : s.size < 2 ^ 30) (hl : l.length < 2 ^ 30) : M_S_l3With (s, l) = some (lab s l) := by
  unfold M_S_l3With
  refine (loopO_for (σ := List Int) (fun i a => (a, (i : Int))) s.size (fun i a => some (lab s l)) (fun i a => a = (s.size : Int) :: (ofStr s).take i) (fun again a ha => ?_) (fun again i a hi ha ih => ?_) (by omega) (i := 0) (s := [(s.size : Int)]) (Nat.zero_le _) (by simp)).trans rfl
  · subst ha
    have ht : (ofStr s).take s.size = ofStr s := by rw [← ofStr_length, List.take_length]
    have hlen := ofStr_length s
    simp only [lt_no, cond_false, ht]
    rw [guardO_of (lenOk_of (by simp [hlen]; omega))]
    rfl
  · subst ha
    obtain ⟨b, h1, h2⟩ := ofStr_get hi
    have hb := b.toNat_lt
    have hlen := ofStr_length s
    simp only [lt_yes hi, cond_true, Int.toNat_natCast, h1]
    rw [if_pos (by omega)]
    simp only [bindO_some', i64_in ((b.toNat : Nat) : Int) (by omega), i64_succ (show i < 2 ^ 62 by omega)]
    rw [guardO_of (lenOk_of (by simp; omega)), bindO_some']
    refine ih _ ?_
    rw [List.take_add_one, h2]
    simp

theorem labelled_eq (x : ByteArray × List Int) : M_I_labelled x = M_S_l3With x := rfl

/-- What can be hashed. -/
def okD (l : List Int) : Bool := l.all fun n => decide (0 ≤ n ∧ n ≤ 4611686018427387903)

theorem okD_spec {l : List Int} (h : okD l = true) : ∀ x ∈ l, 0 ≤ x ∧ x ≤ 4611686018427387903 := fun x hx => by
  simpa using List.all_eq_true.1 h x hx

theorem lab_range {s : ByteArray} {l : List Int} (hs : s.size < 2 ^ 30) (h : okD l = true) : ∀ x ∈ lab s l, 0 ≤ x ∧ x ≤ 4611686018427387903 := fun x hx => by
  rcases List.mem_cons.1 hx with rfl | hx
  · omega
  · rcases List.mem_append.1 hx with hx | hx
    · have := ofStr_range hx
      omega
    · exact okD_spec h x hx

theorem lab_okD {s : ByteArray} {l : List Int} (hs : s.size < 2 ^ 30) : okD (lab s l) = okD l := by
  have h1 : ∀ x ∈ ofStr s, decide (0 ≤ x ∧ x ≤ 4611686018427387903) = true := fun x hx => by
    have := ofStr_range hx
    simp only [decide_eq_true_eq]
    omega
  unfold okD lab
  rw [List.all_cons, List.all_append, List.all_eq_true.2 h1]
  have : decide (0 ≤ ((s.size : Nat) : Int) ∧ ((s.size : Nat) : Int) ≤ 4611686018427387903) = true := by
    simp only [decide_eq_true_eq]
    omega
  rw [this]
  rfl

/-- What HashLabelled answers. -/
def hashL (s : ByteArray) (l : List Int) : Int × Bool := if s.size ≤ 40 ∧ okD l = true ∧ 1 + s.size + l.length ≤ 400 then (digest (lab s l), true) else (0, false)

theorem hLabelled_eq {s : ByteArray} {l : List Int} (hs : s.size < 2 ^ 30) (hl : l.length < 2 ^ 30) (h : okD l = true) : M_S_hLabelled (s, l) = some (digest (lab s l)) := by
  unfold M_S_hLabelled
  have hlen : (lab s l).length < 2 ^ 40 := by simp [lab, ofStr_length]; omega
  simp only [label_loop hs hl, bindO_some', hInts_eq hlen (lab_range hs h)]

theorem areDigests_eq {l : List Int} : M_I_areDigests l = some (decide (l.length ≤ 400) && okD l) := by
  unfold M_I_areDigests
  by_cases h : l.length ≤ 400
  · have e1 : decide (((l.length : Nat) : Int) ≤ 400) = true := by simp; omega
    rw [e1, cond_true, areAll_eq (p := fun n => decide (0 ≤ n ∧ n ≤ 4611686018427387903)) (by omega) fun a _ => by simp [M_I_isDigest, within_eq], bindO_some']
    simp [h, okD]
  · have e1 : decide (((l.length : Nat) : Int) ≤ 400) = false := by simp; omega
    simp [e1, h]

theorem I_HashInts_eq {l : List Int} : M_I_HashInts l = some (if l.length ≤ 400 ∧ okD l = true then (digest l, true) else (0, false)) := by
  unfold M_I_HashInts
  rw [areDigests_eq, bindO_some']
  by_cases h : l.length ≤ 400 ∧ okD l = true
  · rw [if_pos h, hash_eq (by omega) (okD_spec h.2)]
    simp [h.1, h.2]
  · rw [if_neg h]
    have : (decide (l.length ≤ 400) && okD l) = false := by
      rw [Bool.and_eq_false_iff, decide_eq_false_iff_not]
      by_cases h1 : l.length ≤ 400
      · right
        cases h2 : okD l
        · rfl
        · exact absurd ⟨h1, h2⟩ h
      · exact .inl h1
    rw [this]
    rfl

theorem I_HashLabelled_eq {s : ByteArray} {l : List Int} : M_I_HashLabelled (s, l) = some (hashL s l) := by
  unfold M_I_HashLabelled hashL
  by_cases h1 : s.size ≤ 40
  · by_cases h2 : l.length ≤ 400
    · have e1 : decide (((s.size : Nat) : Int) > 40) = false := by simp; omega
      have e2 : decide (((l.length : Nat) : Int) > 400) = false := by simp; omega
      simp only [e1, e2, cond_false]
      rw [labelled_eq, label_loop (by omega) (by omega), bindO_some', I_HashInts_eq, bindO_some', lab_okD (by omega)]
      have e3 : ((lab s l).length ≤ 400 ∧ okD l = true) ↔ (s.size ≤ 40 ∧ okD l = true ∧ 1 + s.size + l.length ≤ 400) := by
        simp only [lab, List.length_cons, List.length_append, ofStr_length]
        constructor
        · rintro ⟨a, b⟩; exact ⟨h1, b, by omega⟩
        · rintro ⟨a, b, c⟩; exact ⟨by omega, b⟩
      simp only [e3]
    · have e1 : decide (((s.size : Nat) : Int) > 40) = false := by simp; omega
      have e2 : decide (((l.length : Nat) : Int) > 400) = true := by simp; omega
      rw [if_neg (fun h => by omega)]
      simp only [e1, e2, cond_false, cond_true]
  · have e1 : decide (((s.size : Nat) : Int) > 40) = true := by simp; omega
    rw [if_neg (fun h => h1 h.1)]
    simp only [e1, cond_true]

theorem pow_range {p x : Int} {k : Nat} (hp : 1 ≤ p) : 0 ≤ x ^ k % p ∧ x ^ k % p < p :=
  ⟨Int.emod_nonneg _ (by omega), Int.emod_lt_of_pos _ (by omega)⟩

/-- Is a cipher one of elements? -/
def isCi (p q : Int) (c : Int × Int) : Bool := isEl p q c.1 && isEl p q c.2

theorem hasCipher_eq {p q g : Int} {c : Int × Int} (h : Gr p q g) : M_I_Group_hasCipher ((p, q, g), c) = some (isCi p q c) := by
  unfold M_I_Group_hasCipher isCi
  simp only [has_eq' h, bindO_some']
  cases isEl p q c.1 <;> simp

theorem eGood_eq {p q g : Int} {l : List (Int × Int)} (h : Gr p q g) : M_S_eGood ((p, q, g), l) = some (decide (l.length ≤ 24) && l.all (isCi p q)) := by
  unfold M_S_eGood
  by_cases hl : l.length ≤ 24
  · have e1 : decide (((l.length : Nat) : Int) > 24) = false := by simp; omega
    dsimp only
    rw [e1, cond_false]
    simp only [hl, decide_true, Bool.true_and]
    refine (loop_walk l (fun _ a k => if (isCi p q a) = true then k else some false) (some true) (fun again i a ha hi' => ?_) (fun again => ?_) (by omega)).trans (walk_all (isCi p q) l 0)
    · simp only [getI_nat, ha, bindO_some', i64_succ (show i < 2 ^ 62 by omega), lt_yes hi', cond_true, gIs_eq h (show [a.1, a.2].length < 2 ^ 62 by show (2 : Nat) < _; omega)]
      have : [a.1, a.2].all (isEl p q) = isCi p q a := by simp [isCi]
      rw [this]
      cases isCi p q a <;> rfl
    · simp
  · have e1 : decide (((l.length : Nat) : Int) > 24) = true := by simp; omega
    simp [e1, hl]

/-- a over b. -/
def over (p q a b : Int) : Int := prodM p 1 [a, b ^ (q - 1).toNat % p]

theorem mul2 {p q g a b : Int} (h : Gr p q g) (ha : 0 ≤ a ∧ a ≤ p) (hb : 0 ≤ b ∧ b ≤ p) : M_S_gMul ((p, q, g), [a, b]) = some (prodM p 1 [a, b]) := by
  have := h.p3; have := h.pm
  refine gMul_eq h (fun x hx => ?_) (by show (2 : Nat) < _; omega)
  simp only [List.mem_cons, List.not_mem_nil, or_false] at hx
  rcases hx with rfl | rfl <;> omega

theorem mul2' {p q g a b : Int} (h : Gr p q g) (ha : 0 ≤ a ∧ a ≤ p) (hb : 0 ≤ b ∧ b ≤ p) : M_I_Group_mul ((p, q, g), [a, b]) = some (prodM p 1 [a, b]) := by
  have := h.p3; have := h.pm
  refine Group_mul_eq h (fun x hx => ?_) (by show (2 : Nat) < _; omega)
  simp only [List.mem_cons, List.not_mem_nil, or_false] at hx
  rcases hx with rfl | rfl <;> omega

theorem prod_range {p : Int} {l : List Int} (hp : 2 ≤ p) : 0 ≤ prodM p 1 l ∧ prodM p 1 l < p := prodM_range (by omega) l 1 (by omega) (.inl (by omega))

theorem toGroup_eq (x : Int × Int × Int) : M_L_toGroup x = some x := rfl

theorem toCipher_eq (x : Int × Int) : M_L_toCipher x = some x := rfl

/-- Steps of a function that calls itself: nothing or the answer; the answer in the end. -/
def Comes {α β : Type} (R : Nat → α → Option β) (x : α) (N : Nat) (y : β) : Prop := ∀ m, (R m x = none ∨ R m x = some y) ∧ (N ≤ m → R m x = some y)

theorem Comes.lim {α β : Type} {R : Nat → α → Option β} {x : α} {N : Nat} {y : β} (h : Comes R x N y) : limO R x = some y :=
  limO_eq ⟨N, (h N).2 (Nat.le_refl _)⟩ fun n z hz => by
    rcases (h n).1 with h1 | h1
    · rw [h1] at hz; cases hz
    · rw [h1] at hz; cases hz; rfl

theorem set_take_succ {α : Type} {x s : List α} {i : Nat} {a : α} (hx : x[i]? = some a) (hs : s.length = x.length) (ht : s.take i = x.take i) : (s.set i a).take (i + 1) = x.take (i + 1) := by
  have hi : i < x.length := (List.getElem?_eq_some_iff.1 hx).1
  rw [List.take_add_one, List.take_add_one, hx, List.take_set, List.getElem?_set_self (by omega), ← ht]
  congr 1
  rw [List.set_eq_of_length_le (by rw [List.length_take]; omega)]

/-- A list is written anew, element by element. -/
theorem copy_loop {α : Type} (x : List α) (z : α) {body : (Int × List α → Option (List α)) → Int × List α → Option (List α)}
    (h : ∀ (again : Int × List α → Option (List α)) (i : Nat) a (s : List α), x[i]? = some a → i < x.length → s.length = x.length → body again ((i : Int), s) = again (((i + 1 : Nat) : Int), s.set i a))
    (hend : ∀ (again : Int × List α → Option (List α)) (s : List α), s.length = x.length → body again ((x.length : Int), s) = some s) (hl : x.length < 2 ^ 62) : loopO body (0, List.replicate x.length z) = some x := by
  refine (loopO_for (σ := List α) (fun i s => ((i : Int), s)) x.length (fun i s => some x) (fun i s => s.length = x.length ∧ s.take i = x.take i) (fun again s hs => ?_) (fun again i s hi hs ih => ?_) (by omega) (i := 0) (s := List.replicate x.length z) (Nat.zero_le _) (by simp)).trans rfl
  · rw [hend again s hs.1]
    have := hs.2
    rw [List.take_length, ← hs.1, List.take_length] at this
    rw [this]
  · have ha := List.getElem?_eq_getElem hi
    rw [h again i x[i] s ha hi hs.1]
    exact ih _ ⟨by simp [hs.1], set_take_succ ha hs.1 hs.2⟩

/-- Two lists are compared, element by element. -/
theorem eq_loop {α : Type} [DecidableEq α] (a b : List α) (hab : a.length = b.length) {body : (Int → Option Bool) → Int → Option Bool}
    (h : ∀ (again : Int → Option Bool) (i : Nat) x y, a[i]? = some x → b[i]? = some y → i < a.length → body again (i : Int) = if x = y then again ((i + 1 : Nat) : Int) else some false)
    (hend : ∀ (again : Int → Option Bool), body again (a.length : Int) = some true) (hl : a.length < 2 ^ 62) : loopO body 0 = some (decide (a = b)) := by
  refine (loopO_for (σ := Unit) (fun i _ => (i : Int)) a.length (fun i _ => some (decide (a.drop i = b.drop i))) (fun _ _ => True) (fun again _ _ => ?_) (fun again i _ hi _ ih => ?_) (by omega) (i := 0) (s := ()) (Nat.zero_le _) trivial).trans (by simp)
  · rw [hend]; simp [hab]
  · have hi' : i < b.length := by omega
    rw [h again i a[i] b[i] (List.getElem?_eq_getElem hi) (List.getElem?_eq_getElem hi') hi, ih () trivial, List.drop_eq_getElem_cons hi, List.drop_eq_getElem_cons hi']
    by_cases he : a[i] = b[i] <;> simp [he, -List.getElem_cons_drop]

theorem szIntS_eq {a : List Int} {left : Int} (h0 : 0 ≤ left) (h1 : left ≤ 1048576) (hl : a.length < 2 ^ 63) : M_L_szIntS (a, left) = some (if left < a.length then -1 else left - a.length) := by
  unfold M_L_szIntS
  simp only [i64_in (left - (a.length : Int)) (by omega), bindO_some']
  by_cases h : left < a.length
  · rw [if_pos h]
    have : left - (a.length : Int) < 0 := by omega
    simp [this]
  · rw [if_neg h]
    have : ¬ left - (a.length : Int) < 0 := by omega
    simp [this]

theorem all_not_any {α : Type} {p q : α → Bool} {l : List α} (h : ∀ a ∈ l, q a = !p a) : l.all p = !l.any q := by
  induction l with
  | nil => rfl
  | cons a l ih =>
    rw [List.all_cons, List.any_cons, ih fun b hb => h b (List.mem_cons_of_mem _ hb), h a (List.mem_cons_self ..)]
    cases p a <;> simp

theorem Nat.beq_eq_decide_eq' (a b : Nat) : (a == b) = decide (a = b) := rfl

/-- A list is put together, element by element. -/
theorem append_loop {α β : Type} (y : List α) (fin : List α → Option β) {body : (List α × Int → Option β) → List α × Int → Option β}
    (h : ∀ (again : List α × Int → Option β) (i : Nat) a (s : List α), y[i]? = some a → i < y.length → s.length = i → body again (s, (i : Int)) = again (s ++ [a], ((i + 1 : Nat) : Int)))
    (hend : ∀ (again : List α × Int → Option β) (s : List α), s.length = y.length → body again (s, (y.length : Int)) = fin s) (hl : y.length < 2 ^ 62) : loopO body ([], 0) = fin y := by
  refine (loopO_for (σ := List α) (fun i s => (s, (i : Int))) y.length (fun i s => fin y) (fun i s => s = y.take i) (fun again s hs => ?_) (fun again i s hi hs ih => ?_) (by omega) (i := 0) (s := []) (Nat.zero_le _) (by simp)).trans rfl
  · subst hs
    rw [List.take_length]
    exact hend again y rfl
  · subst hs
    have ha := List.getElem?_eq_getElem hi
    rw [h again i y[i] _ ha hi (by simp; omega)]
    refine ih _ ?_
    rw [List.take_add_one, ha]
    rfl

def pw (p q x e : Int) : Int := x ^ (e % q).toNat % p

theorem pw_range {p q x e : Int} (hp : 1 ≤ p) : 0 ≤ pw p q x e ∧ pw p q x e < p := pow_range hp

theorem gExp_pw {p q g x e : Int} (h : Gr p q g) (hx : 0 ≤ x) (hx2 : x ≤ p) : M_S_gExp ((p, q, g), x, e) = some (pw p q x e) := gExp_eq h hx hx2

theorem pow_pw {p q g x e : Int} (h : Gr p q g) (hx : 0 ≤ x) (hx2 : x ≤ p) : M_I_Group_pow ((p, q, g), x, e) = some (pw p q x e) := Group_pow_eq h hx hx2

theorem containsFuncC_eq {l : List (Int × Int)} {f : Int × Int → Option Bool} {p : Int × Int → Bool} (hl : l.length < 2 ^ 62) (hf : ∀ a ∈ l, f a = some (p a)) : M_slices_ContainsFunc_sI_Cipher_I_Cipher (l, f) = some (l.any p) := by
  obtain ⟨j, h1, h2⟩ := walk_index_mem p f l 0 hf
  unfold M_slices_ContainsFunc_sI_Cipher_I_Cipher
  have : M_slices_IndexFunc_sI_Cipher_I_Cipher (l, f) = some j := by
    unfold M_slices_IndexFunc_sI_Cipher_I_Cipher
    refine (loop_walk l _ _ (fun again i a ha hi => ?_) (fun again => ?_) (by omega)).trans h1
    · simp only [getI_nat, ha, bindO_some', i64_succ (show i < 2 ^ 62 by omega), lt_yes hi, cond_true]
    · simp
  dsimp only
  rw [this, bindO_some', h2]

theorem hasCiphers_eq {p q g : Int} {l : List (Int × Int)} (h : Gr p q g) (hl : l.length < 2 ^ 62) : M_I_Group_hasCiphers ((p, q, g), l) = some (decide (l.length ≤ 24) && l.all (isCi p q)) := by
  unfold M_I_Group_hasCiphers
  have e : decide (((l.length : Nat) : Int) ≤ 24) = decide (l.length ≤ 24) := by rw [decide_eq_decide]; omega
  dsimp only
  rw [e, containsFuncC_eq (p := fun c => !isCi p q c) hl fun a _ => ?_, bindO_some', all_not_any fun _ _ => rfl]
  · cases decide (l.length ≤ 24) <;> rfl
  · unfold M_I_Group_hasCiphers_1
    dsimp only
    rw [hasCipher_eq h]
    rfl

theorem areExps_eq {p q g : Int} {l : List Int} (h : Gr p q g) (hl : l.length < 2 ^ 62) : M_I_Group_areExps ((p, q, g), l) = some (l.all fun e => decide (0 ≤ e ∧ e ≤ q - 1)) := by
  unfold M_I_Group_areExps
  dsimp only
  rw [areAll_eq (p := fun e => decide (0 ≤ e ∧ e ≤ q - 1)) hl fun a _ => by rw [isExp_eq h]; rfl]
  rfl

theorem szCipherS_eq {a : List (Int × Int)} {left : Int} (h0 : 0 ≤ left) (h1 : left ≤ 1048576) (hl : a.length < 2 ^ 63) : M_L_szCipherS (a, left) = some (if left < a.length then -1 else left - a.length) := by
  unfold M_L_szCipherS
  simp only [i64_in (left - (a.length : Int)) (by omega), bindO_some']
  by_cases h : left < a.length
  · rw [if_pos h]
    have : left - (a.length : Int) < 0 := by omega
    simp [this]
  · rw [if_neg h]
    have : ¬ left - (a.length : Int) < 0 := by omega
    simp [this]

theorem toCipherS_eq {x : List (Int × Int)} (h : x.length ≤ 1048576) : M_L_toCipherS x = some x := by
  unfold M_L_toCipherS
  have hx : (x.length : Int) ≤ ((lim : Nat) : Int) := by rw [lim_eq]; omega
  rw [guardO_of (by simpa using hx), bindO_some', Int.toNat_natCast]
  refine copy_loop x (0, 0) (fun again i a s ha hi hs => ?_) (fun again s hs => ?_) (by omega)
  · have hsi := List.getElem?_eq_getElem (l := s) (show i < s.length by omega)
    simp only [lt_yes hi, cond_true, getI_nat, ha, hsi, bindO_some', toCipher_eq, Int.toNat_natCast, i64_succ (show i < 2 ^ 62 by omega)]
  · simp

theorem eqCipher_eq (a b : Int × Int) : M_L_eqCipher (a, b) = some (decide (a = b)) := by
  obtain ⟨a1, a2⟩ := a
  obtain ⟨b1, b2⟩ := b
  unfold M_L_eqCipher
  by_cases h1 : a1 = b1 <;> by_cases h2 : a2 = b2 <;> simp [h1, h2, bne_dec]

theorem eqCipherS_eq {a b : List (Int × Int)} (h : a.length < 2 ^ 62) : M_L_eqCipherS (a, b) = some (decide (a = b)) := by
  unfold M_L_eqCipherS
  by_cases hl : a.length = b.length
  · have e1 : ((a.length : Int) != (b.length : Int)) = false := by simp [hl]
    dsimp only
    rw [e1, cond_false]
    refine eq_loop a b hl (fun again i x y hx hy hi => ?_) (fun again => by simp) h
    simp only [lt_yes hi, cond_true, getI_nat, hx, hy, bindO_some', eqCipher_eq, i64_succ (show i < 2 ^ 62 by omega)]
    by_cases he : x = y <;> simp [he]
  · have e1 : ((a.length : Int) != (b.length : Int)) = true := by simp; omega
    dsimp only
    rw [e1, cond_true]
    congr 1
    symm
    simp only [decide_eq_false_iff_not]
    rintro rfl
    exact hl rfl

theorem wf_cs {x : List (Int × Int)} (h : WF (.sl (.cons (.int .i64) (.one (.int .i64)))) x) : x.length < 2 ^ 63 := by
  have h' : x.length ≤ maxLen := h.1
  have hm : maxLen < 2 ^ 63 := by decide
  omega

def small (q : Int) (l : List Int) (i : Nat) : Int := 1 + digest (lab (bytesOf [115, 109, 97, 108, 108]) (l ++ [(i : Int)])) % (if 65535 < q - 1 then 65535 else q - 1)

/-- The challenge of a proof. -/
def chal (p q g : Int) (s : ByteArray) (l : List Int) : Int := digest (lab s ([p, q, g] ++ l)) % q

theorem okD_gr {p q g : Int} (h : Gr p q g) {l : List Int} (hl : okD l = true) : okD ([p, q, g] ++ l) = true := by
  have := h.p3; have := h.pm; have := h.q2; have := h.qp; have := h.g2; have := h.gp
  unfold okD at hl ⊢
  rw [List.all_append, hl]
  simp
  omega

theorem hChallenge_eq {p q g : Int} {s : ByteArray} {l : List Int} (h : Gr p q g) (hs : s.size < 2 ^ 30) (hl : okD l = true) (hn : l.length < 2 ^ 20) : M_S_hChallenge ((p, q, g), s, l) = some (chal p q g s l) := by
  unfold M_S_hChallenge
  have := h.q2
  have hr := digest_range (lab s ([p, q, g] ++ l))
  dsimp only
  rw [guardO_of (lenOk_of (by simp; omega)), bindO_some', bindO_some', hLabelled_eq hs (by simp; omega) (okD_gr h hl), bindO_some', guardO_of (by simp; omega), bindO_some', bindO_some', tmod_nn hr.1]
  rfl

theorem challenge_eq {p q g : Int} {s : ByteArray} {l : List Int} (h : Gr p q g) (hs : s.size ≤ 40) (hl : okD l = true) (hn : s.size + l.length ≤ 396) : M_I_Group_challenge ((p, q, g), s, l) = some (chal p q g s l, true) := by
  unfold M_I_Group_challenge
  have := h.q2
  have hr := digest_range (lab s ([p, q, g] ++ l))
  dsimp only
  rw [guardO_of (lenOk_of (by simp; omega)), bindO_some', bindO_some', I_HashLabelled_eq, hashL, if_pos ⟨hs, okD_gr h hl, by simp; omega⟩, bindO_some']
  simp only [Bool.not_true, cond_false]
  rw [guardO_of (by simp; omega), bindO_some', bindO_some', tmod_nn hr.1]
  rfl

abbrev Pf := List Int × List Int × List Int

def Pf.small (a : Pf) (n : Nat) : Prop := a.1.length ≤ n ∧ a.2.1.length ≤ n ∧ a.2.2.length ≤ n

theorem eqProof_eq {a b : Pf} (h : a.small (2 ^ 40)) : M_L_eqProof (a, b) = some (decide (a = b)) := by
  obtain ⟨a1, a2, a3⟩ := a
  obtain ⟨b1, b2, b3⟩ := b
  obtain ⟨h1, h2, h3⟩ := h
  dsimp only at h1 h2 h3
  unfold M_L_eqProof
  dsimp only
  rw [eqIntS_eq (by omega), bindO_some', eqIntS_eq (by omega), eqIntS_eq (by omega)]
  by_cases e1 : a1 = b1 <;> by_cases e2 : a2 = b2 <;> by_cases e3 : a3 = b3 <;> simp [e1, e2, e3]

theorem toProof_eq {a : Pf} (h : a.small 1048576) : M_L_toProof a = some a := by
  obtain ⟨a1, a2, a3⟩ := a
  obtain ⟨g1, g2, g3⟩ := h
  dsimp only at g1 g2 g3
  unfold M_L_toProof
  dsimp only
  rw [toIntS_eq g1, bindO_some', toIntS_eq g2, bindO_some', toIntS_eq g3, bindO_some']

theorem szProof_eq {a : Pf} {left : Int} (h0 : 0 ≤ left) (h1 : left ≤ 1048576) (hl : a.small (2 ^ 63 - 1)) : ∃ k, M_L_szProof (a, left) = some k ∧ k ≤ left ∧ (0 ≤ k → k = left - (a.1.length + a.2.1.length + a.2.2.length)) := by
  obtain ⟨a1, a2, a3⟩ := a
  obtain ⟨g1, g2, g3⟩ := hl
  dsimp only at g1 g2 g3 ⊢
  unfold M_L_szProof
  dsimp only
  rw [szIntS_eq h0 h1 (by omega), bindO_some']
  by_cases e1 : left < a1.length
  · rw [if_pos e1]
    exact ⟨-1, rfl, by omega, by omega⟩
  · rw [if_neg e1]
    have d1 : decide (left - (a1.length : Int) < 0) = false := by simp; omega
    rw [d1, cond_false, szIntS_eq (by omega) (by omega) (by omega), bindO_some']
    by_cases e2 : left - a1.length < a2.length
    · rw [if_pos e2]
      exact ⟨-1, rfl, by omega, by omega⟩
    · rw [if_neg e2]
      have d2 : decide (left - (a1.length : Int) - a2.length < 0) = false := by simp; omega
      rw [d2, cond_false, szIntS_eq (by omega) (by omega) (by omega), bindO_some']
      by_cases e3 : left - a1.length - a2.length < a3.length
      · rw [if_pos e3]
        exact ⟨-1, rfl, by omega, by omega⟩
      · rw [if_neg e3]
        have d3 : decide (left - (a1.length : Int) - a2.length - a3.length < 0) = false := by simp; omega
        rw [d3, cond_false]
        exact ⟨_, rfl, by omega, by omega⟩

theorem hasAll_eq {p q g : Int} {l : List Int} (h : Gr p q g) (hl : l.length < 2 ^ 62) : M_I_Group_hasAll ((p, q, g), l) = some (l.all (isEl p q)) := by
  unfold M_I_Group_hasAll
  dsimp only
  rw [areAll_eq (p := isEl p q) hl fun a _ => by rw [has_eq' h]; rfl]
  rfl

theorem okD_el {p q g : Int} (h : Gr p q g) {l : List Int} (hl : l.all (isEl p q) = true) : okD l = true := by
  have := h.pm
  refine List.all_eq_true.2 fun x hx => ?_
  have := isEl_range (List.all_eq_true.1 hl x hx)
  rw [decide_eq_true_eq]
  omega

def gpf (p q : Int) (l es : List Int) : Int := (l.zip es).foldl (fun o c => o * pw p q c.1 c.2 % p) 1

def gpStep (p q : Int) (_ : Nat) (a : Int × Int) (s : Int) (k : Int → Option Int) : Option Int := k (s * pw p q a.1 a.2 % p)

theorem gpWalk (p q : Int) : ∀ (z : List (Int × Int)) (i : Nat) (s : Int), walkS (gpStep p q) some i z s = some (z.foldl (fun o c => o * pw p q c.1 c.2 % p) s)
  | [], _, _ => rfl
  | a :: z, i, s => by
    rw [walkS, gpStep, gpWalk p q z (i + 1), List.foldl_cons]

theorem zip_get {l es : List Int} {i : Nat} {a : Int × Int} (ha : (l.zip es)[i]? = some a) : l[i]? = some a.1 ∧ es[i]? = some a.2 := by
  obtain ⟨c, e⟩ := a
  rw [List.getElem?_zip_eq_some] at ha
  exact ha

theorem zip_len {α β : Type} {l : List α} {es : List β} (h : es.length = l.length) : (l.zip es).length = l.length := by simp [h]

theorem gProd_eq {p q g : Int} {l es : List Int} (h : Gr p q g) (hl : es.length = l.length) (hx : ∀ x ∈ l, 0 ≤ x ∧ x ≤ p) (hn : l.length < 2 ^ 60) : M_S_gProd ((p, q, g), l, es) = some (gpf p q l es) := by
  unfold M_S_gProd
  dsimp only
  have h3 := h.p3; have hpm := h.pm
  have hz := zip_len hl
  have hg0 : guardO (p != 0) = some () := guardO_of (by simp; omega)
  refine (loop_walkI (fun i (s : Int) => (s, i)) (l.zip es) (gpStep p q) some (fun _ s => 0 ≤ s ∧ s < p) (fun i a s k k' ha hi hk => ?_) (fun again i a s ha hi hs => ?_) (fun again s hs => ?_) (by omega) 1 (by omega)).trans (gpWalk p q _ 0 1)
  · exact hk _ ⟨Int.emod_nonneg _ (by omega), Int.emod_lt_of_pos _ (by omega)⟩
  · obtain ⟨h1, h2⟩ := zip_get ha
    have hxa := hx a.1 (List.mem_of_getElem? h1)
    have r := pw_range (q := q) (x := a.1) (e := a.2) (show 1 ≤ p by omega)
    have e3 : 0 ≤ s * pw p q a.1 a.2 := Int.mul_nonneg hs.1 r.1
    have e4 : s * pw p q a.1 a.2 ≤ 2000000000 * 2000000000 := Int.mul_le_mul (by omega) (by omega) r.1 (by omega)
    simp only [lt_yes (show i < l.length by omega), cond_true, getI_nat, h1, h2, bindO_some', gExp_pw h hxa.1 hxa.2, i64_in (s * pw p q a.1 a.2) (by omega), hg0, tmod_nn e3, i64_succ (show i < 2 ^ 62 by omega)]
    rfl
  · rw [hz]
    simp only [lt_no, cond_false]

theorem mul_out {p s b : Int} (hs : 0 ≤ s ∧ s < p) : prodM p 1 [s, b] = s * b % p := by
  simp only [prodM]
  rw [Int.one_mul, Int.emod_eq_of_lt hs.1 hs.2]

theorem powers_eq {p q g : Int} {l es : List Int} (h : Gr p q g) (hl : es.length = l.length) (hx : ∀ x ∈ l, 0 ≤ x ∧ x ≤ p) (hn : l.length < 2 ^ 60) : M_I_Group_powers ((p, q, g), l, es) = some (gpf p q l es) := by
  unfold M_I_Group_powers
  dsimp only
  have h3 := h.p3; have hpm := h.pm
  have hz := zip_len hl
  refine (loop_walkI (fun i (s : Int) => (s, i)) (l.zip es) (gpStep p q) some (fun _ s => 0 ≤ s ∧ s < p) (fun i a s k k' ha hi hk => ?_) (fun again i a s ha hi hs => ?_) (fun again s hs => ?_) (by omega) 1 (by omega)).trans (gpWalk p q _ 0 1)
  · exact hk _ ⟨Int.emod_nonneg _ (by omega), Int.emod_lt_of_pos _ (by omega)⟩
  · obtain ⟨h1, h2⟩ := zip_get ha
    have hxa := hx a.1 (List.mem_of_getElem? h1)
    have r := pw_range (q := q) (x := a.1) (e := a.2) (show 1 ≤ p by omega)
    simp only [lt_yes (show i < l.length by omega), cond_true, getI_nat, h1, h2, bindO_some', pow_pw h hxa.1 hxa.2, mul2' h (show 0 ≤ s ∧ s ≤ p by omega) (show 0 ≤ pw p q a.1 a.2 ∧ pw p q a.1 a.2 ≤ p by omega), mul_out hs, i64_succ (show i < 2 ^ 62 by omega)]
    rfl
  · rw [hz]
    simp only [lt_no, cond_false]

theorem ne_dec (a b : Nat) : (((a : Nat) : Int) != ((b : Nat) : Int)) = !(a == b) := by
  rw [bne_dec, Nat.beq_eq_decide_eq', ← decide_not, decide_eq_decide]
  omega

theorem contest_same : M_I_IsValidContest = M_S_vContest := rfl

def lens (x : List (List Int)) : Nat := (x.map List.length).sum

theorem lens_flat (x : List (List Int)) : x.flatten.length = lens x := by simp [lens, List.length_flatten]

theorem lens_take_le (x : List (List Int)) (i : Nat) : lens (x.take i) ≤ lens x := by
  have h : lens x = lens (x.take i ++ x.drop i) := by rw [List.take_append_drop]
  rw [h]
  simp only [lens, List.map_append, List.sum_append]
  exact Nat.le_add_right _ _

theorem lens_take_succ {x : List (List Int)} {i : Nat} {a : List Int} (h : x[i]? = some a) : lens (x.take (i + 1)) = lens (x.take i) + a.length := by
  rw [List.take_add_one, h]
  simp [lens]

theorem flat_take_succ {x : List (List Int)} {i : Nat} {a : List Int} (h : x[i]? = some a) : (x.take (i + 1)).flatten = (x.take i).flatten ++ a := by
  rw [List.take_add_one, h]
  simp

theorem concat_eq {x : List (List Int)} (hx : x.length < 2 ^ 30) (ht : lens x ≤ 1073741824) : M_slices_Concat_sint_int x = some x.flatten := by
  unfold M_slices_Concat_sint_int
  refine (loopO_for (σ := Int) (fun i s => (s, (i : Int))) x.length (fun i s => some x.flatten) (fun i s => s = (lens (x.take i) : Int)) (fun again s hs => ?_) (fun again i s hi hs ih => ?_) (by omega) (i := 0) (s := 0) (Nat.zero_le _) (by simp [lens])).trans rfl
  · rw [List.take_length] at hs
    subst hs
    simp only [lt_no, cond_false]
    have hgrow : M_slices_Grow_sint_int ([], (lens x : Int)) = some [] := by
      unfold M_slices_Grow_sint_int
      dsimp only
      rw [if_pos]
      simp only [List.length_nil]
      omega
    rw [hgrow, bindO_some']
    refine (loopO_for (σ := List Int) (fun i s => (s, (i : Int))) x.length (fun i s => some x.flatten) (fun i s => s = (x.take i).flatten) (fun again s hs => ?_) (fun again i s hi hs ih => ?_) (by omega) (i := 0) (s := []) (Nat.zero_le _) (by simp)).trans rfl
    · subst hs
      simp only [lt_no, cond_false, List.take_length]
    · subst hs
      have ha := List.getElem?_eq_getElem hi
      have h1 : (x.take i).flatten.length + x[i].length ≤ 68719476736 := by
        have := lens_take_succ ha
        have := lens_take_le x (i + 1)
        rw [lens_flat]
        omega
      simp only [lt_yes hi, cond_true, getI_nat, ha, bindO_some', guardO_of (lenOk_of h1), i64_succ (show i < 2 ^ 62 by omega)]
      exact ih _ (flat_take_succ ha).symm
  · subst hs
    have ha := List.getElem?_eq_getElem hi
    have h1 := lens_take_succ ha
    have h2 := lens_take_le x (i + 1)
    have h3 : ((lens (x.take i) : Int) + (x[i].length : Int)) = ((lens (x.take (i + 1)) : Nat) : Int) := by omega
    simp only [lt_yes hi, cond_true, getI_nat, ha, bindO_some', h3, i64_in ((lens (x.take (i + 1)) : Nat) : Int) (by omega), i64_succ (show i < 2 ^ 62 by omega)]
    rw [show decide (((lens (x.take (i + 1)) : Nat) : Int) < 0) = false from decide_eq_false (by omega)]
    exact ih _ rfl

theorem concat3_eq {a b c : List Int} (h : a.length + b.length + c.length ≤ 1073741824) : M_slices_Concat_sint_int [a, b, c] = some (a ++ (b ++ c)) := by
  rw [concat_eq (by simp) (by simp only [lens, List.map_cons, List.map_nil, List.sum_cons, List.sum_nil]; omega)]
  simp

theorem sStatement_eq {x : List (List Int)} {a b : List Int} (hx : x.length < 2 ^ 30) (ht : lens x + a.length + b.length ≤ 1073741824) : M_S_sStatement (x, a, b) = some (x.flatten ++ (a ++ b)) := by
  unfold M_S_sStatement
  dsimp only
  refine (loopO_for (σ := List Int) (fun i s => (s, (i : Int))) x.length (fun i s => some (x.flatten ++ (a ++ b))) (fun i s => s = (x.take i).flatten) (fun again s hs => ?_) (fun again i s hi hs ih => ?_) (by omega) (i := 0) (s := []) (Nat.zero_le _) (by simp)).trans rfl
  · subst hs
    have hf := lens_flat x
    simp only [lt_no, cond_false, List.take_length, guardO_of (lenOk_of (show x.flatten.length + a.length ≤ 68719476736 by omega)), bindO_some', guardO_of (lenOk_of (show (x.flatten ++ a).length + b.length ≤ 68719476736 by rw [List.length_append]; omega)), List.append_assoc]
  · subst hs
    have ha := List.getElem?_eq_getElem hi
    have h1 : (x.take i).flatten.length + x[i].length ≤ 68719476736 := by
      have := lens_take_succ ha
      have := lens_take_le x (i + 1)
      rw [lens_flat]
      omega
    simp only [lt_yes hi, cond_true, getI_nat, ha, bindO_some', guardO_of (lenOk_of h1), i64_succ (show i < 2 ^ 62 by omega)]
    exact ih _ (flat_take_succ ha).symm

/-- Rows of n bases each, of the group. -/
def goodB (p q : Int) (n : Nat) (rows : List (List Int)) : Prop := ∀ r ∈ rows, r.length = n ∧ r.all (isEl p q) = true

theorem isEl_in {p q x : Int} (hx : isEl p q x = true) : 0 ≤ x ∧ x ≤ p := by
  have := isEl_range hx
  omega

theorem all_in {p q : Int} {l : List Int} (hl : l.all (isEl p q) = true) : ∀ x ∈ l, 0 ≤ x ∧ x ≤ p := fun x hx => isEl_in (List.all_eq_true.1 hl x hx)

theorem images_eq {p q g : Int} {rows : List (List Int)} {es : List Int} (h : Gr p q g) (hr : goodB p q es.length rows) (hn : rows.length < 2 ^ 30) (he : es.length < 2 ^ 30) :
    M_I_Group_images ((p, q, g), rows, es) = some (rows.map fun r => gpf p q r es) := by
  unfold M_I_Group_images
  dsimp only
  have hm : (rows.map fun r => gpf p q r es).length = rows.length := List.length_map ..
  refine append_loop (rows.map fun r => gpf p q r es) some (fun again i a s ha hi hs => ?_) (fun again s hs => ?_) (by omega)
  · rw [hm] at hi
    have hg := List.getElem?_eq_getElem hi
    rw [List.getElem?_map, hg] at ha
    cases ha
    obtain ⟨h1, h2⟩ := hr _ (List.getElem_mem hi)
    have h3 : s.length + [gpf p q rows[i] es].length ≤ 68719476736 := by simp; omega
    simp only [lt_yes hi, cond_true, getI_nat, hg, bindO_some', powers_eq h h1.symm (all_in h2) (by omega), guardO_of (lenOk_of h3), i64_succ (show i < 2 ^ 62 by omega)]
  · rw [hm]
    simp only [lt_no, cond_false]

theorem range_loop {n : Nat} (c : Nat → Bool) {body : (Int → Option Bool) → Int → Option Bool} (hn : n < 2 ^ 62)
    (h : ∀ (again : Int → Option Bool) (i : Nat), i < n → body again (i : Int) = bif c i then again ((i + 1 : Nat) : Int) else some false)
    (hend : ∀ again : Int → Option Bool, body again (n : Int) = some true) : loopO body 0 = some ((List.range n).all c) := by
  have hlen : (List.range n).length = n := List.length_range
  refine (loop_walk (List.range n) (fun _ a k => if c a = true then k else some false) (some true) (fun again i a ha hi => ?_) (fun again => ?_) (by omega)).trans (walk_all c _ 0)
  · rw [hlen] at hi
    rw [List.getElem?_range hi] at ha
    cases ha
    rw [h again i hi]
    cases c i <;> rfl
  · rw [hlen]
    exact hend again

def linC (p q g : Int) (s : ByteArray) (rows : List (List Int)) (ims : List Int) (cs : List Int) : Int := chal p q g s (rows.flatten ++ (ims ++ cs))

def linB (p q g : Int) (s : ByteArray) (rows : List (List Int)) (ims : List Int) (pf : Pf) : Bool :=
  (pf.1.length == rows.length) && ((pf.2.1.length == 1) && ((pf.2.2.length == (rows.getD 0 []).length) && (pf.1.all (isEl p q) && ((pf.2.2.all fun e => decide (0 ≤ e ∧ e ≤ q - 1)) && ((pf.2.1.getD 0 0 == linC p q g s rows ims pf.1) &&
    (List.range rows.length).all fun i => gpf p q (rows.getD i []) pf.2.2 == prodM p 1 [pf.1.getD i 0, pw p q (ims.getD i 0) (linC p q g s rows ims pf.1)])))))

theorem getD_at {α : Type} {l : List α} {i : Nat} {d : α} (h : i < l.length) : l[i]? = some (l.getD i d) := by
  rw [List.getElem?_eq_getElem h, List.getD_eq_getElem?_getD, List.getElem?_eq_getElem h]
  rfl

/-- Rows that a proof may be asked of. -/
structure LinOK (p q : Int) (rows : List (List Int)) (ims : List Int) : Prop where
  n1 : 1 ≤ rows.length
  n8 : rows.length ≤ 8
  m1 : 1 ≤ (rows.getD 0 []).length
  m8 : (rows.getD 0 []).length ≤ 8
  good : goodB p q (rows.getD 0 []).length rows
  len : ims.length = rows.length
  ims : ims.all (isEl p q) = true

theorem lens_good {p q : Int} {n : Nat} : ∀ {rows : List (List Int)}, goodB p q n rows → lens rows = rows.length * n
  | [], _ => by simp [lens]
  | r :: rows, h => by
    have ih := lens_good (rows := rows) fun x hx => h x (List.mem_cons_of_mem _ hx)
    have h1 := (h r List.mem_cons_self).1
    simp only [lens, List.map_cons, List.sum_cons, List.length_cons] at ih ⊢
    rw [ih, h1, Nat.add_mul, Nat.one_mul, Nat.add_comm]

theorem okD_append {a b : List Int} : okD (a ++ b) = (okD a && okD b) := by simp [okD]

theorem okD_flat {p q g : Int} (h : Gr p q g) {n : Nat} {rows : List (List Int)} (hr : goodB p q n rows) : okD rows.flatten = true := by
  simp only [okD, List.all_eq_true]
  intro x hx
  obtain ⟨r, h1, h2⟩ := List.mem_flatten.1 hx
  have := okD_el h (hr r h1).2
  simp only [okD, List.all_eq_true] at this
  exact this x h2

theorem lin_okD {p q g : Int} (h : Gr p q g) {rows : List (List Int)} {ims cs : List Int} (hL : LinOK p q rows ims) (hc : cs.all (isEl p q) = true) : okD (rows.flatten ++ (ims ++ cs)) = true := by
  rw [okD_append, okD_append, okD_flat h hL.good, okD_el h hL.ims, okD_el h hc]
  rfl

theorem lin_len {p q : Int} {rows : List (List Int)} {ims cs : List Int} (hL : LinOK p q rows ims) (hc : cs.length = rows.length) : lens rows ≤ 64 ∧ (rows.flatten ++ (ims ++ cs)).length ≤ 80 := by
  have h1 := lens_good hL.good
  have h2 : rows.length * (rows.getD 0 []).length ≤ 8 * 8 := Nat.mul_le_mul hL.n8 hL.m8
  have h3 := hL.len; have h4 := hL.n8
  simp only [List.length_append, lens_flat]
  omega

theorem lin_challenge {p q g : Int} {s : ByteArray} (h : Gr p q g) (hs : s.size ≤ 40) {rows : List (List Int)} {ims cs : List Int} (hL : LinOK p q rows ims) (hc : cs.all (isEl p q) = true) (hlen : cs.length = rows.length) :
    M_S_hChallenge ((p, q, g), s, rows.flatten ++ (ims ++ cs)) = some (linC p q g s rows ims cs) ∧ M_I_Group_challenge ((p, q, g), s, rows.flatten ++ (ims ++ cs)) = some (linC p q g s rows ims cs, true) := by
  have h1 := lin_okD h hL hc
  have h2 := (lin_len hL hlen).2
  exact ⟨hChallenge_eq h (by omega) h1 (by omega), challenge_eq h hs h1 (by omega)⟩

theorem sVerify_eq {p q g : Int} {s : ByteArray} {rows : List (List Int)} {ims : List Int} {pf : Pf} (h : Gr p q g) (hs : s.size ≤ 40) (hL : LinOK p q rows ims) (hp : pf.small 1048576) :
    M_S_sVerify ((p, q, g), s, rows, ims, pf) = some (linB p q g s rows ims pf) := by
  obtain ⟨cs, ch, rs⟩ := pf
  obtain ⟨p1, p2, p3⟩ := hp
  dsimp only at p1 p2 p3
  unfold M_S_sVerify linB
  have h0 : rows[0]? = some (rows.getD 0 []) := getD_at (by have := hL.n1; omega)
  simp only [getI_zero, h0, bindO_some', ne_dec, gIs_eq h (show cs.length < 2 ^ 62 by omega), gExps_eq h (show rs.length < 2 ^ 62 by omega)]
  rw [show (((ch.length : Nat) : Int) != 1) = !(ch.length == 1) from ne_dec ch.length 1]
  cases e1 : cs.length == rows.length
  · rfl
  cases e2 : ch.length == 1
  · rfl
  cases e3 : rs.length == (rows.getD 0 []).length
  · rfl
  cases e4 : cs.all (isEl p q)
  · rfl
  cases e5 : rs.all fun e => decide (0 ≤ e ∧ e ≤ q - 1)
  · rfl
  have e1' : cs.length = rows.length := by simpa using e1
  have e2' : ch.length = 1 := by simpa using e2
  have e3' : rs.length = (rows.getD 0 []).length := by simpa using e3
  have hl := lin_len hL e1'
  have hn := hL.n8; have hi := hL.len
  simp only [Bool.not_true, cond_false, getD_at (d := (0 : Int)) (show 0 < ch.length by omega), bindO_some', sStatement_eq (show rows.length < 2 ^ 30 by omega) (show lens rows + ims.length + cs.length ≤ 1073741824 by omega), (lin_challenge h hs hL e4 e1').1]
  cases e6 : ch.getD 0 0 == linC p q g s rows ims cs
  · simp only [bne, e6]
    rfl
  have e6' : ch.getD 0 0 = linC p q g s rows ims cs := by simpa using e6
  simp only [bne, e6, Bool.not_true, cond_false, Bool.true_and]
  refine range_loop _ (by omega) (fun again i hi => ?_) (fun again => ?_)
  · have hm := hL.good (rows.getD i []) (List.mem_of_getElem? (getD_at hi))
    have hci := isEl_in (List.all_eq_true.1 e4 _ (List.mem_of_getElem? (getD_at (d := (0 : Int)) (show i < cs.length by omega))))
    have hii := isEl_in (List.all_eq_true.1 hL.ims _ (List.mem_of_getElem? (getD_at (d := (0 : Int)) (show i < ims.length by omega))))
    have r := pw_range (q := q) (x := ims.getD i 0) (e := linC p q g s rows ims cs) (show 1 ≤ p by have := h.p3; omega)
    simp only [lt_yes hi, cond_true, getI_nat, getD_at (d := ([] : List Int)) hi, getD_at (d := (0 : Int)) (show i < cs.length by omega), getD_at (d := (0 : Int)) (show i < ims.length by omega), bindO_some', gProd_eq h (e3'.trans hm.1.symm) (all_in hm.2) (by rw [hm.1]; have := hL.m8; omega), e6',
      gExp_pw h hii.1 hii.2, mul2 h hci (show 0 ≤ pw p q (ims.getD i 0) (linC p q g s rows ims cs) ∧ pw p q (ims.getD i 0) (linC p q g s rows ims cs) ≤ p by omega), i64_succ (show i < 2 ^ 62 by omega), bne]
    cases gpf p q (rows.getD i []) rs == prodM p 1 [cs.getD i 0, pw p q (ims.getD i 0) (linC p q g s rows ims cs)] <;> rfl
  · simp only [lt_no, cond_false]

theorem verifyLinear_eq {p q g : Int} {s : ByteArray} {rows : List (List Int)} {ims : List Int} {pf : Pf} (h : Gr p q g) (hs : s.size ≤ 40) (hL : LinOK p q rows ims) (hp : pf.small 1048576) :
    M_I_Group_verifyLinear ((p, q, g), s, rows, ims, pf) = some (linB p q g s rows ims pf) := by
  obtain ⟨cs, ch, rs⟩ := pf
  obtain ⟨p1, p2, p3⟩ := hp
  dsimp only at p1 p2 p3
  unfold M_I_Group_verifyLinear linB
  have h0 : rows[0]? = some (rows.getD 0 []) := getD_at (by have := hL.n1; omega)
  simp only [getI_zero, h0, bindO_some', ne_dec, hasAll_eq h (show cs.length < 2 ^ 62 by omega), areExps_eq h (show rs.length < 2 ^ 62 by omega)]
  rw [show (((ch.length : Nat) : Int) != 1) = !(ch.length == 1) from ne_dec ch.length 1]
  cases e1 : cs.length == rows.length
  · rfl
  cases e2 : ch.length == 1
  · rfl
  cases e3 : rs.length == (rows.getD 0 []).length
  · rfl
  cases e4 : cs.all (isEl p q)
  · rfl
  cases e5 : rs.all fun e => decide (0 ≤ e ∧ e ≤ q - 1)
  · rfl
  have e1' : cs.length = rows.length := by simpa using e1
  have e2' : ch.length = 1 := by simpa using e2
  have e3' : rs.length = (rows.getD 0 []).length := by simpa using e3
  have hl := lin_len hL e1'
  have hf := lens_flat rows
  have hn := hL.n8; have hi := hL.len; have hm8 := hL.m8
  simp only [Bool.not_true, cond_false, concat_eq (show rows.length < 2 ^ 30 by omega) (show lens rows ≤ 1073741824 by omega), bindO_some', concat3_eq (show rows.flatten.length + ims.length + cs.length ≤ 1073741824 by omega), (lin_challenge h hs hL e4 e1').2,
    getD_at (d := (0 : Int)) (show 0 < ch.length by omega), images_eq h (show goodB p q rs.length rows by rw [e3']; exact hL.good) (show rows.length < 2 ^ 30 by omega) (show rs.length < 2 ^ 30 by omega)]
  cases e6 : ch.getD 0 0 == linC p q g s rows ims cs
  · simp only [bne, e6]
    rfl
  simp only [bne, e6, Bool.not_true, cond_false, Bool.true_and, List.length_map]
  refine range_loop _ (by omega) (fun again i hi => ?_) (fun again => ?_)
  · have hci := isEl_in (List.all_eq_true.1 e4 _ (List.mem_of_getElem? (getD_at (d := (0 : Int)) (show i < cs.length by omega))))
    have hii := isEl_in (List.all_eq_true.1 hL.ims _ (List.mem_of_getElem? (getD_at (d := (0 : Int)) (show i < ims.length by omega))))
    have r := pw_range (q := q) (x := ims.getD i 0) (e := linC p q g s rows ims cs) (show 1 ≤ p by have := h.p3; omega)
    simp only [lt_yes hi, cond_true, getI_nat, List.getElem?_map, getD_at (d := ([] : List Int)) hi, Option.map_some, getD_at (d := (0 : Int)) (show i < cs.length by omega), getD_at (d := (0 : Int)) (show i < ims.length by omega), bindO_some',
      pow_pw h hii.1 hii.2, mul2' h hci (show 0 ≤ pw p q (ims.getD i 0) (linC p q g s rows ims cs) ∧ pw p q (ims.getD i 0) (linC p q g s rows ims cs) ≤ p by omega), i64_succ (show i < 2 ^ 62 by omega)]
    cases gpf p q (rows.getD i []) rs == prodM p 1 [cs.getD i 0, pw p q (ims.getD i 0) (linC p q g s rows ims cs)] <;> rfl
  · simp only [lt_no, cond_false]

theorem isEl_of {p q g t : Int} (h : Gr p q g) (ht : t ^ q.toNat % p = 1) : isEl p q (t % p) = true := by
  have h3 := h.p3; have h2 := h.q2
  have e1 : (t % p) ^ q.toNat % p = 1 := by rw [pow_mod, ht]
  have e2 := Int.emod_nonneg t (show p ≠ 0 by omega)
  have e3 := Int.emod_lt_of_pos t (show 0 < p by omega)
  have e4 : t % p ≠ 0 := by
    intro h0
    rw [h0, Int.zero_pow (show q.toNat ≠ 0 by omega)] at e1
    simp at e1
  unfold isEl
  rw [e1]
  simp only [BEq.rfl, Bool.and_true, decide_eq_true_eq]
  omega

theorem pow_one_mod {p t : Int} {k n : Nat} (hp : 3 ≤ p) (h : t ^ n % p = 1) : (t ^ k) ^ n % p = 1 := by
  rw [← Int.pow_mul, Nat.mul_comm, Int.pow_mul, ← pow_mod, h, Int.one_pow]
  exact Int.emod_eq_of_lt (by omega) (by omega)

theorem isEl_pow {p q g x : Int} (h : Gr p q g) (hx : isEl p q x = true) (k : Nat) : isEl p q (x ^ k % p) = true := isEl_of h (pow_one_mod h.p3 (isEl_range hx).2.2)

theorem isEl_pw {p q g x e : Int} (h : Gr p q g) (hx : isEl p q x = true) : isEl p q (pw p q x e) = true := isEl_pow h hx _

theorem isEl_mulm {p q g a b : Int} (h : Gr p q g) (ha : isEl p q a = true) (hb : isEl p q b = true) : isEl p q (a * b % p) = true := by
  refine isEl_of h ?_
  have h3 := h.p3
  rw [Int.mul_pow, Int.mul_emod, (isEl_range ha).2.2, (isEl_range hb).2.2]
  exact Int.emod_eq_of_lt (by omega) (by omega)

theorem isEl_mul {p q g a b : Int} (h : Gr p q g) (ha : isEl p q a = true) (hb : isEl p q b = true) : isEl p q (prodM p 1 [a, b]) = true := by
  have h1 := isEl_range ha
  rw [mul_out (by omega)]
  exact isEl_mulm h ha hb

theorem isEl_g {p q g : Int} (h : Gr p q g) : isEl p q g = true := by
  have := h.g2; have := h.gp
  unfold isEl
  rw [h.gq]
  simp only [BEq.rfl, Bool.and_true, decide_eq_true_eq]
  omega

theorem mul_one {p x : Int} (hp : 2 ≤ p) (hx : 0 ≤ x ∧ x < p) : prodM p 1 [1, x] = x := by
  rw [mul_out (by omega), Int.one_mul, Int.emod_eq_of_lt hx.1 hx.2]

theorem over_mul {p q g a y : Int} (h : Gr p q g) (ha : isEl p q a = true) (hy : 0 ≤ y ∧ y < p) : over p q (prodM p 1 [a, y]) a = y := by
  have h3 := h.p3; have h2 := h.q2
  have r := isEl_range ha
  have e1 : a * a ^ (q - 1).toNat = a ^ q.toNat := by
    rw [show q.toNat = (q - 1).toNat + 1 by omega, Int.pow_succ, Int.mul_comm]
  have e2 : prodM p 1 [a, y] = a * y % p := mul_out (by omega)
  have e3 : 0 ≤ a * y % p ∧ a * y % p < p := ⟨Int.emod_nonneg _ (by omega), Int.emod_lt_of_pos _ (by omega)⟩
  unfold over
  rw [e2, mul_out e3, ← Int.mul_emod, Int.mul_right_comm, e1, Int.mul_emod, r.2.2, Int.one_mul, Int.emod_emod_of_dvd _ (Int.dvd_refl p), Int.emod_eq_of_lt hy.1 hy.2]

def mulC (p : Int) (a b : Int × Int) : Int × Int := (prodM p 1 [a.1, b.1], prodM p 1 [a.2, b.2])

theorem eMul_eq {p q g : Int} {l : List (Int × Int)} (h : Gr p q g) (hl : l.length < 2 ^ 60) (hx : ∀ c ∈ l, (0 ≤ c.1 ∧ c.1 ≤ p) ∧ 0 ≤ c.2 ∧ c.2 ≤ p) : M_S_eMul ((p, q, g), l) = some (l.foldl (mulC p) (1, 1)) := by
  have h3 := h.p3
  unfold M_S_eMul
  dsimp only
  refine (loopO_for (σ := Int × Int) (fun i s => ((i : Int), s)) l.length (fun i s => some ((l.drop i).foldl (mulC p) s)) (fun _ s => (0 ≤ s.1 ∧ s.1 < p) ∧ 0 ≤ s.2 ∧ s.2 < p) (fun again s hs => ?_) (fun again i s hi hs ih => ?_) (by omega) (i := 0) (s := (1, 1)) (Nat.zero_le _) ⟨⟨by omega, by omega⟩, by omega, by omega⟩).trans ?_
  · simp only [lt_no, cond_false, List.drop_length, List.foldl_nil]
  · have ha := List.getElem?_eq_getElem hi
    obtain ⟨x1, x2⟩ := hx _ (List.getElem_mem hi)
    simp only [lt_yes hi, cond_true, getI_nat, ha, bindO_some', mul2 h (show 0 ≤ s.1 ∧ s.1 ≤ p by omega) x1, mul2 h (show 0 ≤ s.2 ∧ s.2 ≤ p by omega) x2, i64_succ (show i < 2 ^ 62 by omega)]
    rw [List.drop_eq_getElem_cons hi, List.foldl_cons]
    exact ih (mulC p s l[i]) ⟨prod_range (by omega), prod_range (by omega)⟩
  · rfl

theorem mulTwo_eq {p q g : Int} {a b : Int × Int} (h : Gr p q g) (ha : (0 ≤ a.1 ∧ a.1 ≤ p) ∧ 0 ≤ a.2 ∧ a.2 ≤ p) (hb : (0 ≤ b.1 ∧ b.1 ≤ p) ∧ 0 ≤ b.2 ∧ b.2 ≤ p) : M_I_Group_mulTwo ((p, q, g), a, b) = some (mulC p a b) := by
  unfold M_I_Group_mulTwo
  dsimp only
  rw [mul2' h ha.1 hb.1, bindO_some', mul2' h ha.2 hb.2, bindO_some']
  rfl

theorem isCi_in {p q : Int} {c : Int × Int} (h : isCi p q c = true) : (0 ≤ c.1 ∧ c.1 ≤ p) ∧ 0 ≤ c.2 ∧ c.2 ≤ p := by
  simp only [isCi, Bool.and_eq_true] at h
  exact ⟨isEl_in h.1, isEl_in h.2⟩

theorem isCi_mulC {p q g : Int} {a b : Int × Int} (h : Gr p q g) (ha : isCi p q a = true) (hb : isCi p q b = true) : isCi p q (mulC p a b) = true := by
  simp only [isCi, Bool.and_eq_true] at ha hb ⊢
  exact ⟨isEl_mul h ha.1 hb.1, isEl_mul h ha.2 hb.2⟩

def wsum {α : Type} (w : α → Nat) (x : List α) : Nat := (x.map w).sum

theorem wsum_drop {α : Type} {w : α → Nat} {x : List α} {i : Nat} {a : α} (h : x[i]? = some a) : wsum w (x.drop i) = w a + wsum w (x.drop (i + 1)) := by
  obtain ⟨hi, rfl⟩ := List.getElem?_eq_some_iff.1 h
  rw [List.drop_eq_getElem_cons hi]
  simp only [wsum, List.map_cons, List.sum_cons]

theorem wsum_mem {α : Type} {w : α → Nat} {x : List α} {a : α} (h : a ∈ x) : w a ≤ wsum w x := by
  induction x with
  | nil => simp at h
  | cons b x ih =>
    simp only [wsum, List.map_cons, List.sum_cons] at ih ⊢
    rcases List.mem_cons.1 h with rfl | h
    · omega
    · have := ih h
      omega

theorem sz_loop {α : Type} (w : α → Nat) (x : List α) {left : Int} {body : (Int × Int → Option Int) → Int × Int → Option Int} (h0 : 0 ≤ left) (h1 : left ≤ 1048576) (hn : x.length ≤ 1048576)
    (h : ∀ (again : Int × Int → Option Int) (i : Nat) a (l : Int), x[i]? = some a → i < x.length → 0 ≤ l → l ≤ 1048576 → ∃ k, k ≤ l ∧ (0 ≤ k → k = l - w a) ∧ body again (l, (i : Int)) = if k < 0 then some (-1) else again (k, ((i + 1 : Nat) : Int)))
    (hend : ∀ (again : Int × Int → Option Int) (l : Int), body again (l, (x.length : Int)) = some l) : ∃ k, loopO body (left, 0) = some k ∧ k ≤ left ∧ (0 ≤ k → k = left - wsum w x) := by
  have := loopO_ind (body := body) (fun s (y : Option Int) => ∃ k, y = some k ∧ k ≤ s.1 ∧ (0 ≤ k → k = s.1 - wsum w (x.drop s.2.toNat))) (fun s => (0 ≤ s.1 ∧ s.1 ≤ 1048576) ∧ 0 ≤ s.2 ∧ s.2 ≤ x.length) (fun s => x.length - s.2.toNat)
    (fun again s hs ih => ?_) (s := (left, 0)) ⟨⟨h0, h1⟩, by omega, by omega⟩ (by simp only; omega)
  · obtain ⟨k, e1, e2, e3⟩ := this
    exact ⟨k, e1, e2, by simpa using e3⟩
  · obtain ⟨l, j⟩ := s
    obtain ⟨⟨g1, g2⟩, g3, g4⟩ := hs
    dsimp only at g1 g2 g3 g4 ih ⊢
    obtain ⟨i, rfl⟩ : ∃ i : Nat, j = (i : Int) := ⟨j.toNat, (Int.toNat_of_nonneg g3).symm⟩
    rcases Nat.lt_or_ge i x.length with hi | hi
    · have ha := List.getElem?_eq_getElem hi
      obtain ⟨k, k1, k2, k3⟩ := h again i x[i] l ha hi g1 g2
      rw [k3]
      by_cases hk : k < 0
      · rw [if_pos hk]
        exact ⟨-1, rfl, by omega, fun h => by omega⟩
      · rw [if_neg hk]
        obtain ⟨m, m1, m2, m3⟩ := ih (k, ((i + 1 : Nat) : Int)) ⟨⟨by dsimp only; omega, by dsimp only; omega⟩, by dsimp only; omega, by dsimp only; omega⟩ (by dsimp only; omega)
        dsimp only at m1 m2 m3
        refine ⟨m, m1, by omega, fun hm => ?_⟩
        have e := wsum_drop (w := w) ha
        have := m3 hm
        have := k2 (by omega)
        simp only [Int.toNat_natCast] at *
        omega
    · obtain rfl : i = x.length := by omega
      rw [hend]
      refine ⟨l, rfl, by omega, fun _ => ?_⟩
      simp [wsum]

def wPf (a : Pf) : Nat := a.1.length + a.2.1.length + a.2.2.length

theorem szProofS_eq {x : List Pf} {left : Int} (h0 : 0 ≤ left) (h1 : left ≤ 1048576) (hx : x.length < 2 ^ 63) (hr : ∀ r ∈ x, r.small (2 ^ 63 - 1)) : ∃ k, M_L_szProofS (x, left) = some k ∧ k ≤ left ∧ (0 ≤ k → k = left - x.length - wsum wPf x) := by
  unfold M_L_szProofS
  simp only [i64_in (left - (x.length : Int)) (by omega), bindO_some']
  by_cases hk : left - (x.length : Int) < 0
  · rw [decide_eq_true hk]
    exact ⟨-1, rfl, by omega, fun h => by omega⟩
  · rw [decide_eq_false hk, cond_false]
    refine Exists.imp (fun k hk => ⟨hk.1, by have := hk.2.1; omega, hk.2.2⟩) (sz_loop wPf x (left := left - x.length) (by omega) (by omega) (by omega) (fun again i a l ha hi g0 g1 => ?_) (fun again l => ?_))
    · obtain ⟨k, e1, e2, e3⟩ := szProof_eq (a := a) (left := l) g0 g1 (hr a (List.mem_of_getElem? ha))
      refine ⟨k, e2, fun h => by have := e3 h; simp only [wPf]; omega, ?_⟩
      simp only [lt_yes hi, cond_true, getI_nat, ha, bindO_some', show M_L_szProof ((a.1, a.2.1, a.2.2), l) = some k from e1, i64_succ (show i < 2 ^ 62 by omega)]
      by_cases hk : k < 0 <;> simp [hk]
    · simp only [lt_no, cond_false]

theorem toProofS_eq {x : List Pf} (h : x.length ≤ 1048576) (hr : ∀ r ∈ x, Pf.small r 1048576) : M_L_toProofS x = some x := by
  unfold M_L_toProofS
  have hx : (x.length : Int) ≤ ((lim : Nat) : Int) := by rw [lim_eq]; omega
  rw [guardO_of (by simpa using hx), bindO_some', Int.toNat_natCast]
  refine copy_loop x ([], [], []) (fun again i a s ha hi hs => ?_) (fun again s hs => ?_) (by omega)
  · have hsi := List.getElem?_eq_getElem (l := s) (show i < s.length by omega)
    simp only [lt_yes hi, cond_true, getI_nat, ha, hsi, bindO_some', show M_L_toProof (a.1, a.2.1, a.2.2) = some a from toProof_eq (hr a (List.mem_of_getElem? ha)), Int.toNat_natCast, i64_succ (show i < 2 ^ 62 by omega)]
  · simp

theorem eqProofS_eq {a : List Pf} (h : a.length < 2 ^ 62) (hr : ∀ r ∈ a, Pf.small r (2 ^ 40)) : M_L_eqProofS (a, a) = some true := by
  unfold M_L_eqProofS
  have e1 : ((a.length : Int) != (a.length : Int)) = false := by simp
  dsimp only
  rw [e1, cond_false]
  refine (eq_loop a a rfl (fun again i x y hx hy hi => ?_) (fun again => by simp) h).trans (by simp)
  obtain rfl : x = y := by rw [hx] at hy; exact Option.some.inj hy
  simp only [lt_yes hi, cond_true, getI_nat, hx, bindO_some', show M_L_eqProof ((x.1, x.2.1, x.2.2), x.1, x.2.1, x.2.2) = some (decide (x = x)) from eqProof_eq (hr x (List.mem_of_getElem? hx)), i64_succ (show i < 2 ^ 62 by omega)]
  simp

theorem guard_loop {β : Type} {n : Nat} (c : Nat → Bool) (yes no : Option β) {body : (Int → Option β) → Int → Option β} (hn : n < 2 ^ 62)
    (h : ∀ (again : Int → Option β) (i : Nat), i < n → body again (i : Int) = bif c i then again ((i + 1 : Nat) : Int) else no)
    (hend : (∀ i, i < n → c i = true) → ∀ again : Int → Option β, body again (n : Int) = yes) : loopO body 0 = bif (List.range n).all c then yes else no := by
  have hlen : (List.range n).length = n := List.length_range
  by_cases hall : ∀ i, i < n → c i = true
  · rw [show (List.range n).all c = true from by simpa using hall, cond_true]
    refine (loopO_for (σ := Unit) (fun i _ => (i : Int)) n (fun _ _ => yes) (fun _ _ => True) (fun again _ _ => hend hall again) (fun again i _ hi _ ih => ?_) (by omega) (i := 0) (s := ()) (Nat.zero_le _) trivial).trans rfl
    rw [h again i hi, hall i hi, cond_true]
    exact ih () trivial
  · have hf : (List.range n).all c = false := by
      rw [Bool.eq_false_iff]
      intro hh
      exact hall (by simpa using hh)
    rw [hf, cond_false]
    refine (loopO_for (σ := Unit) (fun i _ => (i : Int)) n (fun _ _ => no) (fun i _ => ∀ j, j < i → c j = true) (fun again _ hg => absurd hg hall) (fun again i _ hi hg ih => ?_) (by omega) (i := 0) (s := ()) (Nat.zero_le _) (fun j hj => by omega)).trans rfl
    rw [h again i hi]
    cases hc : c i
    · rfl
    · rw [cond_true]
      refine ih () fun j hj => ?_
      rcases Nat.lt_or_ge j i with h1 | h1
      · exact hg j h1
      · obtain rfl : j = i := by omega
        exact hc

theorem wf_pfs {l : List Pf} (h : WF (.sl (.cons (.sl (.int .i64)) (.cons (.sl (.int .i64)) (.one (.sl (.int .i64)))))) l) : l.length < 2 ^ 63 ∧ ∀ r ∈ l, Pf.small r (2 ^ 63 - 1) := by
  have hm : maxLen < 2 ^ 63 := by decide
  refine ⟨Nat.lt_of_le_of_lt h.1 hm, fun r hr => ?_⟩
  have hw : WF (.cons (.sl (.int .i64)) (.cons (.sl (.int .i64)) (.one (.sl (.int .i64))))) r := h.2 r hr
  have h1 := hw.1.1
  have h2 := hw.2.1.1
  have h3 := hw.2.2.1
  exact ⟨by omega, by omega, by omega⟩

theorem pf_small {l : List Pf} {n : Nat} (hsum : wsum wPf l ≤ n) : ∀ r ∈ l, Pf.small r n := fun r hm => by
  have := wsum_mem (w := wPf) hm
  simp only [wPf] at this hsum
  exact ⟨by omega, by omega, by omega⟩

abbrev El := Int × Int × Int × Int

def e0 : El := (0, 0, 0, 0)

/-- Equal modulo q. -/
def Cg (q a b : Int) : Prop := ∃ u, a = b + q * u

theorem Cg_mod {q : Int} (a : Int) : Cg q (a % q) a := ⟨-(a / q), by have := Int.emod_def a q; rw [Int.mul_neg]; omega⟩

theorem Cg_trans {q a b c : Int} (h1 : Cg q a b) (h2 : Cg q b c) : Cg q a c := by
  obtain ⟨u, h1⟩ := h1
  obtain ⟨v, h2⟩ := h2
  exact ⟨u + v, by rw [h1, h2]; grind⟩

theorem Cg_eq {q a b : Int} (h : Cg q a b) : a % q = b % q := by
  obtain ⟨u, h⟩ := h
  rw [h, Int.add_mul_emod_self_left]

theorem isEl_one {p q g : Int} (h : Gr p q g) : isEl p q 1 = true := by
  have h3 := h.p3
  unfold isEl
  rw [Int.one_pow, Int.emod_eq_of_lt (by omega) (by omega)]
  simp
  omega

/-- A power by a multiple of q is one. -/
theorem pow_red {p q g x : Int} (h : Gr p q g) (hx : x ^ q.toNat % p = 1) (m : Nat) : x ^ m % p = x ^ (m % q.toNat) % p := by
  have hq := h.q2
  have hp := h.p3
  have e1 : m = m / q.toNat * q.toNat + m % q.toNat := by
    have := Nat.div_add_mod m q.toNat
    rw [Nat.mul_comm]
    omega
  have h1 : (x ^ (m / q.toNat)) ^ q.toNat % p = 1 := pow_one_mod h.p3 hx
  rw [← Int.pow_mul] at h1
  conv => lhs; rw [e1, Int.pow_add, Int.mul_emod, h1, Int.one_mul, Int.emod_emod_of_dvd _ (Int.dvd_refl p)]

theorem toNat_of {a b : Int} (ha : 0 ≤ a) (hb : 0 ≤ b) : (a.toNat * b.toNat : Nat) = (a * b).toNat := (Int.toNat_mul ha hb).symm

/-- The inverse of a power is the power of the opposite exponent. -/
theorem inv_pw {p q g x : Int} (h : Gr p q g) (hx : x ^ q.toNat % p = 1) (e : Int) : pw p q x e ^ (q - 1).toNat % p = pw p q x (-e) := by
  have hq := h.q2
  unfold pw
  rw [pow_mod, ← Int.pow_mul, pow_red h hx]
  have e0 := Int.emod_nonneg e (show q ≠ 0 by omega)
  congr 2
  have h1 : (e % q) * (q - 1) % q = (-e) % q := by
    refine Cg_eq (Cg_trans (b := -(e % q)) ⟨e % q, by rw [Int.mul_sub, Int.mul_one, Int.mul_comm]; omega⟩ ?_)
    obtain ⟨u, hu⟩ := Cg_mod (q := q) e
    exact ⟨-u, by rw [Int.mul_neg]; omega⟩
  have h2 : (((e % q).toNat * (q - 1).toNat % q.toNat : Nat) : Int) = (((-e) % q).toNat : Int) := by
    rw [toNat_of e0 (by omega), Int.natCast_emod, Int.toNat_of_nonneg (Int.mul_nonneg e0 (by omega)), Int.toNat_of_nonneg (show 0 ≤ q by omega), h1, Int.toNat_of_nonneg (Int.emod_nonneg _ (by omega))]
  exact Int.ofNat.inj h2

theorem over_pw {p q g x : Int} (h : Gr p q g) (hx : x ^ q.toNat % p = 1) (a e : Int) : over p q a (pw p q x e) = prodM p 1 [a, pw p q x (-e)] := by
  unfold over
  rw [inv_pw h hx]

abbrev Pp := List Int × List Int × List Int × Pf

def Pp.small (P : Pp) (n : Nat) : Prop := P.1.length ≤ n ∧ P.2.1.length ≤ n ∧ P.2.2.1.length ≤ n ∧ P.2.2.2.small n

abbrev Mp := List Int × List Int × Pf

abbrev Stg := Int × List (Int × Int) × Mp × Pp

def Mp.small (a : Mp) (n : Nat) : Prop := a.1.length ≤ n ∧ a.2.1.length ≤ n ∧ a.2.2.small n

def Stg.small (s : Stg) : Prop := s.2.1.length ≤ 1048576 ∧ Mp.small s.2.2.1 1048576 ∧ Pp.small s.2.2.2 1048576

theorem bind_to {α β : Type} {m : Option α} {v : α} {f : α → Option β} {r : Option β} (h : m = some v) (h2 : f v = r) : bindO m f = r := by
  rw [h]
  exact h2

theorem yes_to {β : Type} {c : Bool} {a b r : Option β} (h : c = true) (h2 : a = r) : cond c a b = r := by
  rw [h]
  exact h2

theorem no_to {β : Type} {c : Bool} {a b r : Option β} (h : c = false) (h2 : b = r) : cond c a b = r := by
  rw [h]
  exact h2

def Dn {α : Type} (m : Option α) (Q : α → Prop) : Prop := ∃ v, m = some v ∧ Q v

theorem dn_some {α : Type} {v : α} {Q : α → Prop} (h : Q v) : Dn (some v) Q := ⟨v, rfl, h⟩

theorem dn_bind {α β : Type} {m : Option α} {f : α → Option β} {Q : α → Prop} {R : β → Prop} (h : Dn m Q) (k : ∀ v, Q v → Dn (f v) R) : Dn (bindO m f) R := by
  obtain ⟨v, e, hv⟩ := h
  rw [e, bindO_some']
  exact k v hv

theorem dn_cond {β : Type} {b : Bool} {x y : Option β} {R : β → Prop} (h1 : b = true → Dn x R) (h2 : b = false → Dn y R) : Dn (cond b x y) R := by
  cases b
  · exact h2 rfl
  · exact h1 rfl

theorem dn_wrap {β : Type} {e : Int} {f : Int → Option β} {R : β → Prop} (h : -1000000000000000000 ≤ e ∧ e ≤ 1000000000000000000) (k : Dn (f e) R) : Dn (bindO (some (IntKind.wrap .i64 e)) f) R := by
  rw [i64_in _ (by omega), bindO_some']
  exact k

abbrev Ct := Int × Int × Int × Int × Int

theorem dn_l1In (a b c : Int) : Dn (M_S_l1In (a, b, c)) (fun r => r = true → b ≤ a ∧ a ≤ c) := by
  rw [in_eq]
  exact dn_some fun h => of_decide_eq_true h

theorem take_next {α : Type} {l : List α} {i : Nat} {a : α} (h : l[i]? = some a) : l.take (i + 1) = l.take i ++ [a] := by
  rw [List.take_add_one, h]
  rfl

def numB (u : Nat) : ByteArray := ⟨(Go.Lib.decDigits u).toArray⟩

theorem bytes_app (a b : List UInt8) : (⟨a.toArray⟩ : ByteArray) ++ (⟨b.toArray⟩ : ByteArray) = ⟨(a ++ b).toArray⟩ := by
  apply ByteArray.ext
  rw [ByteArray.data_append]
  simp

theorem dec_len : ∀ (k u : Nat), u < 10 ^ (k + 1) → (Go.Lib.decDigits u).length ≤ k + 1
  | k, u, h => by
    by_cases hu : u < 10
    · rw [Go.Lib.decDigits, dif_pos hu]
      simp
    · rw [Go.Lib.decDigits, dif_neg hu, List.length_append, List.length_singleton]
      match k, h with
      | 0, h => omega
      | k + 1, h =>
        have := dec_len k (u / 10) (by rw [Nat.pow_succ] at h; omega)
        omega

theorem digit_str {d : Nat} (h : d < 10) : strOf [IntKind.wrap .u8 (48 + (d : Int))] = ⟨[UInt8.ofNat (48 + d)].toArray⟩ := by
  have e : IntKind.wrap .u8 (48 + (d : Int)) = ((48 + d : Nat) : Int) := by
    rw [u8_in _ (by omega)]
    omega
  rw [e]
  unfold strOf
  simp only [List.map_cons, List.map_nil, Int.toNat_natCast]

theorem num_comes : ∀ (N u : Nat), u < 10 ^ (N + 1) → N ≤ 8 → Comes R_S_l1Num (u : Int) (N + 1) (numB u)
  | N, u, h, hN => by
    intro m
    cases m with
    | zero => exact ⟨.inl rfl, fun h => by omega⟩
    | succ m =>
      have hb : u < 10000000000 := by
        have : 10 ^ (N + 1) ≤ 10 ^ 9 := Nat.pow_le_pow_right (by decide) (by omega)
        omega
      by_cases hu : u < 10
      · have e : R_S_l1Num (m + 1) (u : Int) = some (numB u) := by
          rw [R_S_l1Num]
          refine yes_to (decide_eq_true (by omega)) ?_
          refine bind_to (congrArg some (i64_in _ (by omega))) ?_
          rw [digit_str hu]
          unfold numB
          rw [Go.Lib.decDigits, dif_pos hu]
        exact ⟨.inr e, fun _ => e⟩
      · obtain ⟨N, rfl⟩ : ∃ M, N = M + 1 := ⟨N - 1, by
          have : N ≠ 0 := by
            rintro rfl
            omega
          omega⟩
        have hlen := dec_len (N + 1) u h
        have hlen2 := dec_len N (u / 10) (by rw [Nat.pow_succ] at h; omega)
        have ih := num_comes N (u / 10) (by rw [Nat.pow_succ] at h; omega) (by omega) m
        have hd : Int.tdiv (u : Int) 10 = ((u / 10 : Nat) : Int) := by
          rw [Int.tdiv_eq_ediv_of_nonneg (by omega)]
          omega
        have hm : Int.tmod (u : Int) 10 = ((u % 10 : Nat) : Int) := by
          rw [tmod_nn (by omega)]
          omega
        have step : R_S_l1Num (m + 1) (u : Int) = bindO (R_S_l1Num m ((u / 10 : Nat) : Int)) fun a3 => bindO (guardO (lenOk (a3.size + (strOf [IntKind.wrap .u8 (48 + ((u % 10 : Nat) : Int))]).size))) fun _ => some (a3 ++ strOf [IntKind.wrap .u8 (48 + ((u % 10 : Nat) : Int))]) := by
          rw [R_S_l1Num]
          refine no_to (decide_eq_false (by omega)) ?_
          refine bind_to (v := ()) rfl ?_
          rw [hd, hm]
          rw [i64_in _ (by omega), bindO_some']
          have g2 : guardO ((10 : Int) != 0) = some () := rfl
          simp only [g2, bindO_some']
          rw [i64_in (48 + ((u % 10 : Nat) : Int)) (by omega)]
        have fin : R_S_l1Num m ((u / 10 : Nat) : Int) = some (numB (u / 10)) → R_S_l1Num (m + 1) (u : Int) = some (numB u) := by
          intro e
          rw [step, e, bindO_some', digit_str (by omega)]
          refine bind_to (guardO_of (lenOk_of ?_)) ?_
          · show (Go.Lib.decDigits (u / 10)).toArray.size + [UInt8.ofNat (48 + u % 10)].toArray.size ≤ _
            simp only [List.size_toArray, List.length_singleton]
            omega
          · unfold numB
            rw [bytes_app, Go.Lib.decDigits.eq_def u, dif_neg hu]
        refine ⟨?_, fun hm => fin (ih.2 (by omega))⟩
        rcases ih.1 with e | e
        · left
          rw [step, e]
          rfl
        · exact .inr (fin e)

theorem l1Num_eq {u : Nat} (h : u < 1000000) : M_S_l1Num (u : Int) = some (numB u) := Comes.lim (num_comes 5 u (by simpa using h) (by decide))

theorem Itoa_eq {u : Nat} (h : u < 1000000) : M_strconv_Itoa (u : Int) = some (numB u) := by
  unfold M_strconv_Itoa numB
  rw [if_pos ⟨by omega, by omega⟩, Go.Lib.itoa, if_neg (by omega), Int.toNat_natCast]

theorem numB_size {u : Nat} (h : u < 1000000) : (numB u).size ≤ 6 := by
  have := dec_len 5 u (by simpa using h)
  show (Go.Lib.decDigits u).toArray.size ≤ 6
  simpa using this

def ballotB (u : Nat) : ByteArray := bytesOf [98, 97, 108, 108, 111, 116, 32] ++ numB u

theorem ballotB_size {u : Nat} (h : u < 1000000) : (ballotB u).size ≤ 13 := by
  have := numB_size h
  unfold ballotB
  rw [ByteArray.size_append]
  show 7 + (numB u).size ≤ 13
  omega

theorem bLabel_eq {u : Nat} (h : u < 1000000) : M_S_bLabel (u : Int) = some (ballotB u) := by
  have := numB_size h
  unfold M_S_bLabel
  refine bind_to (l1Num_eq h) ?_
  exact bind_to (guardO_of (lenOk_of (by show 7 + (numB u).size ≤ _; omega))) rfl

theorem ballotLabel_eq {u : Nat} (h : u < 1000000) : M_I_ballotLabel (u : Int) = some (ballotB u) := by
  have := numB_size h
  unfold M_I_ballotLabel
  refine bind_to (Itoa_eq h) ?_
  exact bind_to (guardO_of (lenOk_of (by show 7 + (numB u).size ≤ _; omega))) rfl

def gOK (ct : Ct) (I S : Ct → Option Int) : Bool := match I ct, S ct with
  | some a, some b => a == b
  | _, _ => false

theorem gOK_spec {ct : Ct} {I S : Ct → Option Int} (h : gOK ct I S = true) : ∃ v, I ct = some v ∧ S ct = some v := by
  unfold gOK at h
  split at h
  · rename_i a b h1 h2
    have : a = b := by simpa using h
    exact ⟨a, h1, by rw [h2, this]⟩
  · cases h

theorem great_tab4 : ((List.range 6).all fun m => gOK (4, 0, 0, ((m : Nat) : Int), 0) M_I_Contest_greatest M_S_bGreatest) = true := by
  unfold gOK
  simp only [M_I_Contest_greatest, M_S_bGreatest, M_S_vCode, M_S_vMarks, M_S_vNumber, M_I_codeOf, M_I_Contest_base, M_S_l1Least, loopO_eq, bindO_int, bindO_ints]
  kernel_rfl

theorem great_tab1 : ((List.range 9).all fun o => (List.range 9).all fun m => decide (o = 0 ∨ o < m) || gOK (1, ((o : Nat) : Int), 0, ((m : Nat) : Int), 0) M_I_Contest_greatest M_S_bGreatest) = true := by
  unfold gOK
  simp only [M_I_Contest_greatest, M_S_bGreatest, M_S_vCode, M_S_vMarks, M_S_vNumber, M_I_codeOf, M_I_Contest_base, M_S_l1Least, loopO_eq, bindO_int, bindO_ints]
  kernel_rfl

theorem great_tab3 : ((List.range 9).all fun o => (List.range 9).all fun m => decide (o = 0 ∨ o < m) || gOK (3, ((o : Nat) : Int), 0, ((m : Nat) : Int), 0) M_I_Contest_greatest M_S_bGreatest) = true := by
  unfold gOK
  simp only [M_I_Contest_greatest, M_S_bGreatest, M_S_vCode, M_S_vMarks, M_S_vNumber, M_I_codeOf, M_I_Contest_base, M_S_l1Least, loopO_eq, bindO_int, bindO_ints]
  kernel_rfl

theorem great_tab2 : ((List.range 6).all fun pt => (List.range 9).all fun o => (List.range 41).all fun m => decide (o = 0 ∨ pt = 0 ∨ o * pt < m) || gOK (2, ((o : Nat) : Int), 0, ((m : Nat) : Int), ((pt : Nat) : Int)) M_I_Contest_greatest M_S_bGreatest) = true := by
  unfold gOK
  simp only [M_I_Contest_greatest, M_S_bGreatest, M_S_vCode, M_S_vMarks, M_S_vNumber, M_I_codeOf, M_I_Contest_base, M_S_l1Least, loopO_eq, bindO_int, bindO_ints]
  kernel_rfl

theorem great_S (kd op le mo pt : Int) : M_S_bGreatest (kd, op, le, mo, pt) = M_S_bGreatest (kd, op, 0, mo, pt) := rfl

theorem great_I (kd op le mo pt : Int) : M_I_Contest_greatest (kd, op, le, mo, pt) = M_I_Contest_greatest (kd, op, 0, mo, pt) := rfl

/-- What a valid contest fulfils. -/
def CtOK2 (ct : Ct) : Prop := (0 ≤ ct.2.2.1 ∧ ct.2.2.1 ≤ ct.2.2.2.1) ∧ ((ct.1 = 2 ∧ (1 ≤ ct.2.1 ∧ ct.2.1 ≤ 8) ∧ (1 ≤ ct.2.2.2.2 ∧ ct.2.2.2.2 ≤ 5) ∧ ct.2.2.2.1 ≤ ct.2.1 * ct.2.2.2.2) ∨ (ct.1 = 4 ∧ ct.2.1 = 0 ∧ ct.2.2.2.1 ≤ 5 ∧ ct.2.2.2.2 = 0) ∨ ((ct.1 = 1 ∨ ct.1 = 3) ∧ (1 ≤ ct.2.1 ∧ ct.2.1 ≤ 8) ∧ ct.2.2.2.1 ≤ ct.2.1 ∧ ct.2.2.2.2 = 0))

theorem dn_vContest2 (ct : Ct) : Dn (M_S_vContest ct) (fun r => r = true → CtOK2 ct) := by
  obtain ⟨kd, op, le, mo, pt⟩ := ct
  unfold M_S_vContest
  dsimp only
  refine dn_cond (fun _ => dn_some fun h => by cases h) fun h1 => dn_cond (fun _ => dn_some fun h => by cases h) fun h2 => ?_
  have h1' := of_decide_eq_false h1
  have h2' := of_decide_eq_false h2
  have hle : 0 ≤ le ∧ le ≤ mo := by omega
  have score : kd = 2 → Dn (bindO (M_S_l1In (op, (1 : Int), (8 : Int))) fun a1 => cond a1 (bindO (M_S_l1In (pt, (1 : Int), (5 : Int))) fun a2 => cond a2 (bindO (some (IntKind.wrap .i64 (op * pt))) fun a3 => some (decide (mo ≤ a3))) (some false)) (some false)) (fun r => r = true → CtOK2 (kd, op, le, mo, pt)) := by
    intro hk
    refine dn_bind (dn_l1In _ _ _) fun a ha => dn_cond (fun hat => ?_) fun _ => dn_some fun h => by cases h
    refine dn_bind (dn_l1In _ _ _) fun b hb => dn_cond (fun hbt => ?_) fun _ => dn_some fun h => by cases h
    have ha' := ha hat
    have hb' := hb hbt
    have hmul : 0 ≤ op * pt ∧ op * pt ≤ 40 := by
      have g1 := Int.mul_le_mul ha'.2 hb'.2 (by omega) (by omega)
      have g2 := Int.mul_nonneg (show 0 ≤ op by omega) (show 0 ≤ pt by omega)
      omega
    exact dn_wrap (by omega) (dn_some fun h => ⟨hle, .inl ⟨hk, ha', hb', of_decide_eq_true h⟩⟩)
  have write : kd = 4 → Dn (cond (op == (0 : Int)) (cond (decide (mo ≤ (5 : Int))) (some (pt == (0 : Int))) (some false)) (some false)) (fun r => r = true → CtOK2 (kd, op, le, mo, pt)) := by
    intro hk
    refine dn_cond (fun ho => dn_cond (fun h => dn_some fun hp => ⟨hle, .inr (.inl ⟨hk, by simpa using ho, of_decide_eq_true h, by simpa using hp⟩)⟩) fun _ => dn_some fun h => by cases h) fun _ => dn_some fun h => by cases h
  have choice : kd = 1 ∨ kd = 3 → Dn (bindO (M_S_l1In (op, (1 : Int), (8 : Int))) fun a0 => cond a0 (cond (decide (mo ≤ op)) (some (pt == (0 : Int))) (some false)) (some false)) (fun r => r = true → CtOK2 (kd, op, le, mo, pt)) := by
    intro hk
    refine dn_bind (dn_l1In _ _ _) fun a ha => dn_cond (fun hat => dn_cond (fun h => dn_some fun hp => ⟨hle, .inr (.inr ⟨hk, ha hat, of_decide_eq_true h, by simpa using hp⟩)⟩) fun _ => dn_some fun h => by cases h) fun _ => dn_some fun h => by cases h
  refine dn_cond (fun h => ?_) fun _ => dn_cond (fun h => choice (.inr (by simpa using h))) fun _ => dn_cond (fun h => score (by simpa using h)) fun _ => dn_cond (fun h => write (by simpa using h)) fun _ => dn_some fun h => by cases h
  exact dn_cond (fun h => choice (.inl (by simpa using h))) fun h2 => absurd h (by rw [h2]; decide)

theorem great_eq {ct : Ct} (h : CtOK2 ct) : ∃ v, M_I_Contest_greatest ct = some v ∧ M_S_bGreatest ct = some v := by
  obtain ⟨kd, op, le, mo, pt⟩ := ct
  obtain ⟨⟨h1, h2⟩, h3⟩ := h
  dsimp only at h1 h2 h3
  rw [great_S, great_I]
  obtain ⟨m, rfl⟩ := Int.eq_ofNat_of_zero_le (show 0 ≤ mo by omega)
  rcases h3 with ⟨rfl, g1, g2, g3⟩ | ⟨rfl, rfl, g2, rfl⟩ | ⟨hk, g1, g2, rfl⟩
  · obtain ⟨o, rfl⟩ := Int.eq_ofNat_of_zero_le (show 0 ≤ op by omega)
    obtain ⟨t, rfl⟩ := Int.eq_ofNat_of_zero_le (show 0 ≤ pt by omega)
    have g3' : m ≤ o * t := by
      have e : ((o * t : Nat) : Int) = (o : Int) * (t : Int) := Int.natCast_mul o t
      omega
    have h8 : o * t ≤ 8 * 5 := Nat.mul_le_mul (by omega) (by omega)
    have := List.all_eq_true.1 (List.all_eq_true.1 (List.all_eq_true.1 great_tab2 t (by simp; omega)) o (by simp; omega)) m (by simp; omega)
    rw [decide_eq_false (by omega), Bool.false_or] at this
    exact gOK_spec this
  · exact gOK_spec (List.all_eq_true.1 great_tab4 m (by simp; omega))
  · obtain ⟨o, rfl⟩ := Int.eq_ofNat_of_zero_le (show 0 ≤ op by omega)
    rcases hk with rfl | rfl
    · have := List.all_eq_true.1 (List.all_eq_true.1 great_tab1 o (by simp; omega)) m (by simp; omega)
      rw [decide_eq_false (by omega), Bool.false_or] at this
      exact gOK_spec this
    · have := List.all_eq_true.1 (List.all_eq_true.1 great_tab3 o (by simp; omega)) m (by simp; omega)
      rw [decide_eq_false (by omega), Bool.false_or] at this
      exact gOK_spec this

def rowsK (kd : Int) : Bool := bif kd == 1 then true else kd == 2

theorem bRows_eq (ct : Ct) : M_S_bRows ct = some (rowsK ct.1) := by
  unfold M_S_bRows rowsK
  cases ct.1 == 1 <;> rfl

theorem Sealable_eq (p q g : Int) (ct : Ct) : ∃ b, M_S_bGood ((p, q, g), ct) = some b ∧ M_I_IsSealable ((p, q, g), ct) = some b ∧ (b = true → okG p q g = true ∧ CtOK2 ct ∧ (rowsK ct.1 = true → ct.2.2.2.1 - ct.2.2.1 < 8)) := by
  obtain ⟨kd, op, le, mo, pt⟩ := ct
  obtain ⟨c, hc, hcs⟩ := dn_vContest2 (kd, op, le, mo, pt)
  unfold M_S_bGood M_I_IsSealable
  dsimp only
  rw [l2Good_eq, IsValidGroup_eq, contest_same, hc]
  simp only [bindO_some']
  cases hok : okG p q g
  · exact ⟨false, rfl, rfl, fun h => by cases h⟩
  simp only [Bool.not_true, cond_false]
  cases c
  · exact ⟨false, rfl, rfl, fun h => by cases h⟩
  simp only [Bool.not_true, cond_false]
  have hct := hcs rfl
  obtain ⟨v, v1, v2⟩ := great_eq hct
  rw [v1, v2]
  simp only [bindO_some']
  cases decide (v > 100000)
  rotate_left
  · exact ⟨false, rfl, rfl, fun h => by cases h⟩
  simp only [cond_false]
  cases decide (v ≥ q)
  rotate_left
  · exact ⟨false, rfl, rfl, fun h => by cases h⟩
  simp only [cond_false]
  rw [show M_S_bRows (kd, op, le, mo, pt) = some (rowsK kd) from bRows_eq _, show M_I_Contest_isForm (kd, op, le, mo, pt) = some (rowsK kd) from bRows_eq _]
  simp only [bindO_some']
  cases hf : rowsK kd
  · exact ⟨true, rfl, rfl, fun _ => ⟨trivial, hct, fun h => by cases h⟩⟩
  simp only [Bool.not_true, cond_false]
  have hb : mo ≤ 40 ∧ 0 ≤ le ∧ le ≤ mo := by
    obtain ⟨⟨h1, h2⟩, h3⟩ := hct
    dsimp only at h1 h2 h3
    rcases h3 with ⟨-, g1, g2, g3⟩ | ⟨-, -, g2, -⟩ | ⟨-, g1, g2, -⟩
    · have := Int.mul_le_mul g1.2 g2.2 (by omega) (by omega)
      omega
    · omega
    · omega
  rw [i64_in (mo - le) (by omega)]
  by_cases h8 : mo - le < 8
  · rw [decide_eq_true h8]
    exact ⟨decide (mo < q), rfl, rfl, fun _ => ⟨trivial, hct, fun _ => h8⟩⟩
  · rw [decide_eq_false h8]
    exact ⟨false, rfl, rfl, fun h => by cases h⟩

abbrev St := Int × Int × Int × Int

theorem mul_over {p q g a b : Int} (h : Gr p q g) (ha : 0 ≤ a ∧ a < p) (hb : isEl p q b = true) : prodM p 1 [over p q a b, b] = a := by
  have h3 := h.p3
  have hq2 := h.q2
  have r := isEl_range hb
  have e1 : b ^ (q - 1).toNat * b = b ^ q.toNat := by
    rw [show q.toNat = (q - 1).toNat + 1 by omega, Int.pow_succ]
  have e3 : 0 ≤ b ^ (q - 1).toNat % p ∧ b ^ (q - 1).toNat % p < p := ⟨Int.emod_nonneg _ (by omega), Int.emod_lt_of_pos _ (by omega)⟩
  have e2 : over p q a b = a * (b ^ (q - 1).toNat % p) % p := by
    unfold over
    exact mul_out ha
  have e4 : 0 ≤ over p q a b ∧ over p q a b < p := prod_range (by omega)
  have em : ∀ A c : Int, A % p * c % p = A * c % p := fun A c => by
    rw [Int.mul_emod, Int.emod_emod_of_dvd _ (Int.dvd_refl p), ← Int.mul_emod]
  rw [mul_out e4, e2, em, Int.mul_comm a, Int.mul_assoc, em, Int.mul_comm a, ← Int.mul_assoc, e1, Int.mul_comm, Int.mul_emod, r.2.2, Int.mul_one, Int.emod_emod_of_dvd _ (Int.dvd_refl p), Int.emod_eq_of_lt ha.1 ha.2]

theorem mul_swap {p a b : Int} (ha : 0 ≤ a ∧ a < p) (hb : 0 ≤ b ∧ b < p) : prodM p 1 [a, b] = prodM p 1 [b, a] := by
  rw [mul_out ha, mul_out hb, Int.mul_comm]

/-- The two ways to look at one equation. -/
theorem two_ways {p q g a y c t : Int} (h : Gr p q g) (ha : 0 ≤ a ∧ a < p) (hy : isEl p q y = true) (ht : isEl p q t = true) : (prodM p 1 [a, pw p q y (-c)] == t) = (a == prodM p 1 [t, pw p q y c]) := by
  have h3 := h.p3
  have hB := isEl_pw (e := c) h hy
  have rB := isEl_range hB
  have rt := isEl_range ht
  rw [← over_pw h (isEl_range hy).2.2]
  rw [Bool.eq_iff_iff, beq_iff_eq, beq_iff_eq]
  constructor
  · intro e
    rw [← e, mul_over h ha hB]
  · intro e
    rw [e, mul_swap (by omega) (by omega)]
    exact over_mul h hB (by omega)

def stm (p q g key : Int) (c : Int × Int) (lo : Int) (i : Nat) : St := (g, c.1, key, prodM p 1 [c.2, pw p q g (-(lo + i))])

def stms (p q g key : Int) (c : Int × Int) (lo : Int) (n : Nat) : List St := (List.range n).map (stm p q g key c lo)

theorem stms_len (p q g key : Int) (c : Int × Int) (lo : Int) (n : Nat) : (stms p q g key c lo n).length = n := by simp [stms]

theorem stms_succ (p q g key : Int) (c : Int × Int) (lo : Int) (n : Nat) : stms p q g key c lo (n + 1) = stms p q g key c lo n ++ [stm p q g key c lo n] := by simp [stms, List.range_succ]

theorem S_statements_eq {p q g key lo hi : Int} {c : Int × Int} {n : Nat} (h : Gr p q g) (hc : isCi p q c = true) (hlo : 0 ≤ lo) (hn : lo + n = hi + 1) (h40 : hi ≤ 100) : M_S_bStatements ((p, q, g), key, c, lo, hi) = some (stms p q g key c lo n) := by
  have h3 := h.p3
  have hp := h.pm
  have hg := isEl_in (isEl_g h)
  have hci := isCi_in hc
  unfold M_S_bStatements
  dsimp only
  refine Eq.trans (congrArg (loopO _) (show (([] : List St), lo) = (stms p q g key c lo 0, lo + ((0 : Nat) : Int)) by simp [stms])) (loopO_for (σ := Unit) (fun i _ => (stms p q g key c lo i, lo + (i : Int))) n (fun _ _ => some (stms p q g key c lo n)) (fun _ _ => True) (fun again _ _ => ?_) (fun again i _ hi' _ ih => ?_) (by omega) (i := 0) (s := ()) (Nat.zero_le _) trivial)
  · rw [decide_eq_false (by omega), cond_false]
  · rw [decide_eq_true (by omega), cond_true]
    dsimp only
    have r := pw_range (q := q) (x := g) (e := -(lo + (i : Int))) (show 1 ≤ p by omega)
    refine bind_to (congrArg some (show IntKind.wrap .i64 (0 - (lo + (i : Int))) = -(lo + (i : Int)) by rw [i64_in _ (by omega)]; omega)) ?_
    refine bind_to (gExp_pw h hg.1 hg.2) ?_
    refine bind_to (mul2 h hci.2 (by omega)) ?_
    refine bind_to (guardO_of (lenOk_of (by rw [stms_len]; simp only [List.length_cons, List.length_nil]; omega))) ?_
    refine bind_to rfl ?_
    refine bind_to (congrArg some (i64_in _ (by omega))) ?_
    have := ih () trivial
    rw [stms_succ] at this
    rw [show lo + (i : Int) + 1 = lo + ((i + 1 : Nat) : Int) by omega]
    exact this

theorem I_statements_eq {p q g key lo hi : Int} {c : Int × Int} {n : Nat} (h : Gr p q g) (hc : isCi p q c = true) (hlo : 0 ≤ lo) (hn : lo + n = hi + 1) (h40 : hi ≤ 100) : M_I_Group_statements ((p, q, g), key, c, lo, hi) = some (stms p q g key c lo n) := by
  have h3 := h.p3
  have hp := h.pm
  have hg := isEl_in (isEl_g h)
  have hci := isCi_in hc
  unfold M_I_Group_statements
  dsimp only
  refine Eq.trans (congrArg (loopO _) (show (([] : List St), lo) = (stms p q g key c lo 0, lo + ((0 : Nat) : Int)) by simp [stms])) (loopO_for (σ := Unit) (fun i _ => (stms p q g key c lo i, lo + (i : Int))) n (fun _ _ => some (stms p q g key c lo n)) (fun _ _ => True) (fun again _ _ => ?_) (fun again i _ hi' _ ih => ?_) (by omega) (i := 0) (s := ()) (Nat.zero_le _) trivial)
  · rw [decide_eq_false (by omega), cond_false]
  · rw [decide_eq_true (by omega), cond_true]
    dsimp only
    have r := pw_range (q := q) (x := g) (e := -(lo + (i : Int))) (show 1 ≤ p by omega)
    refine bind_to (congrArg some (show IntKind.wrap .i64 (0 - (lo + (i : Int))) = -(lo + (i : Int)) by rw [i64_in _ (by omega)]; omega)) ?_
    refine bind_to ((Group_pow_eq h hg.1 hg.2).trans rfl) ?_
    refine bind_to (mul2' h hci.2 (show 0 ≤ pw p q g (-(lo + (i : Int))) ∧ pw p q g (-(lo + (i : Int))) ≤ p by omega)) ?_
    refine bind_to (guardO_of (lenOk_of (by rw [stms_len]; simp only [List.length_cons, List.length_nil]; omega))) ?_
    refine bind_to rfl ?_
    refine bind_to (congrArg some (i64_in _ (by omega))) ?_
    have := ih () trivial
    rw [stms_succ] at this
    rw [show lo + (i : Int) + 1 = lo + ((i + 1 : Nat) : Int) by omega]
    exact this

/-- Statements of elements. -/
def StOK (p q : Int) (l : List St) : Prop := ∀ e ∈ l, (isEl p q e.1 = true ∧ isEl p q e.2.1 = true) ∧ isEl p q e.2.2.1 = true ∧ isEl p q e.2.2.2 = true

theorem stms_ok {p q g key lo : Int} {c : Int × Int} {n : Nat} (h : Gr p q g) (hk : isEl p q key = true) (hc : isCi p q c = true) : StOK p q (stms p q g key c lo n) := fun e he => by
  obtain ⟨i, _, rfl⟩ := List.mem_map.1 he
  simp only [isCi, Bool.and_eq_true] at hc
  exact ⟨⟨isEl_g h, hc.1⟩, hk, isEl_mul h hc.2 (isEl_pw h (isEl_g h))⟩

def jl (l : List St) : List Int := l.flatMap fun e => [e.1, e.2.1, e.2.2.1, e.2.2.2]

theorem jl_len (l : List St) : (jl l).length = 4 * l.length := by
  induction l with
  | nil => rfl
  | cons e l ih =>
    simp only [jl, List.flatMap_cons, List.length_append, List.length_cons, List.length_nil] at ih ⊢
    omega

theorem jl_take {l : List St} {i : Nat} {e : St} (h : l[i]? = some e) : jl (l.take (i + 1)) = jl (l.take i) ++ [e.1, e.2.1, e.2.2.1, e.2.2.2] := by
  rw [take_next h]
  simp [jl]

theorem okD_isEl {p q g x : Int} (h : Gr p q g) (hx : isEl p q x = true) : 0 ≤ x ∧ x ≤ 4611686018427387903 := by
  have := isEl_range hx
  have := h.pm
  omega

theorem jl_ok {p q g : Int} {l : List St} (h : Gr p q g) (hl : StOK p q l) : okD (jl l) = true := by
  unfold okD
  rw [List.all_eq_true]
  intro x hx
  obtain ⟨e, he, hx⟩ := List.mem_flatMap.1 hx
  obtain ⟨⟨h1, h2⟩, h3, h4⟩ := hl e he
  simp only [List.mem_cons, List.not_mem_nil, or_false] at hx
  rcases hx with rfl | rfl | rfl | rfl
  · exact decide_eq_true (okD_isEl h h1)
  · exact decide_eq_true (okD_isEl h h2)
  · exact decide_eq_true (okD_isEl h h3)
  · exact decide_eq_true (okD_isEl h h4)

def jC (p q g : Int) (s : ByteArray) (l : List St) (cs : List Int) : Int := chal p q g s (jl l ++ cs)

theorem sJoint_eq {p q g : Int} {s : ByteArray} {l : List St} {cs : List Int} (h : Gr p q g) (hs : s.size ≤ 40) (hl : StOK p q l) (hn : l.length ≤ 20) (hc : cs.all (isEl p q) = true) (hcl : cs.length ≤ 40) : M_S_sJoint ((p, q, g), s, l, cs) = some (jC p q g s l cs) := by
  have hok : okD (jl l ++ cs) = true := by rw [okD_append, jl_ok h hl, okD_el h hc]; rfl
  have hjl := jl_len l
  unfold M_S_sJoint
  dsimp only
  refine (loopO_for (σ := Unit) (fun i _ => (jl (l.take i), (i : Int))) l.length (fun _ _ => some (jC p q g s l cs)) (fun _ _ => True) (fun again _ _ => ?_) (fun again i _ hi _ ih => ?_) (by omega) (i := 0) (s := ()) (Nat.zero_le _) trivial).trans rfl
  · rw [lt_no, cond_false, List.take_length]
    dsimp only
    refine bind_to (guardO_of (lenOk_of (by omega))) ?_
    refine bind_to rfl ?_
    exact bind_to (hChallenge_eq h (by omega) hok (by rw [List.length_append]; omega)) rfl
  · have ha := List.getElem?_eq_getElem hi
    have hj2 := jl_len (l.take i)
    rw [List.length_take] at hj2
    rw [lt_yes hi, cond_true]
    dsimp only
    refine bind_to ((getI_nat _ i).trans ha) ?_
    refine bind_to (guardO_of (lenOk_of (by simp only [List.length_cons, List.length_nil]; omega))) ?_
    refine bind_to rfl ?_
    refine bind_to (congrArg some (i64_succ (by omega))) ?_
    have := ih () trivial
    rw [jl_take ha] at this
    exact this

theorem oneOf_eq {p q g : Int} {s : ByteArray} {l : List St} {cs : List Int} (h : Gr p q g) (hs : s.size ≤ 40) (hl : StOK p q l) (hn : l.length ≤ 20) (hc : cs.all (isEl p q) = true) (hcl : cs.length ≤ 40) : M_I_Group_oneOfChallenge ((p, q, g), s, l, cs) = some (jC p q g s l cs, true) := by
  have hok : okD (jl l ++ cs) = true := by rw [okD_append, jl_ok h hl, okD_el h hc]; rfl
  have hjl := jl_len l
  unfold M_I_Group_oneOfChallenge
  dsimp only
  refine (loopO_for (σ := Unit) (fun i _ => (jl (l.take i), (i : Int))) l.length (fun _ _ => some (jC p q g s l cs, true)) (fun _ _ => True) (fun again _ _ => ?_) (fun again i _ hi _ ih => ?_) (by omega) (i := 0) (s := ()) (Nat.zero_le _) trivial).trans rfl
  · rw [lt_no, cond_false, List.take_length]
    dsimp only
    refine bind_to (guardO_of (lenOk_of (by omega))) ?_
    refine bind_to rfl ?_
    exact bind_to (challenge_eq h hs hok (by rw [List.length_append]; omega)) rfl
  · have ha := List.getElem?_eq_getElem hi
    have hj2 := jl_len (l.take i)
    rw [List.length_take] at hj2
    rw [lt_yes hi, cond_true]
    dsimp only
    refine bind_to ((getI_nat _ i).trans ha) ?_
    refine bind_to (guardO_of (lenOk_of (by simp only [List.length_cons, List.length_nil]; omega))) ?_
    refine bind_to rfl ?_
    refine bind_to (congrArg some (i64_succ (by omega))) ?_
    have := ih () trivial
    rw [jl_take ha] at this
    exact this

def qSum (q : Int) (l : List Int) : Int := l.foldl (fun s a => (s + a) % q) 0

theorem nSum_eq {q : Int} {l : List Int} (hq : 2 ≤ q ∧ q ≤ 2000000000) (hl : l.length < 2 ^ 60) (he : ∀ e ∈ l, 0 ≤ e ∧ e ≤ q - 1) : M_S_nSum (l, q) = some (qSum q l) := by
  unfold M_S_nSum
  dsimp only
  refine (loopO_for (σ := Int) (fun i s => (s, (i : Int))) l.length (fun i s => some ((l.drop i).foldl (fun s a => (s + a) % q) s)) (fun _ s => 0 ≤ s ∧ s < q) (fun again s hs => ?_) (fun again i s hi hs ih => ?_) (by omega) (i := 0) (s := 0) (Nat.zero_le _) ⟨by omega, by omega⟩).trans rfl
  · rw [lt_no, cond_false, List.drop_length]
    rfl
  · have ha := List.getElem?_eq_getElem hi
    have hx := he _ (List.getElem_mem hi)
    rw [lt_yes hi, cond_true]
    dsimp only
    refine bind_to ((getI_nat _ i).trans ha) ?_
    refine bind_to (congrArg some (i64_in _ (by omega))) ?_
    refine bind_to (guardO_of (bne_iff_ne.2 (by omega))) ?_
    refine bind_to (congrArg some (tmod_nn (by omega))) ?_
    refine bind_to (congrArg some (i64_succ (by omega))) ?_
    rw [List.drop_eq_getElem_cons hi, List.foldl_cons]
    exact ih _ ⟨Int.emod_nonneg _ (by omega), Int.emod_lt_of_pos _ (by omega)⟩

theorem sum_eq {q : Int} {l : List Int} (hq : 2 ≤ q ∧ q ≤ 2000000000) (hl : l.length < 2 ^ 60) (he : ∀ e ∈ l, 0 ≤ e ∧ e ≤ q - 1) : M_I_sum (l, q) = some (qSum q l) := nSum_eq hq hl he

def st0 : St := (0, 0, 0, 0)

def eqS (p q : Int) (l : List St) (pf : Pf) (i : Nat) : Bool :=
  (pw p q (l.getD i st0).1 (pf.2.2.getD i 0) == prodM p 1 [pf.1.getD (2 * i) 0, pw p q (l.getD i st0).2.1 (pf.2.1.getD i 0)]) &&
    (pw p q (l.getD i st0).2.2.1 (pf.2.2.getD i 0) == prodM p 1 [pf.1.getD (2 * i + 1) 0, pw p q (l.getD i st0).2.2.2 (pf.2.1.getD i 0)])

def preS (p q : Int) (l : List St) (pf : Pf) : Bool := decide (pf.1.length = 2 * l.length) && (decide (pf.2.1.length = l.length) && (decide (pf.2.2.length = l.length) && (pf.1.all (isEl p q) && ((pf.2.1.all fun e => decide (0 ≤ e ∧ e ≤ q - 1)) && (pf.2.2.all fun e => decide (0 ≤ e ∧ e ≤ q - 1))))))

def oneB (p q g : Int) (s : ByteArray) (l : List St) (pf : Pf) : Bool := preS p q l pf && ((qSum q pf.2.1 == jC p q g s l pf.1) && (List.range l.length).all (eqS p q l pf))

theorem getI_int {α : Type} {xs : List α} {d : α} {k : Int} {n : Nat} (h : k = (n : Int)) (hn : n < xs.length) : getI xs k = some (xs.getD n d) := by
  rw [h, getI_nat]
  exact getD_at hn

theorem bne_of {a b : Int} {v : Bool} (h : (a == b) = v) : (a != b) = !v := by
  rw [← h]
  rfl

theorem len_bne {n m : Nat} {k : Int} (hk : k = (m : Int)) : (((n : Nat) : Int) != k) = !decide (n = m) := by
  rw [hk]
  by_cases h : n = m
  · rw [h, decide_eq_true rfl]
    exact bne_self_eq_false _
  · rw [decide_eq_false h]
    exact bne_iff_ne.2 (by omega)

theorem exps_all {q : Int} {l : List Int} (h : (l.all fun e => decide (0 ≤ e ∧ e ≤ q - 1)) = true) : ∀ e ∈ l, 0 ≤ e ∧ e ≤ q - 1 := fun e he => of_decide_eq_true (List.all_eq_true.1 h e he)

theorem sVerifyOne_eq {p q g : Int} {s : ByteArray} {l : List St} {pf : Pf} (h : Gr p q g) (hs : s.size ≤ 40) (hl : StOK p q l) (hn : l.length ≤ 20) (hp : pf.small 1048576) : M_S_sVerifyOne ((p, q, g), s, l, pf) = some (oneB p q g s l pf) := by
  have h3 := h.p3
  have hq2 := h.q2
  have hqp := h.qp
  have hpm := h.pm
  obtain ⟨cs, ch, rs⟩ := pf
  obtain ⟨p1, p2, p3⟩ := hp
  dsimp only at p1 p2 p3
  unfold M_S_sVerifyOne oneB preS
  dsimp only
  refine bind_to (congrArg some (i64_in _ (by omega))) ?_
  rw [len_bne (m := 2 * l.length) (by omega)]
  by_cases c1 : cs.length = 2 * l.length
  rotate_left
  · rw [decide_eq_false c1]; rfl
  rw [decide_eq_true c1]
  refine no_to rfl ?_
  rw [len_bne (n := ch.length) rfl]
  by_cases c2 : ch.length = l.length
  rotate_left
  · rw [decide_eq_false c2]; rfl
  rw [decide_eq_true c2]
  refine no_to rfl ?_
  rw [len_bne (n := rs.length) rfl]
  by_cases c3 : rs.length = l.length
  rotate_left
  · rw [decide_eq_false c3]; rfl
  rw [decide_eq_true c3]
  refine no_to rfl ?_
  refine bind_to (gIs_eq h (by omega)) ?_
  cases c4 : cs.all (isEl p q)
  · rfl
  refine no_to rfl ?_
  refine bind_to (gExps_eq h (by omega)) ?_
  cases c5 : (ch.all fun e => decide (0 ≤ e ∧ e ≤ q - 1))
  · rfl
  refine no_to rfl ?_
  refine bind_to (gExps_eq h (by omega)) ?_
  cases c6 : (rs.all fun e => decide (0 ≤ e ∧ e ≤ q - 1))
  · rfl
  refine no_to rfl ?_
  refine bind_to (nSum_eq ⟨hq2, by omega⟩ (by omega) (exps_all c5)) ?_
  refine bind_to (sJoint_eq h hs hl hn c4 (by omega)) ?_
  cases c7 : (qSum q ch == jC p q g s l cs)
  · exact yes_to (bne_of c7) rfl
  refine no_to (bne_of c7) ?_
  refine (guard_loop (n := l.length) (eqS p q l (cs, ch, rs)) (some true) (some false) (by omega) (fun again i hi => ?_) (fun _ again => ?_)).trans ?_
  · have he := getD_at (d := st0) hi
    obtain ⟨⟨e1, e2⟩, e3, e4⟩ := hl _ (List.mem_of_getElem? he)
    have t1 := List.all_eq_true.1 c4 _ (List.mem_of_getElem? (getD_at (d := (0 : Int)) (show 2 * i < cs.length by omega)))
    have t2 := List.all_eq_true.1 c4 _ (List.mem_of_getElem? (getD_at (d := (0 : Int)) (show 2 * i + 1 < cs.length by omega)))
    have b1 := isEl_in (isEl_pw (e := ch.getD i 0) h e2)
    have b2 := isEl_in (isEl_pw (e := ch.getD i 0) h e4)
    unfold eqS
    dsimp only
    refine yes_to (lt_yes hi) ?_
    refine bind_to ((getI_nat _ i).trans he) ?_
    refine bind_to (getI_int (d := 0) rfl (by omega)) ?_
    refine bind_to (getI_int (d := 0) rfl (by omega)) ?_
    refine bind_to (gExp_pw h (isEl_in e1).1 (isEl_in e1).2) ?_
    refine bind_to (congrArg some (i64_in _ (by omega))) ?_
    refine bind_to (getI_int (d := 0) (n := 2 * i) (by omega) (by omega)) ?_
    refine bind_to (gExp_pw h (isEl_in e2).1 (isEl_in e2).2) ?_
    refine bind_to (mul2 h (isEl_in t1) b1) ?_
    cases d1 : (pw p q (l.getD i st0).1 (rs.getD i 0) == prodM p 1 [cs.getD (2 * i) 0, pw p q (l.getD i st0).2.1 (ch.getD i 0)])
    · exact yes_to (bne_of d1) rfl
    refine no_to (bne_of d1) ?_
    refine bind_to (gExp_pw h (isEl_in e3).1 (isEl_in e3).2) ?_
    refine bind_to (congrArg some (i64_in _ (by omega))) ?_
    refine bind_to (congrArg some (i64_in _ (by omega))) ?_
    refine bind_to (getI_int (d := 0) (n := 2 * i + 1) (by omega) (by omega)) ?_
    refine bind_to (gExp_pw h (isEl_in e4).1 (isEl_in e4).2) ?_
    refine bind_to (mul2 h (isEl_in t2) b2) ?_
    cases d2 : (pw p q (l.getD i st0).2.2.1 (rs.getD i 0) == prodM p 1 [cs.getD (2 * i + 1) 0, pw p q (l.getD i st0).2.2.2 (ch.getD i 0)])
    · exact yes_to (bne_of d2) rfl
    refine no_to (bne_of d2) ?_
    exact bind_to (congrArg some (i64_succ (by omega))) rfl
  · exact no_to (lt_no _) rfl
  · cases (List.range l.length).all (eqS p q l (cs, ch, rs)) <;> rfl

theorem simulated_eq {p q g c z : Int} {e : St} (h : Gr p q g) (h1 : isEl p q e.1 = true) (h2 : isEl p q e.2.1 = true) (h3 : isEl p q e.2.2.1 = true) (h4 : isEl p q e.2.2.2 = true) (hc : 0 ≤ c ∧ c ≤ 2000000000) :
    M_I_Group_simulated ((p, q, g), e, c, z) = some (prodM p 1 [pw p q e.1 z, pw p q e.2.1 (-c)], prodM p 1 [pw p q e.2.2.1 z, pw p q e.2.2.2 (-c)]) := by
  have w : (some (IntKind.wrap .i64 ((0 : Int) - c))) = some (-c) := by rw [i64_in _ (by omega)]; congr 1; omega
  unfold M_I_Group_simulated
  dsimp only
  refine bind_to ((Group_pow_eq h (isEl_in h1).1 (isEl_in h1).2).trans (congrArg some (show _ = pw p q e.1 z from rfl))) ?_
  refine bind_to w ?_
  refine bind_to ((Group_pow_eq h (isEl_in h2).1 (isEl_in h2).2).trans (congrArg some (show _ = pw p q e.2.1 (-c) from rfl))) ?_
  refine bind_to (mul2' h (isEl_in (isEl_pw h h1)) (isEl_in (isEl_pw h h2))) ?_
  refine bind_to ((Group_pow_eq h (isEl_in h3).1 (isEl_in h3).2).trans (congrArg some (show _ = pw p q e.2.2.1 z from rfl))) ?_
  refine bind_to w ?_
  refine bind_to ((Group_pow_eq h (isEl_in h4).1 (isEl_in h4).2).trans (congrArg some (show _ = pw p q e.2.2.2 (-c) from rfl))) ?_
  exact bind_to (mul2' h (isEl_in (isEl_pw h h3)) (isEl_in (isEl_pw h h4))) rfl

theorem fulfils_eq {p q g : Int} {l : List St} {pf : Pf} (h : Gr p q g) (hl : StOK p q l) (hn : l.length ≤ 20) (hp : pf.small 1048576) : M_I_Group_fulfils ((p, q, g), l, pf) = some (preS p q l pf && (List.range l.length).all (eqS p q l pf)) := by
  have h3 := h.p3
  have hqp := h.qp
  have hpm := h.pm
  obtain ⟨cs, ch, rs⟩ := pf
  obtain ⟨p1, p2, p3⟩ := hp
  dsimp only at p1 p2 p3
  unfold M_I_Group_fulfils preS
  dsimp only
  refine bind_to (congrArg some (i64_in _ (by omega))) ?_
  rw [len_bne (m := 2 * l.length) (by omega)]
  by_cases c1 : cs.length = 2 * l.length
  rotate_left
  · rw [decide_eq_false c1]; rfl
  rw [decide_eq_true c1]
  refine no_to rfl ?_
  rw [len_bne (n := ch.length) rfl]
  by_cases c2 : ch.length = l.length
  rotate_left
  · rw [decide_eq_false c2]; rfl
  rw [decide_eq_true c2]
  refine no_to rfl ?_
  rw [len_bne (n := rs.length) rfl]
  by_cases c3 : rs.length = l.length
  rotate_left
  · rw [decide_eq_false c3]; rfl
  rw [decide_eq_true c3]
  refine no_to rfl ?_
  refine bind_to (hasAll_eq h (by omega)) ?_
  cases c4 : cs.all (isEl p q)
  · rfl
  refine no_to rfl ?_
  refine bind_to (areExps_eq h (by omega)) ?_
  cases c5 : (ch.all fun e => decide (0 ≤ e ∧ e ≤ q - 1))
  · rfl
  refine no_to rfl ?_
  refine bind_to (areExps_eq h (by omega)) ?_
  cases c6 : (rs.all fun e => decide (0 ≤ e ∧ e ≤ q - 1))
  · rfl
  refine no_to rfl ?_
  refine (guard_loop (n := l.length) (eqS p q l (cs, ch, rs)) (some true) (some false) (by omega) (fun again i hi => ?_) (fun _ again => ?_)).trans ?_
  · have he := getD_at (d := st0) hi
    obtain ⟨⟨e1, e2⟩, e3, e4⟩ := hl _ (List.mem_of_getElem? he)
    have t1 := List.all_eq_true.1 c4 _ (List.mem_of_getElem? (getD_at (d := (0 : Int)) (show 2 * i < cs.length by omega)))
    have t2 := List.all_eq_true.1 c4 _ (List.mem_of_getElem? (getD_at (d := (0 : Int)) (show 2 * i + 1 < cs.length by omega)))
    have hch := exps_all c5 _ (List.mem_of_getElem? (getD_at (d := (0 : Int)) (show i < ch.length by omega)))
    unfold eqS
    dsimp only
    refine yes_to (lt_yes hi) ?_
    refine bind_to ((getI_nat _ i).trans he) ?_
    refine bind_to (getI_int (d := 0) rfl (by omega)) ?_
    refine bind_to (getI_int (d := 0) rfl (by omega)) ?_
    refine bind_to (simulated_eq h e1 e2 e3 e4 (by omega)) ?_
    refine bind_to (congrArg some (i64_in _ (by omega))) ?_
    refine bind_to (getI_int (d := 0) (n := 2 * i) (by omega) (by omega)) ?_
    dsimp only
    rw [bne_of (two_ways h (pw_range (by omega)) e2 t1)]
    cases d1 : (pw p q (l.getD i st0).1 (rs.getD i 0) == prodM p 1 [cs.getD (2 * i) 0, pw p q (l.getD i st0).2.1 (ch.getD i 0)])
    · rfl
    refine no_to rfl ?_
    refine bind_to (congrArg some (i64_in _ (by omega))) ?_
    refine bind_to (congrArg some (i64_in _ (by omega))) ?_
    refine bind_to (getI_int (d := 0) (n := 2 * i + 1) (by omega) (by omega)) ?_
    rw [bne_of (two_ways h (pw_range (by omega)) e4 t2)]
    cases d2 : (pw p q (l.getD i st0).2.2.1 (rs.getD i 0) == prodM p 1 [cs.getD (2 * i + 1) 0, pw p q (l.getD i st0).2.2.2 (ch.getD i 0)])
    · rfl
    refine no_to rfl ?_
    exact bind_to (congrArg some (i64_succ (by omega))) rfl
  · exact no_to (lt_no _) rfl
  · cases (List.range l.length).all (eqS p q l (cs, ch, rs)) <;> rfl

theorem preS_spec {p q : Int} {l : List St} {pf : Pf} (h : preS p q l pf = true) : pf.1.length = 2 * l.length ∧ pf.2.1.length = l.length ∧ pf.2.2.length = l.length ∧ pf.1.all (isEl p q) = true ∧ (pf.2.1.all fun e => decide (0 ≤ e ∧ e ≤ q - 1)) = true := by
  unfold preS at h
  rw [Bool.and_eq_true, Bool.and_eq_true, Bool.and_eq_true, Bool.and_eq_true, Bool.and_eq_true] at h
  exact ⟨of_decide_eq_true h.1, of_decide_eq_true h.2.1, of_decide_eq_true h.2.2.1, h.2.2.2.1, h.2.2.2.2.1⟩

theorem verifyOneOf_eq {p q g : Int} {s : ByteArray} {l : List St} {pf : Pf} (h : Gr p q g) (hs : s.size ≤ 40) (hl : StOK p q l) (hn : l.length ≤ 20) (hp : pf.small 1048576) : M_I_Group_verifyOneOf ((p, q, g), s, l, pf) = some (oneB p q g s l pf) := by
  have hq2 := h.q2
  have hqp := h.qp
  have hpm := h.pm
  have hsm := hp
  obtain ⟨cs, ch, rs⟩ := pf
  unfold M_I_Group_verifyOneOf oneB
  dsimp only
  refine bind_to (fulfils_eq h hl hn hsm) ?_
  cases hpre : preS p q l (cs, ch, rs)
  · rfl
  obtain ⟨c1, c2, c3, c4, c5⟩ := preS_spec hpre
  dsimp only at c1 c2 c3 c4 c5
  cases hall : (List.range l.length).all (eqS p q l (cs, ch, rs))
  · refine yes_to rfl ?_
    cases qSum q ch == jC p q g s l cs <;> rfl
  refine no_to rfl ?_
  refine bind_to (oneOf_eq h hs hl hn c4 (by omega)) ?_
  refine yes_to rfl ?_
  refine bind_to (sum_eq ⟨hq2, by omega⟩ (by omega) (exps_all c5)) ?_
  cases qSum q ch == jC p q g s l cs <;> rfl

theorem mulCiphers_eq {p q g : Int} {l : List (Int × Int)} (h : Gr p q g) (hl : l.length < 2 ^ 60) (hx : ∀ c ∈ l, (0 ≤ c.1 ∧ c.1 ≤ p) ∧ 0 ≤ c.2 ∧ c.2 ≤ p) : M_I_Group_mulCiphers ((p, q, g), l) = some (l.foldl (mulC p) (1, 1)) := by
  have h3 := h.p3
  unfold M_I_Group_mulCiphers
  dsimp only
  refine (loopO_for (σ := Int × Int) (fun i s => ((i : Int), s)) l.length (fun i s => some ((l.drop i).foldl (mulC p) s)) (fun _ s => (0 ≤ s.1 ∧ s.1 < p) ∧ 0 ≤ s.2 ∧ s.2 < p) (fun again s hs => ?_) (fun again i s hi hs ih => ?_) (by omega) (i := 0) (s := (1, 1)) (Nat.zero_le _) ⟨⟨by omega, by omega⟩, by omega, by omega⟩).trans ?_
  · simp only [lt_no, cond_false, List.drop_length, List.foldl_nil]
  · have ha := List.getElem?_eq_getElem hi
    have hx' := hx _ (List.getElem_mem hi)
    rw [lt_yes hi, cond_true]
    dsimp only
    refine bind_to ((getI_nat _ i).trans ha) ?_
    refine bind_to (mulTwo_eq (a := s) (b := l[i]) h ⟨by omega, by omega⟩ hx') ?_
    refine bind_to (congrArg some (i64_succ (by omega))) ?_
    rw [List.drop_eq_getElem_cons hi, List.foldl_cons]
    exact ih (mulC p s l[i]) ⟨prod_range (by omega), prod_range (by omega)⟩
  · rfl

theorem fold_ci {p q g : Int} (h : Gr p q g) : ∀ (l : List (Int × Int)) (s : Int × Int), isCi p q s = true → l.all (isCi p q) = true → isCi p q (l.foldl (mulC p) s) = true
  | [], _, hs, _ => hs
  | c :: l, s, hs, hl => by
    rw [List.all_cons, Bool.and_eq_true] at hl
    rw [List.foldl_cons]
    exact fold_ci h l _ (isCi_mulC h hs hl.1) hl.2

theorem oneRow_ok {p q g y : Int} (h1 : isEl p q g = true) (h2 : isEl p q y = true) : LinOK p q [[g]] [y] where
  n1 := by simp
  n8 := by simp
  m1 := by simp
  m8 := by simp
  good := fun r hr => by
    simp only [List.mem_cons, List.not_mem_nil, or_false] at hr
    rw [hr]
    simp [h1]
  len := by simp
  ims := by simp [h2]

def noneP (pf : Pf) : Bool := decide (pf.1.length = 0) && (decide (pf.2.1.length = 0) && decide (pf.2.2.length = 0))

theorem zero_len (n : Nat) : (((n : Nat) : Int) == 0) = decide (n = 0) := by
  by_cases h : n = 0
  · rw [h]; rfl
  · rw [decide_eq_false h]
    exact beq_eq_false_iff_ne.2 (by omega)

theorem isEmpty_eq (pf : Pf) : M_I_Proof_isEmpty pf = some (noneP pf) := by
  obtain ⟨a, b, c⟩ := pf
  unfold M_I_Proof_isEmpty noneP
  dsimp only
  rw [zero_len, zero_len, zero_len]
  cases decide (a.length = 0) <;> cases decide (b.length = 0) <;> rfl

theorem bNone2_eq {pf : Pf} (hp : pf.small 1048576) : M_S_bNone pf = some (noneP pf) := by
  obtain ⟨a, b, c⟩ := pf
  obtain ⟨p1, p2, p3⟩ := hp
  dsimp only at p1 p2 p3
  unfold M_S_bNone noneP
  dsimp only
  refine bind_to (congrArg some (i64_in _ (by omega))) ?_
  refine bind_to (congrArg some (i64_in _ (by omega))) ?_
  congr 1
  by_cases h : a.length = 0 ∧ b.length = 0 ∧ c.length = 0
  · rw [decide_eq_true h.1, decide_eq_true h.2.1, decide_eq_true h.2.2, h.1, h.2.1, h.2.2]
    rfl
  · have e : ((a.length : Int) + (b.length : Int) + (c.length : Int) == 0) = false := beq_eq_false_iff_ne.2 (by omega)
    rw [e]
    by_cases h1 : a.length = 0
    · by_cases h2 : b.length = 0
      · rw [decide_eq_false (show ¬ c.length = 0 by omega), Bool.and_false, Bool.and_false]
      · rw [decide_eq_false h2, Bool.false_and, Bool.and_false]
    · rw [decide_eq_false h1, Bool.false_and]

def topK (kd pt : Int) : Int := bif kd == 1 then 1 else pt

abbrev Sl := Int × List (Int × Int) × List Pf × Pf

theorem Verify_eq {p q g key : Int} {ct : Ct} {x : Sl} (h : Gr p q g) (hk : isEl p q key = true) (hct : CtOK2 ct) (h8 : rowsK ct.1 = true → ct.2.2.2.1 - ct.2.2.1 < 8) (hps : ∀ r ∈ x.2.2.1, Pf.small r 1048576) (hsum : Pf.small x.2.2.2 1048576) (hl1 : x.2.1.length ≤ 1048576) (hl2 : x.2.2.1.length ≤ 1048576) :
    ∃ b, M_S_bVerify ((p, q, g), key, ct, x) = some b ∧ M_I_Group_isSealed ((p, q, g), key, ct, x) = some b := by
  obtain ⟨kd, op, le, mo, pt⟩ := ct
  obtain ⟨voter, cs, ps, sm⟩ := x
  dsimp only at h8 hps hsum hl1 hl2
  have hr1 : M_S_bRows (kd, op, le, mo, pt) = some (rowsK kd) := bRows_eq _
  have hr2 : M_I_Contest_isForm (kd, op, le, mo, pt) = some (rowsK kd) := bRows_eq _
  have hw : M_S_bWidth (kd, op, le, mo, pt) = some (bif rowsK kd then op else 1) := by
    unfold M_S_bWidth
    refine bind_to hr1 ?_
    cases rowsK kd <;> rfl
  have hw2 : M_I_Contest_width (kd, op, le, mo, pt) = some (bif rowsK kd then op else 1) := by
    unfold M_I_Contest_width
    refine bind_to hr2 ?_
    cases rowsK kd <;> rfl
  unfold M_S_bVerify M_I_Group_isSealed M_I_isVoter
  dsimp only
  rw [in_eq, within_eq, hw, hw2, hr1, hr2]
  simp only [bindO_some']
  cases hv : decide (0 ≤ voter ∧ voter ≤ 999999)
  · exact ⟨false, rfl, rfl⟩
  simp only [Bool.not_true, cond_false]
  cases c1 : ((cs.length : Int) != (bif rowsK kd then op else 1))
  rotate_left
  · exact ⟨false, rfl, rfl⟩
  simp only [cond_false]
  cases c2 : ((ps.length : Int) != (bif rowsK kd then op else 1))
  rotate_left
  · exact ⟨false, rfl, rfl⟩
  simp only [cond_false]
  rw [eGood_eq h, hasCiphers_eq h (by omega)]
  simp only [bindO_some']
  cases c3 : (decide (cs.length ≤ 24) && cs.all (isCi p q))
  · exact ⟨false, rfl, rfl⟩
  simp only [Bool.not_true, cond_false]
  rw [Bool.and_eq_true] at c3
  have hall := c3.2
  have hv' := of_decide_eq_true hv
  obtain ⟨u, rfl⟩ := Int.eq_ofNat_of_zero_le hv'.1
  have hu : u < 1000000 := by omega
  rw [bLabel_eq hu, ballotLabel_eq hu]
  simp only [bindO_some']
  have hsz : (ballotB u).size ≤ 40 := by have := ballotB_size hu; omega
  generalize ballotB u = s at hsz
  have c1' : (cs.length : Int) = bif rowsK kd then op else 1 := by simpa using c1
  have c2' : (ps.length : Int) = bif rowsK kd then op else 1 := by simpa using c2
  cases hf : rowsK kd
  · -- one cipher
    rw [hf, cond_false] at c1' c2'
    have hc0 := getD_at (d := ((0, 0) : Int × Int)) (show 0 < cs.length by omega)
    have hp0 := getD_at (d := (([], [], []) : Pf)) (show 0 < ps.length by omega)
    have hci := List.all_eq_true.1 hall _ (List.mem_of_getElem? hc0)
    simp only [isCi, Bool.and_eq_true] at hci
    have hpsm := hps _ (List.mem_of_getElem? hp0)
    have hL := oneRow_ok (isEl_g h) hci.1
    refine ⟨linB p q g s [[g]] [(cs.getD 0 (0, 0)).1] (ps.getD 0 ([], [], [])) && noneP sm, ?_, ?_⟩
    · refine yes_to rfl ?_
      refine bind_to (getI_int (d := (0, 0)) (n := 0) rfl (by omega)) ?_
      refine bind_to (getI_int (d := ([], [], [])) (n := 0) rfl (by omega)) ?_
      refine bind_to (sVerify_eq h hsz hL hpsm) ?_
      cases linB p q g s [[g]] [(cs.getD 0 (0, 0)).1] (ps.getD 0 ([], [], []))
      · rfl
      · exact yes_to rfl (bind_to (bNone2_eq hsum) rfl)
    · refine yes_to rfl ?_
      refine bind_to (isEmpty_eq sm) ?_
      cases noneP sm
      · rw [Bool.and_false]
        rfl
      · refine yes_to rfl ?_
        refine bind_to (getI_int (d := (0, 0)) (n := 0) rfl (by omega)) ?_
        refine bind_to (getI_int (d := ([], [], [])) (n := 0) rfl (by omega)) ?_
        refine bind_to (verifyLinear_eq h hsz hL hpsm) ?_
        rw [Bool.and_true]
  · -- a row of ciphers
    rw [hf, cond_true] at c1' c2'
    obtain ⟨⟨q1, q2⟩, q3⟩ := hct
    dsimp only at q1 q2 q3
    have h8' := h8 hf
    have hkd : (kd = 1 ∧ pt = 0 ∧ mo ≤ 8) ∨ (kd = 2 ∧ (1 ≤ pt ∧ pt ≤ 5) ∧ mo ≤ 40) := by
      rcases q3 with ⟨hk2, g1, g2, g3⟩ | ⟨hk4, -⟩ | ⟨hk13, g1, g2, g3⟩
      · have := Int.mul_le_mul g1.2 g2.2 (by omega) (by omega)
        exact .inr ⟨hk2, g2, by omega⟩
      · rw [hk4] at hf
        cases hf
      · rcases hk13 with hk1 | hk3
        · exact .inl ⟨hk1, g3, by omega⟩
        · rw [hk3] at hf
          cases hf
    have hop : op ≤ 8 := by
      rcases q3 with ⟨-, g1, -⟩ | ⟨hk4, -⟩ | ⟨-, g1, -⟩
      · exact g1.2
      · rw [hk4] at hf
        cases hf
      · exact g1.2
    have htS : M_S_bTop (kd, op, le, mo, pt) = some (topK kd pt) := by
      unfold M_S_bTop topK
      cases kd == 1 <;> rfl
    have htI : M_I_Contest_most (kd, op, le, mo, pt) = some (topK kd pt) := by
      unfold M_I_Contest_most topK
      rcases hkd with ⟨rfl, -⟩ | ⟨rfl, -⟩ <;> rfl
    have htb : 1 ≤ topK kd pt ∧ topK kd pt ≤ 5 := by
      unfold topK
      rcases hkd with ⟨rfl, -⟩ | ⟨rfl, g, -⟩
      · show (1 : Int) ≤ 1 ∧ (1 : Int) ≤ 5
        decide
      · exact g
    obtain ⟨T, hT⟩ := Int.eq_ofNat_of_zero_le (show 0 ≤ topK kd pt by omega)
    obtain ⟨n, hn⟩ := Int.eq_ofNat_of_zero_le (show 0 ≤ mo - le + 1 by omega)
    have hmo : mo ≤ 40 := by rcases hkd with ⟨-, -, g⟩ | ⟨-, -, g⟩ <;> omega
    have hin : ∀ c ∈ cs, (0 ≤ c.1 ∧ c.1 ≤ p) ∧ 0 ≤ c.2 ∧ c.2 ≤ p := fun c hc => isCi_in (List.all_eq_true.1 hall c hc)
    have hfc := fold_ci h cs (1, 1) (by simp only [isCi, isEl_one h, Bool.and_self]) hall
    have key' : ∀ i, i < cs.length → isCi p q (cs.getD i (0, 0)) = true ∧ Pf.small (ps.getD i ([], [], [])) 1048576 := fun i hi =>
      ⟨List.all_eq_true.1 hall _ (List.mem_of_getElem? (getD_at hi)), hps _ (List.mem_of_getElem? (getD_at (show i < ps.length by omega)))⟩
    have fin : ∀ b1 b2 : Bool, ∃ b, (bif b1 then some b2 else some false) = some b := fun b1 b2 => by cases b1 <;> exact ⟨_, rfl⟩
    obtain ⟨b, hb⟩ := fin ((List.range cs.length).all fun i => oneB p q g s (stms p q g key (cs.getD i (0, 0)) 0 (T + 1)) (ps.getD i ([], [], []))) (oneB p q g s (stms p q g key (cs.foldl (mulC p) (1, 1)) le n) sm)
    refine ⟨b, ?_, ?_⟩
    · refine no_to rfl ?_
      refine (guard_loop (n := cs.length) (fun i => oneB p q g s (stms p q g key (cs.getD i (0, 0)) 0 (T + 1)) (ps.getD i ([], [], []))) (some (oneB p q g s (stms p q g key (cs.foldl (mulC p) (1, 1)) le n) sm)) (some false) (by omega) (fun again i hi => ?_) (fun _ again => ?_)).trans hb
      · obtain ⟨k1, k2⟩ := key' i hi
        refine yes_to (lt_yes hi) ?_
        refine bind_to (getI_int (d := (0, 0)) rfl hi) ?_
        refine bind_to htS ?_
        refine bind_to (S_statements_eq (n := T + 1) h k1 (by omega) (by omega) (by omega)) ?_
        refine bind_to (getI_int (d := ([], [], [])) rfl (by omega)) ?_
        refine bind_to (sVerifyOne_eq h hsz (stms_ok h hk k1) (by rw [stms_len]; omega) k2) ?_
        cases oneB p q g s (stms p q g key (cs.getD i (0, 0)) 0 (T + 1)) (ps.getD i ([], [], []))
        · rfl
        · exact no_to rfl (bind_to (congrArg some (i64_succ (by omega))) rfl)
      · refine no_to (lt_no _) ?_
        refine bind_to (eMul_eq h (by omega) hin) ?_
        refine bind_to (S_statements_eq (n := n) h hfc q1 (by omega) (by omega)) ?_
        exact bind_to (sVerifyOne_eq h hsz (stms_ok h hk hfc) (by rw [stms_len]; omega) hsum) rfl
    · refine no_to rfl ?_
      refine (guard_loop (n := cs.length) (fun i => oneB p q g s (stms p q g key (cs.getD i (0, 0)) 0 (T + 1)) (ps.getD i ([], [], []))) (some (oneB p q g s (stms p q g key (cs.foldl (mulC p) (1, 1)) le n) sm)) (some false) (by omega) (fun again i hi => ?_) (fun _ again => ?_)).trans hb
      · obtain ⟨k1, k2⟩ := key' i hi
        refine yes_to (lt_yes hi) ?_
        refine bind_to (getI_int (d := (0, 0)) rfl hi) ?_
        refine bind_to htI ?_
        refine bind_to (I_statements_eq (n := T + 1) h k1 (by omega) (by omega) (by omega)) ?_
        refine bind_to (getI_int (d := ([], [], [])) rfl (by omega)) ?_
        refine bind_to (verifyOneOf_eq h hsz (stms_ok h hk k1) (by rw [stms_len]; omega) k2) ?_
        cases oneB p q g s (stms p q g key (cs.getD i (0, 0)) 0 (T + 1)) (ps.getD i ([], [], []))
        · rfl
        · exact no_to rfl (bind_to (congrArg some (i64_succ (by omega))) rfl)
      · refine no_to (lt_no _) ?_
        refine bind_to (mulCiphers_eq h (by omega) hin) ?_
        refine bind_to (I_statements_eq (n := n) h hfc q1 (by omega) (by omega)) ?_
        exact bind_to (verifyOneOf_eq h hsz (stms_ok h hk hfc) (by rw [stms_len]; omega) hsum) rfl

theorem VerifySealed_eq (p q g key : Int) (ct : Ct) (x : Sl) (hps : ∀ r ∈ x.2.2.1, Pf.small r 1048576) (hsum : Pf.small x.2.2.2 1048576) (hl1 : x.2.1.length ≤ 1048576) (hl2 : x.2.2.1.length ≤ 1048576) :
    ∃ r b, M_S_VerifySealed ((p, q, g), key, ct, x) = some (r, b) ∧ M_I_VerifySealed ((p, q, g), key, ct, x) = some (r, b) := by
  obtain ⟨b, hS, hI, hb⟩ := Sealable_eq p q g ct
  unfold M_S_VerifySealed M_I_VerifySealed
  dsimp only
  rw [show M_S_bGood ((p, q, g), ct.1, ct.2.1, ct.2.2.1, ct.2.2.2.1, ct.2.2.2.2) = some b from hS, show M_I_IsSealable ((p, q, g), ct.1, ct.2.1, ct.2.2.1, ct.2.2.2.1, ct.2.2.2.2) = some b from hI]
  simp only [bindO_some']
  cases b
  · exact ⟨false, false, rfl, rfl⟩
  obtain ⟨hok, hct, h8⟩ := hb rfl
  have h := okG_spec hok
  rw [gIs_eq h (by simp), has_eq' h]
  simp only [bindO_some', Bool.not_true, cond_false, List.all_cons, List.all_nil, Bool.and_true]
  cases hk : isEl p q key
  · exact ⟨false, false, rfl, rfl⟩
  obtain ⟨v, v1, v2⟩ := Verify_eq h hk hct h8 hps hsum hl1 hl2
  rw [show M_S_bVerify ((p, q, g), key, (ct.1, ct.2.1, ct.2.2.1, ct.2.2.2.1, ct.2.2.2.2), x.1, x.2.1, x.2.2.1, x.2.2.2.1, x.2.2.2.2.1, x.2.2.2.2.2) = some v from v1,
    show M_I_Group_isSealed ((p, q, g), key, (ct.1, ct.2.1, ct.2.2.1, ct.2.2.2.1, ct.2.2.2.2), x.1, x.2.1, x.2.2.1, x.2.2.2.1, x.2.2.2.2.1, x.2.2.2.2.2) = some v from v2]
  exact ⟨v, true, rfl, rfl⟩

theorem law_FnExactVerifySealed (x : (Int × Int × Int) × Int × (Int × Int × Int × Int × Int) × Int × List (Int × Int) × List (List Int × List Int × List Int) × List Int × List Int × List Int) (h : WFI [.data (.cons (.int .i64) (.cons (.int .i64) (.one (.int .i64)))), .data (.int .i64), .data (.cons (.int .i64) (.cons (.int .i64) (.cons (.int .i64) (.cons (.int .i64) (.one (.int .i64)))))), .data (.cons (.int .i64) (.cons (.sl (.cons (.int .i64) (.one (.int .i64)))) (.cons (.sl (.cons (.sl (.int .i64)) (.cons (.sl (.int .i64)) (.one (.sl (.int .i64)))))) (.one (.cons (.sl (.int .i64)) (.cons (.sl (.int .i64)) (.one (.sl (.int .i64)))))))))] x) : M_L_FnExactVerifySealed x = some true := by
  obtain ⟨⟨p, q, g⟩, key, ct, voter, cs, ps, sm⟩ := x
  have w1 := wf_cs (x := cs) h.2.2.2.2.1
  obtain ⟨w2, w3⟩ := wf_pfs (l := ps) h.2.2.2.2.2.1
  have w4 : Pf.small sm (2 ^ 63 - 1) := by
    have hm : maxLen ≤ 2 ^ 63 - 1 := by decide
    have g : WF (.cons (.sl (.int .i64)) (.cons (.sl (.int .i64)) (.one (.sl (.int .i64))))) sm := h.2.2.2.2.2.2
    have g1 : sm.1.length ≤ maxLen := g.1.1
    have g2 : sm.2.1.length ≤ maxLen := g.2.1.1
    have g3 : sm.2.2.length ≤ maxLen := g.2.2.1
    exact ⟨by omega, by omega, by omega⟩
  unfold M_L_FnExactVerifySealed M_L_szSealed
  dsimp only
  rw [szCipherS_eq (by omega) (by omega) w1]
  simp only [bindO_some']
  by_cases k1 : (1048576 : Int) < cs.length
  · rw [if_pos k1]
    rfl
  rw [if_neg k1, decide_eq_false (show ¬ (1048576 - (cs.length : Int) < 0) by omega), cond_false]
  obtain ⟨a, a1, a2, a3⟩ := szProofS_eq (x := ps) (left := 1048576 - (cs.length : Int)) (by omega) (by omega) w2 w3
  rw [a1]
  simp only [bindO_some']
  by_cases k2 : a < 0
  · rw [decide_eq_true k2]
    rfl
  rw [decide_eq_false k2, cond_false]
  obtain ⟨b, b1, b2, b3⟩ := szProof_eq (a := sm) (left := a) (by omega) (by omega) w4
  rw [show M_L_szProof ((sm.1, sm.2.1, sm.2.2), a) = some b from b1]
  simp only [bindO_some']
  by_cases k3 : b < 0
  · rw [decide_eq_true k3]
    rfl
  rw [decide_eq_false k3, cond_false]
  simp only [bindO_some']
  rw [decide_eq_false k3, cond_false]
  have a3' := a3 (by omega)
  have b3' := b3 (by omega)
  have hps : ∀ r ∈ ps, Pf.small r 1048576 := pf_small (n := 1048576) (by omega)
  have hsm : Pf.small sm 1048576 := ⟨by omega, by omega, by omega⟩
  have up : ∀ r : Pf, Pf.small r 1048576 → Pf.small r (2 ^ 40) := fun r hr => ⟨by have := hr.1; omega, by have := hr.2.1; omega, by have := hr.2.2; omega⟩
  have hto : M_L_toSealed (voter, cs, ps, sm.1, sm.2.1, sm.2.2) = some (voter, cs, ps, sm) := by
    unfold M_L_toSealed
    dsimp only
    refine bind_to (toCipherS_eq (by omega)) ?_
    refine bind_to (toProofS_eq (by omega) hps) ?_
    exact bind_to (show M_L_toProof (sm.1, sm.2.1, sm.2.2) = some sm from toProof_eq hsm) rfl
  have hte : M_L_eqSealed ((voter, cs, ps, sm.1, sm.2.1, sm.2.2), voter, cs, ps, sm.1, sm.2.1, sm.2.2) = some true := by
    unfold M_L_eqSealed
    dsimp only
    refine no_to (bne_self_eq_false _) ?_
    refine bind_to ((eqCipherS_eq (by omega)).trans (congrArg some (decide_eq_true rfl))) ?_
    refine no_to rfl ?_
    refine bind_to (eqProofS_eq (by omega) fun r hr => up r (hps r hr)) ?_
    refine no_to rfl ?_
    exact bind_to ((show M_L_eqProof ((sm.1, sm.2.1, sm.2.2), sm.1, sm.2.1, sm.2.2) = some (decide (sm = sm)) from eqProof_eq (up sm hsm)).trans (congrArg some (decide_eq_true rfl))) rfl
  obtain ⟨r, c, hS, hI⟩ := VerifySealed_eq p q g key ct (voter, cs, ps, sm) hps hsm (by dsimp only; omega) (by dsimp only; omega)
  refine bind_to (toGroup_eq _) ?_
  refine bind_to (v := ct) rfl ?_
  refine bind_to hto ?_
  refine bind_to hS ?_
  refine bind_to hto ?_
  refine bind_to (toGroup_eq _) ?_
  refine bind_to (v := ct) rfl ?_
  refine bind_to hI ?_
  refine no_to (by cases r <;> rfl) ?_
  refine no_to (by cases c <;> rfl) ?_
  refine bind_to hto ?_
  exact bind_to hte rfl

end Go.Proofs.YtgjneigkkgaaiaaGreatDoor.Vd
