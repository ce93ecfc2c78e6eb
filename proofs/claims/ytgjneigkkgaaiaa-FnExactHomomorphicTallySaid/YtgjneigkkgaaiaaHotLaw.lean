/- The law FnExactHomomorphicTally as plain functions on data returns true for all arguments. No conditions. -/
import Derived.Test.YtgjneigkkgaaiaaHotMod
set_option linter.unusedVariables false
set_option linter.unusedSimpArgs false
set_option linter.unusedSectionVars false
set_option linter.unnecessarySimpa false
namespace Go.Proofs.Ytgjneigkkgaaiaa.Vd
open Go.IntWalk

theorem i64_succ {i : Nat} (h : i < 2 ^ 62) : IntKind.wrap .i64 ((i : Int) + 1) = ((i + 1 : Nat) : Int) := by
  rw [i64_in _ (by omega)]
  rfl

theorem lt_yes {i n : Nat} (h : i < n) : decide ((i : Int) < (n : Int)) = true := by simp [h]

theorem lt_no (n : Nat) : decide ((n : Int) < (n : Int)) = false := by simp

/-- A walk over a list by its numbers, with no other state. -/
def walk {α β : Type} (step : Nat → α → Option β → Option β) (fin : Option β) : Nat → List α → Option β
  | _, [] => fin
  | i, a :: r => step i a (walk step fin (i + 1) r)

theorem loop_walk {α β : Type} {body : (Int → Option β) → Int → Option β} (l : List α) (step : Nat → α → Option β → Option β) (fin : Option β)
    (h : ∀ (again : Int → Option β) (i : Nat) a, l[i]? = some a → i < l.length → body again (i : Int) = step i a (again ((i + 1 : Nat) : Int)))
    (hend : ∀ again : Int → Option β, body again (l.length : Int) = fin) (hl : l.length < 2 ^ 64) : loopO body 0 = walk step fin 0 l := by
  refine (loopO_for (σ := Unit) (fun i _ => (i : Int)) l.length (fun i _ => walk step fin i (l.drop i)) (fun _ _ => True) (fun again _ _ => ?_) (fun again i _ hi _ ih => ?_) hl (i := 0) (s := ()) (Nat.zero_le _) trivial).trans rfl
  · simp [hend, walk]
  · rw [h again i l[i] (List.getElem?_eq_getElem hi) hi, ih () trivial, List.drop_eq_getElem_cons hi, walk]

theorem walk_all {α : Type} (p : α → Bool) : ∀ (l : List α) (i : Nat), walk (fun _ a k => if p a = true then k else some false) (some true) i l = some (l.all p)
  | [], _ => rfl
  | a :: l, i => by
    rw [walk, walk_all p l]
    cases h : p a <;> simp [h]

theorem lenOk_of {n : Nat} (h : n ≤ 68719476736) : lenOk n = true := by simp [lenOk, lim_eq, h]

theorem sliceLN_nat {l n : Nat} (h : l ≤ n) : sliceLN (l : Int) n = some (l, n) := by
  unfold sliceLN
  rw [if_pos ⟨by omega, by omega⟩]
  simp

theorem sliceNH_nat {h n : Nat} (hh : h ≤ n) : sliceNH (h : Int) n = some (0, h) := by
  unfold sliceNH
  rw [if_pos ⟨by omega, by omega⟩]
  simp

/-- A loop whose states go down: a property of its answer. -/
theorem loopO_ind {σ β : Type} {body : (σ → Option β) → σ → Option β} (Q : σ → Option β → Prop) (Inv : σ → Prop) (μ : σ → Nat)
    (step : ∀ (again : σ → Option β) s, Inv s → (∀ s', Inv s' → μ s' < μ s → Q s' (again s')) → Q s (body again s)) {s : σ} (h0 : Inv s) (hm : μ s < 2 ^ 64) : Q s (loopO body s) := by
  rw [loopO_eq]
  have H : ∀ (n : Nat) (s : σ), Inv s → μ s < n → Q s (iter body n s) := by
    intro n
    induction n with
    | zero => intro s _ h; exact absurd h (Nat.not_lt_zero _)
    | succ n ih => intro s hs h; exact step _ s hs fun s' hs' h' => ih s' hs' (by omega)
  exact H many s h0 hm

theorem in_eq (x a b : Int) : M_S_l1In (x, a, b) = some (decide (a ≤ x ∧ x ≤ b)) := by
  by_cases h : a ≤ x <;> by_cases h2 : x ≤ b <;> simp [M_S_l1In, h, h2]

theorem within_eq (x a b : Int) : M_I_within (x, a, b) = some (decide (a ≤ x ∧ x ≤ b)) := by
  by_cases h : a ≤ x <;> by_cases h2 : x ≤ b <;> simp [M_I_within, h, h2]

theorem isModulus_eq (x : Int) : M_I_isModulus x = some (decide (2 ≤ x ∧ x ≤ 2000000000)) := by
  unfold M_I_isModulus
  rw [within_eq]
  rfl

def IsP (n : Int) : Prop := 2 ≤ n ∧ ∀ d, 2 ≤ d → d * d ≤ n → n % d ≠ 0

noncomputable def isP (n : Int) : Bool := @decide (IsP n) (Classical.propDecidable _)

/-- No divisor from d on. -/
def NoDiv (n s : Int) : Prop := ∀ d, s ≤ d → d * d ≤ n → n % d ≠ 0

noncomputable def noDiv (n s : Int) : Bool := @decide (NoDiv n s) (Classical.propDecidable _)

theorem noDiv_end {n s : Int} (hs : 0 ≤ s) (h : n < s * s) : noDiv n s = true := by
  simp only [noDiv, decide_eq_true_eq]
  intro d hd hdd
  have := Int.mul_le_mul hd hd hs (by omega)
  omega

theorem noDiv_hit {n s : Int} (h : s * s ≤ n) (h2 : n % s = 0) : noDiv n s = false := by
  simp only [noDiv, decide_eq_false_iff_not]
  intro hn
  exact hn s (Int.le_refl _) h h2

theorem noDiv_step {n s : Int} (h2 : s * s ≤ n → n % s ≠ 0) : noDiv n s = noDiv n (s + 1) := by
  simp only [noDiv, decide_eq_decide]
  constructor
  · intro h d hd hdd
    exact h d (by omega) hdd
  · intro h d hd hdd
    by_cases he : d = s
    · subst he
      exact h2 hdd
    · exact h d (by omega) hdd

theorem sq_lt {s : Int} (h0 : 0 ≤ s) (h : s * s ≤ 2000000000) : s ≤ 44721 := by
  refine Int.not_lt.1 fun hlt => ?_
  have := Int.mul_le_mul (show (44722 : Int) ≤ s by omega) (show (44722 : Int) ≤ s by omega) (by omega) h0
  omega

theorem sq_le {s k : Int} (h0 : 0 ≤ s) (h : s ≤ k) : s * s ≤ k * k := Int.mul_le_mul h h h0 (by omega)

theorem nPrime_eq {n : Int} (hn : n ≤ 2000000000) : M_S_nPrime n = some (isP n) := by
  unfold M_S_nPrime
  by_cases h2 : n < 2
  · have : isP n = false := by simp only [isP, decide_eq_false_iff_not]; intro h; have := h.1; omega
    simp [h2, this]
  · have hb : decide (n < 2) = false := by simpa using h2
    rw [hb, cond_false]
    have h1 : isP n = noDiv n 2 := by
      simp only [isP, noDiv, decide_eq_decide]
      exact ⟨fun h => h.2, fun h => ⟨by omega, h⟩⟩
    rw [h1]
    refine loopO_spec (fun s => some (noDiv n s)) (fun s => 2 ≤ s ∧ s ≤ 50000) (fun s => (50000 - s).toNat) (fun again s hs ih => ?_) ⟨by omega, by omega⟩ (by omega)
    obtain ⟨hs1, hs2⟩ := hs
    have hq := sq_le (by omega) hs2
    have hq0 : 0 ≤ s * s := Int.mul_nonneg (by omega) (by omega)
    simp only [bindO_some', i64_in _ (show (-9223372036854775808 : Int) ≤ s * s ∧ s * s ≤ 9223372036854775807 by omega)]
    by_cases hle : s * s ≤ n
    · have := sq_lt (by omega) (show s * s ≤ 2000000000 by omega)
      have hgs : guardO (s != 0) = some () := guardO_of (by simp; omega)
      simp only [hle, decide_true, cond_true, hgs, bindO_some', tmod_nn (show 0 ≤ n by omega)]
      by_cases h0 : n % s = 0
      · simp [h0, noDiv_hit hle h0]
      · have hb : (n % s == 0) = false := by simpa using h0
        have hw := i64_in (s + 1) (by omega)
        have hi := ih (s + 1) ⟨by omega, by omega⟩ (by omega)
        have hn := noDiv_step (n := n) (s := s) (fun _ => h0)
        rw [hb, cond_false, hw, hi, hn]
    · simp [hle, noDiv_end (by omega) (show n < s * s by omega)]

theorem odd_loop {n : Int} (hn : n ≤ 2000000000) (h2 : 2 ≤ n) (hodd : n % 2 = 1 ∨ n = 2) : loopO (fun (again9 : (Int → (Option Bool))) => (fun (s10 : Int) => (bindO (some (IntKind.wrap .i64 (s10 * s10))) (fun (a11 : Int) => (cond (decide (a11 ≤ n)) (bindO (guardO (s10 != (0 : Int))) (fun (a12 : Unit) => (bindO (some (Int.tmod n s10)) (fun (a13 : Int) => (cond (a13 == (0 : Int)) (some false) (bindO (some (IntKind.wrap .i64 (s10 + (2 : Int)))) (fun (a14 : Int) => (again9 a14)))))))) (some true)))))) (3 : Int) = some (noDiv n 3) := by
  refine loopO_spec (fun s => some (noDiv n s)) (fun s => 3 ≤ s ∧ s ≤ 50000 ∧ s % 2 = 1) (fun s => (50000 - s).toNat) (fun again s hs ih => ?_) ⟨by omega, by omega, by omega⟩ (by omega)
  obtain ⟨hs1, hs2, hs3⟩ := hs
  have hq := sq_le (by omega) hs2
  have hq0 : 0 ≤ s * s := Int.mul_nonneg (by omega) (by omega)
  simp only [bindO_some', i64_in _ (show (-9223372036854775808 : Int) ≤ s * s ∧ s * s ≤ 9223372036854775807 by omega)]
  by_cases hle : s * s ≤ n
  · have := sq_lt (by omega) (show s * s ≤ 2000000000 by omega)
    have h9 := sq_le (show (0 : Int) ≤ 3 by omega) hs1
    have hgs : guardO (s != 0) = some () := guardO_of (by simp; omega)
    simp only [hle, decide_true, cond_true, hgs, bindO_some', tmod_nn (show 0 ≤ n by omega)]
    by_cases h0 : n % s = 0
    · simp [h0, noDiv_hit hle h0]
    · have hb : (n % s == 0) = false := by simpa using h0
      have hw := i64_in (s + 2) (by omega)
      have hi := ih (s + 2) ⟨by omega, by omega, by omega⟩ (by omega)
      have hn1 := noDiv_step (n := n) (s := s) (fun _ => h0)
      have hn2 := noDiv_step (n := n) (s := s + 1) (fun h8 h1 => by
        have := Int.emod_emod_of_dvd n (show (2 : Int) ∣ (s + 1) by omega)
        rw [h1] at this
        have h3 : n ≠ 2 := fun h => by subst h; omega
        omega)
      rw [hb, cond_false, hw, hi, hn1, hn2, show s + 1 + 1 = s + 2 by omega]
  · simp [hle, noDiv_end (by omega) (show n < s * s by omega)]

theorem isPrime_eq {n : Int} (hn : n ≤ 2000000000) : M_I_isPrime n = some (isP n) := by
  unfold M_I_isPrime
  rw [isModulus_eq]
  by_cases h2 : 2 ≤ n
  · have h1 : isP n = noDiv n 2 := by
      simp only [isP, noDiv, decide_eq_decide]
      exact ⟨fun h => h.2, fun h => ⟨h2, h⟩⟩
    have hg2 : guardO ((2 : Int) != 0) = some () := rfl
    by_cases ho : n % 2 = 1 ∨ n = 2
    · rw [odd_loop hn h2 ho, hg2]
      simp only [bindO_some', h2, hn, and_self, decide_true, Bool.not_true, cond_false, tmod_nn (show 0 ≤ n by omega), h1]
      rcases ho with ho | rfl
      · have hb : (n % 2 == 0) = false := by simp [ho]
        rw [hb, cond_false, noDiv_step (n := n) (s := 2) (fun _ => by omega)]
        rfl
      · rw [noDiv_end (n := 2) (s := 2) (by omega) (by omega), noDiv_end (n := 2) (s := 3) (by omega) (by omega)]
        rfl
    · have he : n % 2 = 0 := by omega
      have hn2 : n ≠ 2 := fun h => ho (.inr h)
      have hb : (n != 2) = true := by simpa using hn2
      simp only [bindO_some', hg2, h2, hn, and_self, decide_true, Bool.not_true, cond_false, tmod_nn (show 0 ≤ n by omega), he, beq_self_eq_true, cond_true, hb, h1]
      rw [noDiv_hit (by omega) he]
  · have : isP n = false := by simp only [isP, decide_eq_false_iff_not]; intro h; have := h.1; omega
    simp [h2, this]

theorem pow_mod (a m : Int) : ∀ k : Nat, (a % m) ^ k % m = a ^ k % m
  | 0 => by simp
  | k + 1 => by rw [Int.pow_succ, Int.pow_succ, Int.mul_emod, pow_mod a m k, ← Int.mul_emod, Int.mul_emod, Int.emod_emod_of_dvd _ (Int.dvd_refl m), ← Int.mul_emod]

theorem sq_pow (a : Int) (k : Nat) : (a * a) ^ k = a ^ (2 * k) := by
  rw [show a * a = a ^ 2 by rw [Int.pow_succ, Int.pow_succ, Int.pow_zero, Int.one_mul], ← Int.pow_mul]

/-- One round of the power loop. -/
theorem pow_round {out a m : Int} {e : Int} (he : 0 < e) : ((if e % 2 = 1 then out * a % m else out) * (a * a % m) ^ (e / 2).toNat) % m = (out * a ^ e.toNat) % m := by
  have hk : e.toNat = 2 * (e / 2).toNat + (e % 2).toNat := by omega
  rw [Int.mul_emod, pow_mod, ← Int.mul_emod, sq_pow]
  by_cases h : e % 2 = 1
  · rw [if_pos h, hk, h, Int.pow_add, show (1 : Int).toNat = 1 by rfl, Int.pow_succ, Int.pow_zero, Int.one_mul, Int.mul_emod, Int.emod_emod_of_dvd _ (Int.dvd_refl m), ← Int.mul_emod]
    congr 1
    rw [Int.mul_assoc, Int.mul_comm a]
  · rw [if_neg h, hk, show e % 2 = 0 by omega]
    rfl

theorem mul_in {a b : Int} (ha : 0 ≤ a) (ha2 : a ≤ 3000000000) (hb : 0 ≤ b) (hb2 : b ≤ 3000000000) : 0 ≤ a * b ∧ a * b ≤ 9000000000000000000 :=
  ⟨Int.mul_nonneg ha hb, by have := Int.mul_le_mul ha2 hb2 hb (by omega); omega⟩

theorem nPower_eq {a e m : Int} (ha : 0 ≤ a) (ha2 : a ≤ 3000000000) (he : 0 ≤ e) (he2 : e ≤ 9223372036854775807) (hm : 1 ≤ m) (hm2 : m ≤ 3000000000) : M_S_nPower (a, e, m) = some (a ^ e.toNat % m) := by
  unfold M_S_nPower
  dsimp only
  have hg : guardO (m != 0) = some () := guardO_of (by simp; omega)
  have hg2 : guardO ((2 : Int) != 0) = some () := rfl
  rw [hg, bindO_some', bindO_some', tmod_nn (by omega)]
  have hfin : a ^ e.toNat % m = (1 % m * a ^ e.toNat) % m := by rw [Int.mul_emod, Int.emod_emod_of_dvd _ (Int.dvd_refl m), ← Int.mul_emod, Int.one_mul]
  rw [hfin]
  refine loopO_spec (fun (s : Int × Int × Int) => some ((s.2.2 * s.1 ^ s.2.1.toNat) % m)) (fun s => 0 ≤ s.1 ∧ s.1 ≤ 3000000000 ∧ 0 ≤ s.2.1 ∧ s.2.1 ≤ 9223372036854775807 ∧ 0 ≤ s.2.2 ∧ s.2.2 < m) (fun s => s.2.1.toNat) (fun again s hs ih => ?_)
    (⟨ha, ha2, he, he2, Int.emod_nonneg _ (by omega), Int.emod_lt_of_pos _ (by omega)⟩) (show e.toNat < 2 ^ 64 by omega)
  obtain ⟨a, e, out⟩ := s
  obtain ⟨h1, h2, h3, h4, h5, h6⟩ := hs
  dsimp only at h1 h2 h3 h4 h5 h6 ih ⊢
  have hoa := mul_in h5 (show out ≤ 3000000000 by omega) h1 h2
  have haa := mul_in h1 h2 h1 h2
  by_cases hpos : e > 0
  · have hr := pow_round (out := out) (a := a) (m := m) hpos
    have haam := Int.emod_nonneg (a * a) (show m ≠ 0 by omega)
    have haam2 := Int.emod_lt_of_pos (a * a) (show 0 < m by omega)
    have hoam := Int.emod_nonneg (out * a) (show m ≠ 0 by omega)
    have hoam2 := Int.emod_lt_of_pos (out * a) (show 0 < m by omega)
    simp only [hpos, decide_true, cond_true, hg, hg2, bindO_some', tmod_nn h3, tdiv_nn h3, i64_in _ (show (-9223372036854775808 : Int) ≤ out * a ∧ out * a ≤ 9223372036854775807 by omega), i64_in _ (show (-9223372036854775808 : Int) ≤ a * a ∧ a * a ≤ 9223372036854775807 by omega),
      tmod_nn hoa.1, tmod_nn haa.1, i64_in _ (show (-9223372036854775808 : Int) ≤ e / 2 ∧ e / 2 ≤ 9223372036854775807 by omega)]
    by_cases ho : e % 2 = 1
    · rw [if_pos ho] at hr
      rw [show (e % 2 == 1) = true by simp [ho], cond_true, ih (a * a % m, e / 2, out * a % m) ⟨haam, by dsimp only; omega, by dsimp only; omega, by dsimp only; omega, hoam, hoam2⟩ (by dsimp only; omega)]
      exact congrArg some hr
    · rw [if_neg ho] at hr
      rw [show (e % 2 == 1) = false by simp [ho], cond_false, ih (a * a % m, e / 2, out) ⟨haam, by dsimp only; omega, by dsimp only; omega, by dsimp only; omega, h5, h6⟩ (by dsimp only; omega)]
      exact congrArg some hr
  · have : e = 0 := by omega
    subst this
    simp [Int.emod_eq_of_lt h5 h6]

theorem bits_one {x : Int} (h : 0 ≤ x) : Vd.bits .and .i64 x 1 = x % 2 := by
  obtain ⟨n, rfl⟩ := Int.eq_ofNat_of_zero_le h
  have h1 : (BitVec.ofInt 64 ((n : Nat) : Int) &&& BitVec.ofInt 64 1).toNat = n % 2 := by
    rw [BitVec.toNat_and]
    have e1 : (BitVec.ofInt 64 ((n : Nat) : Int)).toNat = n % 2 ^ 64 := by simp
    have e2 : (BitVec.ofInt 64 1).toNat = 1 := by decide
    rw [e1, e2, Nat.and_one_is_mod]
    omega
  show IntKind.wrap .i64 (((BitVec.ofInt 64 ((n : Nat) : Int) &&& BitVec.ofInt 64 1).toNat : Nat) : Int) = _
  rw [h1, i64_in _ (by omega)]
  omega

theorem shr_one {x : Int} : Vd.shr .i64 x 1 = x / 2 := by
  show x.fdiv (2 ^ (min (1 : Int).toNat 64)) = x / 2
  rw [show ((2 : Int) ^ (min (1 : Int).toNat 64)) = 2 by decide, fdiv_pos (by omega)]

theorem power_eq {a e m : Int} (he : e ≤ 9223372036854775807) : M_I_power (a, e, m) = M_S_nPower (a, e, m) := by
  unfold M_I_power M_S_nPower
  congr 1
  funext _
  congr 1
  funext out
  refine loopO_congr (fun s => s.2.1 ≤ 9223372036854775807) (fun a1 a2 s hs ih => ?_) he
  by_cases hpos : s.2.1 > 0
  · have hg2 : guardO ((2 : Int) != 0) = some () := rfl
    have hg3 : guardO (decide ((0 : Int) ≤ 1)) = some () := rfl
    have hw : ∀ (x : Int) y, a1 (x, s.2.1 / 2, y) = a2 (x, s.2.1 / 2, y) := fun x y => ih _ (by dsimp only; omega)
    simp only [hpos, decide_true, cond_true, hg2, hg3, bindO_some', bits_one (show 0 ≤ s.2.1 by omega), shr_one, tmod_nn (show 0 ≤ s.2.1 by omega), tdiv_nn (show 0 ≤ s.2.1 by omega),
      i64_in _ (show (-9223372036854775808 : Int) ≤ s.2.1 / 2 ∧ s.2.1 / 2 ≤ 9223372036854775807 by omega), hw]
  · simp [hpos]

theorem walk_index_mem {α : Type} (p : α → Bool) (f : α → Option Bool) : ∀ (l : List α) (i : Nat), (∀ a ∈ l, f a = some (p a)) →
    ∃ j : Int, walk (fun i a k => bindO (f a) fun b => cond b (some (i : Int)) k) (some (-1)) i l = some j ∧ decide (j ≥ 0) = l.any p
  | [], _, _ => ⟨-1, rfl, rfl⟩
  | a :: l, i, hf => by
    obtain ⟨j, h1, h2⟩ := walk_index_mem p f l (i + 1) fun b hb => hf b (List.mem_cons_of_mem _ hb)
    have ha := hf a (List.mem_cons_self ..)
    cases h : p a
    · exact ⟨j, by simp [walk, ha, h, h1], by simp [h, h2]⟩
    · exact ⟨i, by simp [walk, ha, h], by simp [h]⟩

noncomputable def okG (p q g : Int) : Bool := decide (3 ≤ p ∧ p ≤ 2000000000) && (decide (2 ≤ q ∧ q ≤ p - 1) && ((p - 1) % q == 0 && (decide (2 ≤ g ∧ g ≤ p - 1) && (g ^ q.toNat % p == 1 && (isP q && isP p)))))

theorem l2Good_eq (p q g : Int) : M_S_l2Good (p, q, g) = some (okG p q g) := by
  unfold M_S_l2Good okG
  simp only [in_eq, bindO_some']
  by_cases h1 : 3 ≤ p ∧ p ≤ 2000000000
  · rw [i64_in (p - 1) (by omega)]
    simp only [h1, and_self, decide_true, cond_true, Bool.true_and]
    by_cases h2 : 2 ≤ q ∧ q ≤ p - 1
    · have hq : guardO (q != 0) = some () := guardO_of (by simp; omega)
      simp only [h2, and_self, decide_true, cond_true, Bool.true_and, hq, bindO_some', tmod_nn (show 0 ≤ p - 1 by omega)]
      by_cases h3 : (p - 1) % q = 0
      · simp only [h3, beq_self_eq_true, cond_true, Bool.true_and]
        by_cases h4 : 2 ≤ g ∧ g ≤ p - 1
        · simp only [h4, and_self, decide_true, cond_true, Bool.true_and, nPower_eq (show 0 ≤ g by omega) (show g ≤ 3000000000 by omega) (show 0 ≤ q by omega) (show q ≤ 9223372036854775807 by omega) (show 1 ≤ p by omega) (show p ≤ 3000000000 by omega), bindO_some',
            nPrime_eq (show q ≤ 2000000000 by omega), nPrime_eq (show p ≤ 2000000000 by omega)]
          cases (g ^ q.toNat % p == 1) <;> cases isP q <;> cases isP p <;> rfl
        · simp [h4]
      · have hb : ((p - 1) % q == 0) = false := by simpa using h3
        simp [hb]
    · simp [h2]
  · simp [h1]

theorem IsValidGroup_eq (p q g : Int) : M_I_IsValidGroup (p, q, g) = some (okG p q g) := by
  unfold M_I_IsValidGroup okG
  simp only [within_eq, bindO_some']
  by_cases h1 : 3 ≤ p ∧ p ≤ 2000000000
  · rw [i64_in (p - 1) (by omega)]
    simp only [h1, and_self, decide_true, cond_true, Bool.true_and]
    by_cases h2 : 2 ≤ q ∧ q ≤ p - 1
    · have hq : guardO (q != 0) = some () := guardO_of (by simp; omega)
      simp only [h2, and_self, decide_true, cond_true, Bool.true_and, hq, bindO_some', tmod_nn (show 0 ≤ p - 1 by omega)]
      by_cases h3 : (p - 1) % q = 0
      · simp only [h3, beq_self_eq_true, cond_true, Bool.true_and]
        by_cases h4 : 2 ≤ g ∧ g ≤ p - 1
        · simp only [h4, and_self, decide_true, cond_true, Bool.true_and, power_eq (show q ≤ 9223372036854775807 by omega), nPower_eq (show 0 ≤ g by omega) (show g ≤ 3000000000 by omega) (show 0 ≤ q by omega) (show q ≤ 9223372036854775807 by omega) (show 1 ≤ p by omega) (show p ≤ 3000000000 by omega), bindO_some',
            isPrime_eq (show q ≤ 2000000000 by omega), isPrime_eq (show p ≤ 2000000000 by omega)]
          cases (g ^ q.toNat % p == 1) <;> cases isP q <;> cases isP p <;> rfl
        · simp [h4]
      · have hb : ((p - 1) % q == 0) = false := by simpa using h3
        simp [hb]
    · simp [h2]
  · simp [h1]

/-- What a valid group fulfils. -/
structure Gr (p q g : Int) : Prop where
  p3 : 3 ≤ p
  pm : p ≤ 2000000000
  q2 : 2 ≤ q
  qp : q ≤ p - 1
  dv : (p - 1) % q = 0
  g2 : 2 ≤ g
  gp : g ≤ p - 1
  gq : g ^ q.toNat % p = 1
  pq : isP q = true
  pp : isP p = true

theorem okG_spec {p q g : Int} (h : okG p q g = true) : Gr p q g := by
  simp only [okG, Bool.and_eq_true, decide_eq_true_eq, beq_iff_eq] at h
  obtain ⟨⟨h1, h2⟩, ⟨h3, h4⟩, h5, ⟨h6, h7⟩, h8, h9, h10⟩ := h
  exact ⟨h1, h2, h3, h4, h5, h6, h7, h8, h9, h10⟩

/-- Is a number an element? -/
def isEl (p q x : Int) : Bool := decide (1 ≤ x ∧ x ≤ p - 1) && x ^ q.toNat % p == 1

theorem has_eq' {p q g x : Int} (h : Gr p q g) : M_I_Group_has ((p, q, g), x) = some (isEl p q x) := by
  unfold M_I_Group_has isEl
  have := h.p3; have := h.pm; have := h.q2; have := h.qp
  simp only [bindO_some', i64_in (p - 1) (by omega), within_eq]
  by_cases hx : 1 ≤ x ∧ x ≤ p - 1
  · simp [hx, power_eq (show q ≤ 9223372036854775807 by omega), nPower_eq (show 0 ≤ x by omega) (show x ≤ 3000000000 by omega) (show 0 ≤ q by omega) (show q ≤ 9223372036854775807 by omega) (show 1 ≤ p by omega) (show p ≤ 3000000000 by omega)]
  · simp [hx]

theorem gIs_eq {p q g : Int} {l : List Int} (h : Gr p q g) (hl : l.length < 2 ^ 62) : M_S_gIs ((p, q, g), l) = some (l.all (isEl p q)) := by
  unfold M_S_gIs
  have := h.p3; have := h.pm; have := h.q2; have := h.qp
  refine (loop_walk l (fun _ a k => if (isEl p q a) = true then k else some false) (some true) (fun again i a ha hi' => ?_) (fun again => ?_) (by omega)).trans (walk_all (isEl p q) l 0)
  · simp only [getI_nat, ha, bindO_some', i64_succ (show i < 2 ^ 62 by omega), lt_yes hi', cond_true, in_eq, i64_in (p - 1) (by omega)]
    by_cases hx : 1 ≤ a ∧ a ≤ p - 1
    · simp only [isEl, hx, and_self, decide_true, Bool.not_true, cond_false, Bool.true_and, nPower_eq (show 0 ≤ a by omega) (show a ≤ 3000000000 by omega) (show 0 ≤ q by omega) (show q ≤ 9223372036854775807 by omega) (show 1 ≤ p by omega) (show p ≤ 3000000000 by omega), bindO_some']
      by_cases h1 : a ^ q.toNat % p = 1 <;> simp [h1, bne_dec]
    · simp [isEl, hx]
  · simp

theorem isEl_range {p q x : Int} (h : isEl p q x = true) : 1 ≤ x ∧ x ≤ p - 1 ∧ x ^ q.toNat % p = 1 := by
  simp only [isEl, Bool.and_eq_true, decide_eq_true_eq, beq_iff_eq] at h
  exact ⟨h.1.1, h.1.2, h.2⟩

/-- A product of residues. -/
def prodM (p : Int) : Int → List Int → Int
  | out, [] => out
  | out, x :: l => prodM p (out * x % p) l

theorem prodM_range {p : Int} (hp : 1 ≤ p) : ∀ (l : List Int) (out : Int), 0 ≤ out → out < p ∨ l ≠ [] → 0 ≤ prodM p out l ∧ (prodM p out l < p)
  | [], out, h, h2 => ⟨h, h2.resolve_right (by simp)⟩
  | x :: l, out, h, _ => prodM_range hp l _ (Int.emod_nonneg _ (by omega)) (.inl (Int.emod_lt_of_pos _ (by omega)))

theorem gMul_loop {p : Int} (hp : 1 ≤ p) (hp2 : p ≤ 3000000000) (l : List Int) (hx : ∀ x ∈ l, 0 ≤ x ∧ x ≤ 3000000000) (hl : l.length < 2 ^ 62) {body : (Int × Int → Option Int) → Int × Int → Option Int} 
    (h : ∀ (again : Int × Int → Option Int) (s : Int × Int), body again s = (cond (decide (s.2 < ((l.length : Nat) : Int))) (bindO (getI l s.2) fun a => bindO (some (IntKind.wrap .i64 (s.1 * a))) fun b => bindO (guardO (p != 0)) fun _ => bindO (some (b.tmod p)) fun c => bindO (some (IntKind.wrap .i64 (s.2 + 1))) fun d => again (c, d)) (some s.1))) :
    loopO body (1, 0) = some (prodM p 1 l) := by
  have hg : guardO (p != 0) = some () := guardO_of (by simp; omega)
  refine (loopO_for (σ := Int) (fun i s => (s, (i : Int))) l.length (fun i s => some (prodM p s (l.drop i))) (fun _ s => 0 ≤ s ∧ s ≤ 3000000000) (fun again s hs => ?_) (fun again i s hi hs ih => ?_) (by omega) (i := 0) (s := 1) (Nat.zero_le _) ⟨by omega, by omega⟩).trans (by simp)
  · rw [h]; simp [prodM]
  · have hm := hx l[i] (List.getElem_mem hi)
    have hb := mul_in hs.1 hs.2 hm.1 hm.2
    have h1 := Int.emod_nonneg (s * l[i]) (show p ≠ 0 by omega)
    have h2 := Int.emod_lt_of_pos (s * l[i]) (show 0 < p by omega)
    rw [h]
    simp only [lt_yes hi, cond_true, getI_nat, List.getElem?_eq_getElem hi, bindO_some', hg, i64_succ (show i < 2 ^ 62 by omega), i64_in (s * l[i]) (by omega), tmod_nn hb.1]
    rw [ih _ ⟨h1, by omega⟩, List.drop_eq_getElem_cons hi, prodM]

theorem gMul_eq {p q g : Int} {l : List Int} (h : Gr p q g) (hx : ∀ x ∈ l, 0 ≤ x ∧ x ≤ 3000000000) (hl : l.length < 2 ^ 62) : M_S_gMul ((p, q, g), l) = some (prodM p 1 l) := by
  unfold M_S_gMul
  have := h.p3; have := h.pm
  exact gMul_loop (by omega) (by omega) l hx hl fun _ _ => rfl

theorem Group_mul_eq {p q g : Int} {l : List Int} (h : Gr p q g) (hx : ∀ x ∈ l, 0 ≤ x ∧ x ≤ 3000000000) (hl : l.length < 2 ^ 62) : M_I_Group_mul ((p, q, g), l) = some (prodM p 1 l) := by
  unfold M_I_Group_mul
  have := h.p3; have := h.pm
  exact gMul_loop (by omega) (by omega) l hx hl fun _ _ => rfl

/-- Is a cipher one of elements? -/
def isCi (p q : Int) (c : Int × Int) : Bool := isEl p q c.1 && isEl p q c.2

theorem hasCipher_eq {p q g : Int} {c : Int × Int} (h : Gr p q g) : M_I_Group_hasCipher ((p, q, g), c) = some (isCi p q c) := by
  unfold M_I_Group_hasCipher isCi
  simp only [has_eq' h, bindO_some']
  cases isEl p q c.1 <;> simp

theorem eGood_eq {p q g : Int} {l : List (Int × Int)} (h : Gr p q g) : M_S_eGood ((p, q, g), l) = some (decide (l.length ≤ 24) && l.all (isCi p q)) := by
  unfold M_S_eGood
  by_cases hl : l.length ≤ 24
  · have e1 : decide (((l.length : Nat) : Int) > 24) = false := by simp; omega
    dsimp only
    rw [e1, cond_false]
    simp only [hl, decide_true, Bool.true_and]
    refine (loop_walk l (fun _ a k => if (isCi p q a) = true then k else some false) (some true) (fun again i a ha hi' => ?_) (fun again => ?_) (by omega)).trans (walk_all (isCi p q) l 0)
    · simp only [getI_nat, ha, bindO_some', i64_succ (show i < 2 ^ 62 by omega), lt_yes hi', cond_true, gIs_eq h (show [a.1, a.2].length < 2 ^ 62 by show (2 : Nat) < _; omega)]
      have : [a.1, a.2].all (isEl p q) = isCi p q a := by simp [isCi]
      rw [this]
      cases isCi p q a <;> rfl
    · simp
  · have e1 : decide (((l.length : Nat) : Int) > 24) = true := by simp; omega
    simp [e1, hl]

/-- a over b. -/
def over (p q a b : Int) : Int := prodM p 1 [a, b ^ (q - 1).toNat % p]

theorem mul2 {p q g a b : Int} (h : Gr p q g) (ha : 0 ≤ a ∧ a ≤ p) (hb : 0 ≤ b ∧ b ≤ p) : M_S_gMul ((p, q, g), [a, b]) = some (prodM p 1 [a, b]) := by
  have := h.p3; have := h.pm
  refine gMul_eq h (fun x hx => ?_) (by show (2 : Nat) < _; omega)
  simp only [List.mem_cons, List.not_mem_nil, or_false] at hx
  rcases hx with rfl | rfl <;> omega

theorem mul2' {p q g a b : Int} (h : Gr p q g) (ha : 0 ≤ a ∧ a ≤ p) (hb : 0 ≤ b ∧ b ≤ p) : M_I_Group_mul ((p, q, g), [a, b]) = some (prodM p 1 [a, b]) := by
  have := h.p3; have := h.pm
  refine Group_mul_eq h (fun x hx => ?_) (by show (2 : Nat) < _; omega)
  simp only [List.mem_cons, List.not_mem_nil, or_false] at hx
  rcases hx with rfl | rfl <;> omega

theorem prod_range {p : Int} {l : List Int} (hp : 2 ≤ p) : 0 ≤ prodM p 1 l ∧ prodM p 1 l < p := prodM_range (by omega) l 1 (by omega) (.inl (by omega))

theorem toGroup_eq (x : Int × Int × Int) : M_L_toGroup x = some x := rfl

theorem toCipher_eq (x : Int × Int) : M_L_toCipher x = some x := rfl

theorem set_take_succ {α : Type} {x s : List α} {i : Nat} {a : α} (hx : x[i]? = some a) (hs : s.length = x.length) (ht : s.take i = x.take i) : (s.set i a).take (i + 1) = x.take (i + 1) := by
  have hi : i < x.length := (List.getElem?_eq_some_iff.1 hx).1
  rw [List.take_add_one, List.take_add_one, hx, List.take_set, List.getElem?_set_self (by omega), ← ht]
  congr 1
  rw [List.set_eq_of_length_le (by rw [List.length_take]; omega)]

/-- A list is written anew, element by element. -/
theorem copy_loop {α : Type} (x : List α) (z : α) {body : (Int × List α → Option (List α)) → Int × List α → Option (List α)}
    (h : ∀ (again : Int × List α → Option (List α)) (i : Nat) a (s : List α), x[i]? = some a → i < x.length → s.length = x.length → body again ((i : Int), s) = again (((i + 1 : Nat) : Int), s.set i a))
    (hend : ∀ (again : Int × List α → Option (List α)) (s : List α), s.length = x.length → body again ((x.length : Int), s) = some s) (hl : x.length < 2 ^ 62) : loopO body (0, List.replicate x.length z) = some x := by
  refine (loopO_for (σ := List α) (fun i s => ((i : Int), s)) x.length (fun i s => some x) (fun i s => s.length = x.length ∧ s.take i = x.take i) (fun again s hs => ?_) (fun again i s hi hs ih => ?_) (by omega) (i := 0) (s := List.replicate x.length z) (Nat.zero_le _) (by simp)).trans rfl
  · rw [hend again s hs.1]
    have := hs.2
    rw [List.take_length, ← hs.1, List.take_length] at this
    rw [this]
  · have ha := List.getElem?_eq_getElem hi
    rw [h again i x[i] s ha hi hs.1]
    exact ih _ ⟨by simp [hs.1], set_take_succ ha hs.1 hs.2⟩

/-- Two lists are compared, element by element. -/
theorem eq_loop {α : Type} [DecidableEq α] (a b : List α) (hab : a.length = b.length) {body : (Int → Option Bool) → Int → Option Bool}
    (h : ∀ (again : Int → Option Bool) (i : Nat) x y, a[i]? = some x → b[i]? = some y → i < a.length → body again (i : Int) = if x = y then again ((i + 1 : Nat) : Int) else some false)
    (hend : ∀ (again : Int → Option Bool), body again (a.length : Int) = some true) (hl : a.length < 2 ^ 62) : loopO body 0 = some (decide (a = b)) := by
  refine (loopO_for (σ := Unit) (fun i _ => (i : Int)) a.length (fun i _ => some (decide (a.drop i = b.drop i))) (fun _ _ => True) (fun again _ _ => ?_) (fun again i _ hi _ ih => ?_) (by omega) (i := 0) (s := ()) (Nat.zero_le _) trivial).trans (by simp)
  · rw [hend]; simp [hab]
  · have hi' : i < b.length := by omega
    rw [h again i a[i] b[i] (List.getElem?_eq_getElem hi) (List.getElem?_eq_getElem hi') hi, ih () trivial, List.drop_eq_getElem_cons hi, List.drop_eq_getElem_cons hi']
    by_cases he : a[i] = b[i] <;> simp [he, -List.getElem_cons_drop]

theorem all_not_any {α : Type} {p q : α → Bool} {l : List α} (h : ∀ a ∈ l, q a = !p a) : l.all p = !l.any q := by
  induction l with
  | nil => rfl
  | cons a l ih =>
    rw [List.all_cons, List.any_cons, ih fun b hb => h b (List.mem_cons_of_mem _ hb), h a (List.mem_cons_self ..)]
    cases p a <;> simp

theorem wrap_u64 {i : Nat} (h : i < 2 ^ 62) : IntKind.wrap .u64 ((i : Nat) : Int) = (i : Int) := u64_in _ (by omega)

theorem containsFuncC_eq {l : List (Int × Int)} {f : Int × Int → Option Bool} {p : Int × Int → Bool} (hl : l.length < 2 ^ 62) (hf : ∀ a ∈ l, f a = some (p a)) : M_slices_ContainsFunc_sI_Cipher_I_Cipher (l, f) = some (l.any p) := by
  obtain ⟨j, h1, h2⟩ := walk_index_mem p f l 0 hf
  unfold M_slices_ContainsFunc_sI_Cipher_I_Cipher
  have : M_slices_IndexFunc_sI_Cipher_I_Cipher (l, f) = some j := by
    unfold M_slices_IndexFunc_sI_Cipher_I_Cipher
    refine (loop_walk l _ _ (fun again i a ha hi => ?_) (fun again => ?_) (by omega)).trans h1
    · simp only [getI_nat, ha, bindO_some', i64_succ (show i < 2 ^ 62 by omega), lt_yes hi, cond_true]
    · simp
  dsimp only
  rw [this, bindO_some', h2]

theorem hasCiphers_eq {p q g : Int} {l : List (Int × Int)} (h : Gr p q g) (hl : l.length < 2 ^ 62) : M_I_Group_hasCiphers ((p, q, g), l) = some (decide (l.length ≤ 24) && l.all (isCi p q)) := by
  unfold M_I_Group_hasCiphers
  have e : decide (((l.length : Nat) : Int) ≤ 24) = decide (l.length ≤ 24) := by rw [decide_eq_decide]; omega
  dsimp only
  rw [e, containsFuncC_eq (p := fun c => !isCi p q c) hl fun a _ => ?_, bindO_some', all_not_any fun _ _ => rfl]
  · cases decide (l.length ≤ 24) <;> rfl
  · unfold M_I_Group_hasCiphers_1
    dsimp only
    rw [hasCipher_eq h]
    rfl

theorem szCipherS_eq {a : List (Int × Int)} {left : Int} (h0 : 0 ≤ left) (h1 : left ≤ 1048576) (hl : a.length < 2 ^ 63) : M_L_szCipherS (a, left) = some (if left < a.length then -1 else left - a.length) := by
  unfold M_L_szCipherS
  simp only [i64_in (left - (a.length : Int)) (by omega), bindO_some']
  by_cases h : left < a.length
  · rw [if_pos h]
    have : left - (a.length : Int) < 0 := by omega
    simp [this]
  · rw [if_neg h]
    have : ¬ left - (a.length : Int) < 0 := by omega
    simp [this]

theorem toCipherS_eq {x : List (Int × Int)} (h : x.length ≤ 1048576) : M_L_toCipherS x = some x := by
  unfold M_L_toCipherS
  have hx : (x.length : Int) ≤ ((lim : Nat) : Int) := by rw [lim_eq]; omega
  rw [guardO_of (by simpa using hx), bindO_some', Int.toNat_natCast]
  refine copy_loop x (0, 0) (fun again i a s ha hi hs => ?_) (fun again s hs => ?_) (by omega)
  · have hsi := List.getElem?_eq_getElem (l := s) (show i < s.length by omega)
    simp only [lt_yes hi, cond_true, getI_nat, ha, hsi, bindO_some', toCipher_eq, Int.toNat_natCast, i64_succ (show i < 2 ^ 62 by omega)]
  · simp

theorem eqCipher_eq (a b : Int × Int) : M_L_eqCipher (a, b) = some (decide (a = b)) := by
  obtain ⟨a1, a2⟩ := a
  obtain ⟨b1, b2⟩ := b
  unfold M_L_eqCipher
  by_cases h1 : a1 = b1 <;> by_cases h2 : a2 = b2 <;> simp [h1, h2, bne_dec]

theorem eqCipherS_eq {a b : List (Int × Int)} (h : a.length < 2 ^ 62) : M_L_eqCipherS (a, b) = some (decide (a = b)) := by
  unfold M_L_eqCipherS
  by_cases hl : a.length = b.length
  · have e1 : ((a.length : Int) != (b.length : Int)) = false := by simp [hl]
    dsimp only
    rw [e1, cond_false]
    refine eq_loop a b hl (fun again i x y hx hy hi => ?_) (fun again => by simp) h
    simp only [lt_yes hi, cond_true, getI_nat, hx, hy, bindO_some', eqCipher_eq, i64_succ (show i < 2 ^ 62 by omega)]
    by_cases he : x = y <;> simp [he]
  · have e1 : ((a.length : Int) != (b.length : Int)) = true := by simp; omega
    dsimp only
    rw [e1, cond_true]
    congr 1
    symm
    simp only [decide_eq_false_iff_not]
    rintro rfl
    exact hl rfl

def marksC (n : Nat) (k : Int) : List (Int × Int) := (List.range n).map fun (i : Nat) => (k + 2 * (i : Int), k + 2 * (i : Int) + 1)

theorem marksC_length (n : Nat) (k : Int) : (marksC n k).length = n := by simp [marksC]

theorem marksC_get {n i : Nat} {k : Int} (h : i < n) : (marksC n k)[i]? = some (k + 2 * (i : Int), k + 2 * (i : Int) + 1) := by
  simp [marksC, h]

theorem markCipherS_eq {a : List (Int × Int)} {k : Int} (h : a.length < 2 ^ 40) (h0 : 0 ≤ k) (h1 : k < 2 ^ 40) : M_L_markCipherS (a, k) = some (k + 2 * a.length, marksC a.length k) := by
  unfold M_L_markCipherS
  refine (loopO_for (σ := Int × List (Int × Int)) (fun i s => (s.1, ((i : Int), s.2))) a.length (fun i s => some (k + 2 * a.length, marksC a.length k)) (fun i s => s.1 = k + 2 * i ∧ s.2 = marksC i k ++ a.drop i) (fun again s hs => ?_) (fun again i s hi hs ih => ?_) (by omega) (i := 0) (s := (k, a)) (Nat.zero_le _) (by simp [marksC])).trans rfl
  · obtain ⟨s1, s2⟩ := s
    obtain ⟨rfl, rfl⟩ := hs
    simp [marksC_length]
  · obtain ⟨s1, s2⟩ := s
    obtain ⟨rfl, rfl⟩ := hs
    have h2 : (marksC i k ++ a.drop i)[i]? = some a[i] := by
      rw [List.getElem?_append_right (by simp [marksC_length])]
      simp [marksC_length, hi]
    have hlen : (marksC i k ++ a.drop i).length = a.length := by simp [marksC_length]; omega
    have h3 : ((marksC i k ++ a.drop i).set i (k + 2 * (i : Int), a[i].2))[i]? = some (k + 2 * (i : Int), a[i].2) := List.getElem?_set_self (by omega)
    have h4 : ((marksC i k ++ a.drop i).set i (k + 2 * (i : Int), a[i].2)).set i (k + 2 * (i : Int), k + 2 * (i : Int) + 1) = marksC (i + 1) k ++ a.drop (i + 1) := by
      rw [List.set_set, List.set_append_right _ _ (by simp [marksC_length]), marksC_length, Nat.sub_self, List.drop_eq_getElem_cons hi, List.set_cons_zero]
      simp [marksC, List.range_succ]
    simp only [getI_nat, h2, bindO_some', Int.toNat_natCast, i64_succ (show i < 2 ^ 62 by omega), hlen, lt_yes hi, cond_true, h3]
    rw [i64_in (k + 2 * (i : Int) + 1) (by omega), i64_in (k + 2 * (i : Int) + 1 + 1) (by omega), h4]
    exact ih (k + 2 * (i : Int) + 1 + 1, marksC (i + 1) k ++ a.drop (i + 1)) ⟨by simp; omega, rfl⟩

theorem heldCipherS_eq {n : Nat} {k : Int} (h : n < 2 ^ 40) (h0 : 0 ≤ k) (h1 : k < 2 ^ 40) : M_L_heldCipherS (marksC n k, k) = some (k + 2 * n) := by
  unfold M_L_heldCipherS
  refine (loopO_for (σ := Int) (fun i s => (s, (i : Int))) n (fun i s => some (k + 2 * n)) (fun i s => s = k + 2 * i) (fun again s hs => ?_) (fun again i s hi hs ih => ?_) (by omega) (i := 0) (s := k) (Nat.zero_le _) (by simp)).trans rfl
  · subst hs; simp [marksC_length]
  · subst hs
    simp only [getI_nat, marksC_get hi, marksC_length, bindO_some', i64_succ (show i < 2 ^ 62 by omega), lt_yes hi, cond_true, bne_self_eq_false, cond_false]
    rw [i64_in (k + 2 * (i : Int) + 1) (by omega), i64_in (k + 2 * (i : Int) + 1 + 1) (by omega)]
    simp only [bne_self_eq_false, cond_false]
    exact ih (k + 2 * (i : Int) + 1 + 1) (by simp; omega)

theorem mul_out {p s b : Int} (hs : 0 ≤ s ∧ s < p) : prodM p 1 [s, b] = s * b % p := by
  simp only [prodM]
  rw [Int.one_mul, Int.emod_eq_of_lt hs.1 hs.2]

theorem isEl_in {p q x : Int} (hx : isEl p q x = true) : 0 ≤ x ∧ x ≤ p := by
  have := isEl_range hx
  omega

theorem getD_at {α : Type} {l : List α} {i : Nat} {d : α} (h : i < l.length) : l[i]? = some (l.getD i d) := by
  rw [List.getElem?_eq_getElem h, List.getD_eq_getElem?_getD, List.getElem?_eq_getElem h]
  rfl

def mulC (p : Int) (a b : Int × Int) : Int × Int := (prodM p 1 [a.1, b.1], prodM p 1 [a.2, b.2])

theorem eMul_eq {p q g : Int} {l : List (Int × Int)} (h : Gr p q g) (hl : l.length < 2 ^ 60) (hx : ∀ c ∈ l, (0 ≤ c.1 ∧ c.1 ≤ p) ∧ 0 ≤ c.2 ∧ c.2 ≤ p) : M_S_eMul ((p, q, g), l) = some (l.foldl (mulC p) (1, 1)) := by
  have h3 := h.p3
  unfold M_S_eMul
  dsimp only
  refine (loopO_for (σ := Int × Int) (fun i s => ((i : Int), s)) l.length (fun i s => some ((l.drop i).foldl (mulC p) s)) (fun _ s => (0 ≤ s.1 ∧ s.1 < p) ∧ 0 ≤ s.2 ∧ s.2 < p) (fun again s hs => ?_) (fun again i s hi hs ih => ?_) (by omega) (i := 0) (s := (1, 1)) (Nat.zero_le _) ⟨⟨by omega, by omega⟩, by omega, by omega⟩).trans ?_
  · simp only [lt_no, cond_false, List.drop_length, List.foldl_nil]
  · have ha := List.getElem?_eq_getElem hi
    obtain ⟨x1, x2⟩ := hx _ (List.getElem_mem hi)
    simp only [lt_yes hi, cond_true, getI_nat, ha, bindO_some', mul2 h (show 0 ≤ s.1 ∧ s.1 ≤ p by omega) x1, mul2 h (show 0 ≤ s.2 ∧ s.2 ≤ p by omega) x2, i64_succ (show i < 2 ^ 62 by omega)]
    rw [List.drop_eq_getElem_cons hi, List.foldl_cons]
    exact ih (mulC p s l[i]) ⟨prod_range (by omega), prod_range (by omega)⟩
  · rfl

theorem mulTwo_eq {p q g : Int} {a b : Int × Int} (h : Gr p q g) (ha : (0 ≤ a.1 ∧ a.1 ≤ p) ∧ 0 ≤ a.2 ∧ a.2 ≤ p) (hb : (0 ≤ b.1 ∧ b.1 ≤ p) ∧ 0 ≤ b.2 ∧ b.2 ≤ p) : M_I_Group_mulTwo ((p, q, g), a, b) = some (mulC p a b) := by
  unfold M_I_Group_mulTwo
  dsimp only
  rw [mul2' h ha.1 hb.1, bindO_some', mul2' h ha.2 hb.2, bindO_some']
  rfl

theorem isCi_in {p q : Int} {c : Int × Int} (h : isCi p q c = true) : (0 ≤ c.1 ∧ c.1 ≤ p) ∧ 0 ≤ c.2 ∧ c.2 ≤ p := by
  simp only [isCi, Bool.and_eq_true] at h
  exact ⟨isEl_in h.1, isEl_in h.2⟩

def wsum {α : Type} (w : α → Nat) (x : List α) : Nat := (x.map w).sum

theorem wsum_drop {α : Type} {w : α → Nat} {x : List α} {i : Nat} {a : α} (h : x[i]? = some a) : wsum w (x.drop i) = w a + wsum w (x.drop (i + 1)) := by
  obtain ⟨hi, rfl⟩ := List.getElem?_eq_some_iff.1 h
  rw [List.drop_eq_getElem_cons hi]
  simp only [wsum, List.map_cons, List.sum_cons]

theorem wsum_mem {α : Type} {w : α → Nat} {x : List α} {a : α} (h : a ∈ x) : w a ≤ wsum w x := by
  induction x with
  | nil => simp at h
  | cons b x ih =>
    simp only [wsum, List.map_cons, List.sum_cons] at ih ⊢
    rcases List.mem_cons.1 h with rfl | h
    · omega
    · have := ih h
      omega

theorem sz_loop {α : Type} (w : α → Nat) (x : List α) {left : Int} {body : (Int × Int → Option Int) → Int × Int → Option Int} (h0 : 0 ≤ left) (h1 : left ≤ 1048576) (hn : x.length ≤ 1048576)
    (h : ∀ (again : Int × Int → Option Int) (i : Nat) a (l : Int), x[i]? = some a → i < x.length → 0 ≤ l → l ≤ 1048576 → ∃ k, k ≤ l ∧ (0 ≤ k → k = l - w a) ∧ body again (l, (i : Int)) = if k < 0 then some (-1) else again (k, ((i + 1 : Nat) : Int)))
    (hend : ∀ (again : Int × Int → Option Int) (l : Int), body again (l, (x.length : Int)) = some l) : ∃ k, loopO body (left, 0) = some k ∧ k ≤ left ∧ (0 ≤ k → k = left - wsum w x) := by
  have := loopO_ind (body := body) (fun s (y : Option Int) => ∃ k, y = some k ∧ k ≤ s.1 ∧ (0 ≤ k → k = s.1 - wsum w (x.drop s.2.toNat))) (fun s => (0 ≤ s.1 ∧ s.1 ≤ 1048576) ∧ 0 ≤ s.2 ∧ s.2 ≤ x.length) (fun s => x.length - s.2.toNat)
    (fun again s hs ih => ?_) (s := (left, 0)) ⟨⟨h0, h1⟩, by omega, by omega⟩ (by simp only; omega)
  · obtain ⟨k, e1, e2, e3⟩ := this
    exact ⟨k, e1, e2, by simpa using e3⟩
  · obtain ⟨l, j⟩ := s
    obtain ⟨⟨g1, g2⟩, g3, g4⟩ := hs
    dsimp only at g1 g2 g3 g4 ih ⊢
    obtain ⟨i, rfl⟩ : ∃ i : Nat, j = (i : Int) := ⟨j.toNat, (Int.toNat_of_nonneg g3).symm⟩
    rcases Nat.lt_or_ge i x.length with hi | hi
    · have ha := List.getElem?_eq_getElem hi
      obtain ⟨k, k1, k2, k3⟩ := h again i x[i] l ha hi g1 g2
      rw [k3]
      by_cases hk : k < 0
      · rw [if_pos hk]
        exact ⟨-1, rfl, by omega, fun h => by omega⟩
      · rw [if_neg hk]
        obtain ⟨m, m1, m2, m3⟩ := ih (k, ((i + 1 : Nat) : Int)) ⟨⟨by dsimp only; omega, by dsimp only; omega⟩, by dsimp only; omega, by dsimp only; omega⟩ (by dsimp only; omega)
        dsimp only at m1 m2 m3
        refine ⟨m, m1, by omega, fun hm => ?_⟩
        have e := wsum_drop (w := w) ha
        have := m3 hm
        have := k2 (by omega)
        simp only [Int.toNat_natCast] at *
        omega
    · obtain rfl : i = x.length := by omega
      rw [hend]
      refine ⟨l, rfl, by omega, fun _ => ?_⟩
      simp [wsum]

theorem guard_loop {β : Type} {n : Nat} (c : Nat → Bool) (yes no : Option β) {body : (Int → Option β) → Int → Option β} (hn : n < 2 ^ 62)
    (h : ∀ (again : Int → Option β) (i : Nat), i < n → body again (i : Int) = bif c i then again ((i + 1 : Nat) : Int) else no)
    (hend : (∀ i, i < n → c i = true) → ∀ again : Int → Option β, body again (n : Int) = yes) : loopO body 0 = bif (List.range n).all c then yes else no := by
  have hlen : (List.range n).length = n := List.length_range
  by_cases hall : ∀ i, i < n → c i = true
  · rw [show (List.range n).all c = true from by simpa using hall, cond_true]
    refine (loopO_for (σ := Unit) (fun i _ => (i : Int)) n (fun _ _ => yes) (fun _ _ => True) (fun again _ _ => hend hall again) (fun again i _ hi _ ih => ?_) (by omega) (i := 0) (s := ()) (Nat.zero_le _) trivial).trans rfl
    rw [h again i hi, hall i hi, cond_true]
    exact ih () trivial
  · have hf : (List.range n).all c = false := by
      rw [Bool.eq_false_iff]
      intro hh
      exact hall (by simpa using hh)
    rw [hf, cond_false]
    refine (loopO_for (σ := Unit) (fun i _ => (i : Int)) n (fun _ _ => no) (fun i _ => ∀ j, j < i → c j = true) (fun again _ hg => absurd hg hall) (fun again i _ hi hg ih => ?_) (by omega) (i := 0) (s := ()) (Nat.zero_le _) (fun j hj => by omega)).trans rfl
    rw [h again i hi]
    cases hc : c i
    · rfl
    · rw [cond_true]
      refine ih () fun j hj => ?_
      rcases Nat.lt_or_ge j i with h1 | h1
      · exact hg j h1
      · obtain rfl : j = i := by omega
        exact hc

theorem eq_dec' (a b : Nat) : (((a : Nat) : Int) == ((b : Nat) : Int)) = (a == b) := by
  rw [Bool.eq_iff_iff]
  simp only [beq_iff_eq]
  omega

abbrev El := Int × Int × Int × Int

def e0 : El := (0, 0, 0, 0)

theorem guard_loopE {β τ : Type} {n : Nat} (enc : Nat → τ) (c : Nat → Bool) (yes no : Option β) {body : (τ → Option β) → τ → Option β} (hn : n < 2 ^ 62)
    (h : ∀ (again : τ → Option β) (i : Nat), i < n → (∀ j, j < i → c j = true) → body again (enc i) = bif c i then again (enc (i + 1)) else no)
    (hend : (∀ i, i < n → c i = true) → ∀ again : τ → Option β, body again (enc n) = yes) : loopO body (enc 0) = bif (List.range n).all c then yes else no := by
  have hlen : (List.range n).length = n := List.length_range
  by_cases hall : ∀ i, i < n → c i = true
  · rw [show (List.range n).all c = true from by simpa using hall, cond_true]
    refine (loopO_for (σ := Unit) (fun i _ => enc i) n (fun _ _ => yes) (fun _ _ => True) (fun again _ _ => hend hall again) (fun again i _ hi _ ih => ?_) (by omega) (i := 0) (s := ()) (Nat.zero_le _) trivial).trans rfl
    rw [h again i hi (fun j hj => hall j (by omega)), hall i hi, cond_true]
    exact ih () trivial
  · have hf : (List.range n).all c = false := by
      rw [Bool.eq_false_iff]
      intro hh
      exact hall (by simpa using hh)
    rw [hf, cond_false]
    refine (loopO_for (σ := Unit) (fun i _ => enc i) n (fun _ _ => no) (fun i _ => ∀ j, j < i → c j = true) (fun again _ hg => absurd hg hall) (fun again i _ hi hg ih => ?_) (by omega) (i := 0) (s := ()) (Nat.zero_le _) (fun j hj => by omega)).trans rfl
    rw [h again i hi hg]
    cases hc : c i
    · rfl
    · rw [cond_true]
      refine ih () fun j hj => ?_
      rcases Nat.lt_or_ge j i with h1 | h1
      · exact hg j h1
      · obtain rfl : j = i := by omega
        exact hc

/-- A loop that counts, to a given end. -/
theorem loopO_to {τ β : Type} {body : (τ → Option β) → τ → Option β} (enc : Nat → τ) (N : Nat) (r : Option β) (hN : N < 2 ^ 62)
    (hend : ∀ again : τ → Option β, body again (enc N) = r) (hin : ∀ (again : τ → Option β) (i : Nat), i < N → again (enc (i + 1)) = r → body again (enc i) = r) : loopO body (enc 0) = r :=
  loopO_for (body := body) (σ := Unit) (fun i _ => enc i) N (fun _ _ => r) (fun _ _ => True) (fun again _ _ => hend again) (fun again i _ hi _ ih => hin again i hi (ih () trivial)) (by omega) (i := 0) (s := ()) (Nat.zero_le _) trivial

theorem bind_to {α β : Type} {m : Option α} {v : α} {f : α → Option β} {r : Option β} (h : m = some v) (h2 : f v = r) : bindO m f = r := by
  rw [h]
  exact h2

theorem yes_to {β : Type} {c : Bool} {a b r : Option β} (h : c = true) (h2 : a = r) : cond c a b = r := by
  rw [h]
  exact h2

theorem no_to {β : Type} {c : Bool} {a b r : Option β} (h : c = false) (h2 : b = r) : cond c a b = r := by
  rw [h]
  exact h2

theorem eqN (a b : Nat) : (((a : Nat) : Int) == ((b : Nat) : Int)) = decide (a = b) := by
  by_cases h : a = b
  · rw [h, decide_eq_true rfl, beq_self_eq_true]
  · rw [decide_eq_false h]
    have : ¬ (a : Int) = (b : Int) := by omega
    simpa using this

theorem neN (a b : Nat) : (((a : Nat) : Int) != ((b : Nat) : Int)) = !decide (a = b) := by rw [bne, eqN]

theorem take_snoc {α : Type} {x : List α} {i : Nat} (hi : i < x.length) : x.take (i + 1) = x.take i ++ [x[i]] := by
  rw [List.take_add_one, List.getElem?_eq_getElem hi]
  rfl

theorem and_mask {n : Nat} (h : n < 4294967296) : Vd.bits .and .u64 (n : Int) 4294967295 = (n : Int) := by
  have e : (BitVec.ofInt (IntKind.bits .u64) (n : Int) &&& BitVec.ofInt (IntKind.bits .u64) 4294967295).toNat = n := by
    rw [BitVec.toNat_and]
    have h1 : (BitVec.ofInt (IntKind.bits .u64) (n : Int)).toNat = n := by
      rw [BitVec.toNat_ofInt]
      show (((n : Int) % ((2 ^ 64 : Nat) : Int))).toNat = n
      omega
    have h2 : (BitVec.ofInt (IntKind.bits .u64) 4294967295).toNat = 2 ^ 32 - 1 := by decide
    rw [h1, h2, Nat.and_two_pow_sub_one_eq_mod]
    exact Nat.mod_eq_of_lt h
  show IntKind.wrap .u64 ((BitVec.ofInt (IntKind.bits .u64) (n : Int) &&& BitVec.ofInt (IntKind.bits .u64) 4294967295).toNat : Int) = (n : Int)
  rw [e]
  exact wrap_u64 (by omega)

theorem shr_small {n : Nat} (h : n < 4294967296) : shr .u64 (n : Int) 32 = 0 := by
  show (n : Int).fdiv (2 ^ (min 32 64)) = 0
  rw [Int.fdiv_eq_ediv_of_nonneg _ (by decide)]
  show (n : Int) / 4294967296 = 0
  omega

theorem mul_one_n {n : Nat} (h : n < 4294967296) : M_math_bits_Mul (1, (n : Int)) = some (0, (n : Int)) := by
  unfold M_math_bits_Mul M_math_bits_Mul64
  have a1 : Vd.bits .and .u64 (1 : Int) 4294967295 = 1 := and_mask (n := 1) (by decide)
  have a2 : shr .u64 (1 : Int) 32 = 0 := shr_small (n := 1) (by decide)
  have a3 : Vd.bits .and .u64 (0 : Int) 4294967295 = 0 := and_mask (n := 0) (by decide)
  have a4 : shr .u64 (0 : Int) 32 = 0 := shr_small (n := 0) (by decide)
  have w0 : IntKind.wrap .u64 (0 : Int) = 0 := by decide
  have wn : IntKind.wrap .u64 (n : Int) = (n : Int) := wrap_u64 (by omega)
  simp only [a1, a2, and_mask h, shr_small h, bindO_some', guardO_of (show decide ((0 : Int) ≤ 32) = true from rfl), Int.one_mul, Int.zero_mul, Int.mul_zero, wn, w0, Int.add_zero, a3, a4]

theorem Repeat_eq {c : Int × Int} {n : Nat} (h1 : 1 ≤ n) (h2 : n ≤ 16777216) : M_slices_Repeat_sI_Cipher_I_Cipher ([c], (n : Int)) = some (List.replicate n c) := by
  unfold M_slices_Repeat_sI_Cipher_I_Cipher
  dsimp only
  have e1 : IntKind.wrap .u64 ((([c].length : Nat) : Int)) = 1 := by
    show IntKind.wrap .u64 ((1 : Nat) : Int) = 1
    exact wrap_u64 (by omega)
  have e2 : IntKind.wrap .u64 (n : Int) = (n : Int) := wrap_u64 (by omega)
  rw [decide_eq_false (show ¬ (n : Int) < 0 by omega), cond_false, e1, e2, mul_one_n (by omega), bindO_some']
  dsimp only
  have hg : ((decide ((0 : Int) ≤ (n : Int)) && decide ((n : Int) ≤ (n : Int))) && decide ((n : Int) ≤ ((lim : Nat) : Int))) = true := by
    rw [decide_eq_true (show (0 : Int) ≤ (n : Int) by omega), decide_eq_true (Int.le_refl _), decide_eq_true (show (n : Int) ≤ ((lim : Nat) : Int) by rw [lim_eq]; omega)]
    rfl
  rw [decide_eq_false (show ¬ (0 : Int) > 0 by omega), cond_false, decide_eq_false (show ¬ (n : Int) > 9223372036854775807 by omega), cond_false, i64_in (n : Int) (by omega), guardO_of hg, bindO_some', bindO_some', Int.toNat_natCast, List.length_replicate]
  have hm1 : min [c].length n = 1 := by
    show min 1 n = 1
    omega
  have hst : List.take n [c] ++ List.drop [c].length (List.replicate n ((0 : Int), (0 : Int))) = List.replicate 1 c ++ List.replicate (n - 1) (0, 0) := by
    rw [List.take_of_length_le (by simpa using h1), List.drop_replicate]
    rfl
  rw [hm1, hst]
  refine loopO_ind (fun _ (r : Option (List (Int × Int))) => r = some (List.replicate n c)) (fun s => ∃ m : Nat, 1 ≤ m ∧ m ≤ n ∧ s = ((m : Int), List.replicate m c ++ List.replicate (n - m) (0, 0))) (fun s => ((n : Int) - s.1).toNat) (fun again s hs ih => ?_) ⟨1, Nat.le_refl _, h1, rfl⟩ (by dsimp only; omega)
  obtain ⟨m, g1, g2, rfl⟩ := hs
  have hlen : (List.replicate m c ++ List.replicate (n - m) ((0 : Int), (0 : Int))).length = n := by simp; omega
  dsimp only at ih ⊢
  rw [hlen]
  rcases Nat.lt_or_ge m n with hm | hm
  · rw [lt_yes hm, cond_true, sliceLN_nat g2, bindO_some', sliceNH_nat g2, bindO_some', bindO_some']
    dsimp only
    have t1 : (List.replicate m c ++ List.replicate (n - m) ((0 : Int), (0 : Int))).take m = List.replicate m c := by
      rw [List.take_append_of_le_length (by simp)]
      simp
    have t2 : (List.replicate m c ++ List.replicate (n - m) ((0 : Int), (0 : Int))).take n = List.replicate m c ++ List.replicate (n - m) ((0 : Int), (0 : Int)) := List.take_of_length_le (by omega)
    have t3 : ((List.replicate m c ++ List.replicate (n - m) ((0 : Int), (0 : Int))).drop m).length = n - m := by rw [List.length_drop, hlen]
    rw [t1, t2, t3, List.length_replicate]
    have e3 : List.replicate m c ++ (List.take (n - m) (List.replicate m c) ++ List.drop (m + min m (n - m)) (List.replicate m c ++ List.replicate (n - m) ((0 : Int), (0 : Int)))) = List.replicate (m + min m (n - m)) c ++ List.replicate (n - (m + min m (n - m))) (0, 0) := by
      rw [List.take_replicate, List.drop_append, List.drop_of_length_le (by simp), List.length_replicate, List.nil_append, List.drop_replicate, ← List.append_assoc, List.replicate_append_replicate, show m + min (n - m) m = m + min m (n - m) by omega]
      congr 2
      omega
    rw [e3, i64_in _ (by omega), bindO_some', show (m : Int) + ((min m (n - m) : Nat) : Int) = ((m + min m (n - m) : Nat) : Int) by omega]
    exact ih _ ⟨m + min m (n - m), by omega, by omega, rfl⟩ (by dsimp only; omega)
  · obtain rfl : m = n := by omega
    rw [lt_no, cond_false]
    simp

def ci0 : Int × Int := (0, 0)

def hcol (p : Int) (rows : List (List (Int × Int))) (j : Nat) : Int × Int := rows.foldl (fun x r => mulC p x (r.getD j ci0)) (1, 1)

def rowOK (p q : Int) (n : Nat) (r : List (Int × Int)) : Bool := (r.length == n) && (decide (r.length ≤ 24) && r.all (isCi p q))

noncomputable def htR (p q g : Int) (rows : List (List (Int × Int))) : List (Int × Int) × Bool :=
  bif okG p q g && (decide (1 ≤ rows.length ∧ rows.length ≤ 24) && (!((rows.getD 0 []).length == 0) && (List.range rows.length).all fun i => rowOK p q (rows.getD 0 []).length (rows.getD i []))) then
    ((List.range (rows.getD 0 []).length).map (hcol p rows), true) else ([], false)

theorem rowOK_spec {p q : Int} {n : Nat} {r : List (Int × Int)} (h : rowOK p q n r = true) : r.length = n ∧ r.length ≤ 24 ∧ ∀ c ∈ r, isCi p q c = true := by
  simpa [rowOK] using h

theorem hcol_range {p : Int} (hp : 2 ≤ p) (j : Nat) : ∀ rows : List (List (Int × Int)), (0 ≤ (hcol p rows j).1 ∧ (hcol p rows j).1 < p) ∧ 0 ≤ (hcol p rows j).2 ∧ (hcol p rows j).2 < p := fun rows => by
  have H : ∀ (l : List (List (Int × Int))) (x : Int × Int), ((0 ≤ x.1 ∧ x.1 < p) ∧ 0 ≤ x.2 ∧ x.2 < p) → (0 ≤ (l.foldl (fun x r => mulC p x (r.getD j ci0)) x).1 ∧ (l.foldl (fun x r => mulC p x (r.getD j ci0)) x).1 < p) ∧ 0 ≤ (l.foldl (fun x r => mulC p x (r.getD j ci0)) x).2 ∧ (l.foldl (fun x r => mulC p x (r.getD j ci0)) x).2 < p := by
    intro l
    induction l with
    | nil => intro x hx; exact hx
    | cons r l ih => intro x hx; exact ih _ ⟨prod_range hp, prod_range hp⟩
  exact H rows (1, 1) ⟨⟨by decide, by show (1 : Int) < p; omega⟩, by decide, by show (1 : Int) < p; omega⟩

theorem hcol_snoc (p : Int) (j : Nat) (a : List (List (Int × Int))) (r : List (Int × Int)) : hcol p (a ++ [r]) j = mulC p (hcol p a j) (r.getD j ci0) := by
  simp [hcol]

theorem mulC_one {p : Int} {x c : Int × Int} (hp : 2 ≤ p) (hx : (0 ≤ x.1 ∧ x.1 < p) ∧ 0 ≤ x.2 ∧ x.2 < p) : [x, c].foldl (mulC p) (1, 1) = mulC p x c := by
  have e : mulC p (1, 1) x = x := by
    unfold mulC
    rw [mul_out (show (0 : Int) ≤ 1 ∧ (1 : Int) < p by omega), mul_out (show (0 : Int) ≤ 1 ∧ (1 : Int) < p by omega), Int.one_mul, Int.one_mul, Int.emod_eq_of_lt hx.1.1 hx.1.2, Int.emod_eq_of_lt hx.2.1 hx.2.2]
  simp only [List.foldl_cons, List.foldl_nil, e]

theorem tSums_eq {p q g : Int} {rows : List (List (Int × Int))} {n : Nat} (h : Gr p q g) (hn : 1 ≤ rows.length ∧ rows.length ≤ 24) (hn0 : (rows.getD 0 []).length = n) (hr : ∀ i, i < rows.length → rowOK p q n (rows.getD i []) = true) :
    M_S_tSums ((p, q, g), rows) = some ((List.range n).map (hcol p rows)) := by
  have h3 := h.p3
  have hn24 : n ≤ 24 := by have := rowOK_spec (hr 0 (by omega)); omega
  unfold M_S_tSums
  dsimp only
  rw [getI_zero, getD_at (d := ([] : List (Int × Int))) (show 0 < rows.length by omega), bindO_some', hn0]
  refine loopO_to (fun j => ((List.range j).map (hcol p rows), (j : Int))) n (some ((List.range n).map (hcol p rows))) (by omega) (fun again => ?_) (fun again j hj ih => ?_)
  · dsimp only
    rw [lt_no, cond_false]
  · dsimp only
    rw [lt_yes hj, cond_true]
    refine loopO_to (fun i => ((i : Int), hcol p (rows.take i) j)) rows.length (some ((List.range n).map (hcol p rows))) (by omega) (fun again2 => ?_) (fun again2 i hi ih2 => ?_)
    · dsimp only
      rw [lt_no, cond_false, List.take_length]
      have hg : ((List.range j).map (hcol p rows)).length + [((hcol p rows j).1, (hcol p rows j).2)].length ≤ 68719476736 := by simp; omega
      rw [guardO_of (lenOk_of hg), bindO_some', bindO_some', i64_succ (by omega), bindO_some']
      rw [List.range_succ, List.map_append] at ih
      exact ih
    · have hx := hcol_range (p := p) (by omega) j (rows.take i)
      obtain ⟨r1, r2, r3⟩ := rowOK_spec (hr i hi)
      have ha := getD_at (d := ([] : List (Int × Int))) hi
      have hj2 : j < (rows.getD i []).length := by omega
      have hc := r3 _ (List.mem_of_getElem? (getD_at (d := ci0) hj2))
      have hc' := isCi_in hc
      dsimp only
      rw [lt_yes hi, cond_true, getI_nat, ha, bindO_some', getI_nat, getD_at (d := ci0) hj2, bindO_some',
        show M_S_eMul ((p, q, g), [((hcol p (rows.take i) j).1, (hcol p (rows.take i) j).2), (((rows.getD i []).getD j ci0).1, ((rows.getD i []).getD j ci0).2)]) = _ from eMul_eq h (by simp) (fun c hm => by
          rcases List.mem_cons.1 hm with rfl | hm
          · exact ⟨⟨hx.1.1, Int.le_of_lt hx.1.2⟩, hx.2.1, Int.le_of_lt hx.2.2⟩
          · rw [List.mem_singleton.1 hm]
            exact hc'), bindO_some', i64_succ (by omega), bindO_some']
      have e := hcol_snoc p j (rows.take i) (rows.getD i [])
      rw [show rows.take i ++ [rows.getD i []] = rows.take (i + 1) by rw [take_snoc hi, List.getD_eq_getElem?_getD, List.getElem?_eq_getElem hi]; rfl] at e
      rw [e] at ih2
      rw [show ([((hcol p (rows.take i) j).1, (hcol p (rows.take i) j).2), (((rows.getD i []).getD j ci0).1, ((rows.getD i []).getD j ci0).2)] : List (Int × Int)).foldl (mulC p) (1, 1) = mulC p (hcol p (rows.take i) j) ((rows.getD i []).getD j ci0) from mulC_one (by omega) hx]
      exact ih2

theorem S_HomomorphicTally_eq {p q g : Int} {rows : List (List (Int × Int))} (hl : rows.length < 2 ^ 62) : M_S_HomomorphicTally ((p, q, g), rows) = some (htR p q g rows) := by
  unfold M_S_HomomorphicTally htR
  dsimp only
  rw [l2Good_eq, bindO_some', in_eq, bindO_some']
  cases hok : okG p q g
  · rfl
  have h := okG_spec hok
  rw [Bool.not_true, cond_false, Bool.true_and, show decide ((1 : Int) ≤ ((rows.length : Nat) : Int) ∧ ((rows.length : Nat) : Int) ≤ 24) = decide (1 ≤ rows.length ∧ rows.length ≤ 24) from decide_eq_decide.2 (by omega)]
  cases hd : decide (1 ≤ rows.length ∧ rows.length ≤ 24)
  · rfl
  have hd' : 1 ≤ rows.length ∧ rows.length ≤ 24 := by simpa using hd
  rw [Bool.not_true, cond_false, Bool.true_and]
  refine (guard_loop (n := rows.length) (fun i => !((rows.getD i []).length == 0) && rowOK p q (rows.getD 0 []).length (rows.getD i [])) (some ((List.range (rows.getD 0 []).length).map (hcol p rows), true)) (some ([], false)) (by omega) (fun again i hi => ?_) (fun hall again => ?_)).trans ?_
  · have ha := getD_at (d := ([] : List (Int × Int))) hi
    have h0 := getD_at (d := ([] : List (Int × Int))) (show 0 < rows.length by omega)
    rw [lt_yes hi, cond_true, getI_nat, ha, bindO_some', getI_zero, h0, bindO_some', eGood_eq h, bindO_some', i64_succ (by omega), bindO_some', show ((((rows.getD i []).length : Nat) : Int) == 0) = ((rows.getD i []).length == 0) from eq_dec' _ 0, neN]
    unfold rowOK
    rw [show ((rows.getD i []).length == (rows.getD 0 []).length) = decide ((rows.getD i []).length = (rows.getD 0 []).length) by rw [Bool.eq_iff_iff]; simp]
    cases (rows.getD i []).length == 0 <;> cases decide ((rows.getD i []).length = (rows.getD 0 []).length) <;> cases decide ((rows.getD i []).length ≤ 24) <;> cases (rows.getD i []).all (isCi p q) <;> rfl
  · rw [lt_no, cond_false, tSums_eq h hd' rfl (fun i hi => by have := hall i hi; simp only [Bool.and_eq_true] at this; exact this.2), bindO_some']
  · have e : (List.range rows.length).all (fun i => !((rows.getD i []).length == 0) && rowOK p q (rows.getD 0 []).length (rows.getD i [])) = (!((rows.getD 0 []).length == 0) && (List.range rows.length).all fun i => rowOK p q (rows.getD 0 []).length (rows.getD i [])) := by
      rw [Bool.eq_iff_iff]
      simp only [List.all_eq_true, List.mem_range, Bool.and_eq_true]
      constructor
      · intro hA
        exact ⟨(hA 0 (by omega)).1, fun i hi => (hA i hi).2⟩
      · rintro ⟨hB, hC⟩ i hi
        refine ⟨?_, hC i hi⟩
        rw [(rowOK_spec (hC i hi)).1]
        exact hB
    rw [e]
    cases !((rows.getD 0 []).length == 0) && (List.range rows.length).all fun i => rowOK p q (rows.getD 0 []).length (rows.getD i []) <;> rfl

theorem range_set {α : Type} (f f' : Nat → α) (n j : Nat) (hj : j < n) : ((List.range n).map fun k => if k < j then f' k else f k).set j (f' j) = (List.range n).map fun k => if k < j + 1 then f' k else f k := by
  refine List.ext_getElem? fun k => ?_
  rw [List.getElem?_set]
  by_cases hk : k < n
  · by_cases e : j = k
    · subst e
      simp [hk]
    · have h1 : (k < j + 1) ↔ (k < j) := by omega
      simp [e, hk, h1]
  · have e : j ≠ k := by omega
    simp [e, hk]

theorem I_HomomorphicTally_eq {p q g : Int} {rows : List (List (Int × Int))} (hr : ∀ r ∈ rows, r.length ≤ 1048576) (hl : rows.length < 2 ^ 62) : M_I_HomomorphicTally ((p, q, g), rows) = some (htR p q g rows) := by
  unfold M_I_HomomorphicTally htR
  dsimp only
  rw [IsValidGroup_eq, bindO_some', within_eq, bindO_some']
  cases hok : okG p q g
  · rfl
  have h := okG_spec hok
  have h3 := h.p3
  rw [Bool.not_true, cond_false, Bool.true_and, show decide ((1 : Int) ≤ ((rows.length : Nat) : Int) ∧ ((rows.length : Nat) : Int) ≤ 24) = decide (1 ≤ rows.length ∧ rows.length ≤ 24) from decide_eq_decide.2 (by omega)]
  cases hd : decide (1 ≤ rows.length ∧ rows.length ≤ 24)
  · rfl
  have hd' : 1 ≤ rows.length ∧ rows.length ≤ 24 := by simpa using hd
  have h0 := getD_at (d := ([] : List (Int × Int))) (show 0 < rows.length by omega)
  have hr0 := hr _ (List.mem_of_getElem? h0)
  rw [Bool.not_true, cond_false, Bool.true_and, getI_zero, h0, bindO_some', show ((((rows.getD 0 []).length : Nat) : Int) == 0) = ((rows.getD 0 []).length == 0) from eq_dec' _ 0]
  cases hz : (rows.getD 0 []).length == 0
  rotate_left
  · rfl
  have hz' : (rows.getD 0 []).length ≠ 0 := by simpa using hz
  rw [cond_false, bindO_some', Repeat_eq (by omega) (by omega), bindO_some', Bool.not_false, Bool.true_and]
  generalize hn : (rows.getD 0 []).length = n at *
  have hinit : List.replicate n ((1 : Int), (1 : Int)) = (List.range n).map (hcol p (rows.take 0)) := by
    refine List.ext_getElem? fun k => ?_
    rw [List.getElem?_replicate, List.getElem?_map]
    by_cases hk : k < n
    · rw [if_pos hk, List.getElem?_range hk]
      rfl
    · rw [if_neg hk, List.getElem?_eq_none (by simpa using hk)]
      rfl
  rw [hinit]
  refine (guard_loopE (n := rows.length) (fun i => ((i : Int), (List.range n).map (hcol p (rows.take i)))) (fun i => rowOK p q n (rows.getD i [])) (some ((List.range n).map (hcol p rows), true)) (some ([], false)) (by omega) (fun again i hi hprev => ?_) (fun hall again => ?_)).trans ?_
  · have ha := getD_at (d := ([] : List (Int × Int))) hi
    have hrl := hr _ (List.mem_of_getElem? ha)
    dsimp only
    rw [lt_yes hi, cond_true, getI_nat, ha, bindO_some', List.length_map, List.length_range, neN, hasCiphers_eq h (by omega), bindO_some']
    have hU : rowOK p q n (rows.getD i []) = (decide ((rows.getD i []).length = n) && (decide ((rows.getD i []).length ≤ 24) && (rows.getD i []).all (isCi p q))) := by
      unfold rowOK
      rw [show ((rows.getD i []).length == n) = decide ((rows.getD i []).length = n) by rw [Bool.eq_iff_iff]; simp]
    cases hrow : rowOK p q n (rows.getD i [])
    · rw [hU] at hrow
      cases h1 : decide ((rows.getD i []).length = n)
      · rfl
      · rw [h1, Bool.true_and] at hrow
        rw [hrow]
        rfl
    · obtain ⟨r1, r2, r3⟩ := rowOK_spec hrow
      rw [hU, Bool.and_eq_true] at hrow
      rw [hrow.1, hrow.2, Bool.not_true, cond_false, cond_false, cond_true, r1]
      have e0 : (List.range n).map (hcol p (rows.take i)) = (List.range n).map fun k => if k < 0 then hcol p (rows.take (i + 1)) k else hcol p (rows.take i) k := List.map_congr_left fun k _ => by rw [if_neg (Nat.not_lt_zero k)]
      have e1 : (List.range n).map (hcol p (rows.take (i + 1))) = (List.range n).map fun k => if k < n then hcol p (rows.take (i + 1)) k else hcol p (rows.take i) k := List.map_congr_left fun k hk => by rw [if_pos (List.mem_range.1 hk)]
      rw [e0]
      refine loopO_to (fun j => ((j : Int), (List.range n).map fun k => if k < j then hcol p (rows.take (i + 1)) k else hcol p (rows.take i) k)) n (again (((i + 1 : Nat) : Int), (List.range n).map (hcol p (rows.take (i + 1))))) (by omega) (fun again2 => ?_) (fun again2 j hj ih2 => ?_)
      · dsimp only
        rw [lt_no, cond_false, i64_succ (by omega), bindO_some', ← e1]
      · have hj2 : j < (rows.getD i []).length := by omega
        have hc' := isCi_in (r3 _ (List.mem_of_getElem? (getD_at (d := ci0) hj2)))
        have hx := hcol_range (p := p) (by omega) j (rows.take i)
        have hgj : ((List.range n).map fun k => if k < j then hcol p (rows.take (i + 1)) k else hcol p (rows.take i) k)[j]? = some (hcol p (rows.take i) j) := by
          rw [List.getElem?_map, List.getElem?_range hj]
          show some (if j < j then _ else _) = _
          rw [if_neg (Nat.lt_irrefl j)]
        have e := hcol_snoc p j (rows.take i) (rows.getD i [])
        rw [show rows.take i ++ [rows.getD i []] = rows.take (i + 1) by rw [take_snoc hi, List.getD_eq_getElem?_getD, List.getElem?_eq_getElem hi]; rfl] at e
        dsimp only
        rw [lt_yes hj, cond_true, getI_nat, getD_at (d := ci0) hj2, bindO_some', getI_nat, hgj, bindO_some',
          show M_I_Group_mulTwo ((p, q, g), ((hcol p (rows.take i) j).1, (hcol p (rows.take i) j).2), (((rows.getD i []).getD j ci0).1, ((rows.getD i []).getD j ci0).2)) = _ from mulTwo_eq (a := hcol p (rows.take i) j) (b := (rows.getD i []).getD j ci0) h ⟨⟨hx.1.1, Int.le_of_lt hx.1.2⟩, hx.2.1, Int.le_of_lt hx.2.2⟩ hc', bindO_some', bindO_some', bindO_some', ← e, Int.toNat_natCast, i64_succ (by omega), bindO_some']
        rw [← range_set (hcol p (rows.take i)) (hcol p (rows.take (i + 1))) n j hj] at ih2
        exact ih2
  · dsimp only
    rw [lt_no, cond_false, List.take_length]
  · cases (List.range rows.length).all fun i => rowOK p q n (rows.getD i []) <;> rfl

theorem htR_small (p q g : Int) (rows : List (List (Int × Int))) : (htR p q g rows).1.length ≤ 24 := by
  unfold htR
  cases hc : okG p q g && (decide (1 ≤ rows.length ∧ rows.length ≤ 24) && (!((rows.getD 0 []).length == 0) && (List.range rows.length).all fun i => rowOK p q (rows.getD 0 []).length (rows.getD i []))) with
  | false => simp
  | true =>
    simp only [Bool.and_eq_true, decide_eq_true_eq, List.all_eq_true, List.mem_range] at hc
    obtain ⟨-, h1, -, h2⟩ := hc
    have := rowOK_spec (h2 0 (by omega))
    simp only [cond_true, List.length_map, List.length_range]
    omega

theorem szCipherSS_eq {x : List (List (Int × Int))} {left : Int} (h0 : 0 ≤ left) (h1 : left ≤ 1048576) (hx : x.length < 2 ^ 63) (hr : ∀ r ∈ x, r.length < 2 ^ 63) : ∃ k, M_L_szCipherSS (x, left) = some k ∧ k ≤ left ∧ (0 ≤ k → k = left - x.length - wsum List.length x) := by
  unfold M_L_szCipherSS
  simp only [i64_in (left - (x.length : Int)) (by omega), bindO_some']
  by_cases hk : left - (x.length : Int) < 0
  · rw [decide_eq_true hk]
    exact ⟨-1, rfl, by omega, fun h => by omega⟩
  · rw [decide_eq_false hk, cond_false]
    refine Exists.imp (fun k hk => ⟨hk.1, by have := hk.2.1; omega, hk.2.2⟩) (sz_loop List.length x (left := left - x.length) (by omega) (by omega) (by omega) (fun again i a l ha hi g0 g1 => ?_) (fun again l => ?_))
    · have hm := hr a (List.mem_of_getElem? ha)
      refine ⟨if l < a.length then -1 else l - a.length, by split <;> omega, fun h => by split at h <;> (split <;> omega), ?_⟩
      simp only [lt_yes hi, cond_true, getI_nat, ha, bindO_some', szCipherS_eq g0 g1 hm, i64_succ (show i < 2 ^ 62 by omega)]
      by_cases hlt : l < a.length
      · simp [hlt]
      · rw [if_neg hlt, decide_eq_false (by omega), cond_false, if_neg (by omega)]
    · simp only [lt_no, cond_false]

theorem toCipherSS_eq {x : List (List (Int × Int))} (h : x.length + wsum List.length x ≤ 1048576) : M_L_toCipherSS x = some x := by
  unfold M_L_toCipherSS
  have hx : (x.length : Int) ≤ ((lim : Nat) : Int) := by rw [lim_eq]; omega
  rw [guardO_of (by simpa using hx), bindO_some', Int.toNat_natCast]
  refine copy_loop x [] (fun again i a s ha hi hs => ?_) (fun again s hs => ?_) (by omega)
  · have hm := wsum_mem (w := List.length) (List.mem_of_getElem? ha)
    have hsi := List.getElem?_eq_getElem (l := s) (show i < s.length by omega)
    simp only [lt_yes hi, cond_true, getI_nat, ha, hsi, bindO_some', toCipherS_eq (show a.length ≤ 1048576 by omega), Int.toNat_natCast, i64_succ (show i < 2 ^ 62 by omega)]
  · simp

theorem eqCipherSS_eq {a : List (List (Int × Int))} (h : a.length < 2 ^ 62) (hr : ∀ r ∈ a, r.length < 2 ^ 62) : M_L_eqCipherSS (a, a) = some true := by
  unfold M_L_eqCipherSS
  dsimp only
  rw [bne_self_eq_false, cond_false]
  refine loopO_to (fun i => (i : Int)) a.length (some true) h (fun again => ?_) (fun again i hi ih => ?_)
  · rw [lt_no, cond_false]
  · have ha := List.getElem?_eq_getElem hi
    have hm := hr _ (List.getElem_mem hi)
    rw [lt_yes hi, cond_true, getI_nat, ha, bindO_some', bindO_some', eqCipherS_eq hm, bindO_some', decide_eq_true rfl, Bool.not_true, cond_false, i64_succ (by omega), bindO_some']
    exact ih

theorem markCipherSS_eq {x : List (List (Int × Int))} (h : x.length + wsum List.length x ≤ 1048576) : ∃ k y, M_L_markCipherSS (x, 1) = some (k, y) ∧ 0 ≤ k := by
  unfold M_L_markCipherSS
  dsimp only
  refine loopO_ind (fun _ (r : Option (Int × List (List (Int × Int)))) => ∃ k y, r = some (k, y) ∧ 0 ≤ k)
    (fun (s : Int × Int × List (List (Int × Int))) => ∃ i : Nat, s.2.1 = (i : Int) ∧ i ≤ x.length ∧ s.2.2.length = x.length ∧ (∀ j, i ≤ j → s.2.2[j]? = x[j]?) ∧ 0 ≤ s.1 ∧ s.1 + 2 * wsum List.length (x.drop i) ≤ 16777216)
    (fun s => x.length - s.2.1.toNat) (fun again s hs ih => ?_) (s := (1, 0, x)) ⟨0, rfl, by omega, rfl, fun _ _ => rfl, by show (0 : Int) ≤ 1; decide, by simp only [List.drop_zero]; omega⟩ (by simp only; omega)
  obtain ⟨k, j, y⟩ := s
  obtain ⟨i, g1, g2, g3, g4, g5, g6⟩ := hs
  dsimp only at g1 g3 g4 g5 g6 ih ⊢
  subst g1
  rw [g3]
  rcases Nat.lt_or_ge i x.length with hi | hi
  · have ha := List.getElem?_eq_getElem hi
    have hy : y[i]? = some x[i] := by rw [g4 i (Nat.le_refl _), ha]
    have e := wsum_drop (w := List.length) ha
    rw [lt_yes hi, cond_true, getI_nat, hy, bindO_some', markCipherS_eq (by omega) (by omega) (by omega), bindO_some', i64_succ (by omega), bindO_some', Int.toNat_natCast]
    refine ih _ ⟨i + 1, rfl, by omega, by simpa using g3, fun m hm => ?_, by dsimp only; omega, by dsimp only; omega⟩ (by dsimp only; omega)
    rw [← g4 m (by omega)]
    have hne : i ≠ m := by omega
    simp [hne]
  · obtain rfl : i = x.length := by omega
    rw [lt_no, cond_false]
    exact ⟨k, y, rfl, g5⟩

theorem wf_css {x : List (List (Int × Int))} (h : WF (.sl (.sl (.cons (.int .i64) (.one (.int .i64))))) x) : x.length < 2 ^ 63 ∧ ∀ r ∈ x, r.length < 2 ^ 63 := by
  have hm : maxLen < 2 ^ 63 := by decide
  exact ⟨Nat.lt_of_le_of_lt h.1 hm, fun r hr => Nat.lt_of_le_of_lt (h.2 r hr).1 hm⟩

theorem law_FnExactHomomorphicTally (x : (Int × Int × Int) × List (List (Int × Int))) (h : WFI [.data (.cons (.int .i64) (.cons (.int .i64) (.one (.int .i64)))), .data (.sl (.sl (.cons (.int .i64) (.one (.int .i64)))))] x) : M_L_FnExactHomomorphicTally x = some true := by
  obtain ⟨⟨p, q, g⟩, rows⟩ := x
  obtain ⟨w1, w2⟩ := wf_css (x := rows) h.2
  unfold M_L_FnExactHomomorphicTally
  dsimp only
  obtain ⟨k, e1, e2, e3⟩ := szCipherSS_eq (x := rows) (left := 1048576) (by omega) (by omega) w1 w2
  refine bind_to e1 ?_
  by_cases hk : k < 0
  · exact yes_to (decide_eq_true hk) rfl
  refine no_to (decide_eq_false hk) ?_
  have ht : rows.length + wsum List.length rows ≤ 1048576 := by have := e3 (by omega); omega
  have hr : ∀ r ∈ rows, r.length ≤ 1048576 := fun r hm => by have := wsum_mem (w := List.length) hm; omega
  have c1 := toCipherSS_eq ht
  have hS := S_HomomorphicTally_eq (p := p) (q := q) (g := g) (rows := rows) (by omega)
  have hI := I_HomomorphicTally_eq (p := p) (q := q) (g := g) (rows := rows) hr (by omega)
  have hsm := htR_small p q g rows
  generalize htR p q g rows = o at hS hI hsm
  obtain ⟨v, b⟩ := o
  dsimp only at hsm
  obtain ⟨km, ym, hm, hkm⟩ := markCipherSS_eq ht
  have hE : M_L_eqCipherS (v, v) = some true := by rw [eqCipherS_eq (by omega), decide_eq_true rfl]
  have m1 := markCipherS_eq (a := v) (k := 1) (by omega) (by omega) (by omega)
  have m2 := heldCipherS_eq (n := v.length) (k := 1) (by omega) (by omega) (by omega)
  refine bind_to (toGroup_eq _) ?_
  refine bind_to c1 ?_
  refine bind_to hS ?_
  refine bind_to c1 ?_
  refine bind_to (toGroup_eq _) ?_
  refine bind_to hI ?_
  refine bind_to hE ?_
  refine no_to rfl ?_
  refine no_to (by cases b <;> rfl) ?_
  refine bind_to c1 ?_
  refine bind_to (eqCipherSS_eq (by omega) fun r hm => by have := hr r hm; omega) ?_
  refine no_to rfl ?_
  refine bind_to hm ?_
  refine no_to (decide_eq_false (by omega)) ?_
  refine bind_to hE ?_
  refine no_to rfl ?_
  refine no_to (by cases b <;> rfl) ?_
  refine bind_to m1 ?_
  refine bind_to m2 ?_
  refine no_to (decide_eq_false (by omega)) ?_
  refine no_to (bne_self_eq_false _) ?_
  refine bind_to (toGroup_eq _) ?_
  refine bind_to c1 ?_
  refine bind_to hI ?_
  refine bind_to hE ?_
  refine no_to rfl ?_
  refine no_to (by cases b <;> rfl) ?_
  refine bind_to m2 ?_
  refine no_to (decide_eq_false (by omega)) ?_
  refine no_to (bne_self_eq_false _) ?_
  rfl

end Go.Proofs.Ytgjneigkkgaaiaa.Vd
