/- The law FnExactFindBadEqual as plain functions on data returns true for all arguments. No conditions. -/
import Derived.Test.YtoaabialmenfiaaFbadMod
set_option linter.unusedVariables false
set_option linter.unusedSimpArgs false
set_option linter.unusedSectionVars false
set_option linter.unnecessarySimpa false
namespace Go.Proofs.Ytoaabialmenfiaa.Vd
open Go.IntWalk

theorem i64_succ {i : Nat} (h : i < 2 ^ 62) : IntKind.wrap .i64 ((i : Int) + 1) = ((i + 1 : Nat) : Int) := by
  rw [i64_in _ (by omega)]
  rfl

theorem lt_yes {i n : Nat} (h : i < n) : decide ((i : Int) < (n : Int)) = true := by simp [h]

theorem lt_no (n : Nat) : decide ((n : Int) < (n : Int)) = false := by simp

/-- A walk over a list by its numbers, with no other state. -/
def walk {α β : Type} (step : Nat → α → Option β → Option β) (fin : Option β) : Nat → List α → Option β
  | _, [] => fin
  | i, a :: r => step i a (walk step fin (i + 1) r)

theorem loop_walk {α β : Type} {body : (Int → Option β) → Int → Option β} (l : List α) (step : Nat → α → Option β → Option β) (fin : Option β)
    (h : ∀ (again : Int → Option β) (i : Nat) a, l[i]? = some a → i < l.length → body again (i : Int) = step i a (again ((i + 1 : Nat) : Int)))
    (hend : ∀ again : Int → Option β, body again (l.length : Int) = fin) (hl : l.length < 2 ^ 64) : loopO body 0 = walk step fin 0 l := by
  refine (loopO_for (σ := Unit) (fun i _ => (i : Int)) l.length (fun i _ => walk step fin i (l.drop i)) (fun _ _ => True) (fun again _ _ => ?_) (fun again i _ hi _ ih => ?_) hl (i := 0) (s := ()) (Nat.zero_le _) trivial).trans rfl
  · simp [hend, walk]
  · rw [h again i l[i] (List.getElem?_eq_getElem hi) hi, ih () trivial, List.drop_eq_getElem_cons hi, walk]

/-- A walk over a list by its numbers, with a state (before the number). -/
def walkS {α β σ : Type} (step : Nat → α → σ → (σ → Option β) → Option β) (fin : σ → Option β) : Nat → List α → σ → Option β
  | _, [], s => fin s
  | i, a :: r, s => step i a s (walkS step fin (i + 1) r)

/-- The same, where the states keep something. -/
theorem loop_walkI {α β σ τ : Type} {body : (τ → Option β) → τ → Option β} (enc : Int → σ → τ) (l : List α) (step : Nat → α → σ → (σ → Option β) → Option β) (fin : σ → Option β) (Inv : Nat → σ → Prop)
    (hc : ∀ (i : Nat) a s (k k' : σ → Option β), l[i]? = some a → Inv i s → (∀ s', Inv (i + 1) s' → k s' = k' s') → step i a s k = step i a s k')
    (h : ∀ (again : τ → Option β) (i : Nat) a s, l[i]? = some a → i < l.length → Inv i s → body again (enc i s) = step i a s fun s' => again (enc ((i + 1 : Nat) : Int) s'))
    (hend : ∀ (again : τ → Option β) s, Inv l.length s → body again (enc l.length s) = fin s) (hl : l.length < 2 ^ 64) (s : σ) (h0 : Inv 0 s) : loopO body (enc 0 s) = walkS step fin 0 l s := by
  refine (loopO_for (σ := σ) (fun i s => enc (i : Int) s) l.length (fun i s => walkS step fin i (l.drop i) s) Inv (fun again s hs => ?_) (fun again i s hi hs ih => ?_) hl (i := 0) (s := s) (Nat.zero_le _) h0).trans rfl
  · simp [hend _ _ hs, walkS]
  · rw [h again i l[i] s (List.getElem?_eq_getElem hi) hi hs, List.drop_eq_getElem_cons hi, walkS]
    exact hc i l[i] s _ _ (List.getElem?_eq_getElem hi) hs fun s' hs' => ih s' hs'

theorem walk_all {α : Type} (p : α → Bool) : ∀ (l : List α) (i : Nat), walk (fun _ a k => if p a = true then k else some false) (some true) i l = some (l.all p)
  | [], _ => rfl
  | a :: l, i => by
    rw [walk, walk_all p l]
    cases h : p a <;> simp [h]

theorem toIntS_eq {x : List Int} (h : x.length ≤ 1048576) : M_L_toIntS x = some x := by
  unfold M_L_toIntS
  have hx : (x.length : Int) ≤ ((lim : Nat) : Int) := by rw [lim_eq]; omega
  rw [guardO_of (by simpa using hx), bindO_some']
  refine (loopO_for (σ := List Int) (fun i s => ((i : Int), s)) x.length (fun i s => some (x.take i ++ x.drop i)) (fun i s => s = x.take i ++ List.replicate (x.length - i) 0) (fun again s hs => ?_) (fun again i s hi hs ih => ?_) (by omega) (i := 0) (s := List.replicate x.length 0) (Nat.zero_le _) (by simp)).trans (by simp)
  · subst hs; simp
  · subst hs
    have h1 : (x.take i ++ List.replicate (x.length - i) (0 : Int))[i]? = some 0 := by
      rw [List.getElem?_append_right (by simp; omega)]
      simp [List.getElem?_replicate]
      omega
    have h2 : (x.take i ++ List.replicate (x.length - i) (0 : Int)).set i x[i] = x.take (i + 1) ++ List.replicate (x.length - (i + 1)) 0 := by
      refine List.ext_getElem? fun j => ?_
      rw [List.getElem?_set]
      by_cases hij : i = j
      · subst hij
        rw [if_pos rfl, if_pos (by simp; omega), List.getElem?_append_left (by simp; omega), List.getElem?_take, if_pos (by omega), List.getElem?_eq_getElem hi]
      · rw [if_neg hij]
        by_cases hj : j < i
        · rw [List.getElem?_append_left (by simp; omega), List.getElem?_append_left (by simp; omega), List.getElem?_take, List.getElem?_take, if_pos hj, if_pos (by omega)]
        · rw [List.getElem?_append_right (by simp; omega), List.getElem?_append_right (by simp; omega)]
          simp only [List.length_take, List.getElem?_replicate]
          rw [Nat.min_eq_left (by omega), Nat.min_eq_left (by omega)]
          by_cases hjx : j < x.length
          · rw [if_pos (by omega), if_pos (by omega)]
          · rw [if_neg (by omega), if_neg (by omega)]
    simp only [getI_nat, List.getElem?_eq_getElem hi, h1, bindO_some', Int.toNat_natCast, h2, i64_succ (show i < 2 ^ 62 by omega)]
    rw [ih _ rfl]
    simp [hi]

theorem eqIntS_eq {a b : List Int} (h : a.length < 2 ^ 62) : M_L_eqIntS (a, b) = some (decide (a = b)) := by
  unfold M_L_eqIntS
  by_cases hl : a.length = b.length
  · have e1 : ((a.length : Int) != (b.length : Int)) = false := by simp [hl]
    dsimp only
    rw [e1]
    simp only [cond_false]
    refine (loopO_for (σ := Unit) (fun i _ => (i : Int)) a.length (fun i _ => some (decide (a.drop i = b.drop i))) (fun _ _ => True) (fun again _ _ => ?_) (fun again i _ hi _ ih => ?_) (by omega) (i := 0) (s := ()) (Nat.zero_le _) trivial).trans (by simp)
    · simp [hl]
    · have hi' : i < b.length := by omega
      simp only [getI_nat, List.getElem?_eq_getElem hi, List.getElem?_eq_getElem hi', bindO_some', i64_succ (show i < 2 ^ 62 by omega), ih () trivial]
      rw [List.drop_eq_getElem_cons hi, List.drop_eq_getElem_cons hi']
      by_cases he : a[i] = b[i] <;> simp [bne_dec, he, hi, -List.getElem_cons_drop]
  · have e1 : ((a.length : Int) != (b.length : Int)) = true := by simp; omega
    dsimp only
    rw [e1]
    simp only [cond_true, Option.some.injEq]
    symm
    simp only [decide_eq_false_iff_not]
    rintro rfl
    exact hl rfl

def marks (n : Nat) (k : Int) : List Int := (List.range n).map fun (i : Nat) => k + (i : Int)

theorem marks_length (n : Nat) (k : Int) : (marks n k).length = n := by simp [marks]

theorem marks_get {n i : Nat} {k : Int} (h : i < n) : (marks n k)[i]? = some (k + i) := by
  simp [marks, h]

theorem markIntS_eq {a : List Int} {k : Int} (h : a.length < 2 ^ 40) (h0 : 0 ≤ k) (h1 : k < 2 ^ 40) : M_L_markIntS (a, k) = some (k + a.length, marks a.length k) := by
  unfold M_L_markIntS
  refine (loopO_for (σ := Int × List Int) (fun i s => (s.1, ((i : Int), s.2))) a.length (fun i s => some (k + a.length, marks a.length k)) (fun i s => s.1 = k + i ∧ s.2 = marks i k ++ a.drop i) (fun again s hs => ?_) (fun again i s hi hs ih => ?_) (by omega) (i := 0) (s := (k, a)) (Nat.zero_le _) (by simp [marks])).trans rfl
  · obtain ⟨s1, s2⟩ := s
    obtain ⟨rfl, rfl⟩ := hs
    simp [marks_length]
  · obtain ⟨s1, s2⟩ := s
    obtain ⟨rfl, rfl⟩ := hs
    have h2 : (marks i k ++ a.drop i)[i]? = some a[i] := by
      rw [List.getElem?_append_right (by simp [marks_length])]
      simp [marks_length, hi]
    have h3 : (marks i k ++ a.drop i).set i (k + i) = marks (i + 1) k ++ a.drop (i + 1) := by
      rw [List.set_append_right _ _ (by simp [marks_length]), marks_length, Nat.sub_self, List.drop_eq_getElem_cons hi, List.set_cons_zero]
      simp [marks, List.range_succ]
    have hlen : (marks i k ++ a.drop i).length = a.length := by simp [marks_length]; omega
    simp only [getI_nat, h2, bindO_some', Int.toNat_natCast, h3, i64_succ (show i < 2 ^ 62 by omega), hlen]
    rw [i64_in _ (by omega)]
    simp only [lt_yes hi, cond_true]
    exact ih (k + i + 1, marks (i + 1) k ++ a.drop (i + 1)) ⟨by simp; omega, rfl⟩

theorem heldIntS_eq {n : Nat} {k : Int} (h : n < 2 ^ 40) (h0 : 0 ≤ k) (h1 : k < 2 ^ 40) : M_L_heldIntS (marks n k, k) = some (k + n) := by
  unfold M_L_heldIntS
  refine (loopO_for (σ := Int) (fun i s => (s, (i : Int))) n (fun i s => some (k + n)) (fun i s => s = k + i) (fun again s hs => ?_) (fun again i s hi hs ih => ?_) (by omega) (i := 0) (s := k) (Nat.zero_le _) (by simp)).trans rfl
  · subst hs; simp [marks_length]
  · subst hs
    simp only [getI_nat, marks_get hi, marks_length, bindO_some', i64_succ (show i < 2 ^ 62 by omega)]
    rw [i64_in _ (by omega)]
    simp only [lt_yes hi, cond_true, bne_self_eq_false, cond_false]
    exact ih (k + i + 1) (by simp; omega)

theorem one_nn (n : Nat) : ((1 : Int) + (n : Int) < 0) = False := by
  simp only [eq_iff_iff, iff_false]
  omega

theorem lenOk_of {n : Nat} (h : n ≤ 68719476736) : lenOk n = true := by simp [lenOk, lim_eq, h]

theorem sliceNH_nat {h n : Nat} (hh : h ≤ n) : sliceNH (h : Int) n = some (0, h) := by
  unfold sliceNH
  rw [if_pos ⟨by omega, by omega⟩]
  simp

/-- A loop whose states go down: a property of its answer. -/
theorem loopO_ind {σ β : Type} {body : (σ → Option β) → σ → Option β} (Q : σ → Option β → Prop) (Inv : σ → Prop) (μ : σ → Nat)
    (step : ∀ (again : σ → Option β) s, Inv s → (∀ s', Inv s' → μ s' < μ s → Q s' (again s')) → Q s (body again s)) {s : σ} (h0 : Inv s) (hm : μ s < 2 ^ 64) : Q s (loopO body s) := by
  rw [loopO_eq]
  have H : ∀ (n : Nat) (s : σ), Inv s → μ s < n → Q s (iter body n s) := by
    intro n
    induction n with
    | zero => intro s _ h; exact absurd h (Nat.not_lt_zero _)
    | succ n ih => intro s hs h; exact step _ s hs fun s' hs' h' => ih s' hs' (by omega)
  exact H many s h0 hm

theorem in_eq (x a b : Int) : M_S_l1In (x, a, b) = some (decide (a ≤ x ∧ x ≤ b)) := by
  by_cases h : a ≤ x <;> by_cases h2 : x ≤ b <;> simp [M_S_l1In, h, h2]

theorem within_eq (x a b : Int) : M_I_within (x, a, b) = some (decide (a ≤ x ∧ x ≤ b)) := by
  by_cases h : a ≤ x <;> by_cases h2 : x ≤ b <;> simp [M_I_within, h, h2]

theorem isModulus_eq (x : Int) : M_I_isModulus x = some (decide (2 ≤ x ∧ x ≤ 2000000000)) := by
  unfold M_I_isModulus
  rw [within_eq]
  rfl

def IsP (n : Int) : Prop := 2 ≤ n ∧ ∀ d, 2 ≤ d → d * d ≤ n → n % d ≠ 0

noncomputable def isP (n : Int) : Bool := @decide (IsP n) (Classical.propDecidable _)

/-- No divisor from d on. -/
def NoDiv (n s : Int) : Prop := ∀ d, s ≤ d → d * d ≤ n → n % d ≠ 0

noncomputable def noDiv (n s : Int) : Bool := @decide (NoDiv n s) (Classical.propDecidable _)

theorem noDiv_end {n s : Int} (hs : 0 ≤ s) (h : n < s * s) : noDiv n s = true := by
  simp only [noDiv, decide_eq_true_eq]
  intro d hd hdd
  have := Int.mul_le_mul hd hd hs (by omega)
  omega

theorem noDiv_hit {n s : Int} (h : s * s ≤ n) (h2 : n % s = 0) : noDiv n s = false := by
  simp only [noDiv, decide_eq_false_iff_not]
  intro hn
  exact hn s (Int.le_refl _) h h2

theorem noDiv_step {n s : Int} (h2 : s * s ≤ n → n % s ≠ 0) : noDiv n s = noDiv n (s + 1) := by
  simp only [noDiv, decide_eq_decide]
  constructor
  · intro h d hd hdd
    exact h d (by omega) hdd
  · intro h d hd hdd
    by_cases he : d = s
    · subst he
      exact h2 hdd
    · exact h d (by omega) hdd

theorem sq_lt {s : Int} (h0 : 0 ≤ s) (h : s * s ≤ 2000000000) : s ≤ 44721 := by
  refine Int.not_lt.1 fun hlt => ?_
  have := Int.mul_le_mul (show (44722 : Int) ≤ s by omega) (show (44722 : Int) ≤ s by omega) (by omega) h0
  omega

theorem sq_le {s k : Int} (h0 : 0 ≤ s) (h : s ≤ k) : s * s ≤ k * k := Int.mul_le_mul h h h0 (by omega)

theorem nPrime_eq {n : Int} (hn : n ≤ 2000000000) : M_S_nPrime n = some (isP n) := by
  unfold M_S_nPrime
  by_cases h2 : n < 2
  · have : isP n = false := by simp only [isP, decide_eq_false_iff_not]; intro h; have := h.1; omega
    simp [h2, this]
  · have hb : decide (n < 2) = false := by simpa using h2
    rw [hb, cond_false]
    have h1 : isP n = noDiv n 2 := by
      simp only [isP, noDiv, decide_eq_decide]
      exact ⟨fun h => h.2, fun h => ⟨by omega, h⟩⟩
    rw [h1]
    refine loopO_spec (fun s => some (noDiv n s)) (fun s => 2 ≤ s ∧ s ≤ 50000) (fun s => (50000 - s).toNat) (fun again s hs ih => ?_) ⟨by omega, by omega⟩ (by omega)
    obtain ⟨hs1, hs2⟩ := hs
    have hq := sq_le (by omega) hs2
    have hq0 : 0 ≤ s * s := Int.mul_nonneg (by omega) (by omega)
    simp only [bindO_some', i64_in _ (show (-9223372036854775808 : Int) ≤ s * s ∧ s * s ≤ 9223372036854775807 by omega)]
    by_cases hle : s * s ≤ n
    · have := sq_lt (by omega) (show s * s ≤ 2000000000 by omega)
      have hgs : guardO (s != 0) = some () := guardO_of (by simp; omega)
      simp only [hle, decide_true, cond_true, hgs, bindO_some', tmod_nn (show 0 ≤ n by omega)]
      by_cases h0 : n % s = 0
      · simp [h0, noDiv_hit hle h0]
      · have hb : (n % s == 0) = false := by simpa using h0
        have hw := i64_in (s + 1) (by omega)
        have hi := ih (s + 1) ⟨by omega, by omega⟩ (by omega)
        have hn := noDiv_step (n := n) (s := s) (fun _ => h0)
        rw [hb, cond_false, hw, hi, hn]
    · simp [hle, noDiv_end (by omega) (show n < s * s by omega)]

theorem odd_loop {n : Int} (hn : n ≤ 2000000000) (h2 : 2 ≤ n) (hodd : n % 2 = 1 ∨ n = 2) : loopO (fun (again9 : (Int → (Option Bool))) => (fun (s10 : Int) => (bindO (some (IntKind.wrap .i64 (s10 * s10))) (fun (a11 : Int) => (cond (decide (a11 ≤ n)) (bindO (guardO (s10 != (0 : Int))) (fun (a12 : Unit) => (bindO (some (Int.tmod n s10)) (fun (a13 : Int) => (cond (a13 == (0 : Int)) (some false) (bindO (some (IntKind.wrap .i64 (s10 + (2 : Int)))) (fun (a14 : Int) => (again9 a14)))))))) (some true)))))) (3 : Int) = some (noDiv n 3) := by
  refine loopO_spec (fun s => some (noDiv n s)) (fun s => 3 ≤ s ∧ s ≤ 50000 ∧ s % 2 = 1) (fun s => (50000 - s).toNat) (fun again s hs ih => ?_) ⟨by omega, by omega, by omega⟩ (by omega)
  obtain ⟨hs1, hs2, hs3⟩ := hs
  have hq := sq_le (by omega) hs2
  have hq0 : 0 ≤ s * s := Int.mul_nonneg (by omega) (by omega)
  simp only [bindO_some', i64_in _ (show (-9223372036854775808 : Int) ≤ s * s ∧ s * s ≤ 9223372036854775807 by omega)]
  by_cases hle : s * s ≤ n
  · have := sq_lt (by omega) (show s * s ≤ 2000000000 by omega)
    have h9 := sq_le (show (0 : Int) ≤ 3 by omega) hs1
    have hgs : guardO (s != 0) = some () := guardO_of (by simp; omega)
    simp only [hle, decide_true, cond_true, hgs, bindO_some', tmod_nn (show 0 ≤ n by omega)]
    by_cases h0 : n % s = 0
    · simp [h0, noDiv_hit hle h0]
    · have hb : (n % s == 0) = false := by simpa using h0
      have hw := i64_in (s + 2) (by omega)
      have hi := ih (s + 2) ⟨by omega, by omega, by omega⟩ (by omega)
      have hn1 := noDiv_step (n := n) (s := s) (fun _ => h0)
      have hn2 := noDiv_step (n := n) (s := s + 1) (fun h8 h1 => by
        have := Int.emod_emod_of_dvd n (show (2 : Int) ∣ (s + 1) by omega)
        rw [h1] at this
        have h3 : n ≠ 2 := fun h => by subst h; omega
        omega)
      rw [hb, cond_false, hw, hi, hn1, hn2, show s + 1 + 1 = s + 2 by omega]
  · simp [hle, noDiv_end (by omega) (show n < s * s by omega)]

theorem isPrime_eq {n : Int} (hn : n ≤ 2000000000) : M_I_isPrime n = some (isP n) := by
  unfold M_I_isPrime
  rw [isModulus_eq]
  by_cases h2 : 2 ≤ n
  · have h1 : isP n = noDiv n 2 := by
      simp only [isP, noDiv, decide_eq_decide]
      exact ⟨fun h => h.2, fun h => ⟨h2, h⟩⟩
    have hg2 : guardO ((2 : Int) != 0) = some () := rfl
    by_cases ho : n % 2 = 1 ∨ n = 2
    · rw [odd_loop hn h2 ho, hg2]
      simp only [bindO_some', h2, hn, and_self, decide_true, Bool.not_true, cond_false, tmod_nn (show 0 ≤ n by omega), h1]
      rcases ho with ho | rfl
      · have hb : (n % 2 == 0) = false := by simp [ho]
        rw [hb, cond_false, noDiv_step (n := n) (s := 2) (fun _ => by omega)]
        rfl
      · rw [noDiv_end (n := 2) (s := 2) (by omega) (by omega), noDiv_end (n := 2) (s := 3) (by omega) (by omega)]
        rfl
    · have he : n % 2 = 0 := by omega
      have hn2 : n ≠ 2 := fun h => ho (.inr h)
      have hb : (n != 2) = true := by simpa using hn2
      simp only [bindO_some', hg2, h2, hn, and_self, decide_true, Bool.not_true, cond_false, tmod_nn (show 0 ≤ n by omega), he, beq_self_eq_true, cond_true, hb, h1]
      rw [noDiv_hit (by omega) he]
  · have : isP n = false := by simp only [isP, decide_eq_false_iff_not]; intro h; have := h.1; omega
    simp [h2, this]

theorem pow_mod (a m : Int) : ∀ k : Nat, (a % m) ^ k % m = a ^ k % m
  | 0 => by simp
  | k + 1 => by rw [Int.pow_succ, Int.pow_succ, Int.mul_emod, pow_mod a m k, ← Int.mul_emod, Int.mul_emod, Int.emod_emod_of_dvd _ (Int.dvd_refl m), ← Int.mul_emod]

theorem sq_pow (a : Int) (k : Nat) : (a * a) ^ k = a ^ (2 * k) := by
  rw [show a * a = a ^ 2 by rw [Int.pow_succ, Int.pow_succ, Int.pow_zero, Int.one_mul], ← Int.pow_mul]

/-- One round of the power loop. -/
theorem pow_round {out a m : Int} {e : Int} (he : 0 < e) : ((if e % 2 = 1 then out * a % m else out) * (a * a % m) ^ (e / 2).toNat) % m = (out * a ^ e.toNat) % m := by
  have hk : e.toNat = 2 * (e / 2).toNat + (e % 2).toNat := by omega
  rw [Int.mul_emod, pow_mod, ← Int.mul_emod, sq_pow]
  by_cases h : e % 2 = 1
  · rw [if_pos h, hk, h, Int.pow_add, show (1 : Int).toNat = 1 by rfl, Int.pow_succ, Int.pow_zero, Int.one_mul, Int.mul_emod, Int.emod_emod_of_dvd _ (Int.dvd_refl m), ← Int.mul_emod]
    congr 1
    rw [Int.mul_assoc, Int.mul_comm a]
  · rw [if_neg h, hk, show e % 2 = 0 by omega]
    rfl

theorem mul_in {a b : Int} (ha : 0 ≤ a) (ha2 : a ≤ 3000000000) (hb : 0 ≤ b) (hb2 : b ≤ 3000000000) : 0 ≤ a * b ∧ a * b ≤ 9000000000000000000 :=
  ⟨Int.mul_nonneg ha hb, by have := Int.mul_le_mul ha2 hb2 hb (by omega); omega⟩

theorem nPower_eq {a e m : Int} (ha : 0 ≤ a) (ha2 : a ≤ 3000000000) (he : 0 ≤ e) (he2 : e ≤ 9223372036854775807) (hm : 1 ≤ m) (hm2 : m ≤ 3000000000) : M_S_nPower (a, e, m) = some (a ^ e.toNat % m) := by
  unfold M_S_nPower
  dsimp only
  have hg : guardO (m != 0) = some () := guardO_of (by simp; omega)
  have hg2 : guardO ((2 : Int) != 0) = some () := rfl
  rw [hg, bindO_some', bindO_some', tmod_nn (by omega)]
  have hfin : a ^ e.toNat % m = (1 % m * a ^ e.toNat) % m := by rw [Int.mul_emod, Int.emod_emod_of_dvd _ (Int.dvd_refl m), ← Int.mul_emod, Int.one_mul]
  rw [hfin]
  refine loopO_spec (fun (s : Int × Int × Int) => some ((s.2.2 * s.1 ^ s.2.1.toNat) % m)) (fun s => 0 ≤ s.1 ∧ s.1 ≤ 3000000000 ∧ 0 ≤ s.2.1 ∧ s.2.1 ≤ 9223372036854775807 ∧ 0 ≤ s.2.2 ∧ s.2.2 < m) (fun s => s.2.1.toNat) (fun again s hs ih => ?_)
    (⟨ha, ha2, he, he2, Int.emod_nonneg _ (by omega), Int.emod_lt_of_pos _ (by omega)⟩) (show e.toNat < 2 ^ 64 by omega)
  obtain ⟨a, e, out⟩ := s
  obtain ⟨h1, h2, h3, h4, h5, h6⟩ := hs
  dsimp only at h1 h2 h3 h4 h5 h6 ih ⊢
  have hoa := mul_in h5 (show out ≤ 3000000000 by omega) h1 h2
  have haa := mul_in h1 h2 h1 h2
  by_cases hpos : e > 0
  · have hr := pow_round (out := out) (a := a) (m := m) hpos
    have haam := Int.emod_nonneg (a * a) (show m ≠ 0 by omega)
    have haam2 := Int.emod_lt_of_pos (a * a) (show 0 < m by omega)
    have hoam := Int.emod_nonneg (out * a) (show m ≠ 0 by omega)
    have hoam2 := Int.emod_lt_of_pos (out * a) (show 0 < m by omega)
    simp only [hpos, decide_true, cond_true, hg, hg2, bindO_some', tmod_nn h3, tdiv_nn h3, i64_in _ (show (-9223372036854775808 : Int) ≤ out * a ∧ out * a ≤ 9223372036854775807 by omega), i64_in _ (show (-9223372036854775808 : Int) ≤ a * a ∧ a * a ≤ 9223372036854775807 by omega),
      tmod_nn hoa.1, tmod_nn haa.1, i64_in _ (show (-9223372036854775808 : Int) ≤ e / 2 ∧ e / 2 ≤ 9223372036854775807 by omega)]
    by_cases ho : e % 2 = 1
    · rw [if_pos ho] at hr
      rw [show (e % 2 == 1) = true by simp [ho], cond_true, ih (a * a % m, e / 2, out * a % m) ⟨haam, by dsimp only; omega, by dsimp only; omega, by dsimp only; omega, hoam, hoam2⟩ (by dsimp only; omega)]
      exact congrArg some hr
    · rw [if_neg ho] at hr
      rw [show (e % 2 == 1) = false by simp [ho], cond_false, ih (a * a % m, e / 2, out) ⟨haam, by dsimp only; omega, by dsimp only; omega, by dsimp only; omega, h5, h6⟩ (by dsimp only; omega)]
      exact congrArg some hr
  · have : e = 0 := by omega
    subst this
    simp [Int.emod_eq_of_lt h5 h6]

theorem bits_one {x : Int} (h : 0 ≤ x) : Vd.bits .and .i64 x 1 = x % 2 := by
  obtain ⟨n, rfl⟩ := Int.eq_ofNat_of_zero_le h
  have h1 : (BitVec.ofInt 64 ((n : Nat) : Int) &&& BitVec.ofInt 64 1).toNat = n % 2 := by
    rw [BitVec.toNat_and]
    have e1 : (BitVec.ofInt 64 ((n : Nat) : Int)).toNat = n % 2 ^ 64 := by simp
    have e2 : (BitVec.ofInt 64 1).toNat = 1 := by decide
    rw [e1, e2, Nat.and_one_is_mod]
    omega
  show IntKind.wrap .i64 (((BitVec.ofInt 64 ((n : Nat) : Int) &&& BitVec.ofInt 64 1).toNat : Nat) : Int) = _
  rw [h1, i64_in _ (by omega)]
  omega

theorem shr_one {x : Int} : Vd.shr .i64 x 1 = x / 2 := by
  show x.fdiv (2 ^ (min (1 : Int).toNat 64)) = x / 2
  rw [show ((2 : Int) ^ (min (1 : Int).toNat 64)) = 2 by decide, fdiv_pos (by omega)]

theorem power_eq {a e m : Int} (he : e ≤ 9223372036854775807) : M_I_power (a, e, m) = M_S_nPower (a, e, m) := by
  unfold M_I_power M_S_nPower
  congr 1
  funext _
  congr 1
  funext out
  refine loopO_congr (fun s => s.2.1 ≤ 9223372036854775807) (fun a1 a2 s hs ih => ?_) he
  by_cases hpos : s.2.1 > 0
  · have hg2 : guardO ((2 : Int) != 0) = some () := rfl
    have hg3 : guardO (decide ((0 : Int) ≤ 1)) = some () := rfl
    have hw : ∀ (x : Int) y, a1 (x, s.2.1 / 2, y) = a2 (x, s.2.1 / 2, y) := fun x y => ih _ (by dsimp only; omega)
    simp only [hpos, decide_true, cond_true, hg2, hg3, bindO_some', bits_one (show 0 ≤ s.2.1 by omega), shr_one, tmod_nn (show 0 ≤ s.2.1 by omega), tdiv_nn (show 0 ≤ s.2.1 by omega),
      i64_in _ (show (-9223372036854775808 : Int) ≤ s.2.1 / 2 ∧ s.2.1 / 2 ≤ 9223372036854775807 by omega), hw]
  · simp [hpos]

theorem l1All_eq {l : List Int} {lo hi : Int} (hl : l.length < 2 ^ 62) : M_S_l1All (l, lo, hi) = some (l.all fun n => decide (lo ≤ n ∧ n ≤ hi)) := by
  unfold M_S_l1All
  refine (loop_walk l (fun _ a k => if (decide (lo ≤ a ∧ a ≤ hi)) = true then k else some false) (some true) (fun again i a ha hi' => ?_) (fun again => ?_) (by omega)).trans (walk_all (fun n => decide (lo ≤ n ∧ n ≤ hi)) l 0)
  · simp only [getI_nat, ha, bindO_some', i64_succ (show i < 2 ^ 62 by omega), lt_yes hi', cond_true, in_eq]
    cases decide (lo ≤ a ∧ a ≤ hi) <;> rfl
  · simp

theorem walk_index_mem {α : Type} (p : α → Bool) (f : α → Option Bool) : ∀ (l : List α) (i : Nat), (∀ a ∈ l, f a = some (p a)) →
    ∃ j : Int, walk (fun i a k => bindO (f a) fun b => cond b (some (i : Int)) k) (some (-1)) i l = some j ∧ decide (j ≥ 0) = l.any p
  | [], _, _ => ⟨-1, rfl, rfl⟩
  | a :: l, i, hf => by
    obtain ⟨j, h1, h2⟩ := walk_index_mem p f l (i + 1) fun b hb => hf b (List.mem_cons_of_mem _ hb)
    have ha := hf a (List.mem_cons_self ..)
    cases h : p a
    · exact ⟨j, by simp [walk, ha, h, h1], by simp [h, h2]⟩
    · exact ⟨i, by simp [walk, ha, h], by simp [h]⟩

theorem containsFunc_eq {l : List Int} {f : Int → Option Bool} {p : Int → Bool} (hl : l.length < 2 ^ 62) (hf : ∀ a ∈ l, f a = some (p a)) : M_slices_ContainsFunc_sint_int (l, f) = some (l.any p) := by
  obtain ⟨j, h1, h2⟩ := walk_index_mem p f l 0 hf
  unfold M_slices_ContainsFunc_sint_int
  have : M_slices_IndexFunc_sint_int (l, f) = some j := by
    unfold M_slices_IndexFunc_sint_int
    refine (loop_walk l _ _ (fun again i a ha hi => ?_) (fun again => ?_) (by omega)).trans h1
    · simp only [getI_nat, ha, bindO_some', i64_succ (show i < 2 ^ 62 by omega), lt_yes hi, cond_true]
    · simp
  dsimp only
  rw [this, bindO_some', h2]

theorem areAll_eq {l : List Int} {f : Int → Option Bool} {p : Int → Bool} (hl : l.length < 2 ^ 62) (hf : ∀ a ∈ l, f a = some (p a)) : M_I_areAll (l, f) = some (l.all p) := by
  unfold M_I_areAll
  dsimp only
  rw [containsFunc_eq (p := fun a => !p a) hl fun a ha => by simp [M_I_areAll_1, hf a ha], bindO_some']
  congr 1
  rw [List.any_eq_not_all_not]
  simp

noncomputable def okG (p q g : Int) : Bool := decide (3 ≤ p ∧ p ≤ 2000000000) && (decide (2 ≤ q ∧ q ≤ p - 1) && ((p - 1) % q == 0 && (decide (2 ≤ g ∧ g ≤ p - 1) && (g ^ q.toNat % p == 1 && (isP q && isP p)))))

theorem l2Good_eq (p q g : Int) : M_S_l2Good (p, q, g) = some (okG p q g) := by
  unfold M_S_l2Good okG
  simp only [in_eq, bindO_some']
  by_cases h1 : 3 ≤ p ∧ p ≤ 2000000000
  · rw [i64_in (p - 1) (by omega)]
    simp only [h1, and_self, decide_true, cond_true, Bool.true_and]
    by_cases h2 : 2 ≤ q ∧ q ≤ p - 1
    · have hq : guardO (q != 0) = some () := guardO_of (by simp; omega)
      simp only [h2, and_self, decide_true, cond_true, Bool.true_and, hq, bindO_some', tmod_nn (show 0 ≤ p - 1 by omega)]
      by_cases h3 : (p - 1) % q = 0
      · simp only [h3, beq_self_eq_true, cond_true, Bool.true_and]
        by_cases h4 : 2 ≤ g ∧ g ≤ p - 1
        · simp only [h4, and_self, decide_true, cond_true, Bool.true_and, nPower_eq (show 0 ≤ g by omega) (show g ≤ 3000000000 by omega) (show 0 ≤ q by omega) (show q ≤ 9223372036854775807 by omega) (show 1 ≤ p by omega) (show p ≤ 3000000000 by omega), bindO_some',
            nPrime_eq (show q ≤ 2000000000 by omega), nPrime_eq (show p ≤ 2000000000 by omega)]
          cases (g ^ q.toNat % p == 1) <;> cases isP q <;> cases isP p <;> rfl
        · simp [h4]
      · have hb : ((p - 1) % q == 0) = false := by simpa using h3
        simp [hb]
    · simp [h2]
  · simp [h1]

theorem IsValidGroup_eq (p q g : Int) : M_I_IsValidGroup (p, q, g) = some (okG p q g) := by
  unfold M_I_IsValidGroup okG
  simp only [within_eq, bindO_some']
  by_cases h1 : 3 ≤ p ∧ p ≤ 2000000000
  · rw [i64_in (p - 1) (by omega)]
    simp only [h1, and_self, decide_true, cond_true, Bool.true_and]
    by_cases h2 : 2 ≤ q ∧ q ≤ p - 1
    · have hq : guardO (q != 0) = some () := guardO_of (by simp; omega)
      simp only [h2, and_self, decide_true, cond_true, Bool.true_and, hq, bindO_some', tmod_nn (show 0 ≤ p - 1 by omega)]
      by_cases h3 : (p - 1) % q = 0
      · simp only [h3, beq_self_eq_true, cond_true, Bool.true_and]
        by_cases h4 : 2 ≤ g ∧ g ≤ p - 1
        · simp only [h4, and_self, decide_true, cond_true, Bool.true_and, power_eq (show q ≤ 9223372036854775807 by omega), nPower_eq (show 0 ≤ g by omega) (show g ≤ 3000000000 by omega) (show 0 ≤ q by omega) (show q ≤ 9223372036854775807 by omega) (show 1 ≤ p by omega) (show p ≤ 3000000000 by omega), bindO_some',
            isPrime_eq (show q ≤ 2000000000 by omega), isPrime_eq (show p ≤ 2000000000 by omega)]
          cases (g ^ q.toNat % p == 1) <;> cases isP q <;> cases isP p <;> rfl
        · simp [h4]
      · have hb : ((p - 1) % q == 0) = false := by simpa using h3
        simp [hb]
    · simp [h2]
  · simp [h1]

/-- What a valid group fulfils. -/
structure Gr (p q g : Int) : Prop where
  p3 : 3 ≤ p
  pm : p ≤ 2000000000
  q2 : 2 ≤ q
  qp : q ≤ p - 1
  dv : (p - 1) % q = 0
  g2 : 2 ≤ g
  gp : g ≤ p - 1
  gq : g ^ q.toNat % p = 1
  pq : isP q = true
  pp : isP p = true

theorem okG_spec {p q g : Int} (h : okG p q g = true) : Gr p q g := by
  simp only [okG, Bool.and_eq_true, decide_eq_true_eq, beq_iff_eq] at h
  obtain ⟨⟨h1, h2⟩, ⟨h3, h4⟩, h5, ⟨h6, h7⟩, h8, h9, h10⟩ := h
  exact ⟨h1, h2, h3, h4, h5, h6, h7, h8, h9, h10⟩

theorem nMod_eq {a m : Int} (hm : 1 ≤ m) (hm2 : m ≤ 4611686018427387903) : M_S_nMod (a, m) = some (a % m) := by
  unfold M_S_nMod
  have hg : guardO (m != 0) = some () := guardO_of (by simp; omega)
  have h1 := Int.tmod_lt_of_pos a (show 0 < m by omega)
  have h2 : -m < a.tmod m := Int.lt_tmod_of_pos a (by omega)
  simp only [hg, bindO_some', i64_in (a.tmod m + m) (by omega), tmod_nn (show 0 ≤ a.tmod m + m by omega)]
  congr 1
  rw [Int.add_emod_right]
  have h3 := Int.mul_tdiv_add_tmod a m
  have : a % m = (m * a.tdiv m + a.tmod m) % m := by rw [h3]
  rw [this, Int.mul_add_emod_self_left]

theorem mod_eq {x : Int × Int} : M_I_mod x = M_S_nMod x := rfl

theorem gExp_eq {p q g x e : Int} (h : Gr p q g) (hx : 0 ≤ x) (hx2 : x ≤ p) : M_S_gExp ((p, q, g), x, e) = some (x ^ (e % q).toNat % p) := by
  unfold M_S_gExp
  have := h.p3; have := h.pm; have := h.q2; have := h.qp
  have h1 := Int.emod_nonneg e (show q ≠ 0 by omega)
  have h2 := Int.emod_lt_of_pos e (show 0 < q by omega)
  dsimp only
  rw [nMod_eq (by omega) (by omega), bindO_some', nPower_eq hx (by omega) h1 (by omega) (by omega) (by omega), bindO_some']

theorem Group_pow_eq {p q g x e : Int} (h : Gr p q g) (hx : 0 ≤ x) (hx2 : x ≤ p) : M_I_Group_pow ((p, q, g), x, e) = some (x ^ (e % q).toNat % p) := by
  unfold M_I_Group_pow
  have := h.p3; have := h.pm; have := h.q2; have := h.qp
  have h1 := Int.emod_nonneg e (show q ≠ 0 by omega)
  have h2 := Int.emod_lt_of_pos e (show 0 < q by omega)
  dsimp only
  rw [mod_eq, nMod_eq (by omega) (by omega), bindO_some', power_eq (by omega), nPower_eq hx (by omega) h1 (by omega) (by omega) (by omega), bindO_some']

theorem isExp_eq {p q g e : Int} (h : Gr p q g) : M_I_Group_isExp ((p, q, g), e) = some (decide (0 ≤ e ∧ e ≤ q - 1)) := by
  unfold M_I_Group_isExp
  have := h.pm; have := h.q2; have := h.qp
  simp only [bindO_some', i64_in (q - 1) (by omega), within_eq]

theorem gExps_eq {p q g : Int} {l : List Int} (h : Gr p q g) (hl : l.length < 2 ^ 62) : M_S_gExps ((p, q, g), l) = some (l.all fun e => decide (0 ≤ e ∧ e ≤ q - 1)) := by
  unfold M_S_gExps
  have := h.pm; have := h.q2; have := h.qp
  simp only [bindO_some', i64_in (q - 1) (by omega), l1All_eq hl]

/-- Is a number an element? -/
def isEl (p q x : Int) : Bool := decide (1 ≤ x ∧ x ≤ p - 1) && x ^ q.toNat % p == 1

theorem has_eq' {p q g x : Int} (h : Gr p q g) : M_I_Group_has ((p, q, g), x) = some (isEl p q x) := by
  unfold M_I_Group_has isEl
  have := h.p3; have := h.pm; have := h.q2; have := h.qp
  simp only [bindO_some', i64_in (p - 1) (by omega), within_eq]
  by_cases hx : 1 ≤ x ∧ x ≤ p - 1
  · simp [hx, power_eq (show q ≤ 9223372036854775807 by omega), nPower_eq (show 0 ≤ x by omega) (show x ≤ 3000000000 by omega) (show 0 ≤ q by omega) (show q ≤ 9223372036854775807 by omega) (show 1 ≤ p by omega) (show p ≤ 3000000000 by omega)]
  · simp [hx]

theorem gIs_eq {p q g : Int} {l : List Int} (h : Gr p q g) (hl : l.length < 2 ^ 62) : M_S_gIs ((p, q, g), l) = some (l.all (isEl p q)) := by
  unfold M_S_gIs
  have := h.p3; have := h.pm; have := h.q2; have := h.qp
  refine (loop_walk l (fun _ a k => if (isEl p q a) = true then k else some false) (some true) (fun again i a ha hi' => ?_) (fun again => ?_) (by omega)).trans (walk_all (isEl p q) l 0)
  · simp only [getI_nat, ha, bindO_some', i64_succ (show i < 2 ^ 62 by omega), lt_yes hi', cond_true, in_eq, i64_in (p - 1) (by omega)]
    by_cases hx : 1 ≤ a ∧ a ≤ p - 1
    · simp only [isEl, hx, and_self, decide_true, Bool.not_true, cond_false, Bool.true_and, nPower_eq (show 0 ≤ a by omega) (show a ≤ 3000000000 by omega) (show 0 ≤ q by omega) (show q ≤ 9223372036854775807 by omega) (show 1 ≤ p by omega) (show p ≤ 3000000000 by omega), bindO_some']
      by_cases h1 : a ^ q.toNat % p = 1 <;> simp [h1, bne_dec]
    · simp [isEl, hx]
  · simp

theorem isEl_range {p q x : Int} (h : isEl p q x = true) : 1 ≤ x ∧ x ≤ p - 1 ∧ x ^ q.toNat % p = 1 := by
  simp only [isEl, Bool.and_eq_true, decide_eq_true_eq, beq_iff_eq] at h
  exact ⟨h.1.1, h.1.2, h.2⟩

/-- A product of residues. -/
def prodM (p : Int) : Int → List Int → Int
  | out, [] => out
  | out, x :: l => prodM p (out * x % p) l

theorem prodM_range {p : Int} (hp : 1 ≤ p) : ∀ (l : List Int) (out : Int), 0 ≤ out → out < p ∨ l ≠ [] → 0 ≤ prodM p out l ∧ (prodM p out l < p)
  | [], out, h, h2 => ⟨h, h2.resolve_right (by simp)⟩
  | x :: l, out, h, _ => prodM_range hp l _ (Int.emod_nonneg _ (by omega)) (.inl (Int.emod_lt_of_pos _ (by omega)))

theorem gMul_loop {p : Int} (hp : 1 ≤ p) (hp2 : p ≤ 3000000000) (l : List Int) (hx : ∀ x ∈ l, 0 ≤ x ∧ x ≤ 3000000000) (hl : l.length < 2 ^ 62) {body : (Int × Int → Option Int) → Int × Int → Option Int} 
    (h : ∀ (again : Int × Int → Option Int) (s : Int × Int), body again s = (cond (decide (s.2 < ((l.length : Nat) : Int))) (bindO (getI l s.2) fun a => bindO (some (IntKind.wrap .i64 (s.1 * a))) fun b => bindO (guardO (p != 0)) fun _ => bindO (some (b.tmod p)) fun c => bindO (some (IntKind.wrap .i64 (s.2 + 1))) fun d => again (c, d)) (some s.1))) :
    loopO body (1, 0) = some (prodM p 1 l) := by
  have hg : guardO (p != 0) = some () := guardO_of (by simp; omega)
  refine (loopO_for (σ := Int) (fun i s => (s, (i : Int))) l.length (fun i s => some (prodM p s (l.drop i))) (fun _ s => 0 ≤ s ∧ s ≤ 3000000000) (fun again s hs => ?_) (fun again i s hi hs ih => ?_) (by omega) (i := 0) (s := 1) (Nat.zero_le _) ⟨by omega, by omega⟩).trans (by simp)
  · rw [h]; simp [prodM]
  · have hm := hx l[i] (List.getElem_mem hi)
    have hb := mul_in hs.1 hs.2 hm.1 hm.2
    have h1 := Int.emod_nonneg (s * l[i]) (show p ≠ 0 by omega)
    have h2 := Int.emod_lt_of_pos (s * l[i]) (show 0 < p by omega)
    rw [h]
    simp only [lt_yes hi, cond_true, getI_nat, List.getElem?_eq_getElem hi, bindO_some', hg, i64_succ (show i < 2 ^ 62 by omega), i64_in (s * l[i]) (by omega), tmod_nn hb.1]
    rw [ih _ ⟨h1, by omega⟩, List.drop_eq_getElem_cons hi, prodM]

theorem gMul_eq {p q g : Int} {l : List Int} (h : Gr p q g) (hx : ∀ x ∈ l, 0 ≤ x ∧ x ≤ 3000000000) (hl : l.length < 2 ^ 62) : M_S_gMul ((p, q, g), l) = some (prodM p 1 l) := by
  unfold M_S_gMul
  have := h.p3; have := h.pm
  exact gMul_loop (by omega) (by omega) l hx hl fun _ _ => rfl

theorem Group_mul_eq {p q g : Int} {l : List Int} (h : Gr p q g) (hx : ∀ x ∈ l, 0 ≤ x ∧ x ≤ 3000000000) (hl : l.length < 2 ^ 62) : M_I_Group_mul ((p, q, g), l) = some (prodM p 1 l) := by
  unfold M_I_Group_mul
  have := h.p3; have := h.pm
  exact gMul_loop (by omega) (by omega) l hx hl fun _ _ => rfl

def hstep (c s k : Int) : Int := (c * s + k + 1) % 2147483647

def absorb (s : Int × Int) (x : Int) : Int × Int :=
  (hstep 48271 (hstep 48271 s.1 (x % 2147483648)) (x / 2147483648), hstep 69621 (hstep 69621 s.2 (x % 2147483648)) (x / 2147483648))

def digest (l : List Int) : Int := ((l.foldl absorb (absorb (1, 2) (l.length : Int))).1) * 2147483648 + (l.foldl absorb (absorb (1, 2) (l.length : Int))).2

def HOk (s : Int × Int) : Prop := 0 ≤ s.1 ∧ s.1 < 2147483648 ∧ 0 ≤ s.2 ∧ s.2 < 2147483648

theorem hstep_range (c s k : Int) : 0 ≤ hstep c s k ∧ hstep c s k < 2147483647 :=
  ⟨Int.emod_nonneg _ (by omega), Int.emod_lt_of_pos _ (by omega)⟩

theorem absorb_ok (s : Int × Int) (x : Int) : HOk (absorb s x) := by
  have h1 := hstep_range 48271 (hstep 48271 s.1 (x % 2147483648)) (x / 2147483648)
  have h2 := hstep_range 69621 (hstep 69621 s.2 (x % 2147483648)) (x / 2147483648)
  exact ⟨h1.1, by show hstep _ _ _ < _; omega, h2.1, by show hstep _ _ _ < _; omega⟩

theorem foldl_ok : ∀ (l : List Int) (s : Int × Int), HOk s → HOk (l.foldl absorb s)
  | [], _, h => h
  | x :: l, s, _ => foldl_ok l _ (absorb_ok s x)

theorem digest_range (l : List Int) : 0 ≤ digest l ∧ digest l ≤ 4611686018427387903 := by
  have h := foldl_ok l _ (absorb_ok (1, 2) (l.length : Int))
  obtain ⟨h1, h2, h3, h4⟩ := h
  unfold digest
  omega

theorem hstep_walk {c s k : Int} (hc : c = 48271 ∨ c = 69621) (hs : 0 ≤ s ∧ s < 2147483648) (hk : 0 ≤ k ∧ k < 2147483648) :
    (IntKind.wrap .i64 (IntKind.wrap .i64 (IntKind.wrap .i64 (c * s) + k) + 1)).tmod 2147483647 = hstep c s k := by
  have h1 : 0 ≤ c * s ∧ c * s ≤ 69621 * 2147483648 := ⟨Int.mul_nonneg (by omega) hs.1, Int.mul_le_mul (by omega) (by omega) hs.1 (by omega)⟩
  rw [i64_in (c * s) (by omega), i64_in (c * s + k) (by omega), i64_in (c * s + k + 1) (by omega), tmod_nn (by omega)]
  rfl

theorem absorb_eq {s : Int × Int} {x : Int} (hs : HOk s) (h0 : 0 ≤ x) (h1 : x ≤ 4611686018427387903) : M_S_l3State_absorb (s, x) = some (absorb s x) := by
  unfold M_S_l3State_absorb
  obtain ⟨h2, h3, h4, h5⟩ := hs
  have hg : guardO ((2147483648 : Int) != 0) = some () := rfl
  have hg2 : guardO ((2147483647 : Int) != 0) = some () := rfl
  dsimp only
  rw [hg]
  simp only [bindO_some', tmod_nn h0, tdiv_nn h0]
  rw [i64_in (x / 2147483648) (by omega)]
  have hb : 0 ≤ x % 2147483648 ∧ x % 2147483648 < 2147483648 := by omega
  have ha : 0 ≤ x / 2147483648 ∧ x / 2147483648 < 2147483648 := by omega
  have hm : ∀ k ∈ [x % 2147483648, x / 2147483648], 0 ≤ k ∧ k < 2147483648 := fun k hk => by
    simp only [List.mem_cons, List.not_mem_nil, or_false] at hk
    rcases hk with rfl | rfl
    · exact hb
    · exact ha
  have hg3 : ∀ (c s k : Int), 0 ≤ hstep c s k ∧ hstep c s k < 2147483648 := fun c s k => by have := hstep_range c s k; omega
  refine (loop_walkI (fun i (s : Int × Int) => (i, (s.1, s.2))) [x % 2147483648, x / 2147483648] (fun _ k s c => c (hstep 48271 s.1 k, hstep 69621 s.2 k)) (fun s => some (s.1, s.2)) (fun _ s => HOk s)
    (fun i a s k k' ha hs hk => hk _ ⟨(hg3 _ _ _).1, (hg3 _ _ _).2, (hg3 _ _ _).1, (hg3 _ _ _).2⟩) (fun again i a t ha hi ht => ?_) (fun again s hs => ?_) (by show (2 : Nat) < 2 ^ 64; omega) (s.1, s.2) ⟨h2, h3, h4, h5⟩).trans rfl
  · have hk := hm a (List.mem_of_getElem? ha)
    have hi2 : i < 2 := hi
    simp only [lt_yes hi, cond_true, getI_nat, ha, hg2, bindO_some', hstep_walk (.inl rfl) ⟨ht.1, ht.2.1⟩ hk, hstep_walk (.inr rfl) ⟨ht.2.2.1, ht.2.2.2⟩ hk, i64_succ (show i < 2 ^ 62 by omega)]
  · simp only [lt_no, cond_false]

theorem hInts_eq {l : List Int} (hl : l.length < 2 ^ 40) (hx : ∀ x ∈ l, 0 ≤ x ∧ x ≤ 4611686018427387903) : M_S_hInts l = some (digest l) := by
  unfold M_S_hInts
  rw [absorb_eq (⟨by omega, by omega, by omega, by omega⟩ : HOk (1, 2)) (by omega) (by omega), bindO_some']
  refine (loopO_for (σ := Int × Int) (fun i s => ((i : Int), (s.1, s.2))) l.length (fun i s => some (((l.drop i).foldl absorb s).1 * 2147483648 + ((l.drop i).foldl absorb s).2)) (fun _ s => HOk s) (fun again s hs => ?_) (fun again i s hi hs ih => ?_) (by omega) (i := 0) (s := absorb (1, 2) (l.length : Int)) (Nat.zero_le _) (absorb_ok _ _)).trans rfl
  · obtain ⟨h1, h2, h3, h4⟩ := hs
    simp only [lt_no, cond_false, List.drop_length, List.foldl_nil, bindO_some']
    rw [i64_in (s.1 * 2147483648) (by omega), i64_in (s.1 * 2147483648 + s.2) (by omega)]
  · have hm := hx l[i] (List.getElem_mem hi)
    simp only [lt_yes hi, cond_true, getI_nat, List.getElem?_eq_getElem hi, bindO_some', absorb_eq (s := (s.1, s.2)) hs hm.1 hm.2, i64_succ (show i < 2 ^ 62 by omega)]
    rw [ih _ (absorb_ok _ _), List.drop_eq_getElem_cons hi, List.foldl_cons]

theorem bits_mask {x : Int} (h : 0 ≤ x) (h2 : x ≤ 9223372036854775807) : Vd.bits .and .i64 x 2147483647 = x % 2147483648 := by
  obtain ⟨n, rfl⟩ := Int.eq_ofNat_of_zero_le h
  have h1 : (BitVec.ofInt 64 ((n : Nat) : Int) &&& BitVec.ofInt 64 2147483647).toNat = n % 2147483648 := by
    rw [BitVec.toNat_and]
    have e1 : (BitVec.ofInt 64 ((n : Nat) : Int)).toNat = n % 2 ^ 64 := by simp
    have e2 : (BitVec.ofInt 64 2147483647).toNat = 2 ^ 31 - 1 := by decide
    rw [e1, e2, Nat.and_two_pow_sub_one_eq_mod]
    omega
  show IntKind.wrap .i64 (((BitVec.ofInt 64 ((n : Nat) : Int) &&& BitVec.ofInt 64 2147483647).toNat : Nat) : Int) = _
  rw [h1, i64_in _ (by omega)]
  omega

theorem shr_31 {x : Int} : Vd.shr .i64 x 31 = x / 2147483648 := by
  show x.fdiv (2 ^ (min (31 : Int).toNat 64)) = _
  rw [show ((2 : Int) ^ (min (31 : Int).toNat 64)) = 2147483648 by decide, fdiv_pos (by omega)]

theorem shl_31 {x : Int} : Vd.shl .i64 x 31 = IntKind.wrap .i64 (x * 2147483648) := by
  show IntKind.wrap .i64 (x * (2 ^ (min (31 : Int).toNat 64))) = _
  rw [show ((2 : Int) ^ (min (31 : Int).toNat 64)) = 2147483648 by decide]

theorem hash_eq {l : List Int} (hl : l.length < 2 ^ 30) (hx : ∀ x ∈ l, 0 ≤ x ∧ x ≤ 4611686018427387903) : M_I_hash l = some (digest l) := by
  unfold M_I_hash
  have hg31 : guardO (decide ((0 : Int) ≤ 31)) = some () := rfl
  have hg2 : guardO ((2147483647 : Int) != 0) = some () := rfl
  rw [guardO_of (lenOk_of (by simp; omega)), bindO_some', bindO_some']
  have hL : ∀ x ∈ ((l.length : Int) :: l), 0 ≤ x ∧ x ≤ 4611686018427387903 := fun x h => by
    rcases List.mem_cons.1 h with rfl | h
    · omega
    · exact hx x h
  have e : [((l.length : Nat) : Int)] ++ l = ((l.length : Int) :: l) := rfl
  rw [e]
  have hlen : ((l.length : Int) :: l).length = l.length + 1 := rfl
  generalize hLL : ((l.length : Int) :: l) = L at hL hlen
  refine (loopO_for (σ := Int × Int) (fun i s => (s.1, (s.2, (i : Int)))) L.length (fun i s => some (((L.drop i).foldl absorb s).1 * 2147483648 + ((L.drop i).foldl absorb s).2)) (fun _ s => HOk s) (fun again s hs => ?_) (fun again i s hi hs ih => ?_) (by omega) (i := 0) (s := (1, 2)) (Nat.zero_le _) ⟨by decide, by decide, by decide, by decide⟩).trans (by rw [← hLL]; rfl)
  · obtain ⟨h1, h2, h3, h4⟩ := hs
    simp only [lt_no, cond_false, List.drop_length, List.foldl_nil, bindO_some', hg31, shl_31]
    rw [i64_in (s.1 * 2147483648) (by omega), i64_in (s.1 * 2147483648 + s.2) (by omega)]
  · have hm := hL L[i] (List.getElem_mem hi)
    obtain ⟨h1, h2, h3, h4⟩ := hs
    have hb : 0 ≤ L[i] % 2147483648 ∧ L[i] % 2147483648 < 2147483648 := by omega
    have ha : 0 ≤ L[i] / 2147483648 ∧ L[i] / 2147483648 < 2147483648 := by omega
    have r1 := hstep_range 48271 s.1 (L[i] % 2147483648)
    have r2 := hstep_range 69621 s.2 (L[i] % 2147483648)
    simp only [lt_yes hi, cond_true, getI_nat, List.getElem?_eq_getElem hi, bindO_some', hg31, hg2, shr_31, bits_mask hm.1 (by omega), hstep_walk (.inl rfl) ⟨h1, h2⟩ hb, hstep_walk (.inr rfl) ⟨h3, h4⟩ hb,
      hstep_walk (.inl rfl) (⟨r1.1, by omega⟩ : 0 ≤ hstep 48271 s.1 (L[i] % 2147483648) ∧ _) ha, hstep_walk (.inr rfl) (⟨r2.1, by omega⟩ : 0 ≤ hstep 69621 s.2 (L[i] % 2147483648) ∧ _) ha, i64_succ (show i < 2 ^ 62 by omega)]
    rw [List.drop_eq_getElem_cons hi, List.foldl_cons, ← ih (absorb s L[i]) (absorb_ok _ _)]
    rfl

def lab (s : ByteArray) (l : List Int) : List Int := (s.size : Int) :: (ofStr s ++ l)

theorem ofStr_length (s : ByteArray) : (ofStr s).length = s.size := by
  unfold ofStr
  rw [List.length_map, Array.length_toList]
  rfl

theorem ofStr_get {s : ByteArray} {i : Nat} (h : i < s.size) : ∃ b : UInt8, s[i]? = some b ∧ (ofStr s)[i]? = some ((b.toNat : Nat) : Int) := by
  refine ⟨s[i], by simp [h], ?_⟩
  have h' : i < s.data.size := h
  simp only [ofStr, List.getElem?_map]
  rw [List.getElem?_eq_getElem (by simpa using h')]
  rfl

theorem ofStr_range {s : ByteArray} {x : Int} (h : x ∈ ofStr s) : 0 ≤ x ∧ x ≤ 255 := by
  simp only [ofStr, List.mem_map] at h
  obtain ⟨b, _, rfl⟩ := h
  have := b.toNat_lt
  omega

theorem label_loop {s : ByteArray} {l : List Int} (hs : s.size < 2 ^ 30) (hl : l.length < 2 ^ 30) : M_S_l3With (s, l) = some (lab s l) := by
  unfold M_S_l3With
  refine (loopO_for (σ := List Int) (fun i a => (a, (i : Int))) s.size (fun i a => some (lab s l)) (fun i a => a = (s.size : Int) :: (ofStr s).take i) (fun again a ha => ?_) (fun again i a hi ha ih => ?_) (by omega) (i := 0) (s := [(s.size : Int)]) (Nat.zero_le _) (by simp)).trans rfl
  · subst ha
    have ht : (ofStr s).take s.size = ofStr s := by rw [← ofStr_length, List.take_length]
    have hlen := ofStr_length s
    simp only [lt_no, cond_false, ht]
    rw [guardO_of (lenOk_of (by simp [hlen]; omega))]
    rfl
  · subst ha
    obtain ⟨b, h1, h2⟩ := ofStr_get hi
    have hb := b.toNat_lt
    have hlen := ofStr_length s
    simp only [lt_yes hi, cond_true, Int.toNat_natCast, h1]
    rw [if_pos (by omega)]
    simp only [bindO_some', i64_in ((b.toNat : Nat) : Int) (by omega), i64_succ (show i < 2 ^ 62 by omega)]
    rw [guardO_of (lenOk_of (by simp; omega)), bindO_some']
    refine ih _ ?_
    rw [List.take_add_one, h2]
    simp

theorem labelled_eq (x : ByteArray × List Int) : M_I_labelled x = M_S_l3With x := rfl

/-- What can be hashed. -/
def okD (l : List Int) : Bool := l.all fun n => decide (0 ≤ n ∧ n ≤ 4611686018427387903)

theorem okD_spec {l : List Int} (h : okD l = true) : ∀ x ∈ l, 0 ≤ x ∧ x ≤ 4611686018427387903 := fun x hx => by
  simpa using List.all_eq_true.1 h x hx

theorem lab_range {s : ByteArray} {l : List Int} (hs : s.size < 2 ^ 30) (h : okD l = true) : ∀ x ∈ lab s l, 0 ≤ x ∧ x ≤ 4611686018427387903 := fun x hx => by
  rcases List.mem_cons.1 hx with rfl | hx
  · omega
  · rcases List.mem_append.1 hx with hx | hx
    · have := ofStr_range hx
      omega
    · exact okD_spec h x hx

theorem lab_okD {s : ByteArray} {l : List Int} (hs : s.size < 2 ^ 30) : okD (lab s l) = okD l := by
  have h1 : ∀ x ∈ ofStr s, decide (0 ≤ x ∧ x ≤ 4611686018427387903) = true := fun x hx => by
    have := ofStr_range hx
    simp only [decide_eq_true_eq]
    omega
  unfold okD lab
  rw [List.all_cons, List.all_append, List.all_eq_true.2 h1]
  have : decide (0 ≤ ((s.size : Nat) : Int) ∧ ((s.size : Nat) : Int) ≤ 4611686018427387903) = true := by
    simp only [decide_eq_true_eq]
    omega
  rw [this]
  rfl

/-- What HashLabelled answers. -/
def hashL (s : ByteArray) (l : List Int) : Int × Bool := if s.size ≤ 40 ∧ okD l = true ∧ 1 + s.size + l.length ≤ 400 then (digest (lab s l), true) else (0, false)

theorem hLabelled_eq {s : ByteArray} {l : List Int} (hs : s.size < 2 ^ 30) (hl : l.length < 2 ^ 30) (h : okD l = true) : M_S_hLabelled (s, l) = some (digest (lab s l)) := by
  unfold M_S_hLabelled
  have hlen : (lab s l).length < 2 ^ 40 := by simp [lab, ofStr_length]; omega
  simp only [label_loop hs hl, bindO_some', hInts_eq hlen (lab_range hs h)]

theorem areDigests_eq {l : List Int} : M_I_areDigests l = some (decide (l.length ≤ 400) && okD l) := by
  unfold M_I_areDigests
  by_cases h : l.length ≤ 400
  · have e1 : decide (((l.length : Nat) : Int) ≤ 400) = true := by simp; omega
    rw [e1, cond_true, areAll_eq (p := fun n => decide (0 ≤ n ∧ n ≤ 4611686018427387903)) (by omega) fun a _ => by simp [M_I_isDigest, within_eq], bindO_some']
    simp [h, okD]
  · have e1 : decide (((l.length : Nat) : Int) ≤ 400) = false := by simp; omega
    simp [e1, h]

theorem I_HashInts_eq {l : List Int} : M_I_HashInts l = some (if l.length ≤ 400 ∧ okD l = true then (digest l, true) else (0, false)) := by
  unfold M_I_HashInts
  rw [areDigests_eq, bindO_some']
  by_cases h : l.length ≤ 400 ∧ okD l = true
  · rw [if_pos h, hash_eq (by omega) (okD_spec h.2)]
    simp [h.1, h.2]
  · rw [if_neg h]
    have : (decide (l.length ≤ 400) && okD l) = false := by
      rw [Bool.and_eq_false_iff, decide_eq_false_iff_not]
      by_cases h1 : l.length ≤ 400
      · right
        cases h2 : okD l
        · rfl
        · exact absurd ⟨h1, h2⟩ h
      · exact .inl h1
    rw [this]
    rfl

theorem I_HashLabelled_eq {s : ByteArray} {l : List Int} : M_I_HashLabelled (s, l) = some (hashL s l) := by
  unfold M_I_HashLabelled hashL
  by_cases h1 : s.size ≤ 40
  · by_cases h2 : l.length ≤ 400
    · have e1 : decide (((s.size : Nat) : Int) > 40) = false := by simp; omega
      have e2 : decide (((l.length : Nat) : Int) > 400) = false := by simp; omega
      simp only [e1, e2, cond_false]
      rw [labelled_eq, label_loop (by omega) (by omega), bindO_some', I_HashInts_eq, bindO_some', lab_okD (by omega)]
      have e3 : ((lab s l).length ≤ 400 ∧ okD l = true) ↔ (s.size ≤ 40 ∧ okD l = true ∧ 1 + s.size + l.length ≤ 400) := by
        simp only [lab, List.length_cons, List.length_append, ofStr_length]
        constructor
        · rintro ⟨a, b⟩; exact ⟨h1, b, by omega⟩
        · rintro ⟨a, b, c⟩; exact ⟨by omega, b⟩
      simp only [e3]
    · have e1 : decide (((s.size : Nat) : Int) > 40) = false := by simp; omega
      have e2 : decide (((l.length : Nat) : Int) > 400) = true := by simp; omega
      rw [if_neg (fun h => by omega)]
      simp only [e1, e2, cond_false, cond_true]
  · have e1 : decide (((s.size : Nat) : Int) > 40) = true := by simp; omega
    rw [if_neg (fun h => h1 h.1)]
    simp only [e1, cond_true]

theorem gInv_eq {p q g x : Int} (h : Gr p q g) (hx : 0 ≤ x) (hx2 : x ≤ p) : M_S_gInv ((p, q, g), x) = some (x ^ (q - 1).toNat % p) := by
  unfold M_S_gInv
  have := h.p3; have := h.pm; have := h.q2; have := h.qp
  dsimp only
  rw [i64_in (q - 1) (by omega), bindO_some', nPower_eq hx (by omega) (by omega) (by omega) (by omega) (by omega), bindO_some']

theorem Group_inv_eq {p q g x : Int} (h : Gr p q g) (hx : 0 ≤ x) (hx2 : x ≤ p) : M_I_Group_inv ((p, q, g), x) = some (x ^ (q - 1).toNat % p) := by
  unfold M_I_Group_inv
  have := h.q2
  have e : (-1 : Int) % q = q - 1 := by
    rw [Int.emod_def]
    have : (-1 : Int) / q = -1 := by
      rw [Int.ediv_eq_iff_of_pos (by omega)]
      omega
    rw [this]
    omega
  dsimp only
  rw [Group_pow_eq h hx hx2, bindO_some', e]

theorem inv_range {p q x : Int} (hp : 1 ≤ p) : 0 ≤ x ^ (q - 1).toNat % p ∧ x ^ (q - 1).toNat % p < p :=
  ⟨Int.emod_nonneg _ (by omega), Int.emod_lt_of_pos _ (by omega)⟩

theorem pow_range {p x : Int} {k : Nat} (hp : 1 ≤ p) : 0 ≤ x ^ k % p ∧ x ^ k % p < p :=
  ⟨Int.emod_nonneg _ (by omega), Int.emod_lt_of_pos _ (by omega)⟩

/-- a over b. -/
def over (p q a b : Int) : Int := prodM p 1 [a, b ^ (q - 1).toNat % p]

theorem over_eq {p q g a b : Int} (h : Gr p q g) (ha : 0 ≤ a ∧ a ≤ p) (hb : 0 ≤ b ∧ b ≤ p) : M_I_Group_over ((p, q, g), a, b) = some (over p q a b) := by
  unfold M_I_Group_over over
  have := h.p3; have := h.pm
  have hr := inv_range (q := q) (x := b) (show 1 ≤ p by omega)
  simp only [Group_inv_eq h hb.1 hb.2, bindO_some']
  rw [Group_mul_eq h (fun x hx => ?_) (by show (2 : Nat) < _; omega)]
  · rfl
  · simp only [List.mem_cons, List.not_mem_nil, or_false] at hx
    rcases hx with rfl | rfl <;> omega

theorem mul2 {p q g a b : Int} (h : Gr p q g) (ha : 0 ≤ a ∧ a ≤ p) (hb : 0 ≤ b ∧ b ≤ p) : M_S_gMul ((p, q, g), [a, b]) = some (prodM p 1 [a, b]) := by
  have := h.p3; have := h.pm
  refine gMul_eq h (fun x hx => ?_) (by show (2 : Nat) < _; omega)
  simp only [List.mem_cons, List.not_mem_nil, or_false] at hx
  rcases hx with rfl | rfl <;> omega

theorem mul2' {p q g a b : Int} (h : Gr p q g) (ha : 0 ≤ a ∧ a ≤ p) (hb : 0 ≤ b ∧ b ≤ p) : M_I_Group_mul ((p, q, g), [a, b]) = some (prodM p 1 [a, b]) := by
  have := h.p3; have := h.pm
  refine Group_mul_eq h (fun x hx => ?_) (by show (2 : Nat) < _; omega)
  simp only [List.mem_cons, List.not_mem_nil, or_false] at hx
  rcases hx with rfl | rfl <;> omega

theorem prod_range {p : Int} {l : List Int} (hp : 2 ≤ p) : 0 ≤ prodM p 1 l ∧ prodM p 1 l < p := prodM_range (by omega) l 1 (by omega) (.inl (by omega))

theorem toGroup_eq (x : Int × Int × Int) : M_L_toGroup x = some x := rfl

/-- Steps of a function that calls itself: nothing or the answer; the answer in the end. -/
def Comes {α β : Type} (R : Nat → α → Option β) (x : α) (N : Nat) (y : β) : Prop := ∀ m, (R m x = none ∨ R m x = some y) ∧ (N ≤ m → R m x = some y)

theorem Comes.lim {α β : Type} {R : Nat → α → Option β} {x : α} {N : Nat} {y : β} (h : Comes R x N y) : limO R x = some y :=
  limO_eq ⟨N, (h N).2 (Nat.le_refl _)⟩ fun n z hz => by
    rcases (h n).1 with h1 | h1
    · rw [h1] at hz; cases hz
    · rw [h1] at hz; cases hz; rfl

theorem set_take_succ {α : Type} {x s : List α} {i : Nat} {a : α} (hx : x[i]? = some a) (hs : s.length = x.length) (ht : s.take i = x.take i) : (s.set i a).take (i + 1) = x.take (i + 1) := by
  have hi : i < x.length := (List.getElem?_eq_some_iff.1 hx).1
  rw [List.take_add_one, List.take_add_one, hx, List.take_set, List.getElem?_set_self (by omega), ← ht]
  congr 1
  rw [List.set_eq_of_length_le (by rw [List.length_take]; omega)]

/-- A list is written anew, element by element. -/
theorem copy_loop {α : Type} (x : List α) (z : α) {body : (Int × List α → Option (List α)) → Int × List α → Option (List α)}
    (h : ∀ (again : Int × List α → Option (List α)) (i : Nat) a (s : List α), x[i]? = some a → i < x.length → s.length = x.length → body again ((i : Int), s) = again (((i + 1 : Nat) : Int), s.set i a))
    (hend : ∀ (again : Int × List α → Option (List α)) (s : List α), s.length = x.length → body again ((x.length : Int), s) = some s) (hl : x.length < 2 ^ 62) : loopO body (0, List.replicate x.length z) = some x := by
  refine (loopO_for (σ := List α) (fun i s => ((i : Int), s)) x.length (fun i s => some x) (fun i s => s.length = x.length ∧ s.take i = x.take i) (fun again s hs => ?_) (fun again i s hi hs ih => ?_) (by omega) (i := 0) (s := List.replicate x.length z) (Nat.zero_le _) (by simp)).trans rfl
  · rw [hend again s hs.1]
    have := hs.2
    rw [List.take_length, ← hs.1, List.take_length] at this
    rw [this]
  · have ha := List.getElem?_eq_getElem hi
    rw [h again i x[i] s ha hi hs.1]
    exact ih _ ⟨by simp [hs.1], set_take_succ ha hs.1 hs.2⟩

/-- Two lists are compared, element by element. -/
theorem eq_loop {α : Type} [DecidableEq α] (a b : List α) (hab : a.length = b.length) {body : (Int → Option Bool) → Int → Option Bool}
    (h : ∀ (again : Int → Option Bool) (i : Nat) x y, a[i]? = some x → b[i]? = some y → i < a.length → body again (i : Int) = if x = y then again ((i + 1 : Nat) : Int) else some false)
    (hend : ∀ (again : Int → Option Bool), body again (a.length : Int) = some true) (hl : a.length < 2 ^ 62) : loopO body 0 = some (decide (a = b)) := by
  refine (loopO_for (σ := Unit) (fun i _ => (i : Int)) a.length (fun i _ => some (decide (a.drop i = b.drop i))) (fun _ _ => True) (fun again _ _ => ?_) (fun again i _ hi _ ih => ?_) (by omega) (i := 0) (s := ()) (Nat.zero_le _) trivial).trans (by simp)
  · rw [hend]; simp [hab]
  · have hi' : i < b.length := by omega
    rw [h again i a[i] b[i] (List.getElem?_eq_getElem hi) (List.getElem?_eq_getElem hi') hi, ih () trivial, List.drop_eq_getElem_cons hi, List.drop_eq_getElem_cons hi']
    by_cases he : a[i] = b[i] <;> simp [he, -List.getElem_cons_drop]

theorem szIntS_eq {a : List Int} {left : Int} (h0 : 0 ≤ left) (h1 : left ≤ 1048576) (hl : a.length < 2 ^ 63) : M_L_szIntS (a, left) = some (if left < a.length then -1 else left - a.length) := by
  unfold M_L_szIntS
  simp only [i64_in (left - (a.length : Int)) (by omega), bindO_some']
  by_cases h : left < a.length
  · rw [if_pos h]
    have : left - (a.length : Int) < 0 := by omega
    simp [this]
  · rw [if_neg h]
    have : ¬ left - (a.length : Int) < 0 := by omega
    simp [this]

theorem all_not_any {α : Type} {p q : α → Bool} {l : List α} (h : ∀ a ∈ l, q a = !p a) : l.all p = !l.any q := by
  induction l with
  | nil => rfl
  | cons a l ih =>
    rw [List.all_cons, List.any_cons, ih fun b hb => h b (List.mem_cons_of_mem _ hb), h a (List.mem_cons_self ..)]
    cases p a <;> simp

theorem Nat.beq_eq_decide_eq' (a b : Nat) : (a == b) = decide (a = b) := rfl

/-- A list is put together, element by element. -/
theorem append_loop {α β : Type} (y : List α) (fin : List α → Option β) {body : (List α × Int → Option β) → List α × Int → Option β}
    (h : ∀ (again : List α × Int → Option β) (i : Nat) a (s : List α), y[i]? = some a → i < y.length → s.length = i → body again (s, (i : Int)) = again (s ++ [a], ((i + 1 : Nat) : Int)))
    (hend : ∀ (again : List α × Int → Option β) (s : List α), s.length = y.length → body again (s, (y.length : Int)) = fin s) (hl : y.length < 2 ^ 62) : loopO body ([], 0) = fin y := by
  refine (loopO_for (σ := List α) (fun i s => (s, (i : Int))) y.length (fun i s => fin y) (fun i s => s = y.take i) (fun again s hs => ?_) (fun again i s hi hs ih => ?_) (by omega) (i := 0) (s := []) (Nat.zero_le _) (by simp)).trans rfl
  · subst hs
    rw [List.take_length]
    exact hend again y rfl
  · subst hs
    have ha := List.getElem?_eq_getElem hi
    rw [h again i y[i] _ ha hi (by simp; omega)]
    refine ih _ ?_
    rw [List.take_add_one, ha]
    rfl

theorem own_eq {l : List Int} (hl : l.length ≤ 1048576) : M_S_l1Own l = some l := by
  unfold M_S_l1Own
  rw [guardO_of (lenOk_of (by simp; omega))]
  rfl

theorem clone_eq {l : List Int} (hl : l.length ≤ 1048576) : M_slices_Clone_sint_int l = some l := by
  unfold M_slices_Clone_sint_int
  rw [guardO_of (lenOk_of (by simp; omega))]
  simp only [bindO_some', List.nil_append, Bool.not_true, cond_false]
  cases l with
  | nil => simp [ambO]
  | cons a l => rfl

def pw (p q x e : Int) : Int := x ^ (e % q).toNat % p

theorem pw_range {p q x e : Int} (hp : 1 ≤ p) : 0 ≤ pw p q x e ∧ pw p q x e < p := pow_range hp

theorem gExp_pw {p q g x e : Int} (h : Gr p q g) (hx : 0 ≤ x) (hx2 : x ≤ p) : M_S_gExp ((p, q, g), x, e) = some (pw p q x e) := gExp_eq h hx hx2

theorem pow_pw {p q g x e : Int} (h : Gr p q g) (hx : 0 ≤ x) (hx2 : x ≤ p) : M_I_Group_pow ((p, q, g), x, e) = some (pw p q x e) := Group_pow_eq h hx hx2

theorem least_eq (a b : Int) : M_S_l1Least (a, b) = some (if a < b then a else b) := by
  unfold M_S_l1Least
  by_cases h : a < b <;> simp [h]

def small (q : Int) (l : List Int) (i : Nat) : Int := 1 + digest (lab (bytesOf [115, 109, 97, 108, 108]) (l ++ [(i : Int)])) % (if 65535 < q - 1 then 65535 else q - 1)

theorem okD_snoc {l : List Int} (h : okD l = true) {i : Nat} (hi : i < 1000) : okD (l ++ [(i : Int)]) = true := by
  unfold okD at h ⊢
  rw [List.all_append, h]
  simp
  omega

/-- The challenge of a proof. -/
def chal (p q g : Int) (s : ByteArray) (l : List Int) : Int := digest (lab s ([p, q, g] ++ l)) % q

theorem chal_range {p q g : Int} (h : Gr p q g) (s : ByteArray) (l : List Int) : 0 ≤ chal p q g s l ∧ chal p q g s l ≤ q - 1 := by
  have := h.q2
  have e1 := Int.emod_nonneg (digest (lab s ([p, q, g] ++ l))) (show q ≠ 0 by omega)
  have e2 := Int.emod_lt_of_pos (digest (lab s ([p, q, g] ++ l))) (show 0 < q by omega)
  unfold chal
  omega

theorem okD_gr {p q g : Int} (h : Gr p q g) {l : List Int} (hl : okD l = true) : okD ([p, q, g] ++ l) = true := by
  have := h.p3; have := h.pm; have := h.q2; have := h.qp; have := h.g2; have := h.gp
  unfold okD at hl ⊢
  rw [List.all_append, hl]
  simp
  omega

theorem hChallenge_eq {p q g : Int} {s : ByteArray} {l : List Int} (h : Gr p q g) (hs : s.size < 2 ^ 30) (hl : okD l = true) (hn : l.length < 2 ^ 20) : M_S_hChallenge ((p, q, g), s, l) = some (chal p q g s l) := by
  unfold M_S_hChallenge
  have := h.q2
  have hr := digest_range (lab s ([p, q, g] ++ l))
  dsimp only
  rw [guardO_of (lenOk_of (by simp; omega)), bindO_some', bindO_some', hLabelled_eq hs (by simp; omega) (okD_gr h hl), bindO_some', guardO_of (by simp; omega), bindO_some', bindO_some', tmod_nn hr.1]
  rfl

theorem challenge_eq {p q g : Int} {s : ByteArray} {l : List Int} (h : Gr p q g) (hs : s.size ≤ 40) (hl : okD l = true) (hn : s.size + l.length ≤ 396) : M_I_Group_challenge ((p, q, g), s, l) = some (chal p q g s l, true) := by
  unfold M_I_Group_challenge
  have := h.q2
  have hr := digest_range (lab s ([p, q, g] ++ l))
  dsimp only
  rw [guardO_of (lenOk_of (by simp; omega)), bindO_some', bindO_some', I_HashLabelled_eq, hashL, if_pos ⟨hs, okD_gr h hl, by simp; omega⟩, bindO_some']
  simp only [Bool.not_true, cond_false]
  rw [guardO_of (by simp; omega), bindO_some', bindO_some', tmod_nn hr.1]
  rfl

abbrev Pf := List Int × List Int × List Int

def Pf.small (a : Pf) (n : Nat) : Prop := a.1.length ≤ n ∧ a.2.1.length ≤ n ∧ a.2.2.length ≤ n

theorem eqProof_eq {a b : Pf} (h : a.small (2 ^ 40)) : M_L_eqProof (a, b) = some (decide (a = b)) := by
  obtain ⟨a1, a2, a3⟩ := a
  obtain ⟨b1, b2, b3⟩ := b
  obtain ⟨h1, h2, h3⟩ := h
  dsimp only at h1 h2 h3
  unfold M_L_eqProof
  dsimp only
  rw [eqIntS_eq (by omega), bindO_some', eqIntS_eq (by omega), eqIntS_eq (by omega)]
  by_cases e1 : a1 = b1 <;> by_cases e2 : a2 = b2 <;> by_cases e3 : a3 = b3 <;> simp [e1, e2, e3]

theorem toProof_eq {a : Pf} (h : a.small 1048576) : M_L_toProof a = some a := by
  obtain ⟨a1, a2, a3⟩ := a
  obtain ⟨g1, g2, g3⟩ := h
  dsimp only at g1 g2 g3
  unfold M_L_toProof
  dsimp only
  rw [toIntS_eq g1, bindO_some', toIntS_eq g2, bindO_some', toIntS_eq g3, bindO_some']

theorem szProof_eq {a : Pf} {left : Int} (h0 : 0 ≤ left) (h1 : left ≤ 1048576) (hl : a.small (2 ^ 63 - 1)) : ∃ k, M_L_szProof (a, left) = some k ∧ k ≤ left ∧ (0 ≤ k → k = left - (a.1.length + a.2.1.length + a.2.2.length)) := by
  obtain ⟨a1, a2, a3⟩ := a
  obtain ⟨g1, g2, g3⟩ := hl
  dsimp only at g1 g2 g3 ⊢
  unfold M_L_szProof
  dsimp only
  rw [szIntS_eq h0 h1 (by omega), bindO_some']
  by_cases e1 : left < a1.length
  · rw [if_pos e1]
    exact ⟨-1, rfl, by omega, by omega⟩
  · rw [if_neg e1]
    have d1 : decide (left - (a1.length : Int) < 0) = false := by simp; omega
    rw [d1, cond_false, szIntS_eq (by omega) (by omega) (by omega), bindO_some']
    by_cases e2 : left - a1.length < a2.length
    · rw [if_pos e2]
      exact ⟨-1, rfl, by omega, by omega⟩
    · rw [if_neg e2]
      have d2 : decide (left - (a1.length : Int) - a2.length < 0) = false := by simp; omega
      rw [d2, cond_false, szIntS_eq (by omega) (by omega) (by omega), bindO_some']
      by_cases e3 : left - a1.length - a2.length < a3.length
      · rw [if_pos e3]
        exact ⟨-1, rfl, by omega, by omega⟩
      · rw [if_neg e3]
        have d3 : decide (left - (a1.length : Int) - a2.length - a3.length < 0) = false := by simp; omega
        rw [d3, cond_false]
        exact ⟨_, rfl, by omega, by omega⟩

theorem hasAll_eq {p q g : Int} {l : List Int} (h : Gr p q g) (hl : l.length < 2 ^ 62) : M_I_Group_hasAll ((p, q, g), l) = some (l.all (isEl p q)) := by
  unfold M_I_Group_hasAll
  dsimp only
  rw [areAll_eq (p := isEl p q) hl fun a _ => by rw [has_eq' h]; rfl]
  rfl

theorem okD_el {p q g : Int} (h : Gr p q g) {l : List Int} (hl : l.all (isEl p q) = true) : okD l = true := by
  have := h.pm
  refine List.all_eq_true.2 fun x hx => ?_
  have := isEl_range (List.all_eq_true.1 hl x hx)
  rw [decide_eq_true_eq]
  omega

theorem smalls_eq {p q g : Int} {l : List Int} {k : Nat} (h : Gr p q g) (hd : okD l = true) (hlen : 1 + 5 + l.length + 1 ≤ 400) (hn : k ≤ 24) : M_S_wSmall ((p, q, g), l, ((k : Nat) : Int)) = some ((List.range k).map (small q l)) ∧ M_I_Group_smallExponents ((p, q, g), l, ((k : Nat) : Int)) = some ((List.range k).map (small q l), true) := by
  have hp := h.p3; have hpm := h.pm; have hq := h.q2; have hqp := h.qp
  have hl : l.length ≤ 1048576 := by omega
  have hsz : (bytesOf [115, 109, 97, 108, 108]).size = 5 := rfl
  have hmax : (if ((k : Nat) : Int) < 1 then (1 : Int) else ((k : Nat) : Int)) = ((max k 1 : Nat) : Int) := by
    by_cases hk : k = 0
    · subst hk; rfl
    · rw [if_neg (by omega)]; omega
  have hmin : (if q - 1 < 65535 then q - 1 else (65535 : Int)) = (if 65535 < q - 1 then 65535 else q - 1) := by
    split <;> split <;> omega
  have hm1 : 1 ≤ (if 65535 < q - 1 then (65535 : Int) else q - 1) ∧ (if 65535 < q - 1 then (65535 : Int) else q - 1) ≤ 65535 := by split <;> omega
  have hy : ∀ (i : Nat), i < 1000 → M_S_hLabelled (bytesOf [115, 109, 97, 108, 108], l ++ [(i : Int)]) = some (digest (lab (bytesOf [115, 109, 97, 108, 108]) (l ++ [(i : Int)]))) := fun i hi => hLabelled_eq (by rw [hsz]; omega) (by simp; omega) (okD_snoc hd hi)
  have hy2 : ∀ (i : Nat), i < 1000 → M_I_HashLabelled (bytesOf [115, 109, 97, 108, 108], l ++ [(i : Int)]) = some (digest (lab (bytesOf [115, 109, 97, 108, 108]) (l ++ [(i : Int)])), true) := fun i hi => by
    rw [I_HashLabelled_eq, hashL, if_pos ⟨by rw [hsz]; omega, okD_snoc hd hi, by rw [hsz]; simp; omega⟩]
  have hsm : ∀ i : Nat, IntKind.wrap .i64 (1 + (digest (lab (bytesOf [115, 109, 97, 108, 108]) (l ++ [(i : Int)]))).tmod (if 65535 < q - 1 then 65535 else q - 1)) = small q l i := fun i => by
    have hr := digest_range (lab (bytesOf [115, 109, 97, 108, 108]) (l ++ [(i : Int)]))
    rw [tmod_nn hr.1]
    have e1 := Int.emod_nonneg (digest (lab (bytesOf [115, 109, 97, 108, 108]) (l ++ [(i : Int)]))) (show (if 65535 < q - 1 then (65535 : Int) else q - 1) ≠ 0 by omega)
    have e2 := Int.emod_lt_of_pos (digest (lab (bytesOf [115, 109, 97, 108, 108]) (l ++ [(i : Int)]))) (show 0 < (if 65535 < q - 1 then (65535 : Int) else q - 1) by omega)
    rw [i64_in _ (by omega)]
    rfl
  have hgz : guardO ((if 65535 < q - 1 then (65535 : Int) else q - 1) != 0) = some () := guardO_of (by rw [bne_dec, decide_eq_true_eq]; omega)
  have hget : ∀ (N i : Nat) a, ((List.range N).map (small q l))[i]? = some a → a = small q l i := fun N i a ha => by
    simp only [List.getElem?_map, Option.map_eq_some_iff] at ha
    obtain ⟨j, hj, rfl⟩ := ha
    have hlt := (List.getElem?_eq_some_iff.1 hj).1
    simp at hlt
    rw [List.getElem?_range hlt] at hj
    cases hj
    rfl
  have hS : M_S_wSmall ((p, q, g), l, ((k : Nat) : Int)) = some ((List.range k).map (small q l)) := by
    unfold M_S_wSmall
    dsimp only
    rw [i64_in (q - 1) (by omega), bindO_some', least_eq, bindO_some']
    have hkl : ((List.range k).map (small q l)).length = k := by simp
    have hkl' : (k : Int) = (((List.range k).map (small q l)).length : Int) := by rw [hkl]
    rw [hkl']
    refine append_loop ((List.range k).map (small q l)) some (fun again i a t ha hi ht => ?_) (fun again t ht => ?_) (by omega)
    case refine_2 => simp only [lt_no, cond_false]
    have := hget k i a ha
    subst this
    simp only [lt_yes hi, cond_true]
    rw [hkl] at hi
    rw [own_eq (by omega), bindO_some', guardO_of (lenOk_of (by simp; omega)), bindO_some', bindO_some', hy i (by omega), bindO_some', hgz, bindO_some', bindO_some', hsm i, bindO_some', guardO_of (lenOk_of (by simp; omega)), bindO_some', bindO_some', i64_succ (by omega), bindO_some']
  have hI : M_I_Group_smallExponents ((p, q, g), l, ((k : Nat) : Int)) = some ((List.range k).map (small q l), true) := by
    unfold M_I_Group_smallExponents
    dsimp only
    rw [hmax]
    have hkl : ((List.range (max k 1)).map (small q l)).length = max k 1 := by simp
    have hkl' : ((max k 1 : Nat) : Int) = (((List.range (max k 1)).map (small q l)).length : Int) := by rw [hkl]
    rw [hkl']
    refine (append_loop ((List.range (max k 1)).map (small q l)) (fun t => some (t.take k, true)) (fun again i a t ha hi ht => ?_) (fun again t ht => ?_) (by omega)).trans ?_
    · have := hget (max k 1) i a ha
      subst this
      simp only [lt_yes hi, cond_true]
      rw [hkl] at hi
      rw [clone_eq (by omega), bindO_some', guardO_of (lenOk_of (by simp; omega)), bindO_some', bindO_some', hy2 i (by omega), bindO_some']
      simp only [Bool.not_true, cond_false]
      rw [i64_in (q - 1) (by omega), bindO_some', hmin, hgz, bindO_some', bindO_some', hsm i, bindO_some', guardO_of (lenOk_of (by simp; omega)), bindO_some', bindO_some', i64_succ (by omega), bindO_some']
    · simp only [lt_no, cond_false]
      rw [sliceNH_nat (by rw [ht, hkl]; omega)]
      rfl
    · rw [← List.map_take, List.take_range]
      rw [show min k (max k 1) = k by omega]
  exact ⟨hS, hI⟩

theorem ne_dec (a b : Nat) : (((a : Nat) : Int) != ((b : Nat) : Int)) = !(a == b) := by
  rw [bne_dec, Nat.beq_eq_decide_eq', ← decide_not, decide_eq_decide]
  omega

def lens (x : List (List Int)) : Nat := (x.map List.length).sum

theorem lens_flat (x : List (List Int)) : x.flatten.length = lens x := by simp [lens, List.length_flatten]

theorem lens_take_le (x : List (List Int)) (i : Nat) : lens (x.take i) ≤ lens x := by
  have h : lens x = lens (x.take i ++ x.drop i) := by rw [List.take_append_drop]
  rw [h]
  simp only [lens, List.map_append, List.sum_append]
  exact Nat.le_add_right _ _

theorem lens_take_succ {x : List (List Int)} {i : Nat} {a : List Int} (h : x[i]? = some a) : lens (x.take (i + 1)) = lens (x.take i) + a.length := by
  rw [List.take_add_one, h]
  simp [lens]

theorem flat_take_succ {x : List (List Int)} {i : Nat} {a : List Int} (h : x[i]? = some a) : (x.take (i + 1)).flatten = (x.take i).flatten ++ a := by
  rw [List.take_add_one, h]
  simp

theorem concat_eq {x : List (List Int)} (hx : x.length < 2 ^ 30) (ht : lens x ≤ 1073741824) : M_slices_Concat_sint_int x = some x.flatten := by
  unfold M_slices_Concat_sint_int
  refine (loopO_for (σ := Int) (fun i s => (s, (i : Int))) x.length (fun i s => some x.flatten) (fun i s => s = (lens (x.take i) : Int)) (fun again s hs => ?_) (fun again i s hi hs ih => ?_) (by omega) (i := 0) (s := 0) (Nat.zero_le _) (by simp [lens])).trans rfl
  · rw [List.take_length] at hs
    subst hs
    simp only [lt_no, cond_false]
    have hgrow : M_slices_Grow_sint_int ([], (lens x : Int)) = some [] := by
      unfold M_slices_Grow_sint_int
      dsimp only
      rw [if_pos]
      simp only [List.length_nil]
      omega
    rw [hgrow, bindO_some']
    refine (loopO_for (σ := List Int) (fun i s => (s, (i : Int))) x.length (fun i s => some x.flatten) (fun i s => s = (x.take i).flatten) (fun again s hs => ?_) (fun again i s hi hs ih => ?_) (by omega) (i := 0) (s := []) (Nat.zero_le _) (by simp)).trans rfl
    · subst hs
      simp only [lt_no, cond_false, List.take_length]
    · subst hs
      have ha := List.getElem?_eq_getElem hi
      have h1 : (x.take i).flatten.length + x[i].length ≤ 68719476736 := by
        have := lens_take_succ ha
        have := lens_take_le x (i + 1)
        rw [lens_flat]
        omega
      simp only [lt_yes hi, cond_true, getI_nat, ha, bindO_some', guardO_of (lenOk_of h1), i64_succ (show i < 2 ^ 62 by omega)]
      exact ih _ (flat_take_succ ha).symm
  · subst hs
    have ha := List.getElem?_eq_getElem hi
    have h1 := lens_take_succ ha
    have h2 := lens_take_le x (i + 1)
    have h3 : ((lens (x.take i) : Int) + (x[i].length : Int)) = ((lens (x.take (i + 1)) : Nat) : Int) := by omega
    simp only [lt_yes hi, cond_true, getI_nat, ha, bindO_some', h3, i64_in ((lens (x.take (i + 1)) : Nat) : Int) (by omega), i64_succ (show i < 2 ^ 62 by omega)]
    rw [show decide (((lens (x.take (i + 1)) : Nat) : Int) < 0) = false from decide_eq_false (by omega)]
    exact ih _ rfl

theorem concat3_eq {a b c : List Int} (h : a.length + b.length + c.length ≤ 1073741824) : M_slices_Concat_sint_int [a, b, c] = some (a ++ (b ++ c)) := by
  rw [concat_eq (by simp) (by simp only [lens, List.map_cons, List.map_nil, List.sum_cons, List.sum_nil]; omega)]
  simp

theorem concat2_eq {a b : List Int} (h : a.length + b.length ≤ 1073741824) : M_slices_Concat_sint_int [a, b] = some (a ++ b) := by
  rw [concat_eq (by simp) (by simp only [lens, List.map_cons, List.map_nil, List.sum_cons, List.sum_nil]; omega)]
  simp

theorem isEl_in {p q x : Int} (hx : isEl p q x = true) : 0 ≤ x ∧ x ≤ p := by
  have := isEl_range hx
  omega

theorem range_loop {n : Nat} (c : Nat → Bool) {body : (Int → Option Bool) → Int → Option Bool} (hn : n < 2 ^ 62)
    (h : ∀ (again : Int → Option Bool) (i : Nat), i < n → body again (i : Int) = bif c i then again ((i + 1 : Nat) : Int) else some false)
    (hend : ∀ again : Int → Option Bool, body again (n : Int) = some true) : loopO body 0 = some ((List.range n).all c) := by
  have hlen : (List.range n).length = n := List.length_range
  refine (loop_walk (List.range n) (fun _ a k => if c a = true then k else some false) (some true) (fun again i a ha hi => ?_) (fun again => ?_) (by omega)).trans (walk_all c _ 0)
  · rw [hlen] at hi
    rw [List.getElem?_range hi] at ha
    cases ha
    rw [h again i hi]
    cases c i <;> rfl
  · rw [hlen]
    exact hend again

theorem getD_at {α : Type} {l : List α} {i : Nat} {d : α} (h : i < l.length) : l[i]? = some (l.getD i d) := by
  rw [List.getElem?_eq_getElem h, List.getD_eq_getElem?_getD, List.getElem?_eq_getElem h]
  rfl

theorem okD_append {a b : List Int} : okD (a ++ b) = (okD a && okD b) := by simp [okD]

def wsum {α : Type} (w : α → Nat) (x : List α) : Nat := (x.map w).sum

theorem wsum_drop {α : Type} {w : α → Nat} {x : List α} {i : Nat} {a : α} (h : x[i]? = some a) : wsum w (x.drop i) = w a + wsum w (x.drop (i + 1)) := by
  obtain ⟨hi, rfl⟩ := List.getElem?_eq_some_iff.1 h
  rw [List.drop_eq_getElem_cons hi]
  simp only [wsum, List.map_cons, List.sum_cons]

theorem wsum_mem {α : Type} {w : α → Nat} {x : List α} {a : α} (h : a ∈ x) : w a ≤ wsum w x := by
  induction x with
  | nil => simp at h
  | cons b x ih =>
    simp only [wsum, List.map_cons, List.sum_cons] at ih ⊢
    rcases List.mem_cons.1 h with rfl | h
    · omega
    · have := ih h
      omega

theorem sz_loop {α : Type} (w : α → Nat) (x : List α) {left : Int} {body : (Int × Int → Option Int) → Int × Int → Option Int} (h0 : 0 ≤ left) (h1 : left ≤ 1048576) (hn : x.length ≤ 1048576)
    (h : ∀ (again : Int × Int → Option Int) (i : Nat) a (l : Int), x[i]? = some a → i < x.length → 0 ≤ l → l ≤ 1048576 → ∃ k, k ≤ l ∧ (0 ≤ k → k = l - w a) ∧ body again (l, (i : Int)) = if k < 0 then some (-1) else again (k, ((i + 1 : Nat) : Int)))
    (hend : ∀ (again : Int × Int → Option Int) (l : Int), body again (l, (x.length : Int)) = some l) : ∃ k, loopO body (left, 0) = some k ∧ k ≤ left ∧ (0 ≤ k → k = left - wsum w x) := by
  have := loopO_ind (body := body) (fun s (y : Option Int) => ∃ k, y = some k ∧ k ≤ s.1 ∧ (0 ≤ k → k = s.1 - wsum w (x.drop s.2.toNat))) (fun s => (0 ≤ s.1 ∧ s.1 ≤ 1048576) ∧ 0 ≤ s.2 ∧ s.2 ≤ x.length) (fun s => x.length - s.2.toNat)
    (fun again s hs ih => ?_) (s := (left, 0)) ⟨⟨h0, h1⟩, by omega, by omega⟩ (by simp only; omega)
  · obtain ⟨k, e1, e2, e3⟩ := this
    exact ⟨k, e1, e2, by simpa using e3⟩
  · obtain ⟨l, j⟩ := s
    obtain ⟨⟨g1, g2⟩, g3, g4⟩ := hs
    dsimp only at g1 g2 g3 g4 ih ⊢
    obtain ⟨i, rfl⟩ : ∃ i : Nat, j = (i : Int) := ⟨j.toNat, (Int.toNat_of_nonneg g3).symm⟩
    rcases Nat.lt_or_ge i x.length with hi | hi
    · have ha := List.getElem?_eq_getElem hi
      obtain ⟨k, k1, k2, k3⟩ := h again i x[i] l ha hi g1 g2
      rw [k3]
      by_cases hk : k < 0
      · rw [if_pos hk]
        exact ⟨-1, rfl, by omega, fun h => by omega⟩
      · rw [if_neg hk]
        obtain ⟨m, m1, m2, m3⟩ := ih (k, ((i + 1 : Nat) : Int)) ⟨⟨by dsimp only; omega, by dsimp only; omega⟩, by dsimp only; omega, by dsimp only; omega⟩ (by dsimp only; omega)
        dsimp only at m1 m2 m3
        refine ⟨m, m1, by omega, fun hm => ?_⟩
        have e := wsum_drop (w := w) ha
        have := m3 hm
        have := k2 (by omega)
        simp only [Int.toNat_natCast] at *
        omega
    · obtain rfl : i = x.length := by omega
      rw [hend]
      refine ⟨l, rfl, by omega, fun _ => ?_⟩
      simp [wsum]

def wPf (a : Pf) : Nat := a.1.length + a.2.1.length + a.2.2.length

theorem szProofS_eq {x : List Pf} {left : Int} (h0 : 0 ≤ left) (h1 : left ≤ 1048576) (hx : x.length < 2 ^ 63) (hr : ∀ r ∈ x, r.small (2 ^ 63 - 1)) : ∃ k, M_L_szProofS (x, left) = some k ∧ k ≤ left ∧ (0 ≤ k → k = left - x.length - wsum wPf x) := by
  unfold M_L_szProofS
  simp only [i64_in (left - (x.length : Int)) (by omega), bindO_some']
  by_cases hk : left - (x.length : Int) < 0
  · rw [decide_eq_true hk]
    exact ⟨-1, rfl, by omega, fun h => by omega⟩
  · rw [decide_eq_false hk, cond_false]
    refine Exists.imp (fun k hk => ⟨hk.1, by have := hk.2.1; omega, hk.2.2⟩) (sz_loop wPf x (left := left - x.length) (by omega) (by omega) (by omega) (fun again i a l ha hi g0 g1 => ?_) (fun again l => ?_))
    · obtain ⟨k, e1, e2, e3⟩ := szProof_eq (a := a) (left := l) g0 g1 (hr a (List.mem_of_getElem? ha))
      refine ⟨k, e2, fun h => by have := e3 h; simp only [wPf]; omega, ?_⟩
      simp only [lt_yes hi, cond_true, getI_nat, ha, bindO_some', show M_L_szProof ((a.1, a.2.1, a.2.2), l) = some k from e1, i64_succ (show i < 2 ^ 62 by omega)]
      by_cases hk : k < 0 <;> simp [hk]
    · simp only [lt_no, cond_false]

theorem toProofS_eq {x : List Pf} (h : x.length ≤ 1048576) (hr : ∀ r ∈ x, Pf.small r 1048576) : M_L_toProofS x = some x := by
  unfold M_L_toProofS
  have hx : (x.length : Int) ≤ ((lim : Nat) : Int) := by rw [lim_eq]; omega
  rw [guardO_of (by simpa using hx), bindO_some', Int.toNat_natCast]
  refine copy_loop x ([], [], []) (fun again i a s ha hi hs => ?_) (fun again s hs => ?_) (by omega)
  · have hsi := List.getElem?_eq_getElem (l := s) (show i < s.length by omega)
    simp only [lt_yes hi, cond_true, getI_nat, ha, hsi, bindO_some', show M_L_toProof (a.1, a.2.1, a.2.2) = some a from toProof_eq (hr a (List.mem_of_getElem? ha)), Int.toNat_natCast, i64_succ (show i < 2 ^ 62 by omega)]
  · simp

theorem eqProofS_eq {a : List Pf} (h : a.length < 2 ^ 62) (hr : ∀ r ∈ a, Pf.small r (2 ^ 40)) : M_L_eqProofS (a, a) = some true := by
  unfold M_L_eqProofS
  have e1 : ((a.length : Int) != (a.length : Int)) = false := by simp
  dsimp only
  rw [e1, cond_false]
  refine (eq_loop a a rfl (fun again i x y hx hy hi => ?_) (fun again => by simp) h).trans (by simp)
  obtain rfl : x = y := by rw [hx] at hy; exact Option.some.inj hy
  simp only [lt_yes hi, cond_true, getI_nat, hx, bindO_some', show M_L_eqProof ((x.1, x.2.1, x.2.2), x.1, x.2.1, x.2.2) = some (decide (x = x)) from eqProof_eq (hr x (List.mem_of_getElem? hx)), i64_succ (show i < 2 ^ 62 by omega)]
  simp

def iterN {σ : Type} (f : Nat → σ → σ) (s0 : σ) : Nat → σ
  | 0 => s0
  | n + 1 => f n (iterN f s0 n)

theorem iter_loop {σ τ β : Type} (f : Nat → σ → σ) (s0 : σ) (n : Nat) (enc : Int → σ → τ) (fin : σ → Option β) (Inv : Nat → σ → Prop) {body : (τ → Option β) → τ → Option β} (hn : n < 2 ^ 62) (h0 : Inv 0 s0) (hs : ∀ i s, i < n → Inv i s → Inv (i + 1) (f i s))
    (h : ∀ (again : τ → Option β) (i : Nat) s, i < n → Inv i s → body again (enc (i : Int) s) = again (enc ((i + 1 : Nat) : Int) (f i s))) (hend : ∀ (again : τ → Option β) s, Inv n s → body again (enc (n : Int) s) = fin s) : loopO body (enc 0 s0) = fin (iterN f s0 n) := by
  refine (loopO_for (σ := σ) (fun i s => enc (i : Int) s) n (fun _ _ => fin (iterN f s0 n)) (fun i s => s = iterN f s0 i ∧ Inv i s) (fun again s hs => ?_) (fun again i s hi hv ih => ?_) (by omega) (i := 0) (s := s0) (Nat.zero_le _) ⟨rfl, h0⟩).trans rfl
  · obtain ⟨rfl, h2⟩ := hs
    exact hend again _ h2
  · obtain ⟨rfl, h2⟩ := hv
    rw [h again i _ hi h2]
    exact ih _ ⟨rfl, hs i _ hi h2⟩

theorem guard_loop {β : Type} {n : Nat} (c : Nat → Bool) (yes no : Option β) {body : (Int → Option β) → Int → Option β} (hn : n < 2 ^ 62)
    (h : ∀ (again : Int → Option β) (i : Nat), i < n → body again (i : Int) = bif c i then again ((i + 1 : Nat) : Int) else no)
    (hend : (∀ i, i < n → c i = true) → ∀ again : Int → Option β, body again (n : Int) = yes) : loopO body 0 = bif (List.range n).all c then yes else no := by
  have hlen : (List.range n).length = n := List.length_range
  by_cases hall : ∀ i, i < n → c i = true
  · rw [show (List.range n).all c = true from by simpa using hall, cond_true]
    refine (loopO_for (σ := Unit) (fun i _ => (i : Int)) n (fun _ _ => yes) (fun _ _ => True) (fun again _ _ => hend hall again) (fun again i _ hi _ ih => ?_) (by omega) (i := 0) (s := ()) (Nat.zero_le _) trivial).trans rfl
    rw [h again i hi, hall i hi, cond_true]
    exact ih () trivial
  · have hf : (List.range n).all c = false := by
      rw [Bool.eq_false_iff]
      intro hh
      exact hall (by simpa using hh)
    rw [hf, cond_false]
    refine (loopO_for (σ := Unit) (fun i _ => (i : Int)) n (fun _ _ => no) (fun i _ => ∀ j, j < i → c j = true) (fun again _ hg => absurd hg hall) (fun again i _ hi hg ih => ?_) (by omega) (i := 0) (s := ()) (Nat.zero_le _) (fun j hj => by omega)).trans rfl
    rw [h again i hi]
    cases hc : c i
    · rfl
    · rw [cond_true]
      refine ih () fun j hj => ?_
      rcases Nat.lt_or_ge j i with h1 | h1
      · exact hg j h1
      · obtain rfl : j = i := by omega
        exact hc

def formB (p q g : Int) (s : ByteArray) (bases ims : List Int) (a : Pf) : Bool :=
  (a.1.length == bases.length) && ((a.2.1.length == 1) && ((a.2.2.length == 1) && (a.1.all (isEl p q) && (decide (0 ≤ a.2.2.getD 0 0 ∧ a.2.2.getD 0 0 ≤ q - 1) && (a.2.1.getD 0 0 == chal p q g s (bases ++ (ims ++ a.1)))))))

theorem isLinearForm_eq {p q g : Int} {s : ByteArray} {bases ims : List Int} {a : Pf} (h : Gr p q g) (hs : s.size ≤ 40) (hb : bases.all (isEl p q) = true) (hi : ims.all (isEl p q) = true) (hbl : bases.length ≤ 8) (hil : ims.length ≤ 8) (hp : a.small 1048576) :
    M_I_Group_isLinearForm ((p, q, g), s, bases, ims, a) = some (formB p q g s bases ims a) := by
  obtain ⟨cs, ch, rs⟩ := a
  obtain ⟨p1, p2, p3⟩ := hp
  dsimp only at p1 p2 p3
  unfold M_I_Group_isLinearForm formB
  dsimp only
  rw [ne_dec, show (((ch.length : Nat) : Int) != 1) = !(ch.length == 1) from ne_dec ch.length 1, show (((rs.length : Nat) : Int) != 1) = !(rs.length == 1) from ne_dec rs.length 1, hasAll_eq h (by omega), bindO_some']
  cases e1 : cs.length == bases.length
  · rfl
  cases e2 : ch.length == 1
  · rfl
  cases e3 : rs.length == 1
  · rfl
  cases e4 : cs.all (isEl p q)
  · rfl
  have e1' : cs.length = bases.length := by simpa using e1
  have e2' : ch.length = 1 := by simpa using e2
  have e3' : rs.length = 1 := by simpa using e3
  have hd : okD (bases ++ (ims ++ cs)) = true := by
    rw [okD_append, okD_append, okD_el h hb, okD_el h hi, okD_el h e4]
    rfl
  simp only [Bool.not_true, cond_false, getI_zero, getD_at (d := (0 : Int)) (show 0 < rs.length by omega), getD_at (d := (0 : Int)) (show 0 < ch.length by omega), bindO_some', isExp_eq h, concat3_eq (show bases.length + ims.length + cs.length ≤ 1073741824 by omega),
    challenge_eq h hs hd (show s.size + (bases ++ (ims ++ cs)).length ≤ 396 by simp only [List.length_append]; omega), Bool.true_and, cond_true]
  cases decide (0 ≤ rs.getD 0 0 ∧ rs.getD 0 0 ≤ q - 1) <;> rfl

def form9 (p q : Int) (a : Pf) (i j k : Nat) : Bool := (a.1.length == i) && ((a.2.1.length == j) && ((a.2.2.length == k) && (a.1.all (isEl p q) && ((a.2.1.all fun e => decide (0 ≤ e ∧ e ≤ q - 1)) && a.2.2.all fun e => decide (0 ≤ e ∧ e ≤ q - 1)))))

theorem eq_dec' (a b : Nat) : (((a : Nat) : Int) == ((b : Nat) : Int)) = (a == b) := by
  rw [Bool.eq_iff_iff]
  simp only [beq_iff_eq]
  omega

theorem l9Form_eq {p q g : Int} {a : Pf} {i j k : Nat} (h : Gr p q g) (hp : a.small 1048576) : M_S_l9Form ((p, q, g), a, (i : Int), (j : Int), (k : Int)) = some (form9 p q a i j k) := by
  obtain ⟨cs, ch, rs⟩ := a
  obtain ⟨p1, p2, p3⟩ := hp
  dsimp only at p1 p2 p3
  unfold M_S_l9Form form9
  dsimp only
  rw [eq_dec', eq_dec', eq_dec', gIs_eq h (by omega), bindO_some', gExps_eq h (by omega), bindO_some', gExps_eq h (by omega), bindO_some']
  cases cs.length == i <;> cases ch.length == j <;> cases rs.length == k <;> cases cs.all (isEl p q) <;> cases (ch.all fun e => decide (0 ≤ e ∧ e ≤ q - 1)) <;> rfl

theorem all_one {c : Int → Bool} {l : List Int} (h : l.length = 1) : l.all c = c (l.getD 0 0) := by
  match l, h with
  | [x], _ => simp

theorem form9_formB {p q g : Int} {s : ByteArray} {bases ims : List Int} {a : Pf} (h : Gr p q g) : (form9 p q a bases.length 1 1 && (a.2.1.getD 0 0 == chal p q g s (bases ++ (ims ++ a.1)))) = formB p q g s bases ims a := by
  obtain ⟨cs, ch, rs⟩ := a
  unfold form9 formB
  dsimp only
  cases cs.length == bases.length
  · rfl
  cases e2 : ch.length == 1
  · rfl
  cases e3 : rs.length == 1
  · rfl
  cases cs.all (isEl p q)
  · rfl
  have e2' : ch.length = 1 := by simpa using e2
  have e3' : rs.length = 1 := by simpa using e3
  rw [all_one e2', all_one e3']
  cases e6 : ch.getD 0 0 == chal p q g s (bases ++ (ims ++ cs))
  · simp
  · have e6' : ch.getD 0 0 = chal p q g s (bases ++ (ims ++ cs)) := by simpa using e6
    rw [e6', decide_eq_true (chal_range h s _)]
    simp

/-- One challenge, one response each. -/
def oneEach (l : List Pf) : Prop := ∀ a ∈ l, a.2.1.length = 1 ∧ a.2.2.length = 1

theorem formB_one {p q g : Int} {s : ByteArray} {bases ims : List Int} {a : Pf} (h : formB p q g s bases ims a = true) : a.1.length = bases.length ∧ a.2.1.length = 1 ∧ a.2.2.length = 1 ∧ a.1.all (isEl p q) = true ∧ (0 ≤ a.2.2.getD 0 0 ∧ a.2.2.getD 0 0 ≤ q - 1) ∧ a.2.1.getD 0 0 = chal p q g s (bases ++ (ims ++ a.1)) := by
  simp only [formB, Bool.and_eq_true, decide_eq_true_eq, beq_iff_eq] at h
  exact ⟨h.1, h.2.1, h.2.2.1, h.2.2.2.1, h.2.2.2.2.1, h.2.2.2.2.2⟩

def esOf (l : List Pf) : List Int := l.map fun a => a.2.1.getD 0 0

def zsOf (l : List Pf) : List Int := l.map fun a => a.2.2.getD 0 0

theorem one_list {l : List Int} (h : l.length = 1) : l = [l.getD 0 0] := by
  match l, h with
  | [x], _ => rfl

theorem map_take_succ {α β : Type} {f : α → β} {l : List α} {i : Nat} {a : α} (h : l[i]? = some a) : (l.map f).take (i + 1) = (l.map f).take i ++ [f a] := by
  rw [List.take_add_one, List.getElem?_map, h]
  rfl

theorem tops_eq {l : List Pf} (hl : l.length < 2 ^ 30) (h1 : oneEach l) : M_I_tops l = some (esOf l, zsOf l) := by
  unfold M_I_tops
  refine (loopO_for (σ := Unit) (fun i _ => ((esOf l).take i, (zsOf l).take i, (i : Int))) l.length (fun _ _ => some (esOf l, zsOf l)) (fun _ _ => True) (fun again _ _ => ?_) (fun again i _ hi _ ih => ?_) (by omega) (i := 0) (s := ()) (Nat.zero_le _) trivial).trans rfl
  · have e1 : (esOf l).length = l.length := List.length_map ..
    have e2 : (zsOf l).length = l.length := List.length_map ..
    simp only [lt_no, cond_false]
    rw [List.take_of_length_le (by omega), List.take_of_length_le (by omega)]
  · have ha := List.getElem?_eq_getElem hi
    obtain ⟨a1, a2⟩ := h1 _ (List.getElem_mem hi)
    generalize l[i] = a at ha a1 a2
    have g1 : ((esOf l).take i).length + [a.2.1.getD 0 0].length ≤ 68719476736 := by simp [esOf]; omega
    have g2 : ((zsOf l).take i).length + [a.2.2.getD 0 0].length ≤ 68719476736 := by simp [zsOf]; omega
    simp only [lt_yes hi, cond_true, getI_nat, ha, getI_zero, getD_at (d := (0 : Int)) (show 0 < a.2.1.length by omega), getD_at (d := (0 : Int)) (show 0 < a.2.2.length by omega), bindO_some', guardO_of (lenOk_of g1), guardO_of (lenOk_of g2), i64_succ (show i < 2 ^ 62 by omega)]
    rw [← ih () trivial]
    rw [show (esOf l).take (i + 1) = (esOf l).take i ++ [a.2.1.getD 0 0] from map_take_succ ha, show (zsOf l).take (i + 1) = (zsOf l).take i ++ [a.2.2.getD 0 0] from map_take_succ ha]

theorem wBoth_eq {l : List Pf} (hl : l.length < 2 ^ 30) (h1 : oneEach l) : M_S_wBoth l = some (esOf l ++ zsOf l) := by
  unfold M_S_wBoth
  have e1 : (esOf l).length = l.length := List.length_map ..
  have e2 : (zsOf l).length = l.length := List.length_map ..
  refine (loopO_for (σ := Unit) (fun i _ => ((esOf l).take i, (zsOf l).take i, (i : Int))) l.length (fun _ _ => some (esOf l ++ zsOf l)) (fun _ _ => True) (fun again _ _ => ?_) (fun again i _ hi _ ih => ?_) (by omega) (i := 0) (s := ()) (Nat.zero_le _) trivial).trans rfl
  · rw [List.take_of_length_le (by omega), List.take_of_length_le (by omega)]
    simp only [lt_no, cond_false, guardO_of (lenOk_of (show (esOf l).length + (zsOf l).length ≤ 68719476736 by omega)), bindO_some']
  · have ha := List.getElem?_eq_getElem hi
    obtain ⟨a1, a2⟩ := h1 _ (List.getElem_mem hi)
    generalize l[i] = a at ha a1 a2
    have g1 : ((esOf l).take i).length + a.2.1.length ≤ 68719476736 := by simp [esOf]; omega
    have g2 : ((zsOf l).take i).length + a.2.2.length ≤ 68719476736 := by simp [zsOf]; omega
    simp only [lt_yes hi, cond_true, getI_nat, ha, bindO_some', guardO_of (lenOk_of g1), guardO_of (lenOk_of g2), i64_succ (show i < 2 ^ 62 by omega)]
    rw [← ih () trivial]
    rw [show (esOf l).take (i + 1) = (esOf l).take i ++ [a.2.1.getD 0 0] from map_take_succ ha, show (zsOf l).take (i + 1) = (zsOf l).take i ++ [a.2.2.getD 0 0] from map_take_succ ha, ← one_list a1, ← one_list a2]

theorem small_get {q : Int} {l : List Int} {n i : Nat} (hi : i < n) : ((List.range n).map (small q l))[i]? = some (small q l i) := by
  rw [List.getElem?_map, List.getElem?_range hi]
  rfl

theorem zip_forms {p q g : Int} {s : ByteArray} {bases ims : Nat → List Int} {l : List Pf} (h : ∀ i, i < l.length → formB p q g s (bases i) (ims i) (l.getD i ([], [], [])) = true) : oneEach l := by
  intro a ha
  obtain ⟨i, hi, rfl⟩ := List.mem_iff_getElem.1 ha
  have := formB_one (h i hi)
  rw [List.getD_eq_getElem?_getD, List.getElem?_eq_getElem hi] at this
  exact ⟨this.2.1, this.2.2.1⟩

theorem esOf_get {l : List Pf} {i : Nat} {a : Pf} (h : l[i]? = some a) : (esOf l)[i]? = some (a.2.1.getD 0 0) := by
  rw [esOf, List.getElem?_map, h]
  rfl

theorem zsOf_get {l : List Pf} {i : Nat} {a : Pf} (h : l[i]? = some a) : (zsOf l)[i]? = some (a.2.2.getD 0 0) := by
  rw [zsOf, List.getElem?_map, h]
  rfl

theorem getD_is {α : Type} {l : List α} {i : Nat} {a d : α} (h : l[i]? = some a) : l.getD i d = a := by
  rw [List.getD_eq_getElem?_getD, h]
  rfl

theorem forms_okD {p q g : Int} {s : ByteArray} {bases ims : Nat → List Int} {l : List Pf} (hg : Gr p q g) (h : ∀ i, i < l.length → formB p q g s (bases i) (ims i) (l.getD i ([], [], [])) = true) : okD (esOf l ++ zsOf l) = true := by
  have hqp := hg.qp; have hpm := hg.pm
  rw [okD_append, Bool.and_eq_true]
  constructor
  · simp only [okD, esOf, List.all_eq_true, List.mem_map]
    rintro x ⟨a, ha, rfl⟩
    obtain ⟨i, hi, rfl⟩ := List.mem_iff_getElem.1 ha
    have := formB_one (h i hi)
    rw [getD_is (List.getElem?_eq_getElem hi)] at this
    have e := this.2.2.2.2.2
    have r := chal_range hg s (bases i ++ (ims i ++ l[i].1))
    rw [← e] at r
    simp only [decide_eq_true_eq]
    omega
  · simp only [okD, zsOf, List.all_eq_true, List.mem_map]
    rintro x ⟨a, ha, rfl⟩
    obtain ⟨i, hi, rfl⟩ := List.mem_iff_getElem.1 ha
    have := formB_one (h i hi)
    rw [getD_is (List.getElem?_eq_getElem hi)] at this
    have e := this.2.2.2.2.1
    simp only [decide_eq_true_eq]
    omega

theorem sz40 (n : Nat) : decide ((n : Int) ≤ 40) = decide (n ≤ 40) := decide_eq_decide.2 (by omega)

theorem wf_pfs {l : List Pf} (h : WF (.sl (.cons (.sl (.int .i64)) (.cons (.sl (.int .i64)) (.one (.sl (.int .i64)))))) l) : l.length < 2 ^ 63 ∧ ∀ r ∈ l, Pf.small r (2 ^ 63 - 1) := by
  have hm : maxLen < 2 ^ 63 := by decide
  refine ⟨Nat.lt_of_le_of_lt h.1 hm, fun r hr => ?_⟩
  have hw : WF (.cons (.sl (.int .i64)) (.cons (.sl (.int .i64)) (.one (.sl (.int .i64))))) r := h.2 r hr
  have h1 := hw.1.1
  have h2 := hw.2.1.1
  have h3 := hw.2.2.1
  exact ⟨by omega, by omega, by omega⟩

theorem pf_small {l : List Pf} {n : Nat} (hsum : wsum wPf l ≤ n) : ∀ r ∈ l, Pf.small r n := fun r hm => by
  have := wsum_mem (w := wPf) hm
  simp only [wPf] at this hsum
  exact ⟨by omega, by omega, by omega⟩

theorem gtM (n : Nat) : decide ((n : Int) > 1048576) = !decide (n ≤ 1048576) := by
  rw [Bool.eq_iff_iff]
  simp
  omega

abbrev El := Int × Int × Int × Int

def isEq (p q : Int) (e : El) : Bool := [e.1, e.2.1, e.2.2.1, e.2.2.2].all (isEl p q)

def ratio (p q g z x y e : Int) : Int := over p q (pw p q g z) (prodM p 1 [x, pw p q y e])

theorem ratio_range {p q g z x y e : Int} (hp : 2 ≤ p) : 0 ≤ ratio p q g z x y e ∧ ratio p q g z x y e < p := prod_range hp

theorem wRatio_eq {p q g g1 z x y e : Int} (h : Gr p q g) (hg : 0 ≤ g1 ∧ g1 ≤ p) (hx : 0 ≤ x ∧ x ≤ p) (hy : 0 ≤ y ∧ y ≤ p) : M_S_wRatio ((p, q, g), g1, z, x, y, e) = some (ratio p q g1 z x y e) := by
  have hp := h.p3
  have r1 := pw_range (q := q) (x := g1) (e := z) (show 1 ≤ p by omega)
  have r2 := pw_range (q := q) (x := y) (e := e) (show 1 ≤ p by omega)
  have r3 := prod_range (p := p) (l := [x, pw p q y e]) (by omega)
  have r4 := inv_range (p := p) (q := q) (x := prodM p 1 [x, pw p q y e]) (by omega)
  unfold M_S_wRatio ratio over
  dsimp only
  rw [gExp_pw h hg.1 hg.2, bindO_some', gExp_pw h hy.1 hy.2, bindO_some', mul2 h hx ⟨r2.1, by omega⟩, bindO_some', gInv_eq h r3.1 (by omega), bindO_some', mul2 h ⟨r1.1, by omega⟩ ⟨r4.1, by omega⟩, bindO_some']

theorem ratio_I {p q g g1 z x y e : Int} (h : Gr p q g) : M_I_Group_over ((p, q, g), pw p q g1 z, prodM p 1 [x, pw p q y e]) = some (ratio p q g1 z x y e) := by
  have hp := h.p3
  have r1 := pw_range (q := q) (x := g1) (e := z) (show 1 ≤ p by omega)
  have r3 := prod_range (p := p) (l := [x, pw p q y e]) (by omega)
  exact over_eq h ⟨r1.1, by omega⟩ ⟨r3.1, by omega⟩

def formE (p q g : Int) (s : ByteArray) (e : El) (a : Pf) : Bool := formB p q g s [e.1, e.2.2.1] [e.2.1, e.2.2.2] a

def e0 : El := (0, 0, 0, 0)

def beMul (p q : Int) (es : List El) (l : List Pf) (i : Nat) (s : Int) : Int :=
  prodM p 1 [s, pw p q (ratio p q (es.getD i e0).1 ((zsOf l).getD i 0) ((l.getD i ([], [], [])).1.getD 0 0) (es.getD i e0).2.1 ((esOf l).getD i 0)) (small q (esOf l ++ zsOf l) i),
    pw p q (ratio p q (es.getD i e0).2.2.1 ((zsOf l).getD i 0) ((l.getD i ([], [], [])).1.getD 1 0) (es.getD i e0).2.2.2 ((esOf l).getD i 0)) (small q (esOf l ++ zsOf l) (l.length + i))]

def beB (p q g : Int) (s : ByteArray) (es : List El) (l : List Pf) : Bool :=
  (List.range l.length).all (fun i => formE p q g s (es.getD i e0) (l.getD i ([], [], []))) && (iterN (beMul p q es l) 1 l.length == 1)

theorem mul3 {p q g a b c : Int} (h : Gr p q g) (ha : 0 ≤ a ∧ a ≤ p) (hb : 0 ≤ b ∧ b ≤ p) (hc : 0 ≤ c ∧ c ≤ p) : M_S_gMul ((p, q, g), [a, b, c]) = some (prodM p 1 [a, b, c]) := by
  have := h.pm
  refine gMul_eq h (fun x hx => ?_) (by simp)
  simp only [List.mem_cons, List.not_mem_nil, or_false] at hx
  rcases hx with rfl | rfl | rfl <;> omega

theorem mul3' {p q g a b c : Int} (h : Gr p q g) (ha : 0 ≤ a ∧ a ≤ p) (hb : 0 ≤ b ∧ b ≤ p) (hc : 0 ≤ c ∧ c ≤ p) : M_I_Group_mul ((p, q, g), [a, b, c]) = some (prodM p 1 [a, b, c]) := by
  have := h.pm
  refine Group_mul_eq h (fun x hx => ?_) (by simp)
  simp only [List.mem_cons, List.not_mem_nil, or_false] at hx
  rcases hx with rfl | rfl | rfl <;> omega

theorem two_list {l : List Int} (h : l.length = 2) : l = [l.getD 0 0, l.getD 1 0] := by
  match l, h with
  | [x, y], _ => rfl

theorem i64_double {n : Nat} (h : n ≤ 1000) : IntKind.wrap .i64 (2 * (n : Int)) = ((2 * n : Nat) : Int) := by
  rw [i64_in _ (by omega)]
  omega

theorem i64_addN {n i : Nat} (h : n + i ≤ 1000000) : IntKind.wrap .i64 ((n : Int) + (i : Int)) = ((n + i : Nat) : Int) := by
  rw [i64_in _ (by omega)]
  omega

theorem isEq_spec {p q : Int} {e : El} (h : isEq p q e = true) : isEl p q e.1 = true ∧ isEl p q e.2.1 = true ∧ isEl p q e.2.2.1 = true ∧ isEl p q e.2.2.2 = true := by
  simpa [isEq] using h

theorem wEqual_eq {p q g : Int} {s : ByteArray} {es : List El} {l : List Pf} (h : Gr p q g) (hs : s.size ≤ 40) (he : ∀ e ∈ es, isEq p q e = true) (hl : l.length = es.length) (h12 : es.length ≤ 12) (hr : ∀ r ∈ l, r.small 1048576) :
    M_S_wEqual ((p, q, g), s, es, l) = some (beB p q g s es l) := by
  have hp3 := h.p3; have hq2 := h.q2; have hqp := h.qp; have hpm := h.pm
  unfold M_S_wEqual beB
  dsimp only
  refine (guard_loop (n := l.length) (fun i => formE p q g s (es.getD i e0) (l.getD i ([], [], []))) (some (iterN (beMul p q es l) 1 l.length == 1)) (some false) (by omega) (fun again i hi => ?_) (fun hall again => ?_)).trans ?_
  · have ha := List.getElem?_eq_getElem hi
    have hsm := hr _ (List.getElem_mem hi)
    have hei := getD_at (d := e0) (show i < es.length by omega)
    obtain ⟨i1, i2, i3, i4⟩ := isEq_spec (he _ (List.mem_of_getElem? hei))
    rw [getD_is ha]
    generalize l[i] = a at ha hsm
    generalize es.getD i e0 = e at hei i1 i2 i3 i4
    simp only [lt_yes hi, cond_true, getI_nat, ha, bindO_some', hei]
    unfold formE
    rw [show M_S_l9Form ((p, q, g), (a.1, a.2.1, a.2.2), 2, 1, 1) = some (form9 p q a 2 1 1) from l9Form_eq (i := 2) (j := 1) (k := 1) h hsm, bindO_some', ← form9_formB (bases := [e.1, e.2.2.1]) h]
    cases hf : form9 p q a 2 1 1
    · rfl
    · simp only [form9, Bool.and_eq_true, beq_iff_eq] at hf
      obtain ⟨f1, f2, f3, f4, f5, f6⟩ := hf
      have c1 := getD_at (d := (0 : Int)) (show 0 < a.1.length by omega)
      have c2 := getD_at (d := (0 : Int)) (show 1 < a.1.length by omega)
      have hd : okD [e.1, e.2.2.1, e.2.1, e.2.2.2, a.1.getD 0 0, a.1.getD 1 0] = true := okD_el h (by simp only [List.all_cons, List.all_nil, i1, i2, i3, i4, List.all_eq_true.1 f4 _ (List.mem_of_getElem? c1), List.all_eq_true.1 f4 _ (List.mem_of_getElem? c2), Bool.and_self])
      simp only [Bool.not_true, cond_false, getI_zero, show ∀ m : List Int, getI m 1 = m[1]? from fun m => getI_nat m 1, getD_at (d := (0 : Int)) (show 0 < a.2.1.length by omega), c1, c2, bindO_some', hChallenge_eq h (show s.size < 2 ^ 30 by omega) hd (by simp), i64_succ (show i < 2 ^ 62 by omega), Bool.true_and]
      rw [show [e.1, e.2.2.1] ++ ([e.2.1, e.2.2.2] ++ a.1) = [e.1, e.2.2.1, e.2.1, e.2.2.2, a.1.getD 0 0, a.1.getD 1 0] from by rw [two_list f1]; rfl]
      cases hc : a.2.1.getD 0 0 == chal p q g s [e.1, e.2.2.1, e.2.1, e.2.2.2, a.1.getD 0 0, a.1.getD 1 0] <;> (simp only [bne, hc]; rfl)
  · have hone := zip_forms hall
    have hokd := forms_okD h hall
    have e1 : (esOf l).length = l.length := List.length_map ..
    have e2 : (zsOf l).length = l.length := List.length_map ..
    simp only [lt_no, cond_false]
    rw [wBoth_eq (by omega) hone, bindO_some', i64_double (by omega), bindO_some', (smalls_eq h hokd (by simp only [List.length_append]; omega) (by omega)).1, bindO_some']
    refine (iter_loop (beMul p q es l) 1 l.length (fun i st => (st, i)) (fun st => some (st == 1)) (fun _ st => 0 ≤ st ∧ st < p) (by omega) ⟨by omega, by omega⟩ (fun i st hi hv => prod_range (by omega)) (fun again i st hi hv => ?_) (fun again st hv => ?_)).trans rfl
    · have ha := List.getElem?_eq_getElem hi
      obtain ⟨f1, f2, f3, f4, f5, f6⟩ := formB_one (hall i hi)
      have hei := getD_at (d := e0) (show i < es.length by omega)
      obtain ⟨i1, i2, i3, i4⟩ := isEq_spec (he _ (List.mem_of_getElem? hei))
      unfold beMul
      rw [getD_is (zsOf_get ha), getD_is (esOf_get ha), getD_is ha]
      rw [getD_is ha] at f1 f2 f3 f4
      generalize l[i] = a at ha f1 f2 f3 f4
      generalize es.getD i e0 = e at hei i1 i2 i3 i4 f1
      have f1' : a.1.length = 2 := f1
      have g1 := getD_at (d := (0 : Int)) (show 0 < a.1.length by omega)
      have g2 := getD_at (d := (0 : Int)) (show 1 < a.1.length by omega)
      have c1 := isEl_in (List.all_eq_true.1 f4 _ (List.mem_of_getElem? g1))
      have c2 := isEl_in (List.all_eq_true.1 f4 _ (List.mem_of_getElem? g2))
      have r1 := ratio_range (q := q) (g := e.1) (z := a.2.2.getD 0 0) (x := a.1.getD 0 0) (y := e.2.1) (e := a.2.1.getD 0 0) (show 2 ≤ p by omega)
      have r2 := ratio_range (q := q) (g := e.2.2.1) (z := a.2.2.getD 0 0) (x := a.1.getD 1 0) (y := e.2.2.2) (e := a.2.1.getD 0 0) (show 2 ≤ p by omega)
      have w1 := wRatio_eq (z := a.2.2.getD 0 0) (e := a.2.1.getD 0 0) h (isEl_in i1) c1 (isEl_in i2)
      have w2 := wRatio_eq (z := a.2.2.getD 0 0) (e := a.2.1.getD 0 0) h (isEl_in i3) c2 (isEl_in i4)
      generalize ratio p q e.1 (a.2.2.getD 0 0) (a.1.getD 0 0) e.2.1 (a.2.1.getD 0 0) = x1 at r1 w1
      generalize ratio p q e.2.2.1 (a.2.2.getD 0 0) (a.1.getD 1 0) e.2.2.2 (a.2.1.getD 0 0) = x2 at r2 w2
      have y1 := pw_range (q := q) (x := x1) (e := small q (esOf l ++ zsOf l) i) (show 1 ≤ p by omega)
      have y2 := pw_range (q := q) (x := x2) (e := small q (esOf l ++ zsOf l) (l.length + i)) (show 1 ≤ p by omega)
      simp only [lt_yes hi, cond_true, getI_nat, ha, hei, getI_zero, show ∀ m : List Int, getI m 1 = m[1]? from fun m => getI_nat m 1, getD_at (d := (0 : Int)) (show 0 < a.2.1.length by omega), getD_at (d := (0 : Int)) (show 0 < a.2.2.length by omega), g1, g2, bindO_some', w1, w2, small_get (show i < 2 * l.length by omega),
        i64_addN (show l.length + i ≤ 1000000 by omega), small_get (show l.length + i < 2 * l.length by omega), gExp_pw h r1.1 (Int.le_of_lt r1.2), gExp_pw h r2.1 (Int.le_of_lt r2.2), mul3 h (show 0 ≤ st ∧ st ≤ p by omega) ⟨y1.1, Int.le_of_lt y1.2⟩ ⟨y2.1, Int.le_of_lt y2.2⟩, i64_succ (show i < 2 ^ 62 by omega)]
    · simp only [lt_no, cond_false]
  · cases (List.range l.length).all fun i => formE p q g s (es.getD i e0) (l.getD i ([], [], [])) <;> rfl

theorem batchEqual_eq {p q g : Int} {s : ByteArray} {es : List El} {l : List Pf} (h : Gr p q g) (hs : s.size ≤ 40) (he : ∀ e ∈ es, isEq p q e = true) (hl : l.length = es.length) (h12 : es.length ≤ 12) (hr : ∀ r ∈ l, r.small 1048576) :
    M_I_Group_batchEqual ((p, q, g), s, es, l) = some (beB p q g s es l, true) := by
  have hp3 := h.p3; have hq2 := h.q2; have hqp := h.qp; have hpm := h.pm
  unfold M_I_Group_batchEqual beB
  dsimp only
  refine (guard_loop (n := l.length) (fun i => formE p q g s (es.getD i e0) (l.getD i ([], [], []))) (some (iterN (beMul p q es l) 1 l.length == 1, true)) (some (false, true)) (by omega) (fun again i hi => ?_) (fun hall again => ?_)).trans ?_
  · have ha := List.getElem?_eq_getElem hi
    have hsm := hr _ (List.getElem_mem hi)
    have hei := getD_at (d := e0) (show i < es.length by omega)
    obtain ⟨i1, i2, i3, i4⟩ := isEq_spec (he _ (List.mem_of_getElem? hei))
    rw [getD_is ha]
    generalize l[i] = a at ha hsm
    generalize es.getD i e0 = e at hei i1 i2 i3 i4
    simp only [lt_yes hi, cond_true, getI_nat, ha, bindO_some', hei]
    unfold formE
    rw [show M_I_Group_isLinearForm ((p, q, g), s, [e.1, e.2.2.1], [e.2.1, e.2.2.2], a.1, a.2.1, a.2.2) = _ from isLinearForm_eq h hs (by simp only [List.all_cons, List.all_nil, i1, i3, Bool.and_self]) (by simp only [List.all_cons, List.all_nil, i2, i4, Bool.and_self]) (by simp) (by simp) hsm, bindO_some', i64_succ (by omega)]
    cases formB p q g s [e.1, e.2.2.1] [e.2.1, e.2.2.2] a <;> rfl
  · have hone := zip_forms hall
    have hokd := forms_okD h hall
    have e1 : (esOf l).length = l.length := List.length_map ..
    have e2 : (zsOf l).length = l.length := List.length_map ..
    simp only [lt_no, cond_false]
    rw [tops_eq (by omega) hone, bindO_some', concat2_eq (show (esOf l).length + (zsOf l).length ≤ 1073741824 by omega), bindO_some', i64_double (by omega), bindO_some', (smalls_eq h hokd (by simp only [List.length_append]; omega) (by omega)).2, bindO_some']
    simp only [Bool.not_true, cond_false]
    refine (iter_loop (beMul p q es l) 1 l.length (fun i st => (st, i)) (fun st => some (st == 1, true)) (fun _ st => 0 ≤ st ∧ st < p) (by omega) ⟨by omega, by omega⟩ (fun i st hi hv => prod_range (by omega)) (fun again i st hi hv => ?_) (fun again st hv => ?_)).trans rfl
    · have ha := List.getElem?_eq_getElem hi
      obtain ⟨f1, f2, f3, f4, f5, f6⟩ := formB_one (hall i hi)
      have hei := getD_at (d := e0) (show i < es.length by omega)
      obtain ⟨i1, i2, i3, i4⟩ := isEq_spec (he _ (List.mem_of_getElem? hei))
      have hz := zsOf_get ha
      have hE := esOf_get ha
      unfold beMul
      rw [getD_is hz, getD_is hE, getD_is ha]
      rw [getD_is ha] at f1 f2 f3 f4
      generalize l[i] = a at ha f1 f2 f3 f4 hz hE
      generalize es.getD i e0 = e at hei i1 i2 i3 i4 f1
      have f1' : a.1.length = 2 := f1
      have g1 := getD_at (d := (0 : Int)) (show 0 < a.1.length by omega)
      have g2 := getD_at (d := (0 : Int)) (show 1 < a.1.length by omega)
      have c1 := isEl_in (List.all_eq_true.1 f4 _ (List.mem_of_getElem? g1))
      have c2 := isEl_in (List.all_eq_true.1 f4 _ (List.mem_of_getElem? g2))
      have b1 := pw_range (q := q) (x := e.2.1) (e := a.2.1.getD 0 0) (show 1 ≤ p by omega)
      have b2 := pw_range (q := q) (x := e.2.2.2) (e := a.2.1.getD 0 0) (show 1 ≤ p by omega)
      have r1 := ratio_range (q := q) (g := e.1) (z := a.2.2.getD 0 0) (x := a.1.getD 0 0) (y := e.2.1) (e := a.2.1.getD 0 0) (show 2 ≤ p by omega)
      have r2 := ratio_range (q := q) (g := e.2.2.1) (z := a.2.2.getD 0 0) (x := a.1.getD 1 0) (y := e.2.2.2) (e := a.2.1.getD 0 0) (show 2 ≤ p by omega)
      have w1 := ratio_I (g1 := e.1) (z := a.2.2.getD 0 0) (x := a.1.getD 0 0) (y := e.2.1) (e := a.2.1.getD 0 0) h
      have w2 := ratio_I (g1 := e.2.2.1) (z := a.2.2.getD 0 0) (x := a.1.getD 1 0) (y := e.2.2.2) (e := a.2.1.getD 0 0) h
      generalize ratio p q e.1 (a.2.2.getD 0 0) (a.1.getD 0 0) e.2.1 (a.2.1.getD 0 0) = x1 at r1 w1
      generalize ratio p q e.2.2.1 (a.2.2.getD 0 0) (a.1.getD 1 0) e.2.2.2 (a.2.1.getD 0 0) = x2 at r2 w2
      have y1 := pw_range (q := q) (x := x1) (e := small q (esOf l ++ zsOf l) i) (show 1 ≤ p by omega)
      have y2 := pw_range (q := q) (x := x2) (e := small q (esOf l ++ zsOf l) (l.length + i)) (show 1 ≤ p by omega)
      simp only [lt_yes hi, cond_true, getI_nat, ha, hei, hz, hE, getI_zero, show ∀ m : List Int, getI m 1 = m[1]? from fun m => getI_nat m 1, g1, g2, bindO_some', pow_pw h (isEl_in i1).1 (isEl_in i1).2, pow_pw h (isEl_in i2).1 (isEl_in i2).2, pow_pw h (isEl_in i3).1 (isEl_in i3).2, pow_pw h (isEl_in i4).1 (isEl_in i4).2,
        mul2' h c1 ⟨b1.1, Int.le_of_lt b1.2⟩, mul2' h c2 ⟨b2.1, Int.le_of_lt b2.2⟩, w1, w2, small_get (show i < 2 * l.length by omega),
        i64_addN (show l.length + i ≤ 1000000 by omega), small_get (show l.length + i < 2 * l.length by omega), pow_pw h r1.1 (Int.le_of_lt r1.2), pow_pw h r2.1 (Int.le_of_lt r2.2), mul3' h (show 0 ≤ st ∧ st ≤ p by omega) ⟨y1.1, Int.le_of_lt y1.2⟩ ⟨y2.1, Int.le_of_lt y2.2⟩, i64_succ (show i < 2 ^ 62 by omega)]
    · simp only [lt_no, cond_false]
  · cases (List.range l.length).all fun i => formE p q g s (es.getD i e0) (l.getD i ([], [], [])) <;> rfl

noncomputable def stB (p q g : Int) (s : ByteArray) (es : List El) (n : Nat) : Bool := okG p q g && (decide (s.size ≤ 40) && (decide (es.length ≤ 12) && ((n == es.length) && es.all (isEq p q))))

theorem gt12 (n : Nat) : decide ((n : Int) > 12) = !decide (n ≤ 12) := by
  rw [Bool.eq_iff_iff]
  simp
  omega

theorem le12 (n : Nat) : decide ((n : Int) ≤ 12) = decide (n ≤ 12) := decide_eq_decide.2 (by omega)

theorem range_all {α : Type} {d : α} {c : α → Bool} {l : List α} : ((List.range l.length).all fun i => c (l.getD i d)) = l.all c := by
  rw [Bool.eq_iff_iff, List.all_eq_true, List.all_eq_true]
  constructor
  · intro h a ha
    obtain ⟨i, hi, rfl⟩ := List.mem_iff_getElem.1 ha
    have := h i (List.mem_range.2 hi)
    rwa [getD_is (List.getElem?_eq_getElem hi)] at this
  · intro h i hi
    rw [getD_is (List.getElem?_eq_getElem (List.mem_range.1 hi))]
    exact h _ (List.getElem_mem _)

theorem wStatements_eq {p q g : Int} {s : ByteArray} {es : List El} {l : List Pf} : M_S_wStatements ((p, q, g), s, es, l) = some (stB p q g s es l.length) := by
  unfold M_S_wStatements M_S_sLabel stB
  dsimp only
  rw [l2Good_eq, bindO_some']
  cases hok : okG p q g
  · rfl
  have h := okG_spec hok
  rw [cond_true, sz40, bindO_some', gt12, ne_dec]
  cases hs : decide (s.size ≤ 40)
  · rfl
  cases h12 : decide (es.length ≤ 12)
  · rfl
  cases hl : l.length == es.length
  · rfl
  have h12' : es.length ≤ 12 := by simpa using h12
  simp only [Bool.not_true, cond_false, Bool.true_and]
  rw [← range_all (d := e0)]
  refine range_loop _ (by omega) (fun again i hi => ?_) (fun again => ?_)
  · have hei := getD_at (d := e0) hi
    generalize es.getD i e0 = e at hei
    simp only [lt_yes hi, cond_true, getI_nat, hei, bindO_some', M_S_sElements, gIs_eq h (show [e.1, e.2.1, e.2.2.1, e.2.2.2].length < 2 ^ 62 by simp), i64_succ (show i < 2 ^ 62 by omega)]
    rw [show [e.1, e.2.1, e.2.2.1, e.2.2.2].all (isEl p q) = isEq p q e from rfl]
    cases isEq p q e <;> rfl
  · simp only [lt_no, cond_false]

theorem containsFuncE_eq {l : List El} {f : El → Option Bool} {p : El → Bool} (hl : l.length < 2 ^ 62) (hf : ∀ a ∈ l, f a = some (p a)) : M_slices_ContainsFunc_sI_EqualLog_I_EqualLog (l, f) = some (l.any p) := by
  obtain ⟨j, h1, h2⟩ := walk_index_mem p f l 0 hf
  unfold M_slices_ContainsFunc_sI_EqualLog_I_EqualLog
  have : M_slices_IndexFunc_sI_EqualLog_I_EqualLog (l, f) = some j := by
    unfold M_slices_IndexFunc_sI_EqualLog_I_EqualLog
    refine (loop_walk l _ _ (fun again i a ha hi => ?_) (fun again => ?_) (by omega)).trans h1
    · simp only [getI_nat, ha, bindO_some', i64_succ (show i < 2 ^ 62 by omega), lt_yes hi, cond_true]
    · simp
  dsimp only
  rw [this, bindO_some', h2]

theorem areBatch_eq {p q g : Int} {s : ByteArray} {es : List El} {l : List Pf} : M_I_areBatch ((p, q, g), s, es, l) = some (stB p q g s es l.length) := by
  unfold M_I_areBatch M_I_isLabel stB
  dsimp only
  rw [IsValidGroup_eq, bindO_some', bindO_some', sz40, le12, eq_dec']
  cases hok : okG p q g
  · rfl
  have h := okG_spec hok
  cases hs : decide (s.size ≤ 40)
  · rfl
  cases h12 : decide (es.length ≤ 12)
  · rfl
  cases hl : l.length == es.length
  · rfl
  have h12' : es.length ≤ 12 := by simpa using h12
  simp only [cond_true, Bool.true_and]
  rw [containsFuncE_eq (p := fun e => !isEq p q e) (by omega) (fun e _ => ?_), bindO_some', ← all_not_any (l := es) (p := isEq p q) (q := fun e => !isEq p q e) (fun a _ => rfl)]
  unfold M_I_areBatch_1 M_I_Group_hasEqual
  dsimp only
  rw [hasAll_eq h (by simp), bindO_some', bindO_some', bindO_some']
  rfl

theorem stB_spec {p q g : Int} {s : ByteArray} {es : List El} {n : Nat} (h : stB p q g s es n = true) : okG p q g = true ∧ s.size ≤ 40 ∧ es.length ≤ 12 ∧ n = es.length ∧ ∀ e ∈ es, isEq p q e = true := by
  simpa [stB] using h

theorem szEqualLogS_eq {a : List El} {left : Int} (h0 : 0 ≤ left) (h1 : left ≤ 1048576) (hl : a.length < 2 ^ 63) : M_L_szEqualLogS (a, left) = some (if left < a.length then -1 else left - a.length) := by
  unfold M_L_szEqualLogS
  simp only [i64_in (left - (a.length : Int)) (by omega), bindO_some']
  by_cases h : left < a.length
  · rw [if_pos h, decide_eq_true (by omega), cond_true]
  · rw [if_neg h, decide_eq_false (by omega), cond_false]

theorem toEqualLogS_eq {x : List El} (h : x.length ≤ 1048576) : M_L_toEqualLogS x = some x := by
  unfold M_L_toEqualLogS
  have hx : (x.length : Int) ≤ ((lim : Nat) : Int) := by rw [lim_eq]; omega
  rw [guardO_of (by simpa using hx), bindO_some', Int.toNat_natCast]
  refine copy_loop x (0, 0, 0, 0) (fun again i a s ha hi hs => ?_) (fun again s hs => ?_) (by omega)
  · have hsi := List.getElem?_eq_getElem (l := s) (show i < s.length by omega)
    simp only [lt_yes hi, cond_true, getI_nat, ha, hsi, bindO_some', M_L_toEqualLog, Int.toNat_natCast, i64_succ (show i < 2 ^ 62 by omega)]
  · simp

theorem eqEqualLogS_eq {a : List El} (h : a.length < 2 ^ 62) : M_L_eqEqualLogS (a, a) = some true := by
  unfold M_L_eqEqualLogS
  have e1 : ((a.length : Int) != (a.length : Int)) = false := by simp
  dsimp only
  rw [e1, cond_false]
  refine (eq_loop a a rfl (fun again i x y hx hy hi => ?_) (fun again => by simp) h).trans (by simp)
  obtain rfl : x = y := by rw [hx] at hy; exact Option.some.inj hy
  simp only [lt_yes hi, cond_true, getI_nat, hx, bindO_some', M_L_eqEqualLog, bne_self_eq_false, cond_false, Bool.not_true, i64_succ (show i < 2 ^ 62 by omega)]
  simp

def fb (B : Nat → Nat → Bool) : Nat → Nat → Nat → List Int × Int
  | 0, _, _ => ([], 1)
  | n + 1, lo, hi => bif B lo hi then ([], 1) else bif hi - lo == 1 then ([(lo : Int)], 1) else
      ((fb B n lo (lo + (hi - lo + 1) / 2)).1 ++ (fb B n (lo + (hi - lo + 1) / 2) hi).1, (fb B n lo (lo + (hi - lo + 1) / 2)).2 + (fb B n (lo + (hi - lo + 1) / 2) hi).2 + 1)

theorem fb_size (B : Nat → Nat → Bool) : ∀ (n lo hi : Nat), lo < hi → hi - lo ≤ n → (fb B n lo hi).1.length ≤ hi - lo ∧ 1 ≤ (fb B n lo hi).2 ∧ (fb B n lo hi).2 ≤ 2 * ((hi - lo : Nat) : Int) - 1
  | 0, lo, hi, h1, h2 => by omega
  | n + 1, lo, hi, h1, h2 => by
    unfold fb
    cases B lo hi
    · cases h3 : hi - lo == 1
      · have h3' : hi - lo ≠ 1 := by simpa using h3
        obtain ⟨a1, a2, a3⟩ := fb_size B n lo (lo + (hi - lo + 1) / 2) (by omega) (by omega)
        obtain ⟨b1, b2, b3⟩ := fb_size B n (lo + (hi - lo + 1) / 2) hi (by omega) (by omega)
        simp only [cond_false, List.length_append]
        omega
      · simp only [cond_false, cond_true, List.length_cons, List.length_nil]
        omega
    · simp only [cond_true, List.length_nil]
      omega

theorem sliceLH_nat {l h n : Nat} (h1 : l ≤ h) (h2 : h ≤ n) : sliceLH (l : Int) (h : Int) n = some (l, h) := by
  unfold sliceLH
  rw [if_pos ⟨by omega, by omega, by omega⟩]
  simp

def cutB (p q g : Int) (s : ByteArray) (es : List El) (l : List Pf) (lo hi : Nat) : Bool := beB p q g s ((es.take hi).drop lo) ((l.take hi).drop lo)

theorem mem_cut {α : Type} {l : List α} {lo hi : Nat} {a : α} (h : a ∈ (l.take hi).drop lo) : a ∈ l := List.mem_of_mem_take (List.mem_of_mem_drop h)

theorem mid_walk {lo hi : Nat} (h1 : lo < hi) (h2 : hi ≤ 1000) : IntKind.wrap .i64 ((hi : Int) - (lo : Int)) = ((hi - lo : Nat) : Int) ∧ IntKind.wrap .i64 (((hi - lo : Nat) : Int) + 1) = ((hi - lo + 1 : Nat) : Int) ∧ IntKind.wrap .i64 (((hi - lo + 1 : Nat) : Int).tdiv 2) = (((hi - lo + 1) / 2 : Nat) : Int) ∧
    IntKind.wrap .i64 ((lo : Int) + (((hi - lo + 1) / 2 : Nat) : Int)) = ((lo + (hi - lo + 1) / 2 : Nat) : Int) := by
  refine ⟨?_, ?_, ?_, ?_⟩
  · rw [i64_in _ (by omega)]; omega
  · rw [i64_in _ (by omega)]; omega
  · rw [tdiv_nn (by omega), i64_in _ (by omega)]; omega
  · rw [i64_in _ (by omega)]; omega

theorem wSearch_comes {p q g : Int} {s : ByteArray} {es : List El} {l : List Pf} (h : Gr p q g) (hs : s.size ≤ 40) (he : ∀ e ∈ es, isEq p q e = true) (hl : l.length = es.length) (h12 : es.length ≤ 12) (hr : ∀ r ∈ l, r.small 1048576) :
    ∀ (n lo hi : Nat), lo < hi → hi ≤ es.length → hi - lo ≤ n → Comes R_S_wSearch ((p, q, g), s, es, l, (lo : Int), (hi : Int)) n (fb (cutB p q g s es l) n lo hi)
  | 0, lo, hi, h1, h2, h3 => by omega
  | n + 1, lo, hi, h1, h2, h3 => by
    intro m
    cases m with
    | zero => exact ⟨.inl rfl, fun h => by omega⟩
    | succ m =>
      obtain ⟨w1, w2, w3, w4⟩ := mid_walk h1 (by omega)
      have hcut : M_S_wEqual ((p, q, g), s, List.drop lo (List.take hi es), List.drop lo (List.take hi l)) = some (cutB p q g s es l lo hi) := wEqual_eq h hs (fun e hm => he e (mem_cut hm)) (by simp; omega) (by simp; omega) (fun r hm => hr r (mem_cut hm))
      have hB : ∀ (x : Option (List Int × Int)), bindO (sliceLH (lo : Int) (hi : Int) es.length) (fun a0 => bindO (sliceLH (lo : Int) (hi : Int) l.length) fun a1 => bindO (M_S_wEqual ((p, q, g), s, List.drop a0.1 (List.take a0.2 es), List.drop a1.1 (List.take a1.2 l))) fun a2 => cond a2 (some ([], 1)) x) = cond (cutB p q g s es l lo hi) (some ([], 1)) x := fun x => by
        rw [sliceLH_nat (by omega) h2, bindO_some', sliceLH_nat (by omega) (by omega), bindO_some']
        dsimp only
        rw [hcut, bindO_some']
      have e : R_S_wSearch (m + 1) ((p, q, g), s, es, l, (lo : Int), (hi : Int)) = cond (cutB p q g s es l lo hi) (some ([], 1)) (cond (hi - lo == 1) (some ([(lo : Int)], 1)) (bindO (R_S_wSearch m ((p, q, g), s, es, l, (lo : Int), ((lo + (hi - lo + 1) / 2 : Nat) : Int))) fun a9 => bindO (R_S_wSearch m ((p, q, g), s, es, l, ((lo + (hi - lo + 1) / 2 : Nat) : Int), (hi : Int))) fun a10 =>
          bindO (guardO (lenOk (a9.1.length + a10.1.length))) fun _ => bindO (some (a9.1 ++ a10.1)) fun a12 => bindO (some (IntKind.wrap .i64 (a9.2 + a10.2))) fun a13 => bindO (some (IntKind.wrap .i64 (a13 + 1))) fun a14 => some (a12, a14))) := by
        rw [R_S_wSearch]
        dsimp only
        rw [hB]
        simp only [w1, w2, w3, w4, bindO_some', guardO_of (show ((2 : Int) != 0) = true from rfl)]
        rw [show (((hi - lo : Nat) : Int) == 1) = (hi - lo == 1) from eq_dec' (hi - lo) 1]
      rw [e]
      unfold fb
      cases cutB p q g s es l lo hi
      · cases h4 : hi - lo == 1
        · have h4' : hi - lo ≠ 1 := by simpa using h4
          simp only [cond_false]
          obtain ⟨a1, a2, a3⟩ := fb_size (cutB p q g s es l) n lo (lo + (hi - lo + 1) / 2) (by omega) (by omega)
          obtain ⟨b1, b2, b3⟩ := fb_size (cutB p q g s es l) n (lo + (hi - lo + 1) / 2) hi (by omega) (by omega)
          obtain ⟨c1, c2⟩ := wSearch_comes h hs he hl h12 hr n lo (lo + (hi - lo + 1) / 2) (by omega) (by omega) (by omega) m
          obtain ⟨d1, d2⟩ := wSearch_comes h hs he hl h12 hr n (lo + (hi - lo + 1) / 2) hi (by omega) (by omega) (by omega) m
          generalize fb (cutB p q g s es l) n lo (lo + (hi - lo + 1) / 2) = x at a1 a2 a3 c1 c2
          generalize fb (cutB p q g s es l) n (lo + (hi - lo + 1) / 2) hi = y at b1 b2 b3 d1 d2
          have fin : (bindO (some x) fun a9 => bindO (some y) fun a10 => bindO (guardO (lenOk (a9.1.length + a10.1.length))) fun _ => bindO (some (a9.1 ++ a10.1)) fun a12 => bindO (some (IntKind.wrap .i64 (a9.2 + a10.2))) fun a13 => bindO (some (IntKind.wrap .i64 (a13 + 1))) fun a14 => some (a12, a14)) = some (x.1 ++ y.1, x.2 + y.2 + 1) := by
            rw [bindO_some', bindO_some', guardO_of (lenOk_of (by omega)), bindO_some', bindO_some', i64_in _ (by omega), bindO_some', i64_in _ (by omega), bindO_some']
          refine ⟨?_, fun hm => ?_⟩
          · rcases c1 with c1 | c1
            · rw [c1]; exact .inl rfl
            · rcases d1 with d1 | d1
              · rw [c1, d1]; exact .inl rfl
              · rw [c1, d1, fin]; exact .inr rfl
          · rw [c2 (by omega), d2 (by omega), fin]
        · exact ⟨.inr rfl, fun _ => rfl⟩
      · exact ⟨.inr rfl, fun _ => rfl⟩

theorem findBad_comes {p q g : Int} {s : ByteArray} {es : List El} {l : List Pf} (h : Gr p q g) (hs : s.size ≤ 40) (he : ∀ e ∈ es, isEq p q e = true) (hl : l.length = es.length) (h12 : es.length ≤ 12) (hr : ∀ r ∈ l, r.small 1048576) :
    ∀ (n lo hi : Nat) (out : List Int) (c : Int), lo < hi → hi ≤ es.length → hi - lo ≤ n → out.length + (hi - lo) ≤ 1000 → 0 ≤ c → c + 2 * ((hi - lo : Nat) : Int) ≤ 1000 →
      Comes R_I_Group_findBad ((p, q, g), s, es, l, (lo : Int), (hi : Int), out, c) n (true, out ++ (fb (cutB p q g s es l) n lo hi).1, c + (fb (cutB p q g s es l) n lo hi).2)
  | 0, lo, hi, out, c, h1, h2, h3, h5, h6, h7 => by omega
  | n + 1, lo, hi, out, c, h1, h2, h3, h5, h6, h7 => by
    intro m
    cases m with
    | zero => exact ⟨.inl rfl, fun h => by omega⟩
    | succ m =>
      obtain ⟨w1, w2, w3, w4⟩ := mid_walk h1 (by omega)
      have hcut : M_I_Group_batchEqual ((p, q, g), s, List.drop lo (List.take hi es), List.drop lo (List.take hi l)) = some (cutB p q g s es l lo hi, true) := batchEqual_eq h hs (fun e hm => he e (mem_cut hm)) (by simp; omega) (by simp; omega) (fun r hm => hr r (mem_cut hm))
      have e : R_I_Group_findBad (m + 1) ((p, q, g), s, es, l, (lo : Int), (hi : Int), out, c) = cond (cutB p q g s es l lo hi) (some (true, out, c + 1)) (cond (hi - lo == 1) (some (true, out ++ [(lo : Int)], c + 1)) (bindO (R_I_Group_findBad m ((p, q, g), s, es, l, (lo : Int), ((lo + (hi - lo + 1) / 2 : Nat) : Int), out, c + 1)) fun a12 => cond a12.1 (bindO (R_I_Group_findBad m ((p, q, g), s, es, l, ((lo + (hi - lo + 1) / 2 : Nat) : Int), (hi : Int), a12.2.1, a12.2.2)) fun a13 => some (a13.1, a13.2.1, a13.2.2)) (some (false, a12.2.1, a12.2.2)))) := by
        have hg : guardO (lenOk (out.length + [(lo : Int)].length)) = some () := guardO_of (lenOk_of (by simp only [List.length_cons, List.length_nil]; omega))
        rw [R_I_Group_findBad]
        dsimp only
        rw [i64_in (c + 1) (by omega), bindO_some', sliceLH_nat (by omega) h2, bindO_some', sliceLH_nat (by omega) (by omega), bindO_some']
        dsimp only
        rw [hcut, bindO_some']
        simp only [w1, w2, w3, w4, bindO_some', guardO_of (show ((2 : Int) != 0) = true from rfl), hg, Bool.not_true, cond_false]
        rw [show (((hi - lo : Nat) : Int) == 1) = (hi - lo == 1) from eq_dec' (hi - lo) 1]
      rw [e]
      unfold fb
      cases cutB p q g s es l lo hi
      · cases h4 : hi - lo == 1
        · have h4' : hi - lo ≠ 1 := by simpa using h4
          simp only [cond_false]
          obtain ⟨a1, a2, a3⟩ := fb_size (cutB p q g s es l) n lo (lo + (hi - lo + 1) / 2) (by omega) (by omega)
          obtain ⟨b1, b2, b3⟩ := fb_size (cutB p q g s es l) n (lo + (hi - lo + 1) / 2) hi (by omega) (by omega)
          obtain ⟨c1, c2⟩ := findBad_comes h hs he hl h12 hr n lo (lo + (hi - lo + 1) / 2) out (c + 1) (by omega) (by omega) (by omega) (by omega) (by omega) (by omega) m
          generalize fb (cutB p q g s es l) n lo (lo + (hi - lo + 1) / 2) = x at a1 a2 a3 c1 c2
          obtain ⟨d1, d2⟩ := findBad_comes h hs he hl h12 hr n (lo + (hi - lo + 1) / 2) hi (out ++ x.1) (c + 1 + x.2) (by omega) (by omega) (by omega) (by rw [List.length_append]; omega) (by omega) (by omega) m
          generalize fb (cutB p q g s es l) n (lo + (hi - lo + 1) / 2) hi = y at b1 b2 b3 d1 d2
          have e1 : c + 1 + x.2 + y.2 = c + (x.2 + y.2 + 1) := by omega
          rw [e1, List.append_assoc] at d1 d2
          refine ⟨?_, fun hm => ?_⟩
          · rcases c1 with c1 | c1
            · rw [c1]; exact .inl rfl
            · rw [c1, bindO_some', cond_true]
              rcases d1 with d1 | d1
              · rw [d1]; exact .inl rfl
              · rw [d1]; exact .inr rfl
          · rw [c2 (by omega), bindO_some', cond_true]
            dsimp only
            rw [d2 (by omega)]
            rfl
        · exact ⟨.inr rfl, fun _ => rfl⟩
      · exact ⟨.inr (by simp), fun _ => by simp⟩

noncomputable def findBad (p q g : Int) (s : ByteArray) (es : List El) (l : List Pf) : List Int × Int × Bool :=
  bif stB p q g s es l.length then bif l.length == 0 then ([], 0, true) else ((fb (cutB p q g s es l) l.length 0 l.length).1, (fb (cutB p q g s es l) l.length 0 l.length).2, true) else ([], 0, false)

theorem S_FindBadEqual_eq {p q g : Int} {s : ByteArray} {es : List El} {l : List Pf} (hr : ∀ r ∈ l, r.small 1048576) : M_S_FindBadEqual ((p, q, g), s, es, l) = some (findBad p q g s es l) := by
  unfold M_S_FindBadEqual findBad
  dsimp only
  rw [wStatements_eq, bindO_some', show (((l.length : Nat) : Int) == 0) = (l.length == 0) from eq_dec' l.length 0]
  cases hst : stB p q g s es l.length
  · rfl
  obtain ⟨h1, h2, h3, h4, h5⟩ := stB_spec hst
  cases h0 : l.length == 0
  · have h0' : l.length ≠ 0 := by simpa using h0
    have hc := Comes.lim (wSearch_comes (okG_spec h1) h2 h5 h4 h3 hr l.length 0 l.length (by omega) (by omega) (by omega))
    simp only [Bool.not_true, cond_false, cond_true]
    rw [show M_S_wSearch ((p, q, g), s, es, l, 0, ((l.length : Nat) : Int)) = _ from hc, bindO_some']
  · rfl

theorem I_FindBadEqual_eq {p q g : Int} {s : ByteArray} {es : List El} {l : List Pf} (hr : ∀ r ∈ l, r.small 1048576) : M_I_FindBadEqual ((p, q, g), s, es, l) = some (findBad p q g s es l) := by
  unfold M_I_FindBadEqual findBad
  dsimp only
  rw [areBatch_eq, bindO_some']
  cases hst : stB p q g s es l.length
  · rfl
  obtain ⟨h1, h2, h3, h4, h5⟩ := stB_spec hst
  cases h0 : l.length == 0
  · have h0' : l.length ≠ 0 := by simpa using h0
    have hc := Comes.lim (findBad_comes (okG_spec h1) h2 h5 h4 h3 hr l.length 0 l.length [] 0 (by omega) (by omega) (by omega) (by simp only [List.length_nil]; omega) (by omega) (by omega))
    rw [decide_eq_true (show ((l.length : Nat) : Int) > 0 by omega)]
    simp only [Bool.not_true, cond_false, cond_true]
    rw [show M_I_Group_findBad ((p, q, g), s, es, l, 0, ((l.length : Nat) : Int), [], 0) = _ from hc, bindO_some']
    simp
  · have h0' : l.length = 0 := by simpa using h0
    rw [decide_eq_false (show ¬ ((l.length : Nat) : Int) > 0 by omega)]
    rfl

theorem findBad_small (p q g : Int) (s : ByteArray) (es : List El) (l : List Pf) (hl : l.length ≤ 1048576) : (findBad p q g s es l).1.length ≤ 1048576 := by
  unfold findBad
  cases stB p q g s es l.length
  · simp
  · cases h0 : l.length == 0
    · have h0' : l.length ≠ 0 := by simpa using h0
      have := fb_size (cutB p q g s es l) l.length 0 l.length (by omega) (by omega)
      simp only [cond_true, cond_false]
      omega
    · simp

theorem markEqualLogS_eq {x : List El} (hx : x.length ≤ 1048576) : ∃ y, M_L_markEqualLogS (x, 1) = some (1 + 4 * (x.length : Int), y) := by
  unfold M_L_markEqualLogS
  dsimp only
  refine loopO_ind (fun (_ : Int × Int × List El) (y : Option (Int × List El)) => ∃ z, y = some (1 + 4 * (x.length : Int), z))
    (fun (s : Int × Int × List El) => ∃ i : Nat, s.2.1 = (i : Int) ∧ i ≤ x.length ∧ s.2.2.length = x.length ∧ s.1 = 1 + 4 * (i : Int))
    (fun s => x.length - s.2.1.toNat) (fun again s hs ih => ?_) (s := (1, 0, x)) ⟨0, rfl, by omega, rfl, by simp⟩ (by simp only; omega)
  obtain ⟨k, j, y⟩ := s
  obtain ⟨i, g1, g2, g3, g4⟩ := hs
  dsimp only at g1 g3 g4 ih ⊢
  subst g1
  subst g4
  rw [g3]
  rcases Nat.lt_or_ge i x.length with hi | hi
  · have hiy : i < y.length := by omega
    have hy := List.getElem?_eq_getElem hiy
    generalize y[i] = a at hy
    simp only [lt_yes hi, cond_true, getI_nat, hy, bindO_some', Int.toNat_natCast, List.getElem?_set_self (show i < y.length from hiy), List.set_set, i64_in (1 + 4 * (i : Int) + 1) (by omega), i64_in (1 + 4 * (i : Int) + 1 + 1) (by omega), i64_in (1 + 4 * (i : Int) + 1 + 1 + 1) (by omega), i64_in (1 + 4 * (i : Int) + 1 + 1 + 1 + 1) (by omega), i64_succ (show i < 2 ^ 62 by omega)]
    refine ih _ ⟨i + 1, rfl, by omega, by simpa using g3, ?_⟩ ?_
    · dsimp only; omega
    · dsimp only; omega
  · obtain rfl : i = x.length := by omega
    simp only [lt_no, cond_false]
    exact ⟨y, rfl⟩

theorem markProofS_eq {x : List Pf} {k0 : Int} (h0 : 0 ≤ k0 ∧ k0 ≤ 8388608) (hx : x.length ≤ 1048576) (hw : wsum wPf x ≤ 1048576) : ∃ k y, M_L_markProofS (x, k0) = some (k, y) ∧ 0 ≤ k := by
  unfold M_L_markProofS
  dsimp only
  refine loopO_ind (fun (_ : Int × Int × List Pf) (y : Option (Int × List Pf)) => ∃ k z, y = some (k, z) ∧ 0 ≤ k)
    (fun (s : Int × Int × List Pf) => ∃ i : Nat, s.2.1 = (i : Int) ∧ i ≤ x.length ∧ s.2.2.length = x.length ∧ (∀ j, i ≤ j → s.2.2[j]? = x[j]?) ∧ 0 ≤ s.1 ∧ s.1 + wsum wPf (x.drop i) ≤ 16777216)
    (fun s => x.length - s.2.1.toNat) (fun again s hs ih => ?_) (s := (k0, 0, x)) ⟨0, rfl, by omega, rfl, fun _ _ => rfl, h0.1, by simp only [List.drop_zero]; omega⟩ (by simp only; omega)
  obtain ⟨k, j, y⟩ := s
  obtain ⟨i, g1, g2, g3, g4, g5, g6⟩ := hs
  dsimp only at g1 g3 g4 g5 g6 ih ⊢
  subst g1
  rw [g3]
  rcases Nat.lt_or_ge i x.length with hi | hi
  · have ha := List.getElem?_eq_getElem hi
    have hy : y[i]? = some x[i] := by rw [g4 i (Nat.le_refl _), ha]
    have e := wsum_drop (w := wPf) ha
    generalize x[i] = a at ha hy e
    have hwa : wPf a = a.1.length + a.2.1.length + a.2.2.length := rfl
    simp only [lt_yes hi, cond_true, getI_nat, hy, bindO_some', Int.toNat_natCast,
      List.getElem?_modify_eq, Option.map_eq_map, Option.map_some, markIntS_eq (a := a.1) (k := k) (by omega) (by omega) (by omega), markIntS_eq (a := a.2.1) (k := k + a.1.length) (by omega) (by omega) (by omega),
      markIntS_eq (a := a.2.2) (k := k + a.1.length + a.2.1.length) (by omega) (by omega) (by omega), i64_succ (show i < 2 ^ 62 by omega)]
    refine ih _ ⟨i + 1, rfl, by omega, by simpa using g3, fun j hj => ?_, ?_, ?_⟩ ?_
    · rw [← g4 j (by omega)]
      simp only [List.getElem?_modify]
      have : i ≠ j := by omega
      simp [this]
    · dsimp only; omega
    · dsimp only; omega
    · dsimp only; omega
  · obtain rfl : i = x.length := by omega
    simp only [lt_no, cond_false]
    exact ⟨k, y, rfl, g5⟩

theorem law_FnExactFindBadEqual (x : (Int × Int × Int) × ByteArray × List El × List Pf) (h : WFI [.data (.cons (.int .i64) (.cons (.int .i64) (.one (.int .i64)))), .data .str, .data (.sl (.cons (.int .i64) (.cons (.int .i64) (.cons (.int .i64) (.one (.int .i64)))))), .data (.sl (.cons (.sl (.int .i64)) (.cons (.sl (.int .i64)) (.one (.sl (.int .i64))))))] x) : M_L_FnExactFindBadEqual x = some true := by
  obtain ⟨⟨p, q, g⟩, s, es, l⟩ := x
  obtain ⟨w1, w2⟩ := wf_pfs (l := l) h.2.2.2
  have w3 : es.length ≤ maxLen := h.2.2.1.1
  have hm : maxLen < 2 ^ 63 := by decide
  unfold M_L_FnExactFindBadEqual
  dsimp only
  rw [gtM]
  by_cases hs : s.size ≤ 1048576
  · rw [decide_eq_true hs, Bool.not_true, cond_false, szEqualLogS_eq (by omega) (by omega) (by omega), bindO_some']
    by_cases hy : (1048576 : Int) < es.length
    · rw [if_pos hy]
      rfl
    · rw [if_neg hy, decide_eq_false (by omega), cond_false]
      obtain ⟨k, e1, e2, e3⟩ := szProofS_eq (x := l) (left := 1048576 - es.length) (by omega) (by omega) w1 w2
      rw [e1, bindO_some']
      by_cases hk : k < 0
      · have d : decide (k < 0) = true := by simpa using hk
        rw [d]
        rfl
      · have d : decide (k < 0) = false := by simpa using hk
        have hk' := e3 (by omega)
        have hlen : l.length ≤ 1048576 := by omega
        have hsum : wsum wPf l ≤ 1048576 := by omega
        have hr := pf_small hsum
        have hS := S_FindBadEqual_eq (p := p) (q := q) (g := g) (s := s) (es := es) (l := l) hr
        have hI := I_FindBadEqual_eq (p := p) (q := q) (g := g) (s := s) (es := es) (l := l) hr
        have hsm := findBad_small p q g s es l hlen
        generalize findBad p q g s es l = o at hS hI hsm
        obtain ⟨o1, o2, o3⟩ := o
        dsimp only at hsm
        have he := eqProofS_eq (a := l) (by omega) (fun r hm => ⟨by have := (hr r hm).1; omega, by have := (hr r hm).2.1; omega, by have := (hr r hm).2.2; omega⟩)
        obtain ⟨y1, m1⟩ := markEqualLogS_eq (x := es) (by omega)
        obtain ⟨k2, y2, m2, hk2⟩ := markProofS_eq (x := l) (k0 := 1 + 4 * (es.length : Int)) (by omega) hlen hsum
        have hn := one_nn o1.length
        rw [d, cond_false]
        simp [toGroup_eq, toEqualLogS_eq (show es.length ≤ 1048576 by omega), toProofS_eq hlen hr, hS, hI, he, eqEqualLogS_eq (show es.length < 2 ^ 62 by omega), m1, m2, hk2, eqIntS_eq (show o1.length < 2 ^ 62 by omega), markIntS_eq (show o1.length < 2 ^ 40 by omega), heldIntS_eq (show o1.length < 2 ^ 40 by omega), hn]
  · rw [decide_eq_false hs]
    rfl

end Go.Proofs.Ytoaabialmenfiaa.Vd
