/- The law FnExactAcceptedStages as plain functions on data returns true for all arguments: lemmas. No conditions. -/
import Derived.Test.YtjmpdejigkjaoaaGreatAcsMod2
set_option linter.unusedVariables false
set_option linter.unusedSimpArgs false
set_option linter.unusedSectionVars false
set_option linter.unnecessarySimpa false
namespace Go.Proofs.YtjmpdejigkjaoaaGreat.Vd
open Go.IntWalk

theorem i64_succ {i : Nat} (h : i < 2 ^ 62) : IntKind.wrap .i64 ((i : Int) + 1) = ((i + 1 : Nat) : Int) := by
  rw [i64_in _ (by omega)]
  rfl

theorem lt_yes {i n : Nat} (h : i < n) : decide ((i : Int) < (n : Int)) = true := by simp [h]

theorem lt_no (n : Nat) : decide ((n : Int) < (n : Int)) = false := by simp

/-- A walk over a list by its numbers, with no other state. -/
def walk {α β : Type} (step : Nat → α → Option β → Option β) (fin : Option β) : Nat → List α → Option β
  | _, [] => fin
  | i, a :: r => step i a (walk step fin (i + 1) r)

theorem loop_walk {α β : Type} {body : (Int → Option β) → Int → Option β} (l : List α) (step : Nat → α → Option β → Option β) (fin : Option β)
    (h : ∀ (again : Int → Option β) (i : Nat) a, l[i]? = some a → i < l.length → body again (i : Int) = step i a (again ((i + 1 : Nat) : Int)))
    (hend : ∀ again : Int → Option β, body again (l.length : Int) = fin) (hl : l.length < 2 ^ 64) : loopO body 0 = walk step fin 0 l := by
  refine (loopO_for (σ := Unit) (fun i _ => (i : Int)) l.length (fun i _ => walk step fin i (l.drop i)) (fun _ _ => True) (fun again _ _ => ?_) (fun again i _ hi _ ih => ?_) hl (i := 0) (s := ()) (Nat.zero_le _) trivial).trans rfl
  · simp [hend, walk]
  · rw [h again i l[i] (List.getElem?_eq_getElem hi) hi, ih () trivial, List.drop_eq_getElem_cons hi, walk]

/-- A walk over a list by its numbers, with a state (before the number). -/
def walkS {α β σ : Type} (step : Nat → α → σ → (σ → Option β) → Option β) (fin : σ → Option β) : Nat → List α → σ → Option β
  | _, [], s => fin s
  | i, a :: r, s => step i a s (walkS step fin (i + 1) r)

/-- The same, where the states keep something. -/
theorem loop_walkI {α β σ τ : Type} {body : (τ → Option β) → τ → Option β} (enc : Int → σ → τ) (l : List α) (step : Nat → α → σ → (σ → Option β) → Option β) (fin : σ → Option β) (Inv : Nat → σ → Prop)
    (hc : ∀ (i : Nat) a s (k k' : σ → Option β), l[i]? = some a → Inv i s → (∀ s', Inv (i + 1) s' → k s' = k' s') → step i a s k = step i a s k')
    (h : ∀ (again : τ → Option β) (i : Nat) a s, l[i]? = some a → i < l.length → Inv i s → body again (enc i s) = step i a s fun s' => again (enc ((i + 1 : Nat) : Int) s'))
    (hend : ∀ (again : τ → Option β) s, Inv l.length s → body again (enc l.length s) = fin s) (hl : l.length < 2 ^ 64) (s : σ) (h0 : Inv 0 s) : loopO body (enc 0 s) = walkS step fin 0 l s := by
  refine (loopO_for (σ := σ) (fun i s => enc (i : Int) s) l.length (fun i s => walkS step fin i (l.drop i) s) Inv (fun again s hs => ?_) (fun again i s hi hs ih => ?_) hl (i := 0) (s := s) (Nat.zero_le _) h0).trans rfl
  · simp [hend _ _ hs, walkS]
  · rw [h again i l[i] s (List.getElem?_eq_getElem hi) hi hs, List.drop_eq_getElem_cons hi, walkS]
    exact hc i l[i] s _ _ (List.getElem?_eq_getElem hi) hs fun s' hs' => ih s' hs'

theorem walk_all {α : Type} (p : α → Bool) : ∀ (l : List α) (i : Nat), walk (fun _ a k => if p a = true then k else some false) (some true) i l = some (l.all p)
  | [], _ => rfl
  | a :: l, i => by
    rw [walk, walk_all p l]
    cases h : p a <;> simp [h]

theorem toIntS_eq {x : List Int} (h : x.length ≤ 1048576) : M_L_toIntS x = some x := by
  unfold M_L_toIntS
  have hx : (x.length : Int) ≤ ((lim : Nat) : Int) := by rw [lim_eq]; omega
  rw [guardO_of (by simpa using hx), bindO_some']
  refine (loopO_for (σ := List Int) (fun i s => ((i : Int), s)) x.length (fun i s => some (x.take i ++ x.drop i)) (fun i s => s = x.take i ++ List.replicate (x.length - i) 0) (fun again s hs => ?_) (fun again i s hi hs ih => ?_) (by omega) (i := 0) (s := List.replicate x.length 0) (Nat.zero_le _) (by simp)).trans (by simp)
  · subst hs; simp
  · subst hs
    have h1 : (x.take i ++ List.replicate (x.length - i) (0 : Int))[i]? = some 0 := by
      rw [List.getElem?_append_right (by simp; omega)]
      simp [List.getElem?_replicate]
      omega
    have h2 : (x.take i ++ List.replicate (x.length - i) (0 : Int)).set i x[i] = x.take (i + 1) ++ List.replicate (x.length - (i + 1)) 0 := by
      refine List.ext_getElem? fun j => ?_
      rw [List.getElem?_set]
      by_cases hij : i = j
      · subst hij
        rw [if_pos rfl, if_pos (by simp; omega), List.getElem?_append_left (by simp; omega), List.getElem?_take, if_pos (by omega), List.getElem?_eq_getElem hi]
      · rw [if_neg hij]
        by_cases hj : j < i
        · rw [List.getElem?_append_left (by simp; omega), List.getElem?_append_left (by simp; omega), List.getElem?_take, List.getElem?_take, if_pos hj, if_pos (by omega)]
        · rw [List.getElem?_append_right (by simp; omega), List.getElem?_append_right (by simp; omega)]
          simp only [List.length_take, List.getElem?_replicate]
          rw [Nat.min_eq_left (by omega), Nat.min_eq_left (by omega)]
          by_cases hjx : j < x.length
          · rw [if_pos (by omega), if_pos (by omega)]
          · rw [if_neg (by omega), if_neg (by omega)]
    simp only [getI_nat, List.getElem?_eq_getElem hi, h1, bindO_some', Int.toNat_natCast, h2, i64_succ (show i < 2 ^ 62 by omega)]
    rw [ih _ rfl]
    simp [hi]

theorem eqIntS_eq {a b : List Int} (h : a.length < 2 ^ 62) : M_L_eqIntS (a, b) = some (decide (a = b)) := by
  unfold M_L_eqIntS
  by_cases hl : a.length = b.length
  · have e1 : ((a.length : Int) != (b.length : Int)) = false := by simp [hl]
    dsimp only
    rw [e1]
    simp only [cond_false]
    refine (loopO_for (σ := Unit) (fun i _ => (i : Int)) a.length (fun i _ => some (decide (a.drop i = b.drop i))) (fun _ _ => True) (fun again _ _ => ?_) (fun again i _ hi _ ih => ?_) (by omega) (i := 0) (s := ()) (Nat.zero_le _) trivial).trans (by simp)
    · simp [hl]
    · have hi' : i < b.length := by omega
      simp only [getI_nat, List.getElem?_eq_getElem hi, List.getElem?_eq_getElem hi', bindO_some', i64_succ (show i < 2 ^ 62 by omega), ih () trivial]
      rw [List.drop_eq_getElem_cons hi, List.drop_eq_getElem_cons hi']
      by_cases he : a[i] = b[i] <;> simp [bne_dec, he, hi, -List.getElem_cons_drop]
  · have e1 : ((a.length : Int) != (b.length : Int)) = true := by simp; omega
    dsimp only
    rw [e1]
    simp only [cond_true, Option.some.injEq]
    symm
    simp only [decide_eq_false_iff_not]
    rintro rfl
    exact hl rfl

def marks (n : Nat) (k : Int) : List Int := (List.range n).map fun (i : Nat) => k + (i : Int)

theorem marks_length (n : Nat) (k : Int) : (marks n k).length = n := by simp [marks]

theorem marks_get {n i : Nat} {k : Int} (h : i < n) : (marks n k)[i]? = some (k + i) := by
  simp [marks, h]

theorem markIntS_eq {a : List Int} {k : Int} (h : a.length < 2 ^ 40) (h0 : 0 ≤ k) (h1 : k < 2 ^ 40) : M_L_markIntS (a, k) = some (k + a.length, marks a.length k) := by
  unfold M_L_markIntS
  refine (loopO_for (σ := Int × List Int) (fun i s => (s.1, ((i : Int), s.2))) a.length (fun i s => some (k + a.length, marks a.length k)) (fun i s => s.1 = k + i ∧ s.2 = marks i k ++ a.drop i) (fun again s hs => ?_) (fun again i s hi hs ih => ?_) (by omega) (i := 0) (s := (k, a)) (Nat.zero_le _) (by simp [marks])).trans rfl
  · obtain ⟨s1, s2⟩ := s
    obtain ⟨rfl, rfl⟩ := hs
    simp [marks_length]
  · obtain ⟨s1, s2⟩ := s
    obtain ⟨rfl, rfl⟩ := hs
    have h2 : (marks i k ++ a.drop i)[i]? = some a[i] := by
      rw [List.getElem?_append_right (by simp [marks_length])]
      simp [marks_length, hi]
    have h3 : (marks i k ++ a.drop i).set i (k + i) = marks (i + 1) k ++ a.drop (i + 1) := by
      rw [List.set_append_right _ _ (by simp [marks_length]), marks_length, Nat.sub_self, List.drop_eq_getElem_cons hi, List.set_cons_zero]
      simp [marks, List.range_succ]
    have hlen : (marks i k ++ a.drop i).length = a.length := by simp [marks_length]; omega
    simp only [getI_nat, h2, bindO_some', Int.toNat_natCast, h3, i64_succ (show i < 2 ^ 62 by omega), hlen]
    rw [i64_in _ (by omega)]
    simp only [lt_yes hi, cond_true]
    exact ih (k + i + 1, marks (i + 1) k ++ a.drop (i + 1)) ⟨by simp; omega, rfl⟩

theorem heldIntS_eq {n : Nat} {k : Int} (h : n < 2 ^ 40) (h0 : 0 ≤ k) (h1 : k < 2 ^ 40) : M_L_heldIntS (marks n k, k) = some (k + n) := by
  unfold M_L_heldIntS
  refine (loopO_for (σ := Int) (fun i s => (s, (i : Int))) n (fun i s => some (k + n)) (fun i s => s = k + i) (fun again s hs => ?_) (fun again i s hi hs ih => ?_) (by omega) (i := 0) (s := k) (Nat.zero_le _) (by simp)).trans rfl
  · subst hs; simp [marks_length]
  · subst hs
    simp only [getI_nat, marks_get hi, marks_length, bindO_some', i64_succ (show i < 2 ^ 62 by omega)]
    rw [i64_in _ (by omega)]
    simp only [lt_yes hi, cond_true, bne_self_eq_false, cond_false]
    exact ih (k + i + 1) (by simp; omega)

theorem one_nn (n : Nat) : ((1 : Int) + (n : Int) < 0) = False := by
  simp only [eq_iff_iff, iff_false]
  omega

theorem lenOk_of {n : Nat} (h : n ≤ 68719476736) : lenOk n = true := by simp [lenOk, lim_eq, h]

theorem sliceLN_nat {l n : Nat} (h : l ≤ n) : sliceLN (l : Int) n = some (l, n) := by
  unfold sliceLN
  rw [if_pos ⟨by omega, by omega⟩]
  simp

theorem sliceNH_nat {h n : Nat} (hh : h ≤ n) : sliceNH (h : Int) n = some (0, h) := by
  unfold sliceNH
  rw [if_pos ⟨by omega, by omega⟩]
  simp

/-- A loop whose states go down: a property of its answer. -/
theorem loopO_ind {σ β : Type} {body : (σ → Option β) → σ → Option β} (Q : σ → Option β → Prop) (Inv : σ → Prop) (μ : σ → Nat)
    (step : ∀ (again : σ → Option β) s, Inv s → (∀ s', Inv s' → μ s' < μ s → Q s' (again s')) → Q s (body again s)) {s : σ} (h0 : Inv s) (hm : μ s < 2 ^ 64) : Q s (loopO body s) := by
  rw [loopO_eq]
  have H : ∀ (n : Nat) (s : σ), Inv s → μ s < n → Q s (iter body n s) := by
    intro n
    induction n with
    | zero => intro s _ h; exact absurd h (Nat.not_lt_zero _)
    | succ n ih => intro s hs h; exact step _ s hs fun s' hs' h' => ih s' hs' (by omega)
  exact H many s h0 hm

theorem in_eq (x a b : Int) : M_S_l1In (x, a, b) = some (decide (a ≤ x ∧ x ≤ b)) := by
  by_cases h : a ≤ x <;> by_cases h2 : x ≤ b <;> simp [M_S_l1In, h, h2]

theorem within_eq (x a b : Int) : M_I_within (x, a, b) = some (decide (a ≤ x ∧ x ≤ b)) := by
  by_cases h : a ≤ x <;> by_cases h2 : x ≤ b <;> simp [M_I_within, h, h2]

theorem isModulus_eq (x : Int) : M_I_isModulus x = some (decide (2 ≤ x ∧ x ≤ 2000000000)) := by
  unfold M_I_isModulus
  rw [within_eq]
  rfl

def IsP (n : Int) : Prop := 2 ≤ n ∧ ∀ d, 2 ≤ d → d * d ≤ n → n % d ≠ 0

noncomputable def isP (n : Int) : Bool := @decide (IsP n) (Classical.propDecidable _)

/-- No divisor from d on. -/
def NoDiv (n s : Int) : Prop := ∀ d, s ≤ d → d * d ≤ n → n % d ≠ 0

noncomputable def noDiv (n s : Int) : Bool := @decide (NoDiv n s) (Classical.propDecidable _)

theorem noDiv_end {n s : Int} (hs : 0 ≤ s) (h : n < s * s) : noDiv n s = true := by
  simp only [noDiv, decide_eq_true_eq]
  intro d hd hdd
  have := Int.mul_le_mul hd hd hs (by omega)
  omega

theorem noDiv_hit {n s : Int} (h : s * s ≤ n) (h2 : n % s = 0) : noDiv n s = false := by
  simp only [noDiv, decide_eq_false_iff_not]
  intro hn
  exact hn s (Int.le_refl _) h h2

theorem noDiv_step {n s : Int} (h2 : s * s ≤ n → n % s ≠ 0) : noDiv n s = noDiv n (s + 1) := by
  simp only [noDiv, decide_eq_decide]
  constructor
  · intro h d hd hdd
    exact h d (by omega) hdd
  · intro h d hd hdd
    by_cases he : d = s
    · subst he
      exact h2 hdd
    · exact h d (by omega) hdd

theorem sq_lt {s : Int} (h0 : 0 ≤ s) (h : s * s ≤ 2000000000) : s ≤ 44721 := by
  refine Int.not_lt.1 fun hlt => ?_
  have := Int.mul_le_mul (show (44722 : Int) ≤ s by omega) (show (44722 : Int) ≤ s by omega) (by omega) h0
  omega

theorem sq_le {s k : Int} (h0 : 0 ≤ s) (h : s ≤ k) : s * s ≤ k * k := Int.mul_le_mul h h h0 (by omega)

theorem nPrime_eq {n : Int} (hn : n ≤ 2000000000) : M_S_nPrime n = some (isP n) := by
  unfold M_S_nPrime
  by_cases h2 : n < 2
  · have : isP n = false := by simp only [isP, decide_eq_false_iff_not]; intro h; have := h.1; omega
    simp [h2, this]
  · have hb : decide (n < 2) = false := by simpa using h2
    rw [hb, cond_false]
    have h1 : isP n = noDiv n 2 := by
      simp only [isP, noDiv, decide_eq_decide]
      exact ⟨fun h => h.2, fun h => ⟨by omega, h⟩⟩
    rw [h1]
    refine loopO_spec (fun s => some (noDiv n s)) (fun s => 2 ≤ s ∧ s ≤ 50000) (fun s => (50000 - s).toNat) (fun again s hs ih => ?_) ⟨by omega, by omega⟩ (by omega)
    obtain ⟨hs1, hs2⟩ := hs
    have hq := sq_le (by omega) hs2
    have hq0 : 0 ≤ s * s := Int.mul_nonneg (by omega) (by omega)
    simp only [bindO_some', i64_in _ (show (-9223372036854775808 : Int) ≤ s * s ∧ s * s ≤ 9223372036854775807 by omega)]
    by_cases hle : s * s ≤ n
    · have := sq_lt (by omega) (show s * s ≤ 2000000000 by omega)
      have hgs : guardO (s != 0) = some () := guardO_of (by simp; omega)
      simp only [hle, decide_true, cond_true, hgs, bindO_some', tmod_nn (show 0 ≤ n by omega)]
      by_cases h0 : n % s = 0
      · simp [h0, noDiv_hit hle h0]
      · have hb : (n % s == 0) = false := by simpa using h0
        have hw := i64_in (s + 1) (by omega)
        have hi := ih (s + 1) ⟨by omega, by omega⟩ (by omega)
        have hn := noDiv_step (n := n) (s := s) (fun _ => h0)
        rw [hb, cond_false, hw, hi, hn]
    · simp [hle, noDiv_end (by omega) (show n < s * s by omega)]

theorem odd_loop {n : Int} (hn : n ≤ 2000000000) (h2 : 2 ≤ n) (hodd : n % 2 = 1 ∨ n = 2) : loopO (fun (again9 : (Int → (Option Bool))) => (fun (s10 : Int) => (bindO (some (IntKind.wrap .i64 (s10 * s10))) (fun (a11 : Int) => (cond (decide (a11 ≤ n)) (bindO (guardO (s10 != (0 : Int))) (fun (a12 : Unit) => (bindO (some (Int.tmod n s10)) (fun (a13 : Int) => (cond (a13 == (0 : Int)) (some false) (bindO (some (IntKind.wrap .i64 (s10 + (2 : Int)))) (fun (a14 : Int) => (again9 a14)))))))) (some true)))))) (3 : Int) = some (noDiv n 3) := by
  refine loopO_spec (fun s => some (noDiv n s)) (fun s => 3 ≤ s ∧ s ≤ 50000 ∧ s % 2 = 1) (fun s => (50000 - s).toNat) (fun again s hs ih => ?_) ⟨by omega, by omega, by omega⟩ (by omega)
  obtain ⟨hs1, hs2, hs3⟩ := hs
  have hq := sq_le (by omega) hs2
  have hq0 : 0 ≤ s * s := Int.mul_nonneg (by omega) (by omega)
  simp only [bindO_some', i64_in _ (show (-9223372036854775808 : Int) ≤ s * s ∧ s * s ≤ 9223372036854775807 by omega)]
  by_cases hle : s * s ≤ n
  · have := sq_lt (by omega) (show s * s ≤ 2000000000 by omega)
    have h9 := sq_le (show (0 : Int) ≤ 3 by omega) hs1
    have hgs : guardO (s != 0) = some () := guardO_of (by simp; omega)
    simp only [hle, decide_true, cond_true, hgs, bindO_some', tmod_nn (show 0 ≤ n by omega)]
    by_cases h0 : n % s = 0
    · simp [h0, noDiv_hit hle h0]
    · have hb : (n % s == 0) = false := by simpa using h0
      have hw := i64_in (s + 2) (by omega)
      have hi := ih (s + 2) ⟨by omega, by omega, by omega⟩ (by omega)
      have hn1 := noDiv_step (n := n) (s := s) (fun _ => h0)
      have hn2 := noDiv_step (n := n) (s := s + 1) (fun h8 h1 => by
        have := Int.emod_emod_of_dvd n (show (2 : Int) ∣ (s + 1) by omega)
        rw [h1] at this
        have h3 : n ≠ 2 := fun h => by subst h; omega
        omega)
      rw [hb, cond_false, hw, hi, hn1, hn2, show s + 1 + 1 = s + 2 by omega]
  · simp [hle, noDiv_end (by omega) (show n < s * s by omega)]

theorem isPrime_eq {n : Int} (hn : n ≤ 2000000000) : M_I_isPrime n = some (isP n) := by
  unfold M_I_isPrime
  rw [isModulus_eq]
  by_cases h2 : 2 ≤ n
  · have h1 : isP n = noDiv n 2 := by
      simp only [isP, noDiv, decide_eq_decide]
      exact ⟨fun h => h.2, fun h => ⟨h2, h⟩⟩
    have hg2 : guardO ((2 : Int) != 0) = some () := rfl
    by_cases ho : n % 2 = 1 ∨ n = 2
    · rw [odd_loop hn h2 ho, hg2]
      simp only [bindO_some', h2, hn, and_self, decide_true, Bool.not_true, cond_false, tmod_nn (show 0 ≤ n by omega), h1]
      rcases ho with ho | rfl
      · have hb : (n % 2 == 0) = false := by simp [ho]
        rw [hb, cond_false, noDiv_step (n := n) (s := 2) (fun _ => by omega)]
        rfl
      · rw [noDiv_end (n := 2) (s := 2) (by omega) (by omega), noDiv_end (n := 2) (s := 3) (by omega) (by omega)]
        rfl
    · have he : n % 2 = 0 := by omega
      have hn2 : n ≠ 2 := fun h => ho (.inr h)
      have hb : (n != 2) = true := by simpa using hn2
      simp only [bindO_some', hg2, h2, hn, and_self, decide_true, Bool.not_true, cond_false, tmod_nn (show 0 ≤ n by omega), he, beq_self_eq_true, cond_true, hb, h1]
      rw [noDiv_hit (by omega) he]
  · have : isP n = false := by simp only [isP, decide_eq_false_iff_not]; intro h; have := h.1; omega
    simp [h2, this]

theorem pow_mod (a m : Int) : ∀ k : Nat, (a % m) ^ k % m = a ^ k % m
  | 0 => by simp
  | k + 1 => by rw [Int.pow_succ, Int.pow_succ, Int.mul_emod, pow_mod a m k, ← Int.mul_emod, Int.mul_emod, Int.emod_emod_of_dvd _ (Int.dvd_refl m), ← Int.mul_emod]

theorem sq_pow (a : Int) (k : Nat) : (a * a) ^ k = a ^ (2 * k) := by
  rw [show a * a = a ^ 2 by rw [Int.pow_succ, Int.pow_succ, Int.pow_zero, Int.one_mul], ← Int.pow_mul]

/-- One round of the power loop. -/
theorem pow_round {out a m : Int} {e : Int} (he : 0 < e) : ((if e % 2 = 1 then out * a % m else out) * (a * a % m) ^ (e / 2).toNat) % m = (out * a ^ e.toNat) % m := by
  have hk : e.toNat = 2 * (e / 2).toNat + (e % 2).toNat := by omega
  rw [Int.mul_emod, pow_mod, ← Int.mul_emod, sq_pow]
  by_cases h : e % 2 = 1
  · rw [if_pos h, hk, h, Int.pow_add, show (1 : Int).toNat = 1 by rfl, Int.pow_succ, Int.pow_zero, Int.one_mul, Int.mul_emod, Int.emod_emod_of_dvd _ (Int.dvd_refl m), ← Int.mul_emod]
    congr 1
    rw [Int.mul_assoc, Int.mul_comm a]
  · rw [if_neg h, hk, show e % 2 = 0 by omega]
    rfl

theorem mul_in {a b : Int} (ha : 0 ≤ a) (ha2 : a ≤ 3000000000) (hb : 0 ≤ b) (hb2 : b ≤ 3000000000) : 0 ≤ a * b ∧ a * b ≤ 9000000000000000000 :=
  ⟨Int.mul_nonneg ha hb, by have := Int.mul_le_mul ha2 hb2 hb (by omega); omega⟩

theorem nPower_eq {a e m : Int} (ha : 0 ≤ a) (ha2 : a ≤ 3000000000) (he : 0 ≤ e) (he2 : e ≤ 9223372036854775807) (hm : 1 ≤ m) (hm2 : m ≤ 3000000000) : M_S_nPower (a, e, m) = some (a ^ e.toNat % m) := by
  unfold M_S_nPower
  dsimp only
  have hg : guardO (m != 0) = some () := guardO_of (by simp; omega)
  have hg2 : guardO ((2 : Int) != 0) = some () := rfl
  rw [hg, bindO_some', bindO_some', tmod_nn (by omega)]
  have hfin : a ^ e.toNat % m = (1 % m * a ^ e.toNat) % m := by rw [Int.mul_emod, Int.emod_emod_of_dvd _ (Int.dvd_refl m), ← Int.mul_emod, Int.one_mul]
  rw [hfin]
  refine loopO_spec (fun (s : Int × Int × Int) => some ((s.2.2 * s.1 ^ s.2.1.toNat) % m)) (fun s => 0 ≤ s.1 ∧ s.1 ≤ 3000000000 ∧ 0 ≤ s.2.1 ∧ s.2.1 ≤ 9223372036854775807 ∧ 0 ≤ s.2.2 ∧ s.2.2 < m) (fun s => s.2.1.toNat) (fun again s hs ih => ?_)
    (⟨ha, ha2, he, he2, Int.emod_nonneg _ (by omega), Int.emod_lt_of_pos _ (by omega)⟩) (show e.toNat < 2 ^ 64 by omega)
  obtain ⟨a, e, out⟩ := s
  obtain ⟨h1, h2, h3, h4, h5, h6⟩ := hs
  dsimp only at h1 h2 h3 h4 h5 h6 ih ⊢
  have hoa := mul_in h5 (show out ≤ 3000000000 by omega) h1 h2
  have haa := mul_in h1 h2 h1 h2
  by_cases hpos : e > 0
  · have hr := pow_round (out := out) (a := a) (m := m) hpos
    have haam := Int.emod_nonneg (a * a) (show m ≠ 0 by omega)
    have haam2 := Int.emod_lt_of_pos (a * a) (show 0 < m by omega)
    have hoam := Int.emod_nonneg (out * a) (show m ≠ 0 by omega)
    have hoam2 := Int.emod_lt_of_pos (out * a) (show 0 < m by omega)
    simp only [hpos, decide_true, cond_true, hg, hg2, bindO_some', tmod_nn h3, tdiv_nn h3, i64_in _ (show (-9223372036854775808 : Int) ≤ out * a ∧ out * a ≤ 9223372036854775807 by omega), i64_in _ (show (-9223372036854775808 : Int) ≤ a * a ∧ a * a ≤ 9223372036854775807 by omega),
      tmod_nn hoa.1, tmod_nn haa.1, i64_in _ (show (-9223372036854775808 : Int) ≤ e / 2 ∧ e / 2 ≤ 9223372036854775807 by omega)]
    by_cases ho : e % 2 = 1
    · rw [if_pos ho] at hr
      rw [show (e % 2 == 1) = true by simp [ho], cond_true, ih (a * a % m, e / 2, out * a % m) ⟨haam, by dsimp only; omega, by dsimp only; omega, by dsimp only; omega, hoam, hoam2⟩ (by dsimp only; omega)]
      exact congrArg some hr
    · rw [if_neg ho] at hr
      rw [show (e % 2 == 1) = false by simp [ho], cond_false, ih (a * a % m, e / 2, out) ⟨haam, by dsimp only; omega, by dsimp only; omega, by dsimp only; omega, h5, h6⟩ (by dsimp only; omega)]
      exact congrArg some hr
  · have : e = 0 := by omega
    subst this
    simp [Int.emod_eq_of_lt h5 h6]

theorem bits_one {x : Int} (h : 0 ≤ x) : Vd.bits .and .i64 x 1 = x % 2 := by
  obtain ⟨n, rfl⟩ := Int.eq_ofNat_of_zero_le h
  have h1 : (BitVec.ofInt 64 ((n : Nat) : Int) &&& BitVec.ofInt 64 1).toNat = n % 2 := by
    rw [BitVec.toNat_and]
    have e1 : (BitVec.ofInt 64 ((n : Nat) : Int)).toNat = n % 2 ^ 64 := by simp
    have e2 : (BitVec.ofInt 64 1).toNat = 1 := by decide
    rw [e1, e2, Nat.and_one_is_mod]
    omega
  show IntKind.wrap .i64 (((BitVec.ofInt 64 ((n : Nat) : Int) &&& BitVec.ofInt 64 1).toNat : Nat) : Int) = _
  rw [h1, i64_in _ (by omega)]
  omega

theorem shr_one {x : Int} : Vd.shr .i64 x 1 = x / 2 := by
  show x.fdiv (2 ^ (min (1 : Int).toNat 64)) = x / 2
  rw [show ((2 : Int) ^ (min (1 : Int).toNat 64)) = 2 by decide, fdiv_pos (by omega)]

theorem power_eq {a e m : Int} (he : e ≤ 9223372036854775807) : M_I_power (a, e, m) = M_S_nPower (a, e, m) := by
  unfold M_I_power M_S_nPower
  congr 1
  funext _
  congr 1
  funext out
  refine loopO_congr (fun s => s.2.1 ≤ 9223372036854775807) (fun a1 a2 s hs ih => ?_) he
  by_cases hpos : s.2.1 > 0
  · have hg2 : guardO ((2 : Int) != 0) = some () := rfl
    have hg3 : guardO (decide ((0 : Int) ≤ 1)) = some () := rfl
    have hw : ∀ (x : Int) y, a1 (x, s.2.1 / 2, y) = a2 (x, s.2.1 / 2, y) := fun x y => ih _ (by dsimp only; omega)
    simp only [hpos, decide_true, cond_true, hg2, hg3, bindO_some', bits_one (show 0 ≤ s.2.1 by omega), shr_one, tmod_nn (show 0 ≤ s.2.1 by omega), tdiv_nn (show 0 ≤ s.2.1 by omega),
      i64_in _ (show (-9223372036854775808 : Int) ≤ s.2.1 / 2 ∧ s.2.1 / 2 ≤ 9223372036854775807 by omega), hw]
  · simp [hpos]

theorem l1All_eq {l : List Int} {lo hi : Int} (hl : l.length < 2 ^ 62) : M_S_l1All (l, lo, hi) = some (l.all fun n => decide (lo ≤ n ∧ n ≤ hi)) := by
  unfold M_S_l1All
  refine (loop_walk l (fun _ a k => if (decide (lo ≤ a ∧ a ≤ hi)) = true then k else some false) (some true) (fun again i a ha hi' => ?_) (fun again => ?_) (by omega)).trans (walk_all (fun n => decide (lo ≤ n ∧ n ≤ hi)) l 0)
  · simp only [getI_nat, ha, bindO_some', i64_succ (show i < 2 ^ 62 by omega), lt_yes hi', cond_true, in_eq]
    cases decide (lo ≤ a ∧ a ≤ hi) <;> rfl
  · simp

theorem walk_index_mem {α : Type} (p : α → Bool) (f : α → Option Bool) : ∀ (l : List α) (i : Nat), (∀ a ∈ l, f a = some (p a)) →
    ∃ j : Int, walk (fun i a k => bindO (f a) fun b => cond b (some (i : Int)) k) (some (-1)) i l = some j ∧ decide (j ≥ 0) = l.any p
  | [], _, _ => ⟨-1, rfl, rfl⟩
  | a :: l, i, hf => by
    obtain ⟨j, h1, h2⟩ := walk_index_mem p f l (i + 1) fun b hb => hf b (List.mem_cons_of_mem _ hb)
    have ha := hf a (List.mem_cons_self ..)
    cases h : p a
    · exact ⟨j, by simp [walk, ha, h, h1], by simp [h, h2]⟩
    · exact ⟨i, by simp [walk, ha, h], by simp [h]⟩

theorem containsFunc_eq {l : List Int} {f : Int → Option Bool} {p : Int → Bool} (hl : l.length < 2 ^ 62) (hf : ∀ a ∈ l, f a = some (p a)) : M_slices_ContainsFunc_sint_int (l, f) = some (l.any p) := by
  obtain ⟨j, h1, h2⟩ := walk_index_mem p f l 0 hf
  unfold M_slices_ContainsFunc_sint_int
  have : M_slices_IndexFunc_sint_int (l, f) = some j := by
    unfold M_slices_IndexFunc_sint_int
    refine (loop_walk l _ _ (fun again i a ha hi => ?_) (fun again => ?_) (by omega)).trans h1
    · simp only [getI_nat, ha, bindO_some', i64_succ (show i < 2 ^ 62 by omega), lt_yes hi, cond_true]
    · simp
  dsimp only
  rw [this, bindO_some', h2]

theorem areAll_eq {l : List Int} {f : Int → Option Bool} {p : Int → Bool} (hl : l.length < 2 ^ 62) (hf : ∀ a ∈ l, f a = some (p a)) : M_I_areAll (l, f) = some (l.all p) := by
  unfold M_I_areAll
  dsimp only
  rw [containsFunc_eq (p := fun a => !p a) hl fun a ha => by simp [M_I_areAll_1, hf a ha], bindO_some']
  congr 1
  rw [List.any_eq_not_all_not]
  simp

noncomputable def okG (p q g : Int) : Bool := decide (3 ≤ p ∧ p ≤ 2000000000) && (decide (2 ≤ q ∧ q ≤ p - 1) && ((p - 1) % q == 0 && (decide (2 ≤ g ∧ g ≤ p - 1) && (g ^ q.toNat % p == 1 && (isP q && isP p)))))

theorem l2Good_eq (p q g : Int) : M_S_l2Good (p, q, g) = some (okG p q g) := by
  unfold M_S_l2Good okG
  simp only [in_eq, bindO_some']
  by_cases h1 : 3 ≤ p ∧ p ≤ 2000000000
  · rw [i64_in (p - 1) (by omega)]
    simp only [h1, and_self, decide_true, cond_true, Bool.true_and]
    by_cases h2 : 2 ≤ q ∧ q ≤ p - 1
    · have hq : guardO (q != 0) = some () := guardO_of (by simp; omega)
      simp only [h2, and_self, decide_true, cond_true, Bool.true_and, hq, bindO_some', tmod_nn (show 0 ≤ p - 1 by omega)]
      by_cases h3 : (p - 1) % q = 0
      · simp only [h3, beq_self_eq_true, cond_true, Bool.true_and]
        by_cases h4 : 2 ≤ g ∧ g ≤ p - 1
        · simp only [h4, and_self, decide_true, cond_true, Bool.true_and, nPower_eq (show 0 ≤ g by omega) (show g ≤ 3000000000 by omega) (show 0 ≤ q by omega) (show q ≤ 9223372036854775807 by omega) (show 1 ≤ p by omega) (show p ≤ 3000000000 by omega), bindO_some',
            nPrime_eq (show q ≤ 2000000000 by omega), nPrime_eq (show p ≤ 2000000000 by omega)]
          cases (g ^ q.toNat % p == 1) <;> cases isP q <;> cases isP p <;> rfl
        · simp [h4]
      · have hb : ((p - 1) % q == 0) = false := by simpa using h3
        simp [hb]
    · simp [h2]
  · simp [h1]

theorem IsValidGroup_eq (p q g : Int) : M_I_IsValidGroup (p, q, g) = some (okG p q g) := by
  unfold M_I_IsValidGroup okG
  simp only [within_eq, bindO_some']
  by_cases h1 : 3 ≤ p ∧ p ≤ 2000000000
  · rw [i64_in (p - 1) (by omega)]
    simp only [h1, and_self, decide_true, cond_true, Bool.true_and]
    by_cases h2 : 2 ≤ q ∧ q ≤ p - 1
    · have hq : guardO (q != 0) = some () := guardO_of (by simp; omega)
      simp only [h2, and_self, decide_true, cond_true, Bool.true_and, hq, bindO_some', tmod_nn (show 0 ≤ p - 1 by omega)]
      by_cases h3 : (p - 1) % q = 0
      · simp only [h3, beq_self_eq_true, cond_true, Bool.true_and]
        by_cases h4 : 2 ≤ g ∧ g ≤ p - 1
        · simp only [h4, and_self, decide_true, cond_true, Bool.true_and, power_eq (show q ≤ 9223372036854775807 by omega), nPower_eq (show 0 ≤ g by omega) (show g ≤ 3000000000 by omega) (show 0 ≤ q by omega) (show q ≤ 9223372036854775807 by omega) (show 1 ≤ p by omega) (show p ≤ 3000000000 by omega), bindO_some',
            isPrime_eq (show q ≤ 2000000000 by omega), isPrime_eq (show p ≤ 2000000000 by omega)]
          cases (g ^ q.toNat % p == 1) <;> cases isP q <;> cases isP p <;> rfl
        · simp [h4]
      · have hb : ((p - 1) % q == 0) = false := by simpa using h3
        simp [hb]
    · simp [h2]
  · simp [h1]

/-- What a valid group fulfils. -/
structure Gr (p q g : Int) : Prop where
  p3 : 3 ≤ p
  pm : p ≤ 2000000000
  q2 : 2 ≤ q
  qp : q ≤ p - 1
  dv : (p - 1) % q = 0
  g2 : 2 ≤ g
  gp : g ≤ p - 1
  gq : g ^ q.toNat % p = 1
  pq : isP q = true
  pp : isP p = true

theorem okG_spec {p q g : Int} (h : okG p q g = true) : Gr p q g := by
  simp only [okG, Bool.and_eq_true, decide_eq_true_eq, beq_iff_eq] at h
  obtain ⟨⟨h1, h2⟩, ⟨h3, h4⟩, h5, ⟨h6, h7⟩, h8, h9, h10⟩ := h
  exact ⟨h1, h2, h3, h4, h5, h6, h7, h8, h9, h10⟩

theorem nMod_eq {a m : Int} (hm : 1 ≤ m) (hm2 : m ≤ 4611686018427387903) : M_S_nMod (a, m) = some (a % m) := by
  unfold M_S_nMod
  have hg : guardO (m != 0) = some () := guardO_of (by simp; omega)
  have h1 := Int.tmod_lt_of_pos a (show 0 < m by omega)
  have h2 : -m < a.tmod m := Int.lt_tmod_of_pos a (by omega)
  simp only [hg, bindO_some', i64_in (a.tmod m + m) (by omega), tmod_nn (show 0 ≤ a.tmod m + m by omega)]
  congr 1
  rw [Int.add_emod_right]
  have h3 := Int.mul_tdiv_add_tmod a m
  have : a % m = (m * a.tdiv m + a.tmod m) % m := by rw [h3]
  rw [this, Int.mul_add_emod_self_left]

theorem mod_eq {x : Int × Int} : M_I_mod x = M_S_nMod x := rfl

theorem gExp_eq {p q g x e : Int} (h : Gr p q g) (hx : 0 ≤ x) (hx2 : x ≤ p) : M_S_gExp ((p, q, g), x, e) = some (x ^ (e % q).toNat % p) := by
  unfold M_S_gExp
  have := h.p3; have := h.pm; have := h.q2; have := h.qp
  have h1 := Int.emod_nonneg e (show q ≠ 0 by omega)
  have h2 := Int.emod_lt_of_pos e (show 0 < q by omega)
  dsimp only
  rw [nMod_eq (by omega) (by omega), bindO_some', nPower_eq hx (by omega) h1 (by omega) (by omega) (by omega), bindO_some']

theorem Group_pow_eq {p q g x e : Int} (h : Gr p q g) (hx : 0 ≤ x) (hx2 : x ≤ p) : M_I_Group_pow ((p, q, g), x, e) = some (x ^ (e % q).toNat % p) := by
  unfold M_I_Group_pow
  have := h.p3; have := h.pm; have := h.q2; have := h.qp
  have h1 := Int.emod_nonneg e (show q ≠ 0 by omega)
  have h2 := Int.emod_lt_of_pos e (show 0 < q by omega)
  dsimp only
  rw [mod_eq, nMod_eq (by omega) (by omega), bindO_some', power_eq (by omega), nPower_eq hx (by omega) h1 (by omega) (by omega) (by omega), bindO_some']

theorem isExp_eq {p q g e : Int} (h : Gr p q g) : M_I_Group_isExp ((p, q, g), e) = some (decide (0 ≤ e ∧ e ≤ q - 1)) := by
  unfold M_I_Group_isExp
  have := h.pm; have := h.q2; have := h.qp
  simp only [bindO_some', i64_in (q - 1) (by omega), within_eq]

theorem gExps_eq {p q g : Int} {l : List Int} (h : Gr p q g) (hl : l.length < 2 ^ 62) : M_S_gExps ((p, q, g), l) = some (l.all fun e => decide (0 ≤ e ∧ e ≤ q - 1)) := by
  unfold M_S_gExps
  have := h.pm; have := h.q2; have := h.qp
  simp only [bindO_some', i64_in (q - 1) (by omega), l1All_eq hl]

/-- Is a number an element? -/
def isEl (p q x : Int) : Bool := decide (1 ≤ x ∧ x ≤ p - 1) && x ^ q.toNat % p == 1

theorem has_eq' {p q g x : Int} (h : Gr p q g) : M_I_Group_has ((p, q, g), x) = some (isEl p q x) := by
  unfold M_I_Group_has isEl
  have := h.p3; have := h.pm; have := h.q2; have := h.qp
  simp only [bindO_some', i64_in (p - 1) (by omega), within_eq]
  by_cases hx : 1 ≤ x ∧ x ≤ p - 1
  · simp [hx, power_eq (show q ≤ 9223372036854775807 by omega), nPower_eq (show 0 ≤ x by omega) (show x ≤ 3000000000 by omega) (show 0 ≤ q by omega) (show q ≤ 9223372036854775807 by omega) (show 1 ≤ p by omega) (show p ≤ 3000000000 by omega)]
  · simp [hx]

theorem gIs_eq {p q g : Int} {l : List Int} (h : Gr p q g) (hl : l.length < 2 ^ 62) : M_S_gIs ((p, q, g), l) = some (l.all (isEl p q)) := by
  unfold M_S_gIs
  have := h.p3; have := h.pm; have := h.q2; have := h.qp
  refine (loop_walk l (fun _ a k => if (isEl p q a) = true then k else some false) (some true) (fun again i a ha hi' => ?_) (fun again => ?_) (by omega)).trans (walk_all (isEl p q) l 0)
  · simp only [getI_nat, ha, bindO_some', i64_succ (show i < 2 ^ 62 by omega), lt_yes hi', cond_true, in_eq, i64_in (p - 1) (by omega)]
    by_cases hx : 1 ≤ a ∧ a ≤ p - 1
    · simp only [isEl, hx, and_self, decide_true, Bool.not_true, cond_false, Bool.true_and, nPower_eq (show 0 ≤ a by omega) (show a ≤ 3000000000 by omega) (show 0 ≤ q by omega) (show q ≤ 9223372036854775807 by omega) (show 1 ≤ p by omega) (show p ≤ 3000000000 by omega), bindO_some']
      by_cases h1 : a ^ q.toNat % p = 1 <;> simp [h1, bne_dec]
    · simp [isEl, hx]
  · simp

theorem isEl_range {p q x : Int} (h : isEl p q x = true) : 1 ≤ x ∧ x ≤ p - 1 ∧ x ^ q.toNat % p = 1 := by
  simp only [isEl, Bool.and_eq_true, decide_eq_true_eq, beq_iff_eq] at h
  exact ⟨h.1.1, h.1.2, h.2⟩

/-- A product of residues. -/
def prodM (p : Int) : Int → List Int → Int
  | out, [] => out
  | out, x :: l => prodM p (out * x % p) l

theorem prodM_range {p : Int} (hp : 1 ≤ p) : ∀ (l : List Int) (out : Int), 0 ≤ out → out < p ∨ l ≠ [] → 0 ≤ prodM p out l ∧ (prodM p out l < p)
  | [], out, h, h2 => ⟨h, h2.resolve_right (by simp)⟩
  | x :: l, out, h, _ => prodM_range hp l _ (Int.emod_nonneg _ (by omega)) (.inl (Int.emod_lt_of_pos _ (by omega)))

theorem gMul_loop {p : Int} (hp : 1 ≤ p) (hp2 : p ≤ 3000000000) (l : List Int) (hx : ∀ x ∈ l, 0 ≤ x ∧ x ≤ 3000000000) (hl : l.length < 2 ^ 62) {body : (Int × Int → Option Int) → Int × Int → Option Int} 
    (h : ∀ (again : Int × Int → Option Int) (s : Int × Int), body again s = (cond (decide (s.2 < ((l.length : Nat) : Int))) (bindO (getI l s.2) fun a => bindO (some (IntKind.wrap .i64 (s.1 * a))) fun b => bindO (guardO (p != 0)) fun _ => bindO (some (b.tmod p)) fun c => bindO (some (IntKind.wrap .i64 (s.2 + 1))) fun d => again (c, d)) (some s.1))) :
    loopO body (1, 0) = some (prodM p 1 l) := by
  have hg : guardO (p != 0) = some () := guardO_of (by simp; omega)
  refine (loopO_for (σ := Int) (fun i s => (s, (i : Int))) l.length (fun i s => some (prodM p s (l.drop i))) (fun _ s => 0 ≤ s ∧ s ≤ 3000000000) (fun again s hs => ?_) (fun again i s hi hs ih => ?_) (by omega) (i := 0) (s := 1) (Nat.zero_le _) ⟨by omega, by omega⟩).trans (by simp)
  · rw [h]; simp [prodM]
  · have hm := hx l[i] (List.getElem_mem hi)
    have hb := mul_in hs.1 hs.2 hm.1 hm.2
    have h1 := Int.emod_nonneg (s * l[i]) (show p ≠ 0 by omega)
    have h2 := Int.emod_lt_of_pos (s * l[i]) (show 0 < p by omega)
    rw [h]
    simp only [lt_yes hi, cond_true, getI_nat, List.getElem?_eq_getElem hi, bindO_some', hg, i64_succ (show i < 2 ^ 62 by omega), i64_in (s * l[i]) (by omega), tmod_nn hb.1]
    rw [ih _ ⟨h1, by omega⟩, List.drop_eq_getElem_cons hi, prodM]

theorem gMul_eq {p q g : Int} {l : List Int} (h : Gr p q g) (hx : ∀ x ∈ l, 0 ≤ x ∧ x ≤ 3000000000) (hl : l.length < 2 ^ 62) : M_S_gMul ((p, q, g), l) = some (prodM p 1 l) := by
  unfold M_S_gMul
  have := h.p3; have := h.pm
  exact gMul_loop (by omega) (by omega) l hx hl fun _ _ => rfl

theorem Group_mul_eq {p q g : Int} {l : List Int} (h : Gr p q g) (hx : ∀ x ∈ l, 0 ≤ x ∧ x ≤ 3000000000) (hl : l.length < 2 ^ 62) : M_I_Group_mul ((p, q, g), l) = some (prodM p 1 l) := by
  unfold M_I_Group_mul
  have := h.p3; have := h.pm
  exact gMul_loop (by omega) (by omega) l hx hl fun _ _ => rfl

def hstep (c s k : Int) : Int := (c * s + k + 1) % 2147483647

def absorb (s : Int × Int) (x : Int) : Int × Int :=
  (hstep 48271 (hstep 48271 s.1 (x % 2147483648)) (x / 2147483648), hstep 69621 (hstep 69621 s.2 (x % 2147483648)) (x / 2147483648))

def digest (l : List Int) : Int := ((l.foldl absorb (absorb (1, 2) (l.length : Int))).1) * 2147483648 + (l.foldl absorb (absorb (1, 2) (l.length : Int))).2

def HOk (s : Int × Int) : Prop := 0 ≤ s.1 ∧ s.1 < 2147483648 ∧ 0 ≤ s.2 ∧ s.2 < 2147483648

theorem hstep_range (c s k : Int) : 0 ≤ hstep c s k ∧ hstep c s k < 2147483647 :=
  ⟨Int.emod_nonneg _ (by omega), Int.emod_lt_of_pos _ (by omega)⟩

theorem absorb_ok (s : Int × Int) (x : Int) : HOk (absorb s x) := by
  have h1 := hstep_range 48271 (hstep 48271 s.1 (x % 2147483648)) (x / 2147483648)
  have h2 := hstep_range 69621 (hstep 69621 s.2 (x % 2147483648)) (x / 2147483648)
  exact ⟨h1.1, by show hstep _ _ _ < _; omega, h2.1, by show hstep _ _ _ < _; omega⟩

theorem foldl_ok : ∀ (l : List Int) (s : Int × Int), HOk s → HOk (l.foldl absorb s)
  | [], _, h => h
  | x :: l, s, _ => foldl_ok l _ (absorb_ok s x)

theorem digest_range (l : List Int) : 0 ≤ digest l ∧ digest l ≤ 4611686018427387903 := by
  have h := foldl_ok l _ (absorb_ok (1, 2) (l.length : Int))
  obtain ⟨h1, h2, h3, h4⟩ := h
  unfold digest
  omega

theorem hstep_walk {c s k : Int} (hc : c = 48271 ∨ c = 69621) (hs : 0 ≤ s ∧ s < 2147483648) (hk : 0 ≤ k ∧ k < 2147483648) :
    (IntKind.wrap .i64 (IntKind.wrap .i64 (IntKind.wrap .i64 (c * s) + k) + 1)).tmod 2147483647 = hstep c s k := by
  have h1 : 0 ≤ c * s ∧ c * s ≤ 69621 * 2147483648 := ⟨Int.mul_nonneg (by omega) hs.1, Int.mul_le_mul (by omega) (by omega) hs.1 (by omega)⟩
  rw [i64_in (c * s) (by omega), i64_in (c * s + k) (by omega), i64_in (c * s + k + 1) (by omega), tmod_nn (by omega)]
  rfl

theorem absorb_eq {s : Int × Int} {x : Int} (hs : HOk s) (h0 : 0 ≤ x) (h1 : x ≤ 4611686018427387903) : M_S_l3State_absorb (s, x) = some (absorb s x) := by
  unfold M_S_l3State_absorb
  obtain ⟨h2, h3, h4, h5⟩ := hs
  have hg : guardO ((2147483648 : Int) != 0) = some () := rfl
  have hg2 : guardO ((2147483647 : Int) != 0) = some () := rfl
  dsimp only
  rw [hg]
  simp only [bindO_some', tmod_nn h0, tdiv_nn h0]
  rw [i64_in (x / 2147483648) (by omega)]
  have hb : 0 ≤ x % 2147483648 ∧ x % 2147483648 < 2147483648 := by omega
  have ha : 0 ≤ x / 2147483648 ∧ x / 2147483648 < 2147483648 := by omega
  have hm : ∀ k ∈ [x % 2147483648, x / 2147483648], 0 ≤ k ∧ k < 2147483648 := fun k hk => by
    simp only [List.mem_cons, List.not_mem_nil, or_false] at hk
    rcases hk with rfl | rfl
    · exact hb
    · exact ha
  have hg3 : ∀ (c s k : Int), 0 ≤ hstep c s k ∧ hstep c s k < 2147483648 := fun c s k => by have := hstep_range c s k; omega
  refine (loop_walkI (fun i (s : Int × Int) => (i, (s.1, s.2))) [x % 2147483648, x / 2147483648] (fun _ k s c => c (hstep 48271 s.1 k, hstep 69621 s.2 k)) (fun s => some (s.1, s.2)) (fun _ s => HOk s)
    (fun i a s k k' ha hs hk => hk _ ⟨(hg3 _ _ _).1, (hg3 _ _ _).2, (hg3 _ _ _).1, (hg3 _ _ _).2⟩) (fun again i a t ha hi ht => ?_) (fun again s hs => ?_) (by show (2 : Nat) < 2 ^ 64; omega) (s.1, s.2) ⟨h2, h3, h4, h5⟩).trans rfl
  · have hk := hm a (List.mem_of_getElem? ha)
    have hi2 : i < 2 := hi
    simp only [lt_yes hi, cond_true, getI_nat, ha, hg2, bindO_some', hstep_walk (.inl rfl) ⟨ht.1, ht.2.1⟩ hk, hstep_walk (.inr rfl) ⟨ht.2.2.1, ht.2.2.2⟩ hk, i64_succ (show i < 2 ^ 62 by omega)]
  · simp only [lt_no, cond_false]

theorem hInts_eq {l : List Int} (hl : l.length < 2 ^ 40) (hx : ∀ x ∈ l, 0 ≤ x ∧ x ≤ 4611686018427387903) : M_S_hInts l = some (digest l) := by
  unfold M_S_hInts
  rw [absorb_eq (⟨by omega, by omega, by omega, by omega⟩ : HOk (1, 2)) (by omega) (by omega), bindO_some']
  refine (loopO_for (σ := Int × Int) (fun i s => ((i : Int), (s.1, s.2))) l.length (fun i s => some (((l.drop i).foldl absorb s).1 * 2147483648 + ((l.drop i).foldl absorb s).2)) (fun _ s => HOk s) (fun again s hs => ?_) (fun again i s hi hs ih => ?_) (by omega) (i := 0) (s := absorb (1, 2) (l.length : Int)) (Nat.zero_le _) (absorb_ok _ _)).trans rfl
  · obtain ⟨h1, h2, h3, h4⟩ := hs
    simp only [lt_no, cond_false, List.drop_length, List.foldl_nil, bindO_some']
    rw [i64_in (s.1 * 2147483648) (by omega), i64_in (s.1 * 2147483648 + s.2) (by omega)]
  · have hm := hx l[i] (List.getElem_mem hi)
    simp only [lt_yes hi, cond_true, getI_nat, List.getElem?_eq_getElem hi, bindO_some', absorb_eq (s := (s.1, s.2)) hs hm.1 hm.2, i64_succ (show i < 2 ^ 62 by omega)]
    rw [ih _ (absorb_ok _ _), List.drop_eq_getElem_cons hi, List.foldl_cons]

theorem bits_mask {x : Int} (h : 0 ≤ x) (h2 : x ≤ 9223372036854775807) : Vd.bits .and .i64 x 2147483647 = x % 2147483648 := by
  obtain ⟨n, rfl⟩ := Int.eq_ofNat_of_zero_le h
  have h1 : (BitVec.ofInt 64 ((n : Nat) : Int) &&& BitVec.ofInt 64 2147483647).toNat = n % 2147483648 := by
    rw [BitVec.toNat_and]
    have e1 : (BitVec.ofInt 64 ((n : Nat) : Int)).toNat = n % 2 ^ 64 := by simp
    have e2 : (BitVec.ofInt 64 2147483647).toNat = 2 ^ 31 - 1 := by decide
    rw [e1, e2, Nat.and_two_pow_sub_one_eq_mod]
    omega
  show IntKind.wrap .i64 (((BitVec.ofInt 64 ((n : Nat) : Int) &&& BitVec.ofInt 64 2147483647).toNat : Nat) : Int) = _
  rw [h1, i64_in _ (by omega)]
  omega

theorem shr_31 {x : Int} : Vd.shr .i64 x 31 = x / 2147483648 := by
  show x.fdiv (2 ^ (min (31 : Int).toNat 64)) = _
  rw [show ((2 : Int) ^ (min (31 : Int).toNat 64)) = 2147483648 by decide, fdiv_pos (by omega)]

theorem shl_31 {x : Int} : Vd.shl .i64 x 31 = IntKind.wrap .i64 (x * 2147483648) := by
  show IntKind.wrap .i64 (x * (2 ^ (min (31 : Int).toNat 64))) = _
  rw [show ((2 : Int) ^ (min (31 : Int).toNat 64)) = 2147483648 by decide]

theorem hash_eq {l : List Int} (hl : l.length < 2 ^ 30) (hx : ∀ x ∈ l, 0 ≤ x ∧ x ≤ 4611686018427387903) : M_I_hash l = some (digest l) := by
  unfold M_I_hash
  have hg31 : guardO (decide ((0 : Int) ≤ 31)) = some () := rfl
  have hg2 : guardO ((2147483647 : Int) != 0) = some () := rfl
  rw [guardO_of (lenOk_of (by simp; omega)), bindO_some', bindO_some']
  have hL : ∀ x ∈ ((l.length : Int) :: l), 0 ≤ x ∧ x ≤ 4611686018427387903 := fun x h => by
    rcases List.mem_cons.1 h with rfl | h
    · omega
    · exact hx x h
  have e : [((l.length : Nat) : Int)] ++ l = ((l.length : Int) :: l) := rfl
  rw [e]
  have hlen : ((l.length : Int) :: l).length = l.length + 1 := rfl
  generalize hLL : ((l.length : Int) :: l) = L at hL hlen
  refine (loopO_for (σ := Int × Int) (fun i s => (s.1, (s.2, (i : Int)))) L.length (fun i s => some (((L.drop i).foldl absorb s).1 * 2147483648 + ((L.drop i).foldl absorb s).2)) (fun _ s => HOk s) (fun again s hs => ?_) (fun again i s hi hs ih => ?_) (by omega) (i := 0) (s := (1, 2)) (Nat.zero_le _) ⟨by decide, by decide, by decide, by decide⟩).trans (by rw [← hLL]; rfl)
  · obtain ⟨h1, h2, h3, h4⟩ := hs
    simp only [lt_no, cond_false, List.drop_length, List.foldl_nil, bindO_some', hg31, shl_31]
    rw [i64_in (s.1 * 2147483648) (by omega), i64_in (s.1 * 2147483648 + s.2) (by omega)]
  · have hm := hL L[i] (List.getElem_mem hi)
    obtain ⟨h1, h2, h3, h4⟩ := hs
    have hb : 0 ≤ L[i] % 2147483648 ∧ L[i] % 2147483648 < 2147483648 := by omega
    have ha : 0 ≤ L[i] / 2147483648 ∧ L[i] / 2147483648 < 2147483648 := by omega
    have r1 := hstep_range 48271 s.1 (L[i] % 2147483648)
    have r2 := hstep_range 69621 s.2 (L[i] % 2147483648)
    simp only [lt_yes hi, cond_true, getI_nat, List.getElem?_eq_getElem hi, bindO_some', hg31, hg2, shr_31, bits_mask hm.1 (by omega), hstep_walk (.inl rfl) ⟨h1, h2⟩ hb, hstep_walk (.inr rfl) ⟨h3, h4⟩ hb,
      hstep_walk (.inl rfl) (⟨r1.1, by omega⟩ : 0 ≤ hstep 48271 s.1 (L[i] % 2147483648) ∧ _) ha, hstep_walk (.inr rfl) (⟨r2.1, by omega⟩ : 0 ≤ hstep 69621 s.2 (L[i] % 2147483648) ∧ _) ha, i64_succ (show i < 2 ^ 62 by omega)]
    rw [List.drop_eq_getElem_cons hi, List.foldl_cons, ← ih (absorb s L[i]) (absorb_ok _ _)]
    rfl

def lab (s : ByteArray) (l : List Int) : List Int := (s.size : Int) :: (ofStr s ++ l)

theorem ofStr_length (s : ByteArray) : (ofStr s).length = s.size := by
  unfold ofStr
  rw [List.length_map, Array.length_toList]
  rfl

theorem ofStr_get {s : ByteArray} {i : Nat} (h : i < s.size) : ∃ b : UInt8, s[i]? = some b ∧ (ofStr s)[i]? = some ((b.toNat : Nat) : Int) := by
  refine ⟨s[i], by simp [h], ?_⟩
  have h' : i < s.data.size := h
  simp only [ofStr, List.getElem?_map]
  rw [List.getElem?_eq_getElem (by simpa using h')]
  rfl

theorem ofStr_range {s : ByteArray} {x : Int} (h : x ∈ ofStr s) : 0 ≤ x ∧ x ≤ 255 := by
  simp only [ofStr, List.mem_map] at h
  obtain ⟨b, _, rfl⟩ := h
  have := b.toNat_lt
  omega

theorem label_loop {s : ByteArray} {l : List Int} (hs : s.size < 2 ^ 30) (hl : l.length < 2 ^ 30) : M_S_l3With (s, l) = some (lab s l) := by
  unfold M_S_l3With
  refine (loopO_for (σ := List Int) (fun i a => (a, (i : Int))) s.size (fun i a => some (lab s l)) (fun i a => a = (s.size : Int) :: (ofStr s).take i) (fun again a ha => ?_) (fun again i a hi ha ih => ?_) (by omega) (i := 0) (s := [(s.size : Int)]) (Nat.zero_le _) (by simp)).trans rfl
  · subst ha
    have ht : (ofStr s).take s.size = ofStr s := by rw [← ofStr_length, List.take_length]
    have hlen := ofStr_length s
    simp only [lt_no, cond_false, ht]
    rw [guardO_of (lenOk_of (by simp [hlen]; omega))]
    rfl
  · subst ha
    obtain ⟨b, h1, h2⟩ := ofStr_get hi
    have hb := b.toNat_lt
    have hlen := ofStr_length s
    simp only [lt_yes hi, cond_true, Int.toNat_natCast, h1]
    rw [if_pos (by omega)]
    simp only [bindO_some', i64_in ((b.toNat : Nat) : Int) (by omega), i64_succ (show i < 2 ^ 62 by omega)]
    rw [guardO_of (lenOk_of (by simp; omega)), bindO_some']
    refine ih _ ?_
    rw [List.take_add_one, h2]
    simp

theorem labelled_eq (x : ByteArray × List Int) : M_I_labelled x = M_S_l3With x := rfl

/-- What can be hashed. -/
def okD (l : List Int) : Bool := l.all fun n => decide (0 ≤ n ∧ n ≤ 4611686018427387903)

theorem okD_spec {l : List Int} (h : okD l = true) : ∀ x ∈ l, 0 ≤ x ∧ x ≤ 4611686018427387903 := fun x hx => by
  simpa using List.all_eq_true.1 h x hx

theorem lab_range {s : ByteArray} {l : List Int} (hs : s.size < 2 ^ 30) (h : okD l = true) : ∀ x ∈ lab s l, 0 ≤ x ∧ x ≤ 4611686018427387903 := fun x hx => by
  rcases List.mem_cons.1 hx with rfl | hx
  · omega
  · rcases List.mem_append.1 hx with hx | hx
    · have := ofStr_range hx
      omega
    · exact okD_spec h x hx

theorem lab_okD {s : ByteArray} {l : List Int} (hs : s.size < 2 ^ 30) : okD (lab s l) = okD l := by
  have h1 : ∀ x ∈ ofStr s, decide (0 ≤ x ∧ x ≤ 4611686018427387903) = true := fun x hx => by
    have := ofStr_range hx
    simp only [decide_eq_true_eq]
    omega
  unfold okD lab
  rw [List.all_cons, List.all_append, List.all_eq_true.2 h1]
  have : decide (0 ≤ ((s.size : Nat) : Int) ∧ ((s.size : Nat) : Int) ≤ 4611686018427387903) = true := by
    simp only [decide_eq_true_eq]
    omega
  rw [this]
  rfl

/-- What HashLabelled answers. -/
def hashL (s : ByteArray) (l : List Int) : Int × Bool := if s.size ≤ 40 ∧ okD l = true ∧ 1 + s.size + l.length ≤ 400 then (digest (lab s l), true) else (0, false)

theorem hLabelled_eq {s : ByteArray} {l : List Int} (hs : s.size < 2 ^ 30) (hl : l.length < 2 ^ 30) (h : okD l = true) : M_S_hLabelled (s, l) = some (digest (lab s l)) := by
  unfold M_S_hLabelled
  have hlen : (lab s l).length < 2 ^ 40 := by simp [lab, ofStr_length]; omega
  simp only [label_loop hs hl, bindO_some', hInts_eq hlen (lab_range hs h)]

theorem areDigests_eq {l : List Int} : M_I_areDigests l = some (decide (l.length ≤ 400) && okD l) := by
  unfold M_I_areDigests
  by_cases h : l.length ≤ 400
  · have e1 : decide (((l.length : Nat) : Int) ≤ 400) = true := by simp; omega
    rw [e1, cond_true, areAll_eq (p := fun n => decide (0 ≤ n ∧ n ≤ 4611686018427387903)) (by omega) fun a _ => by simp [M_I_isDigest, within_eq], bindO_some']
    simp [h, okD]
  · have e1 : decide (((l.length : Nat) : Int) ≤ 400) = false := by simp; omega
    simp [e1, h]

theorem I_HashInts_eq {l : List Int} : M_I_HashInts l = some (if l.length ≤ 400 ∧ okD l = true then (digest l, true) else (0, false)) := by
  unfold M_I_HashInts
  rw [areDigests_eq, bindO_some']
  by_cases h : l.length ≤ 400 ∧ okD l = true
  · rw [if_pos h, hash_eq (by omega) (okD_spec h.2)]
    simp [h.1, h.2]
  · rw [if_neg h]
    have : (decide (l.length ≤ 400) && okD l) = false := by
      rw [Bool.and_eq_false_iff, decide_eq_false_iff_not]
      by_cases h1 : l.length ≤ 400
      · right
        cases h2 : okD l
        · rfl
        · exact absurd ⟨h1, h2⟩ h
      · exact .inl h1
    rw [this]
    rfl

theorem I_HashLabelled_eq {s : ByteArray} {l : List Int} : M_I_HashLabelled (s, l) = some (hashL s l) := by
  unfold M_I_HashLabelled hashL
  by_cases h1 : s.size ≤ 40
  · by_cases h2 : l.length ≤ 400
    · have e1 : decide (((s.size : Nat) : Int) > 40) = false := by simp; omega
      have e2 : decide (((l.length : Nat) : Int) > 400) = false := by simp; omega
      simp only [e1, e2, cond_false]
      rw [labelled_eq, label_loop (by omega) (by omega), bindO_some', I_HashInts_eq, bindO_some', lab_okD (by omega)]
      have e3 : ((lab s l).length ≤ 400 ∧ okD l = true) ↔ (s.size ≤ 40 ∧ okD l = true ∧ 1 + s.size + l.length ≤ 400) := by
        simp only [lab, List.length_cons, List.length_append, ofStr_length]
        constructor
        · rintro ⟨a, b⟩; exact ⟨h1, b, by omega⟩
        · rintro ⟨a, b, c⟩; exact ⟨by omega, b⟩
      simp only [e3]
    · have e1 : decide (((s.size : Nat) : Int) > 40) = false := by simp; omega
      have e2 : decide (((l.length : Nat) : Int) > 400) = true := by simp; omega
      rw [if_neg (fun h => by omega)]
      simp only [e1, e2, cond_false, cond_true]
  · have e1 : decide (((s.size : Nat) : Int) > 40) = true := by simp; omega
    rw [if_neg (fun h => h1 h.1)]
    simp only [e1, cond_true]

theorem gInv_eq {p q g x : Int} (h : Gr p q g) (hx : 0 ≤ x) (hx2 : x ≤ p) : M_S_gInv ((p, q, g), x) = some (x ^ (q - 1).toNat % p) := by
  unfold M_S_gInv
  have := h.p3; have := h.pm; have := h.q2; have := h.qp
  dsimp only
  rw [i64_in (q - 1) (by omega), bindO_some', nPower_eq hx (by omega) (by omega) (by omega) (by omega) (by omega), bindO_some']

theorem Group_inv_eq {p q g x : Int} (h : Gr p q g) (hx : 0 ≤ x) (hx2 : x ≤ p) : M_I_Group_inv ((p, q, g), x) = some (x ^ (q - 1).toNat % p) := by
  unfold M_I_Group_inv
  have := h.q2
  have e : (-1 : Int) % q = q - 1 := by
    rw [Int.emod_def]
    have : (-1 : Int) / q = -1 := by
      rw [Int.ediv_eq_iff_of_pos (by omega)]
      omega
    rw [this]
    omega
  dsimp only
  rw [Group_pow_eq h hx hx2, bindO_some', e]

theorem inv_range {p q x : Int} (hp : 1 ≤ p) : 0 ≤ x ^ (q - 1).toNat % p ∧ x ^ (q - 1).toNat % p < p :=
  ⟨Int.emod_nonneg _ (by omega), Int.emod_lt_of_pos _ (by omega)⟩

theorem pow_range {p x : Int} {k : Nat} (hp : 1 ≤ p) : 0 ≤ x ^ k % p ∧ x ^ k % p < p :=
  ⟨Int.emod_nonneg _ (by omega), Int.emod_lt_of_pos _ (by omega)⟩

/-- Is a cipher one of elements? -/
def isCi (p q : Int) (c : Int × Int) : Bool := isEl p q c.1 && isEl p q c.2

theorem hasCipher_eq {p q g : Int} {c : Int × Int} (h : Gr p q g) : M_I_Group_hasCipher ((p, q, g), c) = some (isCi p q c) := by
  unfold M_I_Group_hasCipher isCi
  simp only [has_eq' h, bindO_some']
  cases isEl p q c.1 <;> simp

theorem eGood_eq {p q g : Int} {l : List (Int × Int)} (h : Gr p q g) : M_S_eGood ((p, q, g), l) = some (decide (l.length ≤ 24) && l.all (isCi p q)) := by
  unfold M_S_eGood
  by_cases hl : l.length ≤ 24
  · have e1 : decide (((l.length : Nat) : Int) > 24) = false := by simp; omega
    dsimp only
    rw [e1, cond_false]
    simp only [hl, decide_true, Bool.true_and]
    refine (loop_walk l (fun _ a k => if (isCi p q a) = true then k else some false) (some true) (fun again i a ha hi' => ?_) (fun again => ?_) (by omega)).trans (walk_all (isCi p q) l 0)
    · simp only [getI_nat, ha, bindO_some', i64_succ (show i < 2 ^ 62 by omega), lt_yes hi', cond_true, gIs_eq h (show [a.1, a.2].length < 2 ^ 62 by show (2 : Nat) < _; omega)]
      have : [a.1, a.2].all (isEl p q) = isCi p q a := by simp [isCi]
      rw [this]
      cases isCi p q a <;> rfl
    · simp
  · have e1 : decide (((l.length : Nat) : Int) > 24) = true := by simp; omega
    simp [e1, hl]

/-- a over b. -/
def over (p q a b : Int) : Int := prodM p 1 [a, b ^ (q - 1).toNat % p]

theorem over_eq {p q g a b : Int} (h : Gr p q g) (ha : 0 ≤ a ∧ a ≤ p) (hb : 0 ≤ b ∧ b ≤ p) : M_I_Group_over ((p, q, g), a, b) = some (over p q a b) := by
  unfold M_I_Group_over over
  have := h.p3; have := h.pm
  have hr := inv_range (q := q) (x := b) (show 1 ≤ p by omega)
  simp only [Group_inv_eq h hb.1 hb.2, bindO_some']
  rw [Group_mul_eq h (fun x hx => ?_) (by show (2 : Nat) < _; omega)]
  · rfl
  · simp only [List.mem_cons, List.not_mem_nil, or_false] at hx
    rcases hx with rfl | rfl <;> omega

theorem mul2 {p q g a b : Int} (h : Gr p q g) (ha : 0 ≤ a ∧ a ≤ p) (hb : 0 ≤ b ∧ b ≤ p) : M_S_gMul ((p, q, g), [a, b]) = some (prodM p 1 [a, b]) := by
  have := h.p3; have := h.pm
  refine gMul_eq h (fun x hx => ?_) (by show (2 : Nat) < _; omega)
  simp only [List.mem_cons, List.not_mem_nil, or_false] at hx
  rcases hx with rfl | rfl <;> omega

theorem mul2' {p q g a b : Int} (h : Gr p q g) (ha : 0 ≤ a ∧ a ≤ p) (hb : 0 ≤ b ∧ b ≤ p) : M_I_Group_mul ((p, q, g), [a, b]) = some (prodM p 1 [a, b]) := by
  have := h.p3; have := h.pm
  refine Group_mul_eq h (fun x hx => ?_) (by show (2 : Nat) < _; omega)
  simp only [List.mem_cons, List.not_mem_nil, or_false] at hx
  rcases hx with rfl | rfl <;> omega

theorem prod_range {p : Int} {l : List Int} (hp : 2 ≤ p) : 0 ≤ prodM p 1 l ∧ prodM p 1 l < p := prodM_range (by omega) l 1 (by omega) (.inl (by omega))

theorem toGroup_eq (x : Int × Int × Int) : M_L_toGroup x = some x := rfl

theorem toCipher_eq (x : Int × Int) : M_L_toCipher x = some x := rfl

theorem set_take_succ {α : Type} {x s : List α} {i : Nat} {a : α} (hx : x[i]? = some a) (hs : s.length = x.length) (ht : s.take i = x.take i) : (s.set i a).take (i + 1) = x.take (i + 1) := by
  have hi : i < x.length := (List.getElem?_eq_some_iff.1 hx).1
  rw [List.take_add_one, List.take_add_one, hx, List.take_set, List.getElem?_set_self (by omega), ← ht]
  congr 1
  rw [List.set_eq_of_length_le (by rw [List.length_take]; omega)]

/-- A list is written anew, element by element. -/
theorem copy_loop {α : Type} (x : List α) (z : α) {body : (Int × List α → Option (List α)) → Int × List α → Option (List α)}
    (h : ∀ (again : Int × List α → Option (List α)) (i : Nat) a (s : List α), x[i]? = some a → i < x.length → s.length = x.length → body again ((i : Int), s) = again (((i + 1 : Nat) : Int), s.set i a))
    (hend : ∀ (again : Int × List α → Option (List α)) (s : List α), s.length = x.length → body again ((x.length : Int), s) = some s) (hl : x.length < 2 ^ 62) : loopO body (0, List.replicate x.length z) = some x := by
  refine (loopO_for (σ := List α) (fun i s => ((i : Int), s)) x.length (fun i s => some x) (fun i s => s.length = x.length ∧ s.take i = x.take i) (fun again s hs => ?_) (fun again i s hi hs ih => ?_) (by omega) (i := 0) (s := List.replicate x.length z) (Nat.zero_le _) (by simp)).trans rfl
  · rw [hend again s hs.1]
    have := hs.2
    rw [List.take_length, ← hs.1, List.take_length] at this
    rw [this]
  · have ha := List.getElem?_eq_getElem hi
    rw [h again i x[i] s ha hi hs.1]
    exact ih _ ⟨by simp [hs.1], set_take_succ ha hs.1 hs.2⟩

/-- Two lists are compared, element by element. -/
theorem eq_loop {α : Type} [DecidableEq α] (a b : List α) (hab : a.length = b.length) {body : (Int → Option Bool) → Int → Option Bool}
    (h : ∀ (again : Int → Option Bool) (i : Nat) x y, a[i]? = some x → b[i]? = some y → i < a.length → body again (i : Int) = if x = y then again ((i + 1 : Nat) : Int) else some false)
    (hend : ∀ (again : Int → Option Bool), body again (a.length : Int) = some true) (hl : a.length < 2 ^ 62) : loopO body 0 = some (decide (a = b)) := by
  refine (loopO_for (σ := Unit) (fun i _ => (i : Int)) a.length (fun i _ => some (decide (a.drop i = b.drop i))) (fun _ _ => True) (fun again _ _ => ?_) (fun again i _ hi _ ih => ?_) (by omega) (i := 0) (s := ()) (Nat.zero_le _) trivial).trans (by simp)
  · rw [hend]; simp [hab]
  · have hi' : i < b.length := by omega
    rw [h again i a[i] b[i] (List.getElem?_eq_getElem hi) (List.getElem?_eq_getElem hi') hi, ih () trivial, List.drop_eq_getElem_cons hi, List.drop_eq_getElem_cons hi']
    by_cases he : a[i] = b[i] <;> simp [he, -List.getElem_cons_drop]

theorem szIntS_eq {a : List Int} {left : Int} (h0 : 0 ≤ left) (h1 : left ≤ 1048576) (hl : a.length < 2 ^ 63) : M_L_szIntS (a, left) = some (if left < a.length then -1 else left - a.length) := by
  unfold M_L_szIntS
  simp only [i64_in (left - (a.length : Int)) (by omega), bindO_some']
  by_cases h : left < a.length
  · rw [if_pos h]
    have : left - (a.length : Int) < 0 := by omega
    simp [this]
  · rw [if_neg h]
    have : ¬ left - (a.length : Int) < 0 := by omega
    simp [this]

theorem all_not_any {α : Type} {p q : α → Bool} {l : List α} (h : ∀ a ∈ l, q a = !p a) : l.all p = !l.any q := by
  induction l with
  | nil => rfl
  | cons a l ih =>
    rw [List.all_cons, List.any_cons, ih fun b hb => h b (List.mem_cons_of_mem _ hb), h a (List.mem_cons_self ..)]
    cases p a <;> simp

/-- A square of counts. -/
def okM (m : List (List Int)) : Bool := decide (1 ≤ m.length ∧ m.length ≤ 8) && m.all fun r => (r.length == m.length) && r.all fun n => decide (0 ≤ n ∧ n ≤ 1000000)

theorem Nat.beq_eq_decide_eq' (a b : Nat) : (a == b) = decide (a = b) := rfl

/-- A list is put together, element by element. -/
theorem append_loop {α β : Type} (y : List α) (fin : List α → Option β) {body : (List α × Int → Option β) → List α × Int → Option β}
    (h : ∀ (again : List α × Int → Option β) (i : Nat) a (s : List α), y[i]? = some a → i < y.length → s.length = i → body again (s, (i : Int)) = again (s ++ [a], ((i + 1 : Nat) : Int)))
    (hend : ∀ (again : List α × Int → Option β) (s : List α), s.length = y.length → body again (s, (y.length : Int)) = fin s) (hl : y.length < 2 ^ 62) : loopO body ([], 0) = fin y := by
  refine (loopO_for (σ := List α) (fun i s => (s, (i : Int))) y.length (fun i s => fin y) (fun i s => s = y.take i) (fun again s hs => ?_) (fun again i s hi hs ih => ?_) (by omega) (i := 0) (s := []) (Nat.zero_le _) (by simp)).trans rfl
  · subst hs
    rw [List.take_length]
    exact hend again y rfl
  · subst hs
    have ha := List.getElem?_eq_getElem hi
    rw [h again i y[i] _ ha hi (by simp; omega)]
    refine ih _ ?_
    rw [List.take_add_one, ha]
    rfl

theorem own_eq {l : List Int} (hl : l.length ≤ 1048576) : M_S_l1Own l = some l := by
  unfold M_S_l1Own
  rw [guardO_of (lenOk_of (by simp; omega))]
  rfl

theorem clone_eq {l : List Int} (hl : l.length ≤ 1048576) : M_slices_Clone_sint_int l = some l := by
  unfold M_slices_Clone_sint_int
  rw [guardO_of (lenOk_of (by simp; omega))]
  simp only [bindO_some', List.nil_append, Bool.not_true, cond_false]
  cases l with
  | nil => simp [ambO]
  | cons a l => rfl

def pw (p q x e : Int) : Int := x ^ (e % q).toNat % p

theorem pw_range {p q x e : Int} (hp : 1 ≤ p) : 0 ≤ pw p q x e ∧ pw p q x e < p := pow_range hp

theorem gExp_pw {p q g x e : Int} (h : Gr p q g) (hx : 0 ≤ x) (hx2 : x ≤ p) : M_S_gExp ((p, q, g), x, e) = some (pw p q x e) := gExp_eq h hx hx2

theorem pow_pw {p q g x e : Int} (h : Gr p q g) (hx : 0 ≤ x) (hx2 : x ≤ p) : M_I_Group_pow ((p, q, g), x, e) = some (pw p q x e) := Group_pow_eq h hx hx2

def inv (p q x : Int) : Int := x ^ (q - 1).toNat % p

theorem containsFuncC_eq {l : List (Int × Int)} {f : Int × Int → Option Bool} {p : Int × Int → Bool} (hl : l.length < 2 ^ 62) (hf : ∀ a ∈ l, f a = some (p a)) : M_slices_ContainsFunc_sI_Cipher_I_Cipher (l, f) = some (l.any p) := by
  obtain ⟨j, h1, h2⟩ := walk_index_mem p f l 0 hf
  unfold M_slices_ContainsFunc_sI_Cipher_I_Cipher
  have : M_slices_IndexFunc_sI_Cipher_I_Cipher (l, f) = some j := by
    unfold M_slices_IndexFunc_sI_Cipher_I_Cipher
    refine (loop_walk l _ _ (fun again i a ha hi => ?_) (fun again => ?_) (by omega)).trans h1
    · simp only [getI_nat, ha, bindO_some', i64_succ (show i < 2 ^ 62 by omega), lt_yes hi, cond_true]
    · simp
  dsimp only
  rw [this, bindO_some', h2]

theorem hasCiphers_eq {p q g : Int} {l : List (Int × Int)} (h : Gr p q g) (hl : l.length < 2 ^ 62) : M_I_Group_hasCiphers ((p, q, g), l) = some (decide (l.length ≤ 24) && l.all (isCi p q)) := by
  unfold M_I_Group_hasCiphers
  have e : decide (((l.length : Nat) : Int) ≤ 24) = decide (l.length ≤ 24) := by rw [decide_eq_decide]; omega
  dsimp only
  rw [e, containsFuncC_eq (p := fun c => !isCi p q c) hl fun a _ => ?_, bindO_some', all_not_any fun _ _ => rfl]
  · cases decide (l.length ≤ 24) <;> rfl
  · unfold M_I_Group_hasCiphers_1
    dsimp only
    rw [hasCipher_eq h]
    rfl

theorem areExps_eq {p q g : Int} {l : List Int} (h : Gr p q g) (hl : l.length < 2 ^ 62) : M_I_Group_areExps ((p, q, g), l) = some (l.all fun e => decide (0 ≤ e ∧ e ≤ q - 1)) := by
  unfold M_I_Group_areExps
  dsimp only
  rw [areAll_eq (p := fun e => decide (0 ≤ e ∧ e ≤ q - 1)) hl fun a _ => by rw [isExp_eq h]; rfl]
  rfl

theorem szCipherS_eq {a : List (Int × Int)} {left : Int} (h0 : 0 ≤ left) (h1 : left ≤ 1048576) (hl : a.length < 2 ^ 63) : M_L_szCipherS (a, left) = some (if left < a.length then -1 else left - a.length) := by
  unfold M_L_szCipherS
  simp only [i64_in (left - (a.length : Int)) (by omega), bindO_some']
  by_cases h : left < a.length
  · rw [if_pos h]
    have : left - (a.length : Int) < 0 := by omega
    simp [this]
  · rw [if_neg h]
    have : ¬ left - (a.length : Int) < 0 := by omega
    simp [this]

theorem toCipherS_eq {x : List (Int × Int)} (h : x.length ≤ 1048576) : M_L_toCipherS x = some x := by
  unfold M_L_toCipherS
  have hx : (x.length : Int) ≤ ((lim : Nat) : Int) := by rw [lim_eq]; omega
  rw [guardO_of (by simpa using hx), bindO_some', Int.toNat_natCast]
  refine copy_loop x (0, 0) (fun again i a s ha hi hs => ?_) (fun again s hs => ?_) (by omega)
  · have hsi := List.getElem?_eq_getElem (l := s) (show i < s.length by omega)
    simp only [lt_yes hi, cond_true, getI_nat, ha, hsi, bindO_some', toCipher_eq, Int.toNat_natCast, i64_succ (show i < 2 ^ 62 by omega)]
  · simp

theorem eqCipher_eq (a b : Int × Int) : M_L_eqCipher (a, b) = some (decide (a = b)) := by
  obtain ⟨a1, a2⟩ := a
  obtain ⟨b1, b2⟩ := b
  unfold M_L_eqCipher
  by_cases h1 : a1 = b1 <;> by_cases h2 : a2 = b2 <;> simp [h1, h2, bne_dec]

theorem eqCipherS_eq {a b : List (Int × Int)} (h : a.length < 2 ^ 62) : M_L_eqCipherS (a, b) = some (decide (a = b)) := by
  unfold M_L_eqCipherS
  by_cases hl : a.length = b.length
  · have e1 : ((a.length : Int) != (b.length : Int)) = false := by simp [hl]
    dsimp only
    rw [e1, cond_false]
    refine eq_loop a b hl (fun again i x y hx hy hi => ?_) (fun again => by simp) h
    simp only [lt_yes hi, cond_true, getI_nat, hx, hy, bindO_some', eqCipher_eq, i64_succ (show i < 2 ^ 62 by omega)]
    by_cases he : x = y <;> simp [he]
  · have e1 : ((a.length : Int) != (b.length : Int)) = true := by simp; omega
    dsimp only
    rw [e1, cond_true]
    congr 1
    symm
    simp only [decide_eq_false_iff_not]
    rintro rfl
    exact hl rfl

def marksC (n : Nat) (k : Int) : List (Int × Int) := (List.range n).map fun (i : Nat) => (k + 2 * (i : Int), k + 2 * (i : Int) + 1)

theorem marksC_length (n : Nat) (k : Int) : (marksC n k).length = n := by simp [marksC]

theorem marksC_get {n i : Nat} {k : Int} (h : i < n) : (marksC n k)[i]? = some (k + 2 * (i : Int), k + 2 * (i : Int) + 1) := by
  simp [marksC, h]

theorem markCipherS_eq {a : List (Int × Int)} {k : Int} (h : a.length < 2 ^ 40) (h0 : 0 ≤ k) (h1 : k < 2 ^ 40) : M_L_markCipherS (a, k) = some (k + 2 * a.length, marksC a.length k) := by
  unfold M_L_markCipherS
  refine (loopO_for (σ := Int × List (Int × Int)) (fun i s => (s.1, ((i : Int), s.2))) a.length (fun i s => some (k + 2 * a.length, marksC a.length k)) (fun i s => s.1 = k + 2 * i ∧ s.2 = marksC i k ++ a.drop i) (fun again s hs => ?_) (fun again i s hi hs ih => ?_) (by omega) (i := 0) (s := (k, a)) (Nat.zero_le _) (by simp [marksC])).trans rfl
  · obtain ⟨s1, s2⟩ := s
    obtain ⟨rfl, rfl⟩ := hs
    simp [marksC_length]
  · obtain ⟨s1, s2⟩ := s
    obtain ⟨rfl, rfl⟩ := hs
    have h2 : (marksC i k ++ a.drop i)[i]? = some a[i] := by
      rw [List.getElem?_append_right (by simp [marksC_length])]
      simp [marksC_length, hi]
    have hlen : (marksC i k ++ a.drop i).length = a.length := by simp [marksC_length]; omega
    have h3 : ((marksC i k ++ a.drop i).set i (k + 2 * (i : Int), a[i].2))[i]? = some (k + 2 * (i : Int), a[i].2) := List.getElem?_set_self (by omega)
    have h4 : ((marksC i k ++ a.drop i).set i (k + 2 * (i : Int), a[i].2)).set i (k + 2 * (i : Int), k + 2 * (i : Int) + 1) = marksC (i + 1) k ++ a.drop (i + 1) := by
      rw [List.set_set, List.set_append_right _ _ (by simp [marksC_length]), marksC_length, Nat.sub_self, List.drop_eq_getElem_cons hi, List.set_cons_zero]
      simp [marksC, List.range_succ]
    simp only [getI_nat, h2, bindO_some', Int.toNat_natCast, i64_succ (show i < 2 ^ 62 by omega), hlen, lt_yes hi, cond_true, h3]
    rw [i64_in (k + 2 * (i : Int) + 1) (by omega), i64_in (k + 2 * (i : Int) + 1 + 1) (by omega), h4]
    exact ih (k + 2 * (i : Int) + 1 + 1, marksC (i + 1) k ++ a.drop (i + 1)) ⟨by simp; omega, rfl⟩

theorem heldCipherS_eq {n : Nat} {k : Int} (h : n < 2 ^ 40) (h0 : 0 ≤ k) (h1 : k < 2 ^ 40) : M_L_heldCipherS (marksC n k, k) = some (k + 2 * n) := by
  unfold M_L_heldCipherS
  refine (loopO_for (σ := Int) (fun i s => (s, (i : Int))) n (fun i s => some (k + 2 * n)) (fun i s => s = k + 2 * i) (fun again s hs => ?_) (fun again i s hi hs ih => ?_) (by omega) (i := 0) (s := k) (Nat.zero_le _) (by simp)).trans rfl
  · subst hs; simp [marksC_length]
  · subst hs
    simp only [getI_nat, marksC_get hi, marksC_length, bindO_some', i64_succ (show i < 2 ^ 62 by omega), lt_yes hi, cond_true, bne_self_eq_false, cond_false]
    rw [i64_in (k + 2 * (i : Int) + 1) (by omega), i64_in (k + 2 * (i : Int) + 1 + 1) (by omega)]
    simp only [bne_self_eq_false, cond_false]
    exact ih (k + 2 * (i : Int) + 1 + 1) (by simp; omega)

def small (q : Int) (l : List Int) (i : Nat) : Int := 1 + digest (lab (bytesOf [115, 109, 97, 108, 108]) (l ++ [(i : Int)])) % (if 65535 < q - 1 then 65535 else q - 1)

theorem okD_snoc {l : List Int} (h : okD l = true) {i : Nat} (hi : i < 1000) : okD (l ++ [(i : Int)]) = true := by
  unfold okD at h ⊢
  rw [List.all_append, h]
  simp
  omega

/-- The challenge of a proof. -/
def chal (p q g : Int) (s : ByteArray) (l : List Int) : Int := digest (lab s ([p, q, g] ++ l)) % q

theorem chal_range {p q g : Int} (h : Gr p q g) (s : ByteArray) (l : List Int) : 0 ≤ chal p q g s l ∧ chal p q g s l ≤ q - 1 := by
  have := h.q2
  have e1 := Int.emod_nonneg (digest (lab s ([p, q, g] ++ l))) (show q ≠ 0 by omega)
  have e2 := Int.emod_lt_of_pos (digest (lab s ([p, q, g] ++ l))) (show 0 < q by omega)
  unfold chal
  omega

theorem okD_gr {p q g : Int} (h : Gr p q g) {l : List Int} (hl : okD l = true) : okD ([p, q, g] ++ l) = true := by
  have := h.p3; have := h.pm; have := h.q2; have := h.qp; have := h.g2; have := h.gp
  unfold okD at hl ⊢
  rw [List.all_append, hl]
  simp
  omega

theorem hChallenge_eq {p q g : Int} {s : ByteArray} {l : List Int} (h : Gr p q g) (hs : s.size < 2 ^ 30) (hl : okD l = true) (hn : l.length < 2 ^ 20) : M_S_hChallenge ((p, q, g), s, l) = some (chal p q g s l) := by
  unfold M_S_hChallenge
  have := h.q2
  have hr := digest_range (lab s ([p, q, g] ++ l))
  dsimp only
  rw [guardO_of (lenOk_of (by simp; omega)), bindO_some', bindO_some', hLabelled_eq hs (by simp; omega) (okD_gr h hl), bindO_some', guardO_of (by simp; omega), bindO_some', bindO_some', tmod_nn hr.1]
  rfl

theorem challenge_eq {p q g : Int} {s : ByteArray} {l : List Int} (h : Gr p q g) (hs : s.size ≤ 40) (hl : okD l = true) (hn : s.size + l.length ≤ 396) : M_I_Group_challenge ((p, q, g), s, l) = some (chal p q g s l, true) := by
  unfold M_I_Group_challenge
  have := h.q2
  have hr := digest_range (lab s ([p, q, g] ++ l))
  dsimp only
  rw [guardO_of (lenOk_of (by simp; omega)), bindO_some', bindO_some', I_HashLabelled_eq, hashL, if_pos ⟨hs, okD_gr h hl, by simp; omega⟩, bindO_some']
  simp only [Bool.not_true, cond_false]
  rw [guardO_of (by simp; omega), bindO_some', bindO_some', tmod_nn hr.1]
  rfl

theorem exp_eq {p q g n : Int} (h : Gr p q g) : M_I_Group_exp ((p, q, g), n) = some (n % q) := by
  have := h.q2; have := h.qp; have := h.pm
  unfold M_I_Group_exp
  dsimp only
  rw [mod_eq, nMod_eq (by omega) (by omega)]
  rfl

abbrev Pf := List Int × List Int × List Int

def Pf.small (a : Pf) (n : Nat) : Prop := a.1.length ≤ n ∧ a.2.1.length ≤ n ∧ a.2.2.length ≤ n

theorem eqProof_eq {a b : Pf} (h : a.small (2 ^ 40)) : M_L_eqProof (a, b) = some (decide (a = b)) := by
  obtain ⟨a1, a2, a3⟩ := a
  obtain ⟨b1, b2, b3⟩ := b
  obtain ⟨h1, h2, h3⟩ := h
  dsimp only at h1 h2 h3
  unfold M_L_eqProof
  dsimp only
  rw [eqIntS_eq (by omega), bindO_some', eqIntS_eq (by omega), eqIntS_eq (by omega)]
  by_cases e1 : a1 = b1 <;> by_cases e2 : a2 = b2 <;> by_cases e3 : a3 = b3 <;> simp [e1, e2, e3]

theorem toProof_eq {a : Pf} (h : a.small 1048576) : M_L_toProof a = some a := by
  obtain ⟨a1, a2, a3⟩ := a
  obtain ⟨g1, g2, g3⟩ := h
  dsimp only at g1 g2 g3
  unfold M_L_toProof
  dsimp only
  rw [toIntS_eq g1, bindO_some', toIntS_eq g2, bindO_some', toIntS_eq g3, bindO_some']

theorem szProof_eq {a : Pf} {left : Int} (h0 : 0 ≤ left) (h1 : left ≤ 1048576) (hl : a.small (2 ^ 63 - 1)) : ∃ k, M_L_szProof (a, left) = some k ∧ k ≤ left ∧ (0 ≤ k → k = left - (a.1.length + a.2.1.length + a.2.2.length)) := by
  obtain ⟨a1, a2, a3⟩ := a
  obtain ⟨g1, g2, g3⟩ := hl
  dsimp only at g1 g2 g3 ⊢
  unfold M_L_szProof
  dsimp only
  rw [szIntS_eq h0 h1 (by omega), bindO_some']
  by_cases e1 : left < a1.length
  · rw [if_pos e1]
    exact ⟨-1, rfl, by omega, by omega⟩
  · rw [if_neg e1]
    have d1 : decide (left - (a1.length : Int) < 0) = false := by simp; omega
    rw [d1, cond_false, szIntS_eq (by omega) (by omega) (by omega), bindO_some']
    by_cases e2 : left - a1.length < a2.length
    · rw [if_pos e2]
      exact ⟨-1, rfl, by omega, by omega⟩
    · rw [if_neg e2]
      have d2 : decide (left - (a1.length : Int) - a2.length < 0) = false := by simp; omega
      rw [d2, cond_false, szIntS_eq (by omega) (by omega) (by omega), bindO_some']
      by_cases e3 : left - a1.length - a2.length < a3.length
      · rw [if_pos e3]
        exact ⟨-1, rfl, by omega, by omega⟩
      · rw [if_neg e3]
        have d3 : decide (left - (a1.length : Int) - a2.length - a3.length < 0) = false := by simp; omega
        rw [d3, cond_false]
        exact ⟨_, rfl, by omega, by omega⟩

theorem hasAll_eq {p q g : Int} {l : List Int} (h : Gr p q g) (hl : l.length < 2 ^ 62) : M_I_Group_hasAll ((p, q, g), l) = some (l.all (isEl p q)) := by
  unfold M_I_Group_hasAll
  dsimp only
  rw [areAll_eq (p := isEl p q) hl fun a _ => by rw [has_eq' h]; rfl]
  rfl

theorem okD_el {p q g : Int} (h : Gr p q g) {l : List Int} (hl : l.all (isEl p q) = true) : okD l = true := by
  have := h.pm
  refine List.all_eq_true.2 fun x hx => ?_
  have := isEl_range (List.all_eq_true.1 hl x hx)
  rw [decide_eq_true_eq]
  omega

theorem isP_spec {n : Int} (h : isP n = true) : IsP n := by
  unfold isP at h
  exact @of_decide_eq_true _ (Classical.propDecidable _) h

/-- A prime does not divide a power of what is below it. -/
theorem pow_ne {p x : Int} (hp : IsP p) (h0 : 1 ≤ x) (h1 : x < p) (k : Nat) : x ^ k % p ≠ 0 := by
  obtain ⟨h2, hd⟩ := hp
  obtain ⟨P, rfl⟩ := Int.eq_ofNat_of_zero_le (show 0 ≤ p by omega)
  obtain ⟨X, rfl⟩ := Int.eq_ofNat_of_zero_le (show 0 ≤ x by omega)
  have hc : Nat.Coprime P X := by
    have g1 := Nat.gcd_dvd_left P X
    have g2 := Nat.gcd_dvd_right P X
    have g3 : P.gcd X ≤ X := Nat.le_of_dvd (by omega) g2
    have g4 : 0 < P.gcd X := Nat.gcd_pos_of_pos_left _ (by omega)
    by_cases hg : P.gcd X = 1
    · exact hg
    · exfalso
      obtain ⟨c, hc⟩ := g1
      generalize hG : P.gcd X = d at *
      have hc2 : 2 ≤ c := by
        rcases Nat.lt_or_ge c 2 with h | h
        · have : c = 0 ∨ c = 1 := by omega
          rcases this with rfl | rfl
          · rw [Nat.mul_zero] at hc; omega
          · rw [Nat.mul_one] at hc; omega
        · exact h
      rcases Nat.le_total d c with h | h
      · refine hd (d : Int) (by omega) ?_ ?_
        · have := Nat.mul_le_mul_left d h
          exact_mod_cast (by omega : d * d ≤ P)
        · exact_mod_cast (by rw [hc]; exact Nat.mul_mod_right d c : P % d = 0)
      · refine hd (c : Int) (by omega) ?_ ?_
        · have := Nat.mul_le_mul_right c h
          exact_mod_cast (by omega : c * c ≤ P)
        · exact_mod_cast (by rw [hc]; exact Nat.mul_mod_left d c : P % c = 0)
  intro he
  have he' : X ^ k % P = 0 := by exact_mod_cast he
  have := Nat.Coprime.eq_one_of_dvd (Nat.Coprime.pow_right k hc) (Nat.dvd_of_mod_eq_zero he')
  omega

def derX (p q g : Int) (s : ByteArray) (k c : Int) : Int := (1 + digest (lab s [p, q, g, k, c]) % (p - 1)) ^ ((p - 1) / q).toNat % p

def derL (p q g : Int) (s : ByteArray) (k : Int) : List Int := (List.range 1000).map fun c : Nat => derX p q g s k (c : Int)

def derv (p q g : Int) (s : ByteArray) (k : Int) : Option Int := (derL p q g s k).find? (· != 1)

theorem derL_len (p q g : Int) (s : ByteArray) (k : Int) : (derL p q g s k).length = 1000 := by simp [derL]

theorem derL_get {p q g : Int} {s : ByteArray} {k a : Int} {i : Nat} (h : (derL p q g s k)[i]? = some a) : a = derX p q g s k (i : Int) ∧ i < 1000 := by
  simp only [derL, List.getElem?_map, Option.map_eq_some_iff] at h
  obtain ⟨c, h1, h2⟩ := h
  have := (List.getElem?_eq_some_iff.1 h1)
  obtain ⟨h3, h4⟩ := this
  simp only [List.getElem_range] at h4
  simp only [List.length_range] at h3
  subst h4
  exact ⟨h2.symm, h3⟩

theorem walk_first {α : Type} (f : Int → Option α) (fin : Option α) : ∀ (l : List Int) (i : Nat), walk (fun _ a k => bif a != 1 then f a else k) fin i l = match l.find? (· != 1) with | some a => f a | none => fin
  | [], _ => rfl
  | a :: l, i => by
    rw [walk, List.find?_cons]
    cases a != 1
    · exact walk_first f fin l (i + 1)
    · rfl

theorem der_step {p q g : Int} (h : Gr p q g) (d : Int) (hd : 0 ≤ d) :
    (p - 1 ≠ 0) ∧ IntKind.wrap .i64 (p - 1) = p - 1 ∧ d.tmod (p - 1) = d % (p - 1) ∧ 0 ≤ d % (p - 1) ∧ d % (p - 1) ≤ p - 2 ∧ (p - 1).tdiv q = (p - 1) / q ∧ 0 ≤ (p - 1) / q ∧ (p - 1) / q ≤ p - 1 := by
  have := h.p3; have := h.pm; have := h.q2
  have e1 := Int.emod_nonneg d (show p - 1 ≠ 0 by omega)
  have e2 := Int.emod_lt_of_pos d (show 0 < p - 1 by omega)
  exact ⟨by omega, i64_in _ (by omega), tmod_nn hd, e1, by omega, tdiv_nn (by omega), Int.ediv_nonneg (by omega) (by omega), Int.ediv_le_self _ (by omega)⟩

theorem okD5 {p q g k c : Int} (h : Gr p q g) (hk : 0 ≤ k ∧ k ≤ 4611686018427387903) (hc : 0 ≤ c ∧ c ≤ 1000) : okD [p, q, g, k, c] = true := by
  have := h.p3; have := h.pm; have := h.q2; have := h.qp; have := h.g2; have := h.gp
  simp [okD]
  omega

theorem hDerived_eq {p q g : Int} {s : ByteArray} {k : Int} (h : Gr p q g) (hs : s.size ≤ 40) (hk : 0 ≤ k ∧ k ≤ 4611686018427387903) : M_S_hDerived ((p, q, g), s, k) = some ((derv p q g s k).getD 0) := by
  unfold M_S_hDerived
  dsimp only
  have h3 := h.p3; have hpm := h.pm; have hq2 := h.q2
  have hl := derL_len p q g s k
  refine (loop_walk (derL p q g s k) (fun _ a k => bif a != 1 then some a else k) (some 0) (fun again i a ha hi => ?_) (fun again => ?_) (by omega)).trans ?_
  · obtain ⟨rfl, hi2⟩ := derL_get ha
    have hr := digest_range (lab s [p, q, g, k, (i : Int)])
    obtain ⟨d1, d2, d3, d4, d5, d6, d7, d8⟩ := der_step h _ hr.1
    have e0 : decide ((i : Int) < 1000) = true := by simp; omega
    have hL := hLabelled_eq (s := s) (l := [p, q, g, k, (i : Int)]) (by omega) (by show (5 : Nat) < _; omega) (okD5 h hk (by omega))
    have hg1 : guardO (p - 1 != 0) = some () := guardO_of (by simp; omega)
    have hg2 : guardO (q != 0) = some () := guardO_of (by simp; omega)
    have hP := nPower_eq (a := 1 + digest (lab s [p, q, g, k, (i : Int)]) % (p - 1)) (e := (p - 1) / q) (m := p) (by omega) (by omega) (by omega) (by omega) (by omega) (by omega)
    simp only [e0, cond_true, hL, bindO_some', d2, hg1, d3, i64_in (1 + digest (lab s [p, q, g, k, (i : Int)]) % (p - 1)) (by omega), hg2, d6, i64_in ((p - 1) / q) (by omega), hP, i64_succ (show i < 2 ^ 62 by omega)]
    rfl
  · rw [hl]
    rfl
  · rw [walk_first]
    unfold derv
    cases (derL p q g s k).find? (· != 1) <;> rfl

theorem derive_eq {p q g : Int} {s : ByteArray} {k : Int} (h : Gr p q g) (hs : s.size ≤ 40) (hk : 0 ≤ k ∧ k ≤ 4611686018427387903) : M_I_Group_derive ((p, q, g), s, k) = some ((derv p q g s k).getD 0, (derv p q g s k).isSome) := by
  unfold M_I_Group_derive
  dsimp only
  have h3 := h.p3; have hpm := h.pm; have hq2 := h.q2
  have hl := derL_len p q g s k
  refine (loop_walk (derL p q g s k) (fun _ a k => bif a != 1 then some (a, true) else k) (some (0, false)) (fun again i a ha hi => ?_) (fun again => ?_) (by omega)).trans ?_
  · obtain ⟨rfl, hi2⟩ := derL_get ha
    have hr := digest_range (lab s [p, q, g, k, (i : Int)])
    obtain ⟨d1, d2, d3, d4, d5, d6, d7, d8⟩ := der_step h _ hr.1
    have e0 : decide ((i : Int) < 1000) = true := by simp; omega
    have hL : M_I_HashLabelled (s, [p, q, g, k, (i : Int)]) = some (digest (lab s [p, q, g, k, (i : Int)]), true) := by
      rw [I_HashLabelled_eq, hashL, if_pos ⟨hs, okD5 h hk (by omega), by show 1 + s.size + 5 ≤ _; omega⟩]
    have hg1 : guardO (p - 1 != 0) = some () := guardO_of (by simp; omega)
    have hg2 : guardO (q != 0) = some () := guardO_of (by simp; omega)
    have hP := nPower_eq (a := 1 + digest (lab s [p, q, g, k, (i : Int)]) % (p - 1)) (e := (p - 1) / q) (m := p) (by omega) (by omega) (by omega) (by omega) (by omega) (by omega)
    simp only [e0, cond_true, hL, bindO_some', Bool.not_true, cond_false, d2, hg1, d3, i64_in (1 + digest (lab s [p, q, g, k, (i : Int)]) % (p - 1)) (by omega), hg2, d6, i64_in ((p - 1) / q) (by omega), power_eq (show (p - 1) / q ≤ 9223372036854775807 by omega), hP, i64_succ (show i < 2 ^ 62 by omega)]
    rfl
  · rw [hl]
    rfl
  · rw [walk_first (fun a => some (a, true))]
    unfold derv
    cases (derL p q g s k).find? (· != 1) <;> rfl

theorem derv_range {p q g : Int} {s : ByteArray} {k a : Int} (h : Gr p q g) (hd : derv p q g s k = some a) : 1 ≤ a ∧ a < p := by
  have h3 := h.p3
  have hm := List.mem_of_find?_eq_some hd
  obtain ⟨i, hi⟩ := List.mem_iff_getElem?.1 hm
  obtain ⟨rfl, _⟩ := derL_get hi
  have hr := digest_range (lab s [p, q, g, k, (i : Int)])
  obtain ⟨d1, d2, d3, d4, d5, d6, d7, d8⟩ := der_step h _ hr.1
  unfold derX
  have e1 := Int.emod_nonneg ((1 + digest (lab s [p, q, g, k, (i : Int)]) % (p - 1)) ^ ((p - 1) / q).toNat) (show p ≠ 0 by omega)
  have e2 := Int.emod_lt_of_pos ((1 + digest (lab s [p, q, g, k, (i : Int)]) % (p - 1)) ^ ((p - 1) / q).toNat) (show 0 < p by omega)
  have e3 := pow_ne (isP_spec h.pp) (show 1 ≤ 1 + digest (lab s [p, q, g, k, (i : Int)]) % (p - 1) by omega) (by omega) ((p - 1) / q).toNat
  omega

def sH : ByteArray := bytesOf [104]

def sHs : ByteArray := bytesOf [104, 115]

theorem vBase_eq {p q g : Int} (h : Gr p q g) (hok : okG p q g = true) : M_S_vBase (p, q, g) = some ((derv p q g sH 0).getD 0, (derv p q g sH 0).isSome) := by
  unfold M_S_vBase M_S_BasesOf M_S_DeriveElement M_S_DeriveElements M_S_l3Digest
  dsimp only
  rw [l2Good_eq, hok]
  have hd := hDerived_eq (s := bytesOf [104]) (k := 0) h (by show (1 : Nat) ≤ _; omega) (by omega)
  have hz1 : decide (((bytesOf [104]).size : Int) > 40) = false := rfl
  have hz2 : decide (((bytesOf [104, 115]).size : Int) > 40) = false := rfl
  have hL : ∀ body : (List Int × Int → Option (List Int × Bool)) → List Int × Int → Option (List Int × Bool), (∀ again, body again ([], 0) = some ([], true)) → loopO body ([], 0) = some ([], true) := fun body hb => append_loop (y := ([] : List Int)) (fun t => some (t, true)) (fun again i a s ha => by simp at ha) (fun again s hs => by
    have : s = [] := List.length_eq_zero_iff.1 hs
    subst this
    exact hb again) (by show (0 : Nat) < _; omega)
  simp only [bindO_some', Bool.not_true, cond_false, in_eq, hz1, hz2, hd]
  rw [hL _ fun again => rfl]
  have t1 : decide ((0 : Int) ≤ 0 ∧ (0 : Int) ≤ 24) = true := rfl
  have t2 : decide ((0 : Int) ≤ 0 ∧ (0 : Int) ≤ 4611686018427387903) = true := rfl
  have t3 : decide ((0 : Int) ≤ 0 ∧ (0 : Int) ≤ 100) = true := rfl
  simp only [t1, t2, t3, bindO_some', Bool.not_true, cond_false]
  show _ = some ((derv p q g (bytesOf [104]) 0).getD 0, (derv p q g (bytesOf [104]) 0).isSome)
  cases hd : derv p q g (bytesOf [104]) 0 with
  | none => rfl
  | some a =>
    have ha := derv_range h hd
    have : decide (a > 0) = true := by simp; omega
    simp only [Option.getD_some, this]
    rfl

def cm (p q g b m r : Int) : Int := prodM p 1 [pw p q g m, pw p q b r]

theorem vC_eq {p q g b m r : Int} (h : Gr p q g) (hb : 0 ≤ b ∧ b ≤ p) : M_S_vC ((p, q, g), b, m, r) = some (cm p q g b m r) := by
  unfold M_S_vC cm
  have := h.p3; have := h.g2; have := h.gp
  have r1 := pw_range (q := q) (x := g) (e := m) (show 1 ≤ p by omega)
  have r2 := pw_range (q := q) (x := b) (e := r) (show 1 ≤ p by omega)
  simp only [gExp_pw h (show 0 ≤ g by omega) (show g ≤ p by omega), gExp_pw h hb.1 hb.2, bindO_some', mul2 h (show 0 ≤ pw p q g m ∧ pw p q g m ≤ p by omega) (show 0 ≤ pw p q b r ∧ pw p q b r ≤ p by omega)]

theorem commit_eq {p q g b m r : Int} {hs : List Int} (h : Gr p q g) (hb : 0 ≤ b ∧ b ≤ p) : M_I_Group_commit ((p, q, g), (b, hs), m, r) = some (cm p q g b m r) := by
  unfold M_I_Group_commit cm
  have := h.p3; have := h.g2; have := h.gp
  have r1 := pw_range (q := q) (x := g) (e := m) (show 1 ≤ p by omega)
  have r2 := pw_range (q := q) (x := b) (e := r) (show 1 ≤ p by omega)
  simp only [pow_pw h (show 0 ≤ g by omega) (show g ≤ p by omega), pow_pw h hb.1 hb.2, bindO_some', mul2' h (show 0 ≤ pw p q g m ∧ pw p q g m ≤ p by omega) (show 0 ≤ pw p q b r ∧ pw p q b r ≤ p by omega)]

def gpf (p q : Int) (l es : List Int) : Int := (l.zip es).foldl (fun o c => o * pw p q c.1 c.2 % p) 1

def gpStep (p q : Int) (_ : Nat) (a : Int × Int) (s : Int) (k : Int → Option Int) : Option Int := k (s * pw p q a.1 a.2 % p)

theorem gpWalk (p q : Int) : ∀ (z : List (Int × Int)) (i : Nat) (s : Int), walkS (gpStep p q) some i z s = some (z.foldl (fun o c => o * pw p q c.1 c.2 % p) s)
  | [], _, _ => rfl
  | a :: z, i, s => by
    rw [walkS, gpStep, gpWalk p q z (i + 1), List.foldl_cons]

theorem foldl_range {p q : Int} (hp : 2 ≤ p) : ∀ (z : List (Int × Int)) (s : Int), 0 ≤ s ∧ s < p → 0 ≤ z.foldl (fun o c => o * pw p q c.1 c.2 % p) s ∧ z.foldl (fun o c => o * pw p q c.1 c.2 % p) s < p
  | [], _, h => h
  | a :: z, s, _ => by
    rw [List.foldl_cons]
    exact foldl_range hp z _ ⟨Int.emod_nonneg _ (by omega), Int.emod_lt_of_pos _ (by omega)⟩

theorem gpf_range {p q : Int} (hp : 2 ≤ p) (l es : List Int) : 0 ≤ gpf p q l es ∧ gpf p q l es < p := foldl_range hp _ 1 (by omega)

theorem zip_get {l es : List Int} {i : Nat} {a : Int × Int} (ha : (l.zip es)[i]? = some a) : l[i]? = some a.1 ∧ es[i]? = some a.2 := by
  obtain ⟨c, e⟩ := a
  rw [List.getElem?_zip_eq_some] at ha
  exact ha

theorem zip_len {α β : Type} {l : List α} {es : List β} (h : es.length = l.length) : (l.zip es).length = l.length := by simp [h]

theorem gProd_eq {p q g : Int} {l es : List Int} (h : Gr p q g) (hl : es.length = l.length) (hx : ∀ x ∈ l, 0 ≤ x ∧ x ≤ p) (hn : l.length < 2 ^ 60) : M_S_gProd ((p, q, g), l, es) = some (gpf p q l es) := by
  unfold M_S_gProd
  dsimp only
  have h3 := h.p3; have hpm := h.pm
  have hz := zip_len hl
  have hg0 : guardO (p != 0) = some () := guardO_of (by simp; omega)
  refine (loop_walkI (fun i (s : Int) => (s, i)) (l.zip es) (gpStep p q) some (fun _ s => 0 ≤ s ∧ s < p) (fun i a s k k' ha hi hk => ?_) (fun again i a s ha hi hs => ?_) (fun again s hs => ?_) (by omega) 1 (by omega)).trans (gpWalk p q _ 0 1)
  · exact hk _ ⟨Int.emod_nonneg _ (by omega), Int.emod_lt_of_pos _ (by omega)⟩
  · obtain ⟨h1, h2⟩ := zip_get ha
    have hxa := hx a.1 (List.mem_of_getElem? h1)
    have r := pw_range (q := q) (x := a.1) (e := a.2) (show 1 ≤ p by omega)
    have e3 : 0 ≤ s * pw p q a.1 a.2 := Int.mul_nonneg hs.1 r.1
    have e4 : s * pw p q a.1 a.2 ≤ 2000000000 * 2000000000 := Int.mul_le_mul (by omega) (by omega) r.1 (by omega)
    simp only [lt_yes (show i < l.length by omega), cond_true, getI_nat, h1, h2, bindO_some', gExp_pw h hxa.1 hxa.2, i64_in (s * pw p q a.1 a.2) (by omega), hg0, tmod_nn e3, i64_succ (show i < 2 ^ 62 by omega)]
    rfl
  · rw [hz]
    simp only [lt_no, cond_false]

theorem mul_out {p s b : Int} (hs : 0 ≤ s ∧ s < p) : prodM p 1 [s, b] = s * b % p := by
  simp only [prodM]
  rw [Int.one_mul, Int.emod_eq_of_lt hs.1 hs.2]

theorem powers_eq {p q g : Int} {l es : List Int} (h : Gr p q g) (hl : es.length = l.length) (hx : ∀ x ∈ l, 0 ≤ x ∧ x ≤ p) (hn : l.length < 2 ^ 60) : M_I_Group_powers ((p, q, g), l, es) = some (gpf p q l es) := by
  unfold M_I_Group_powers
  dsimp only
  have h3 := h.p3; have hpm := h.pm
  have hz := zip_len hl
  refine (loop_walkI (fun i (s : Int) => (s, i)) (l.zip es) (gpStep p q) some (fun _ s => 0 ≤ s ∧ s < p) (fun i a s k k' ha hi hk => ?_) (fun again i a s ha hi hs => ?_) (fun again s hs => ?_) (by omega) 1 (by omega)).trans (gpWalk p q _ 0 1)
  · exact hk _ ⟨Int.emod_nonneg _ (by omega), Int.emod_lt_of_pos _ (by omega)⟩
  · obtain ⟨h1, h2⟩ := zip_get ha
    have hxa := hx a.1 (List.mem_of_getElem? h1)
    have r := pw_range (q := q) (x := a.1) (e := a.2) (show 1 ≤ p by omega)
    simp only [lt_yes (show i < l.length by omega), cond_true, getI_nat, h1, h2, bindO_some', pow_pw h hxa.1 hxa.2, mul2' h (show 0 ≤ s ∧ s ≤ p by omega) (show 0 ≤ pw p q a.1 a.2 ∧ pw p q a.1 a.2 ≤ p by omega), mul_out hs, i64_succ (show i < 2 ^ 62 by omega)]
    rfl
  · rw [hz]
    simp only [lt_no, cond_false]

theorem ne_dec (a b : Nat) : (((a : Nat) : Int) != ((b : Nat) : Int)) = !(a == b) := by
  rw [bne_dec, Nat.beq_eq_decide_eq', ← decide_not, decide_eq_decide]
  omega

def lens (x : List (List Int)) : Nat := (x.map List.length).sum

theorem lens_flat (x : List (List Int)) : x.flatten.length = lens x := by simp [lens, List.length_flatten]

theorem lens_take_le (x : List (List Int)) (i : Nat) : lens (x.take i) ≤ lens x := by
  have h : lens x = lens (x.take i ++ x.drop i) := by rw [List.take_append_drop]
  rw [h]
  simp only [lens, List.map_append, List.sum_append]
  exact Nat.le_add_right _ _

theorem lens_take_succ {x : List (List Int)} {i : Nat} {a : List Int} (h : x[i]? = some a) : lens (x.take (i + 1)) = lens (x.take i) + a.length := by
  rw [List.take_add_one, h]
  simp [lens]

theorem flat_take_succ {x : List (List Int)} {i : Nat} {a : List Int} (h : x[i]? = some a) : (x.take (i + 1)).flatten = (x.take i).flatten ++ a := by
  rw [List.take_add_one, h]
  simp

theorem concat_eq {x : List (List Int)} (hx : x.length < 2 ^ 30) (ht : lens x ≤ 1073741824) : M_slices_Concat_sint_int x = some x.flatten := by
  unfold M_slices_Concat_sint_int
  refine (loopO_for (σ := Int) (fun i s => (s, (i : Int))) x.length (fun i s => some x.flatten) (fun i s => s = (lens (x.take i) : Int)) (fun again s hs => ?_) (fun again i s hi hs ih => ?_) (by omega) (i := 0) (s := 0) (Nat.zero_le _) (by simp [lens])).trans rfl
  · rw [List.take_length] at hs
    subst hs
    simp only [lt_no, cond_false]
    have hgrow : M_slices_Grow_sint_int ([], (lens x : Int)) = some [] := by
      unfold M_slices_Grow_sint_int
      dsimp only
      rw [if_pos]
      simp only [List.length_nil]
      omega
    rw [hgrow, bindO_some']
    refine (loopO_for (σ := List Int) (fun i s => (s, (i : Int))) x.length (fun i s => some x.flatten) (fun i s => s = (x.take i).flatten) (fun again s hs => ?_) (fun again i s hi hs ih => ?_) (by omega) (i := 0) (s := []) (Nat.zero_le _) (by simp)).trans rfl
    · subst hs
      simp only [lt_no, cond_false, List.take_length]
    · subst hs
      have ha := List.getElem?_eq_getElem hi
      have h1 : (x.take i).flatten.length + x[i].length ≤ 68719476736 := by
        have := lens_take_succ ha
        have := lens_take_le x (i + 1)
        rw [lens_flat]
        omega
      simp only [lt_yes hi, cond_true, getI_nat, ha, bindO_some', guardO_of (lenOk_of h1), i64_succ (show i < 2 ^ 62 by omega)]
      exact ih _ (flat_take_succ ha).symm
  · subst hs
    have ha := List.getElem?_eq_getElem hi
    have h1 := lens_take_succ ha
    have h2 := lens_take_le x (i + 1)
    have h3 : ((lens (x.take i) : Int) + (x[i].length : Int)) = ((lens (x.take (i + 1)) : Nat) : Int) := by omega
    simp only [lt_yes hi, cond_true, getI_nat, ha, bindO_some', h3, i64_in ((lens (x.take (i + 1)) : Nat) : Int) (by omega), i64_succ (show i < 2 ^ 62 by omega)]
    rw [show decide (((lens (x.take (i + 1)) : Nat) : Int) < 0) = false from decide_eq_false (by omega)]
    exact ih _ rfl

theorem concat3_eq {a b c : List Int} (h : a.length + b.length + c.length ≤ 1073741824) : M_slices_Concat_sint_int [a, b, c] = some (a ++ (b ++ c)) := by
  rw [concat_eq (by simp) (by simp only [lens, List.map_cons, List.map_nil, List.sum_cons, List.sum_nil]; omega)]
  simp

theorem isEl_in {p q x : Int} (hx : isEl p q x = true) : 0 ≤ x ∧ x ≤ p := by
  have := isEl_range hx
  omega

theorem all_in {p q : Int} {l : List Int} (hl : l.all (isEl p q) = true) : ∀ x ∈ l, 0 ≤ x ∧ x ≤ p := fun x hx => isEl_in (List.all_eq_true.1 hl x hx)

theorem range_loop {n : Nat} (c : Nat → Bool) {body : (Int → Option Bool) → Int → Option Bool} (hn : n < 2 ^ 62)
    (h : ∀ (again : Int → Option Bool) (i : Nat), i < n → body again (i : Int) = bif c i then again ((i + 1 : Nat) : Int) else some false)
    (hend : ∀ again : Int → Option Bool, body again (n : Int) = some true) : loopO body 0 = some ((List.range n).all c) := by
  have hlen : (List.range n).length = n := List.length_range
  refine (loop_walk (List.range n) (fun _ a k => if c a = true then k else some false) (some true) (fun again i a ha hi => ?_) (fun again => ?_) (by omega)).trans (walk_all c _ 0)
  · rw [hlen] at hi
    rw [List.getElem?_range hi] at ha
    cases ha
    rw [h again i hi]
    cases c i <;> rfl
  · rw [hlen]
    exact hend again

theorem getD_at {α : Type} {l : List α} {i : Nat} {d : α} (h : i < l.length) : l[i]? = some (l.getD i d) := by
  rw [List.getElem?_eq_getElem h, List.getD_eq_getElem?_getD, List.getElem?_eq_getElem h]
  rfl

theorem okD_append {a b : List Int} : okD (a ++ b) = (okD a && okD b) := by simp [okD]

theorem pow_one_mod {p t : Int} {k n : Nat} (hp : 3 ≤ p) (h : t ^ n % p = 1) : (t ^ k) ^ n % p = 1 := by
  rw [← Int.pow_mul, Nat.mul_comm, Int.pow_mul, ← pow_mod, h, Int.one_pow]
  exact Int.emod_eq_of_lt (by omega) (by omega)

theorem isEl_g {p q g : Int} (h : Gr p q g) : isEl p q g = true := by
  have := h.g2; have := h.gp
  unfold isEl
  rw [h.gq]
  simp only [BEq.rfl, Bool.and_true, decide_eq_true_eq]
  omega

theorem eKey_eq {p q g k : Int} : M_S_eKey ((p, q, g), k) = some (okG p q g && isEl p q k) := by
  unfold M_S_eKey
  dsimp only
  rw [l2Good_eq, bindO_some']
  cases hok : okG p q g
  · rfl
  rw [cond_true, gIs_eq (okG_spec hok) (by simp), bindO_some']
  simp

theorem all_exp {q : Int} {l : List Int} (h : (l.all fun e => decide (0 ≤ e ∧ e ≤ q - 1)) = true) {i : Nat} {a : Int} (ha : l[i]? = some a) : 0 ≤ a ∧ a ≤ q - 1 := by
  have := List.all_eq_true.1 h a (List.mem_of_getElem? ha)
  simpa using this

theorem mul_one {p x : Int} (hp : 2 ≤ p) (hx : 0 ≤ x ∧ x < p) : prodM p 1 [1, x] = x := by
  rw [mul_out (by omega), Int.one_mul, Int.emod_eq_of_lt hx.1 hx.2]

theorem isCi_in {p q : Int} {c : Int × Int} (h : isCi p q c = true) : (0 ≤ c.1 ∧ c.1 ≤ p) ∧ 0 ≤ c.2 ∧ c.2 ≤ p := by
  simp only [isCi, Bool.and_eq_true] at h
  exact ⟨isEl_in h.1, isEl_in h.2⟩

def wsum {α : Type} (w : α → Nat) (x : List α) : Nat := (x.map w).sum

theorem wsum_drop {α : Type} {w : α → Nat} {x : List α} {i : Nat} {a : α} (h : x[i]? = some a) : wsum w (x.drop i) = w a + wsum w (x.drop (i + 1)) := by
  obtain ⟨hi, rfl⟩ := List.getElem?_eq_some_iff.1 h
  rw [List.drop_eq_getElem_cons hi]
  simp only [wsum, List.map_cons, List.sum_cons]

theorem wsum_mem {α : Type} {w : α → Nat} {x : List α} {a : α} (h : a ∈ x) : w a ≤ wsum w x := by
  induction x with
  | nil => simp at h
  | cons b x ih =>
    simp only [wsum, List.map_cons, List.sum_cons] at ih ⊢
    rcases List.mem_cons.1 h with rfl | h
    · omega
    · have := ih h
      omega

theorem sz_loop {α : Type} (w : α → Nat) (x : List α) {left : Int} {body : (Int × Int → Option Int) → Int × Int → Option Int} (h0 : 0 ≤ left) (h1 : left ≤ 1048576) (hn : x.length ≤ 1048576)
    (h : ∀ (again : Int × Int → Option Int) (i : Nat) a (l : Int), x[i]? = some a → i < x.length → 0 ≤ l → l ≤ 1048576 → ∃ k, k ≤ l ∧ (0 ≤ k → k = l - w a) ∧ body again (l, (i : Int)) = if k < 0 then some (-1) else again (k, ((i + 1 : Nat) : Int)))
    (hend : ∀ (again : Int × Int → Option Int) (l : Int), body again (l, (x.length : Int)) = some l) : ∃ k, loopO body (left, 0) = some k ∧ k ≤ left ∧ (0 ≤ k → k = left - wsum w x) := by
  have := loopO_ind (body := body) (fun s (y : Option Int) => ∃ k, y = some k ∧ k ≤ s.1 ∧ (0 ≤ k → k = s.1 - wsum w (x.drop s.2.toNat))) (fun s => (0 ≤ s.1 ∧ s.1 ≤ 1048576) ∧ 0 ≤ s.2 ∧ s.2 ≤ x.length) (fun s => x.length - s.2.toNat)
    (fun again s hs ih => ?_) (s := (left, 0)) ⟨⟨h0, h1⟩, by omega, by omega⟩ (by simp only; omega)
  · obtain ⟨k, e1, e2, e3⟩ := this
    exact ⟨k, e1, e2, by simpa using e3⟩
  · obtain ⟨l, j⟩ := s
    obtain ⟨⟨g1, g2⟩, g3, g4⟩ := hs
    dsimp only at g1 g2 g3 g4 ih ⊢
    obtain ⟨i, rfl⟩ : ∃ i : Nat, j = (i : Int) := ⟨j.toNat, (Int.toNat_of_nonneg g3).symm⟩
    rcases Nat.lt_or_ge i x.length with hi | hi
    · have ha := List.getElem?_eq_getElem hi
      obtain ⟨k, k1, k2, k3⟩ := h again i x[i] l ha hi g1 g2
      rw [k3]
      by_cases hk : k < 0
      · rw [if_pos hk]
        exact ⟨-1, rfl, by omega, fun h => by omega⟩
      · rw [if_neg hk]
        obtain ⟨m, m1, m2, m3⟩ := ih (k, ((i + 1 : Nat) : Int)) ⟨⟨by dsimp only; omega, by dsimp only; omega⟩, by dsimp only; omega, by dsimp only; omega⟩ (by dsimp only; omega)
        dsimp only at m1 m2 m3
        refine ⟨m, m1, by omega, fun hm => ?_⟩
        have e := wsum_drop (w := w) ha
        have := m3 hm
        have := k2 (by omega)
        simp only [Int.toNat_natCast] at *
        omega
    · obtain rfl : i = x.length := by omega
      rw [hend]
      refine ⟨l, rfl, by omega, fun _ => ?_⟩
      simp [wsum]

def wPf (a : Pf) : Nat := a.1.length + a.2.1.length + a.2.2.length

theorem getD_is {α : Type} {l : List α} {i : Nat} {a d : α} (h : l[i]? = some a) : l.getD i d = a := by
  rw [List.getD_eq_getElem?_getD, h]
  rfl

abbrev El := Int × Int × Int × Int

def e0 : El := (0, 0, 0, 0)

theorem sliceLH_nat {l h n : Nat} (h1 : l ≤ h) (h2 : h ≤ n) : sliceLH (l : Int) (h : Int) n = some (l, h) := by
  unfold sliceLH
  rw [if_pos ⟨by omega, by omega, by omega⟩]
  simp

abbrev Rem := Nat → Bool

def c0 (rem : Rem) : Nat → Int := fun k => if rem k = true then -1 else 0

theorem prime_one {q d : Int} (hq : IsP q) (h1 : 1 ≤ d) (h2 : d < q) (h3 : d ∣ q) : d = 1 := by
  obtain ⟨hq2, hd⟩ := hq
  obtain ⟨c, hc⟩ := h3
  have hc1 : 2 ≤ c := by
    rcases Int.lt_or_le c 2 with h | h
    · rcases Int.lt_or_le c 1 with h' | h'
      · have : d * c ≤ d * 0 := Int.mul_le_mul_of_nonneg_left (by omega) (by omega)
        rw [Int.mul_zero] at this
        omega
      · obtain rfl : c = 1 := by omega
        rw [Int.mul_one] at hc
        omega
    · exact h
  by_cases hd1 : d = 1
  · exact hd1
  · exfalso
    rcases Int.le_total d c with h | h
    · refine hd d (by omega) ?_ (by rw [hc]; exact Int.mul_emod_right d c)
      rw [hc]
      exact Int.mul_le_mul_of_nonneg_left h (by omega)
    · refine hd c hc1 ?_ (by rw [hc]; exact Int.mul_emod_left d c)
      rw [hc]
      exact Int.mul_le_mul_of_nonneg_right h (by omega)

/-- Euclid's invariant. -/
def EuOK (q a : Int) (s : Int × Int × Int × Int) : Prop :=
  (0 ≤ s.2.1 ∧ s.2.1 < s.1 ∧ s.1 ≤ q) ∧ ((s.2.2.1 ≤ 0 ∧ 0 ≤ s.2.2.2 ∧ s.1 * s.2.2.2 - s.2.1 * s.2.2.1 = q) ∨ (0 ≤ s.2.2.1 ∧ s.2.2.2 ≤ 0 ∧ s.2.1 * s.2.2.1 - s.1 * s.2.2.2 = q)) ∧
  (∃ u, s.1 = a * s.2.2.1 + q * u) ∧ (∃ v, s.2.1 = a * s.2.2.2 + q * v) ∧ ∀ d, d ∣ s.1 → d ∣ s.2.1 → d ∣ a ∧ d ∣ q

theorem eu_bound {r n y x q : Int} (hr : 1 ≤ r) (hn : 1 ≤ n) (hy : 0 ≤ y) (hx : 0 ≤ x) (h : r * y + n * x = q) : y ≤ q ∧ x ≤ q ∧ r * y ≤ q ∧ n * x ≤ q := by
  have h1 : 1 * y ≤ r * y := Int.mul_le_mul_of_nonneg_right hr hy
  have h2 : 1 * x ≤ n * x := Int.mul_le_mul_of_nonneg_right hn hx
  have h3 : 0 ≤ r * y := Int.mul_nonneg (by omega) hy
  have h4 : 0 ≤ n * x := Int.mul_nonneg (by omega) hx
  omega

theorem eu_step {q a : Int} {s : Int × Int × Int × Int} (h : EuOK q a s) (hn : s.2.1 ≠ 0) (hq : q ≤ 2000000000) :
    EuOK q a (s.2.1, s.1 - s.1 / s.2.1 * s.2.1, s.2.2.2, s.2.2.1 - s.1 / s.2.1 * s.2.2.2) ∧ s.1 - s.1 / s.2.1 * s.2.1 = s.1 % s.2.1 ∧ (0 ≤ s.1 / s.2.1 ∧ s.1 / s.2.1 ≤ q) ∧ (0 ≤ s.1 / s.2.1 * s.2.1 ∧ s.1 / s.2.1 * s.2.1 ≤ q) ∧
      (-q ≤ s.1 / s.2.1 * s.2.2.2 ∧ s.1 / s.2.1 * s.2.2.2 ≤ q) ∧ -q ≤ s.2.2.1 ∧ s.2.2.1 ≤ q := by
  obtain ⟨r, n, x, y⟩ := s
  obtain ⟨⟨g1, g2, g3⟩, g4, ⟨u, g5⟩, ⟨v, g6⟩, g7⟩ := h
  dsimp only at *
  have hn1 : 1 ≤ n := by omega
  have e1 : r - r / n * n = r % n := by have := Int.emod_def r n; rw [Int.mul_comm] at this; omega
  have e2 := Int.emod_nonneg r hn
  have e3 := Int.emod_lt_of_pos r (show 0 < n by omega)
  have t0 : 0 ≤ r / n := Int.ediv_nonneg (by omega) (by omega)
  have t1 : r / n ≤ r := Int.ediv_le_self _ (by omega)
  generalize ht : r / n = t at *
  have t2 : t * n ≤ r := by omega
  have t3 : 0 ≤ t * n := Int.mul_nonneg t0 (by omega)
  have inv : (y ≤ 0 ∧ 0 ≤ x - t * y ∧ n * (x - t * y) - (r - t * n) * y = q) ∨ (0 ≤ y ∧ x - t * y ≤ 0 ∧ (r - t * n) * y - n * (x - t * y) = q) := by
    rcases g4 with ⟨a1, a2, a3⟩ | ⟨a1, a2, a3⟩
    · right
      have : 0 ≤ t * y := Int.mul_nonneg t0 a2
      refine ⟨a2, by omega, ?_⟩
      rw [← a3]
      grind
    · left
      have : 0 ≤ t * (-y) := Int.mul_nonneg t0 (by omega)
      rw [Int.mul_neg] at this
      refine ⟨a2, by omega, ?_⟩
      rw [← a3]
      grind
  have bnd : (-q ≤ t * y ∧ t * y ≤ q) ∧ -q ≤ x ∧ x ≤ q := by
    rcases g4 with ⟨a1, a2, a3⟩ | ⟨a1, a2, a3⟩
    · have h1 := eu_bound (r := r) (n := n) (y := y) (x := -x) (q := q) (by omega) hn1 a2 (by omega) (by rw [Int.mul_neg]; omega)
      have h2 : t * y ≤ r * y := Int.mul_le_mul_of_nonneg_right t1 a2
      have h3 : 0 ≤ t * y := Int.mul_nonneg t0 a2
      omega
    · have h1 := eu_bound (r := r) (n := n) (y := -y) (x := x) (q := q) (by omega) hn1 (by omega) a1 (by rw [Int.mul_neg]; omega)
      have h2 : t * (-y) ≤ r * (-y) := Int.mul_le_mul_of_nonneg_right t1 (by omega)
      have h3 : 0 ≤ t * (-y) := Int.mul_nonneg t0 (by omega)
      rw [Int.mul_neg] at h2 h3
      omega
  refine ⟨⟨⟨by dsimp only; omega, by dsimp only; omega, by dsimp only; omega⟩, inv, ⟨v, g6⟩, ⟨u - t * v, by dsimp only; rw [g5, g6]; grind⟩, fun d d1 d2 => ?_⟩, e1, ⟨t0, by omega⟩, ⟨t3, by omega⟩, bnd.1, bnd.2⟩
  have : r = (r - t * n) + t * n := by omega
  exact g7 d (by rw [this]; exact Int.dvd_add d2 (Int.dvd_mul_of_dvd_right d1)) d1

theorem euclid_loop {β : Type} {q a : Int} (hq : IsP q) (hq2 : q ≤ 2000000000) (ha : 1 ≤ a ∧ a < q) (fin : Int → Int → Option β) {body : (Int × Int × Int × Int → Option β) → Int × Int × Int × Int → Option β}
    (hb : ∀ again s, body again s = cond (s.2.1 != 0) (bindO (guardO (s.2.1 != 0)) fun _ => bindO (some (IntKind.wrap .i64 (Int.tdiv s.1 s.2.1))) fun a3 => bindO (some (IntKind.wrap .i64 (a3 * s.2.1))) fun a4 => bindO (some (IntKind.wrap .i64 (s.1 - a4))) fun a5 => bindO (some (IntKind.wrap .i64 (a3 * s.2.2.2))) fun a6 => bindO (some (IntKind.wrap .i64 (s.2.2.1 - a6))) fun a7 => again (s.2.1, a5, s.2.2.2, a7)) (fin s.1 s.2.2.1))
    {s0 : Int × Int × Int × Int} (h0 : EuOK q a s0 ∨ s0 = (a, q, 1, 0)) : ∃ x, loopO body s0 = fin 1 x ∧ a * x % q = 1 := by
  refine loopO_ind (fun (_ : Int × Int × Int × Int) (y : Option β) => ∃ x, y = fin 1 x ∧ a * x % q = 1) (fun s => EuOK q a s ∨ s = (a, q, 1, 0)) (fun s => s.2.1.toNat) (fun again s hs ih => ?_) h0 ?_
  · rw [hb]
    rcases hs with hs | rfl
    · by_cases hn : s.2.1 = 0
      · obtain ⟨⟨g1, g2, g3⟩, g4, ⟨u, g5⟩, ⟨v, g6⟩, g7⟩ := hs
        rw [show (s.2.1 != 0) = false from by simpa using hn, cond_false]
        obtain ⟨d1, d2⟩ := g7 s.1 (Int.dvd_refl _) (by rw [hn]; exact Int.dvd_zero _)
        have h1 : s.1 ≤ a := Int.le_of_dvd (by omega) d1
        have h2 : s.1 = 1 := prime_one hq (by omega) (by omega) d2
        refine ⟨s.2.2.1, by rw [h2], ?_⟩
        have h3 : a * s.2.2.1 = 1 + q * (-u) := by rw [h2] at g5; rw [Int.mul_neg]; omega
        rw [h3, Int.add_mul_emod_self_left]
        exact Int.emod_eq_of_lt (by omega) (by omega)
      · obtain ⟨k1, k2, k3, k4, k5, k6⟩ := eu_step hs hn hq2
        have hr := hs.1
        rw [show (s.2.1 != 0) = true from bne_iff_ne.2 hn, cond_true, guardO_of rfl, bindO_some', tdiv_nn (by omega), i64_in _ (by omega), bindO_some', i64_in _ (by omega), bindO_some', i64_in _ (by omega), bindO_some', i64_in _ (by omega), bindO_some', i64_in _ (by omega), bindO_some']
        refine ih _ (.inl k1) ?_
        dsimp only
        rw [k2]
        have := Int.emod_lt_of_pos s.1 (show 0 < s.2.1 by omega)
        have := Int.emod_nonneg s.1 hn
        omega
    · have e1 : a.tdiv q = 0 := by rw [tdiv_nn (by omega)]; exact Int.ediv_eq_zero_of_lt (by omega) ha.2
      dsimp only
      rw [show (q != 0) = true from bne_iff_ne.2 (by omega), cond_true, guardO_of rfl, bindO_some', e1, i64_in 0 (by omega), bindO_some', Int.zero_mul, i64_in 0 (by omega), bindO_some', Int.sub_zero, i64_in a (by omega), bindO_some', Int.zero_mul, i64_in 0 (by omega), bindO_some', Int.sub_zero, i64_in 1 (by omega), bindO_some']
      refine ih _ (.inl ⟨⟨by dsimp only; omega, by dsimp only; omega, by dsimp only; omega⟩, .inl ⟨by dsimp only; omega, by dsimp only; omega, by dsimp only; omega⟩, ⟨1, by dsimp only; omega⟩, ⟨0, by dsimp only; omega⟩, fun d d1 d2 => ⟨d2, d1⟩⟩) ?_
      dsimp only
      omega
  · rcases h0 with h0 | rfl
    · have := h0.1
      omega
    · dsimp only
      omega

/-- The inverse of a modulo a prime. -/
theorem inv_both {q a : Int} (hq : IsP q) (hq2 : q ≤ 2000000000) (ha : 1 ≤ a ∧ a < q) : ∃ b, (0 ≤ b ∧ b < q) ∧ a * b % q = 1 ∧ M_I_inverse (a, q) = some b ∧ M_S_nInverse (a, q) = some (b, true) := by
  have hq1 := hq.1
  obtain ⟨x, x1, x2⟩ := euclid_loop hq hq2 ha (fun r x => cond (r != 1) (some 0) (bindO (M_I_mod (x, q)) fun a8 => some a8)) (s0 := (q, a, 0, 1)) (fun _ _ => rfl) (.inl ⟨⟨by dsimp only; omega, by dsimp only; omega, by dsimp only; omega⟩, .inl ⟨by dsimp only; omega, by dsimp only; omega, by dsimp only; omega⟩, ⟨1, by dsimp only; omega⟩, ⟨0, by dsimp only; omega⟩, fun d d1 d2 => ⟨d2, d1⟩⟩)
  obtain ⟨y, y1, y2⟩ := euclid_loop hq hq2 ha (fun r x => bindO (M_S_nMod (x, q)) fun a9 => some (a9, (r == (1 : Int)))) (s0 := (a, q, 1, 0)) (fun _ _ => rfl) (.inr rfl)
  have hx := Int.emod_nonneg x (show q ≠ 0 by omega)
  have hx' := Int.emod_lt_of_pos x (show 0 < q by omega)
  have heq : x % q = y % q := by
    have e1 : x % q = x * (a * y) % q := by rw [Int.mul_emod x (a * y), y2, Int.mul_one, Int.emod_emod_of_dvd _ (Int.dvd_refl q)]
    have e2 : y % q = y * (a * x) % q := by rw [Int.mul_emod y (a * x), x2, Int.mul_one, Int.emod_emod_of_dvd _ (Int.dvd_refl q)]
    rw [e1, e2]
    congr 1
    grind
  refine ⟨x % q, ⟨hx, hx'⟩, by rw [← x2]; rw [Int.mul_emod, Int.emod_emod_of_dvd _ (Int.dvd_refl q), ← Int.mul_emod], ?_, ?_⟩
  · unfold M_I_inverse
    dsimp only
    refine x1.trans ?_
    rw [mod_eq, nMod_eq (by omega) (by omega), bindO_some']
    rfl
  · unfold M_S_nInverse
    dsimp only
    rw [nMod_eq (by omega) (by omega), Int.emod_eq_of_lt (by omega) ha.2, bindO_some']
    refine y1.trans ?_
    rw [nMod_eq (by omega) (by omega), bindO_some', heq]
    rfl

/-- A product of what a prime does not divide. -/
theorem mul_ne {q a b : Int} (hq : IsP q) (hq2 : q ≤ 2000000000) (ha : a % q ≠ 0) (hb : b % q ≠ 0) : a * b % q ≠ 0 := by
  have hq1 := hq.1
  have h1 := Int.emod_nonneg a (show q ≠ 0 by omega)
  have h2 := Int.emod_lt_of_pos a (show 0 < q by omega)
  obtain ⟨c, c1, c2, _, _⟩ := inv_both hq hq2 (a := a % q) (by omega)
  intro h0
  apply hb
  have e : b % q = b * (a % q * c) % q := by rw [Int.mul_emod b, c2, Int.mul_one, Int.emod_emod_of_dvd _ (Int.dvd_refl q)]
  rw [e, show b * (a % q * c) = c * (a % q * b) by grind, Int.mul_emod, show a % q * b % q = a * b % q from by rw [Int.mul_emod, Int.emod_emod_of_dvd _ (Int.dvd_refl q), ← Int.mul_emod], h0, Int.mul_zero]
  rfl

/-- Equal modulo q. -/
def Cg (q a b : Int) : Prop := ∃ u, a = b + q * u

theorem Cg_refl {q : Int} (a : Int) : Cg q a a := ⟨0, by omega⟩

theorem Cg_mod {q : Int} (a : Int) : Cg q (a % q) a := ⟨-(a / q), by have := Int.emod_def a q; rw [Int.mul_neg]; omega⟩

theorem Cg_trans {q a b c : Int} (h1 : Cg q a b) (h2 : Cg q b c) : Cg q a c := by
  obtain ⟨u, h1⟩ := h1
  obtain ⟨v, h2⟩ := h2
  exact ⟨u + v, by rw [h1, h2]; grind⟩

theorem Cg_add {q a b c d : Int} (h1 : Cg q a b) (h2 : Cg q c d) : Cg q (a + c) (b + d) := by
  obtain ⟨u, h1⟩ := h1
  obtain ⟨v, h2⟩ := h2
  exact ⟨u + v, by rw [h1, h2]; grind⟩

theorem Cg_mul {q a b c d : Int} (h1 : Cg q a b) (h2 : Cg q c d) : Cg q (a * c) (b * d) := by
  obtain ⟨u, h1⟩ := h1
  obtain ⟨v, h2⟩ := h2
  exact ⟨b * v + u * d + q * u * v, by rw [h1, h2]; grind⟩

theorem Cg_eq {q a b : Int} (h : Cg q a b) : a % q = b % q := by
  obtain ⟨u, h⟩ := h
  rw [h, Int.add_mul_emod_self_left]

def prodL : List Int → Int
  | [] => 1
  | a :: l => a * prodL l

theorem prodL_perm {l1 l2 : List Int} (h : l1.Perm l2) : prodL l1 = prodL l2 := by
  induction h with
  | nil => rfl
  | cons x _ ih => simp only [prodL, ih]
  | swap x y l => simp only [prodL]; grind
  | trans _ _ h1 h2 => exact h1.trans h2

def units (p : Int) : List Int := (List.range (p - 1).toNat).map fun i : Nat => (i : Int) + 1

theorem units_len {p : Int} : (units p).length = (p - 1).toNat := by simp [units]

theorem mem_units {p a : Int} : a ∈ units p ↔ 1 ≤ a ∧ a < p := by
  simp only [units, List.mem_map, List.mem_range]
  constructor
  · rintro ⟨i, h1, h2⟩; omega
  · intro h
    exact ⟨(a - 1).toNat, by omega, by omega⟩

theorem units_nodup {p : Int} : (units p).Nodup := by
  unfold units List.Nodup
  rw [List.pairwise_map]
  exact List.Pairwise.imp (fun h => by omega) (List.nodup_range (n := (p - 1).toNat))

theorem prodL_map (p a : Int) : ∀ l : List Int, Cg p (prodL (l.map fun i => a * i % p)) (a ^ l.length * prodL l)
  | [] => by simp only [List.map_nil, prodL, List.length_nil, Int.pow_zero, Int.one_mul]; exact Cg_refl _
  | b :: l => by
    have ih := prodL_map p a l
    simp only [List.map_cons, prodL, List.length_cons]
    refine Cg_trans (Cg_mul (Cg_mod _) ih) ?_
    have : a * b * (a ^ l.length * prodL l) = a ^ (l.length + 1) * (b * prodL l) := by rw [Int.pow_succ]; grind
    rw [this]
    exact Cg_refl _

theorem prodL_ne {p : Int} (hp : IsP p) (hp2 : p ≤ 2000000000) : ∀ l : List Int, (∀ a ∈ l, 1 ≤ a ∧ a < p) → prodL l % p ≠ 0
  | [], _ => by
    have := hp.1
    show (1 : Int) % p ≠ 0
    rw [Int.emod_eq_of_lt (by omega) (by omega)]
    omega
  | b :: l, h => by
    have hb := h b (by simp)
    exact mul_ne hp hp2 (by rw [Int.emod_eq_of_lt (by omega) (by omega)]; omega) (prodL_ne hp hp2 l fun a ha => h a (by simp [ha]))

theorem fermat {p a : Int} (hp : IsP p) (hp2 : p ≤ 2000000000) (ha : 1 ≤ a ∧ a < p) : a ^ (p - 1).toNat % p = 1 := by
  have h2 := hp.1
  obtain ⟨b, hb, hab, -, -⟩ := inv_both hp hp2 ha
  have hmod : ∀ x : Int, 1 ≤ x ∧ x < p → x % p = x := fun x hx => Int.emod_eq_of_lt (by omega) (by omega)
  have hne : ∀ x y : Int, x % p ≠ 0 → y % p ≠ 0 → 1 ≤ x * y % p ∧ x * y % p < p := fun x y hx hy => by
    have h1 := mul_ne hp hp2 hx hy
    have h3 := Int.emod_nonneg (x * y) (show p ≠ 0 by omega)
    have h4 := Int.emod_lt_of_pos (x * y) (show 0 < p by omega)
    omega
  have hb0 : b % p ≠ 0 := fun h0 => by
    have : a * b % p = 0 := by rw [Int.mul_emod, h0, Int.mul_zero, Int.zero_emod]
    omega
  have hane : a % p ≠ 0 := by rw [hmod a ha]; omega
  have back : ∀ x : Int, 1 ≤ x ∧ x < p → a * (b * x % p) % p = x := fun x hx => by
    rw [Int.mul_emod, Int.emod_emod_of_dvd _ (Int.dvd_refl p), ← Int.mul_emod, ← Int.mul_assoc, Int.mul_emod, hab, Int.one_mul, Int.emod_emod_of_dvd _ (Int.dvd_refl p), hmod x hx]
  have back2 : ∀ x : Int, 1 ≤ x ∧ x < p → b * (a * x % p) % p = x := fun x hx => by
    rw [Int.mul_emod, Int.emod_emod_of_dvd _ (Int.dvd_refl p), ← Int.mul_emod, ← Int.mul_assoc, Int.mul_emod, Int.mul_comm b a, hab, Int.one_mul, Int.emod_emod_of_dvd _ (Int.dvd_refl p), hmod x hx]
  have hperm : ((units p).map fun i => a * i % p).Perm (units p) := by
    refine (List.perm_ext_iff_of_nodup ?_ units_nodup).2 fun x => ?_
    · unfold List.Nodup
      rw [List.pairwise_map]
      refine List.Pairwise.imp_of_mem (fun {x y} hx hy hxy he => hxy ?_) (units_nodup (p := p))
      rw [← back2 x (mem_units.1 hx), ← back2 y (mem_units.1 hy), he]
    · rw [List.mem_map, mem_units]
      constructor
      · rintro ⟨i, hi, rfl⟩
        have hi := mem_units.1 hi
        exact hne a i hane (by rw [hmod i hi]; omega)
      · intro hx
        exact ⟨b * x % p, mem_units.2 (hne b x hb0 (by rw [hmod x hx]; omega)), back x hx⟩
  have h3 := Cg_eq (prodL_map p a (units p))
  rw [prodL_perm hperm, units_len] at h3
  have h4 := prodL_ne hp hp2 (units p) fun x hx => mem_units.1 hx
  by_cases h5 : (a ^ (p - 1).toNat - 1) % p = 0
  · have : a ^ (p - 1).toNat % p = 1 % p := Cg_eq ⟨(a ^ (p - 1).toNat - 1) / p, by
      have := Int.mul_ediv_add_emod (a ^ (p - 1).toNat - 1) p
      omega⟩
    rw [this, Int.emod_eq_of_lt (by omega) (by omega)]
  · exfalso
    refine mul_ne hp hp2 h5 h4 ?_
    rw [Int.sub_mul, Int.one_mul]
    exact Int.emod_eq_emod_iff_emod_sub_eq_zero.1 h3.symm

/-- A power by a multiple of q is one. -/
theorem pow_red {p q g x : Int} (h : Gr p q g) (hx : x ^ q.toNat % p = 1) (m : Nat) : x ^ m % p = x ^ (m % q.toNat) % p := by
  have hq := h.q2
  have hp := h.p3
  have e1 : m = m / q.toNat * q.toNat + m % q.toNat := by
    have := Nat.div_add_mod m q.toNat
    rw [Nat.mul_comm]
    omega
  have h1 : (x ^ (m / q.toNat)) ^ q.toNat % p = 1 := pow_one_mod h.p3 hx
  rw [← Int.pow_mul] at h1
  conv => lhs; rw [e1, Int.pow_add, Int.mul_emod, h1, Int.one_mul, Int.emod_emod_of_dvd _ (Int.dvd_refl p)]

theorem toNat_of {a b : Int} (ha : 0 ≤ a) (hb : 0 ≤ b) : (a.toNat * b.toNat : Nat) = (a * b).toNat := (Int.toNat_mul ha hb).symm

/-- The inverse of a power is the power of the opposite exponent. -/
theorem inv_pw {p q g x : Int} (h : Gr p q g) (hx : x ^ q.toNat % p = 1) (e : Int) : pw p q x e ^ (q - 1).toNat % p = pw p q x (-e) := by
  have hq := h.q2
  unfold pw
  rw [pow_mod, ← Int.pow_mul, pow_red h hx]
  have e0 := Int.emod_nonneg e (show q ≠ 0 by omega)
  congr 2
  have h1 : (e % q) * (q - 1) % q = (-e) % q := by
    refine Cg_eq (Cg_trans (b := -(e % q)) ⟨e % q, by rw [Int.mul_sub, Int.mul_one, Int.mul_comm]; omega⟩ ?_)
    obtain ⟨u, hu⟩ := Cg_mod (q := q) e
    exact ⟨-u, by rw [Int.mul_neg]; omega⟩
  have h2 : (((e % q).toNat * (q - 1).toNat % q.toNat : Nat) : Int) = (((-e) % q).toNat : Int) := by
    rw [toNat_of e0 (by omega), Int.natCast_emod, Int.toNat_of_nonneg (Int.mul_nonneg e0 (by omega)), Int.toNat_of_nonneg (show 0 ≤ q by omega), h1, Int.toNat_of_nonneg (Int.emod_nonneg _ (by omega))]
  exact Int.ofNat.inj h2

theorem over_pw {p q g x : Int} (h : Gr p q g) (hx : x ^ q.toNat % p = 1) (a e : Int) : over p q a (pw p q x e) = prodM p 1 [a, pw p q x (-e)] := by
  unfold over
  rw [inv_pw h hx]

theorem derX_el {p q g : Int} (h : Gr p q g) (s : ByteArray) (k c : Int) : derX p q g s k c ^ q.toNat % p = 1 := by
  have hp := isP_spec h.pp
  have h3 := h.p3
  have hq := h.q2
  have hd := Int.emod_nonneg (digest (lab s [p, q, g, k, c])) (show p - 1 ≠ 0 by omega)
  have hd2 := Int.emod_lt_of_pos (digest (lab s [p, q, g, k, c])) (show 0 < p - 1 by omega)
  unfold derX
  rw [pow_mod, ← Int.pow_mul]
  have hdv := Int.mul_ediv_add_emod (p - 1) q
  rw [h.dv, Int.add_zero] at hdv
  have : ((p - 1) / q).toNat * q.toNat = (p - 1).toNat := by
    have hn : 0 ≤ (p - 1) / q := Int.ediv_nonneg (by omega) (by omega)
    rw [toNat_of hn (by omega), Int.mul_comm, hdv]
  rw [this]
  exact fermat hp h.pm (by omega)

theorem derv_el {p q g : Int} {s : ByteArray} {k a : Int} (h : Gr p q g) (hd : derv p q g s k = some a) : isEl p q a = true := by
  have hr := derv_range h hd
  obtain ⟨i, hi⟩ := List.mem_iff_getElem?.1 (List.mem_of_find?_eq_some hd)
  obtain ⟨h1, h2⟩ := derL_get hi
  unfold isEl
  rw [h1, derX_el h, ← h1]
  simp only [beq_self_eq_true, Bool.and_true, decide_eq_true_eq]
  omega

def flatC (l : List (Int × Int)) : List Int := l.flatMap fun c => [c.1, c.2]

theorem pairs_len (l : List (Int × Int)) : (flatC l).length = 2 * l.length := by
  induction l with
  | nil => rfl
  | cons a l ih => simp only [flatC, List.flatMap_cons, List.length_append, List.length_cons, List.length_nil] at ih ⊢; omega

theorem pairs_take {l : List (Int × Int)} {i : Nat} {a : Int × Int} (h : l[i]? = some a) : flatC (l.take (i + 1)) = flatC (l.take i) ++ [a.1, a.2] := by
  simp only [flatC]
  rw [List.take_add_one, h, List.flatMap_append]
  rfl

theorem pairs_append (a b : List (Int × Int)) : flatC (a ++ b) = flatC a ++ flatC b := by simp [flatC]

theorem pairs_loop {β : Type} (l : List (Int × Int)) (s0 : List Int) (fin : List Int → Option β) {body : (List Int × Int → Option β) → List Int × Int → Option β}
    (h : ∀ (again : List Int × Int → Option β) (i : Nat) (a : Int × Int) (s : List Int), l[i]? = some a → i < l.length → s.length ≤ s0.length + 2 * l.length → body again (s, (i : Int)) = again (s ++ [a.1, a.2], ((i + 1 : Nat) : Int)))
    (hend : ∀ (again : List Int × Int → Option β), body again (s0 ++ flatC l, (l.length : Int)) = fin (s0 ++ flatC l)) (hl : l.length < 2 ^ 62) : loopO body (s0, 0) = fin (s0 ++ flatC l) := by
  refine (loopO_for (σ := List Int) (fun i s => (s, (i : Int))) l.length (fun i s => fin (s0 ++ flatC l)) (fun i s => s = s0 ++ flatC (l.take i)) (fun again s hs => ?_) (fun again i s hi hs ih => ?_) (by omega) (i := 0) (s := s0) (Nat.zero_le _) (by simp [flatC])).trans rfl
  · subst hs
    rw [List.take_length]
    exact hend again
  · subst hs
    have ha := List.getElem?_eq_getElem hi
    rw [h again i l[i] _ ha hi (by rw [List.length_append, pairs_len, List.length_take]; omega)]
    exact ih _ (by rw [pairs_take ha, List.append_assoc])

def mixL (key : Int) (ins outs : List (Int × Int)) (more : List Int) : List Int := ([key] ++ flatC ins) ++ flatC outs ++ more

theorem mixL_len {key : Int} {ins outs : List (Int × Int)} {more : List Int} : (mixL key ins outs more).length = 1 + 2 * ins.length + 2 * outs.length + more.length := by
  simp only [mixL, List.length_append, pairs_len, List.length_cons, List.length_nil]

theorem mListed_eq {key : Int} {ins outs : List (Int × Int)} {more : List Int} (hi : ins.length ≤ 1048576) (ho : outs.length ≤ 1048576) (hm : more.length ≤ 1048576) :
    M_S_mListed (key, ins, outs, more) = some (mixL key ins outs more) := by
  unfold M_S_mListed
  dsimp only
  refine (pairs_loop ins [key] (fun s => some (s ++ flatC outs ++ more)) (fun again i a s ha hi' hs => ?_) (fun again => ?_) (by omega)).trans rfl
  · have hs' : s.length ≤ 1 + 2 * ins.length := hs
    simp only [lt_yes hi', cond_true, getI_nat, ha, bindO_some', guardO_of (lenOk_of (show s.length + [a.1, a.2].length ≤ 68719476736 by simp only [List.length_cons, List.length_nil]; omega)), i64_succ (show i < 2 ^ 62 by omega)]
  · dsimp only
    rw [lt_no, cond_false]
    refine pairs_loop outs ([key] ++ flatC ins) (fun s => some (s ++ more)) (fun again i a s ha hi' hs => ?_) (fun again => ?_) (by omega)
    · have hs' : s.length ≤ 1 + 2 * ins.length + 2 * outs.length := by rw [List.length_append, pairs_len] at hs; exact hs
      simp only [lt_yes hi', cond_true, getI_nat, ha, bindO_some', guardO_of (lenOk_of (show s.length + [a.1, a.2].length ≤ 68719476736 by simp only [List.length_cons, List.length_nil]; omega)), i64_succ (show i < 2 ^ 62 by omega)]
    · have hn : ([key] ++ flatC ins ++ flatC outs).length + more.length ≤ 68719476736 := by
        simp only [List.length_append, pairs_len, List.length_cons, List.length_nil]; omega
      dsimp only
      rw [lt_no, cond_false, guardO_of (lenOk_of hn), bindO_some', bindO_some']

theorem cloneC_eq {l : List (Int × Int)} (hl : l.length ≤ 1048576) : M_slices_Clone_sI_Cipher_I_Cipher l = some l := by
  unfold M_slices_Clone_sI_Cipher_I_Cipher
  rw [guardO_of (lenOk_of (by simp; omega))]
  simp only [bindO_some', List.nil_append, Bool.not_true, cond_false]
  cases l with
  | nil => simp [ambO]
  | cons a l => rfl

theorem mixList_eq {key : Int} {ins outs : List (Int × Int)} {more : List Int} (hi : ins.length ≤ 1048576) (ho : outs.length ≤ 1048576) (hm : more.length ≤ 1048576) :
    M_I_mixList (key, ins, outs, more) = some (mixL key ins outs more) := by
  unfold M_I_mixList
  dsimp only
  rw [cloneC_eq hi, bindO_some', guardO_of (lenOk_of (show ins.length + outs.length ≤ 68719476736 by omega)), bindO_some', bindO_some']
  refine (pairs_loop (ins ++ outs) [key] (fun s => some (s ++ more)) (fun again i a s ha hi' hs => ?_) (fun again => ?_) (by rw [List.length_append]; omega)).trans (by rw [pairs_append, ← List.append_assoc]; rfl)
  · have hs' : s.length ≤ 1 + 2 * (ins.length + outs.length) := by rw [List.length_append] at hs; exact hs
    rw [List.length_append] at hi'
    simp only [lt_yes (show i < (ins ++ outs).length by rw [List.length_append]; omega), cond_true, getI_nat, ha, bindO_some', guardO_of (lenOk_of (show s.length + [a.1, a.2].length ≤ 68719476736 by simp only [List.length_cons, List.length_nil]; omega)), i64_succ (show i < 2 ^ 62 by omega)]
  · have hn : ([key] ++ flatC (ins ++ outs)).length + more.length ≤ 68719476736 := by
      simp only [List.length_append, pairs_len, List.length_cons, List.length_nil]; omega
    dsimp only
    rw [lt_no, cond_false, guardO_of (lenOk_of hn), bindO_some', bindO_some']

theorem sides_both {l : List (Int × Int)} (hl : l.length ≤ 1048576) : M_S_mSides l = some (l.map (·.1), l.map (·.2)) ∧ M_I_sides l = some (l.map (·.1), l.map (·.2)) := by
  refine ⟨?_, ?_⟩
  all_goals
    first | unfold M_S_mSides | unfold M_I_sides
    refine (loopO_for (σ := List Int × List Int) (fun i s => (s.1, s.2, (i : Int))) l.length (fun i s => some (l.map (·.1), l.map (·.2))) (fun i s => s = ((l.take i).map (·.1), (l.take i).map (·.2))) (fun again s hs => ?_) (fun again i s hi hs ih => ?_) (by omega) (i := 0) (s := ([], [])) (Nat.zero_le _) (by simp)).trans rfl
    · subst hs
      dsimp only
      rw [lt_no, cond_false, List.take_length]
    · subst hs
      have ha := List.getElem?_eq_getElem hi
      have e1 : ((l.take i).map (·.1)).length + [l[i].1].length ≤ 68719476736 := by simp; omega
      have e2 : ((l.take i).map (·.2)).length + [l[i].2].length ≤ 68719476736 := by simp; omega
      simp only [lt_yes hi, cond_true, getI_nat, ha, bindO_some', guardO_of (lenOk_of e1), guardO_of (lenOk_of e2), i64_succ (show i < 2 ^ 62 by omega)]
      exact ih (_, _) (by rw [List.take_add_one, ha, Option.toList_some, List.map_append, List.map_append]; rfl)

theorem sides1 {l : List (Int × Int)} (hl : l.length ≤ 1048576) : M_S_mSides l = some (l.map (·.1), l.map (·.2)) := (sides_both hl).1

theorem sides2 {l : List (Int × Int)} (hl : l.length ≤ 1048576) : M_I_sides l = some (l.map (·.1), l.map (·.2)) := (sides_both hl).2

def chals (p q g : Int) (s : ByteArray) (l : List Int) (n : Nat) : List Int := (List.range n).map fun i : Nat => chal p q g s (l ++ [(i : Int)])

theorem chals_len {p q g : Int} {s : ByteArray} {l : List Int} {n : Nat} : (chals p q g s l n).length = n := by simp [chals]

theorem chals_range {p q g : Int} (h : Gr p q g) {s : ByteArray} {l : List Int} {n : Nat} : ∀ e ∈ chals p q g s l n, 0 ≤ e ∧ e ≤ q - 1 := fun e he => by
  simp only [chals, List.mem_map] at he
  obtain ⟨i, -, rfl⟩ := he
  exact chal_range h _ _

theorem chals_take {p q g : Int} {s : ByteArray} {l : List Int} {n : Nat} : chals p q g s l (n + 1) = chals p q g s l n ++ [chal p q g s (l ++ [(n : Int)])] := by simp [chals, List.range_succ]

theorem hChallenges_eq {p q g : Int} {s : ByteArray} {l : List Int} {n : Nat} (h : Gr p q g) (hs : s.size < 2 ^ 30) (hl : okD l = true) (hn : l.length ≤ 400) (hk : n ≤ 100) :
    M_S_hChallenges ((p, q, g), s, l, (n : Int)) = some (chals p q g s l n) := by
  unfold M_S_hChallenges
  dsimp only
  refine (loopO_for (σ := List Int) (fun i s => (s, (i : Int))) n (fun i _ => some (chals p q g s l n)) (fun i o => o = chals p q g s l i) (fun again o ho => ?_) (fun again i o hi ho ih => ?_) (by omega) (i := 0) (s := []) (Nat.zero_le _) rfl).trans rfl
  · subst ho
    dsimp only
    rw [lt_no, cond_false]
  · subst ho
    have e1 : l.length + [(i : Int)].length ≤ 68719476736 := by simp only [List.length_cons, List.length_nil]; omega
    have e2 : (chals p q g s l i).length + [chal p q g s (l ++ [(i : Int)])].length ≤ 68719476736 := by rw [chals_len]; simp only [List.length_cons, List.length_nil]; omega
    simp only [lt_yes hi, cond_true, own_eq (show l.length ≤ 1048576 by omega), bindO_some', guardO_of (lenOk_of e1), hChallenge_eq h hs (okD_snoc hl (show i < 1000 by omega)) (show (l ++ [(i : Int)]).length < 2 ^ 20 by rw [List.length_append]; simp only [List.length_cons, List.length_nil]; omega), guardO_of (lenOk_of e2), i64_succ (show i < 2 ^ 62 by omega)]
    exact ih _ chals_take.symm

theorem challenges_eq {p q g : Int} {s : ByteArray} {l : List Int} {n : Nat} (h : Gr p q g) (hs : s.size ≤ 40) (hl : okD l = true) (hn : s.size + l.length ≤ 395) (hk : n ≤ 100) (hk1 : 1 ≤ n) :
    M_I_Group_challenges ((p, q, g), s, l, (n : Int)) = some (chals p q g s l n, true) := by
  unfold M_I_Group_challenges
  dsimp only
  have hm : (if (n : Int) < 1 then (1 : Int) else (n : Int)) = (n : Int) := if_neg (by omega)
  rw [hm]
  refine (loopO_for (σ := List Int) (fun i s => (s, (i : Int))) n (fun i _ => some (chals p q g s l n, true)) (fun i o => o = chals p q g s l i) (fun again o ho => ?_) (fun again i o hi ho ih => ?_) (by omega) (i := 0) (s := []) (Nat.zero_le _) rfl).trans rfl
  · subst ho
    dsimp only
    rw [lt_no, cond_false, chals_len, sliceNH_nat (Nat.le_refl n), bindO_some']
    dsimp only
    rw [List.take_of_length_le (by rw [chals_len]; exact Nat.le_refl n)]
  · subst ho
    have e1 : l.length + [(i : Int)].length ≤ 68719476736 := by simp only [List.length_cons, List.length_nil]; omega
    have e2 : (chals p q g s l i).length + [chal p q g s (l ++ [(i : Int)])].length ≤ 68719476736 := by rw [chals_len]; simp only [List.length_cons, List.length_nil]; omega
    simp only [lt_yes hi, cond_true, clone_eq (show l.length ≤ 1048576 by omega), bindO_some', guardO_of (lenOk_of e1), challenge_eq h hs (okD_snoc hl (show i < 1000 by omega)) (show s.size + (l ++ [(i : Int)]).length ≤ 396 by rw [List.length_append]; simp only [List.length_cons, List.length_nil]; omega), Bool.not_true, cond_false, guardO_of (lenOk_of e2), i64_succ (show i < 2 ^ 62 by omega)]
    exact ih _ chals_take.symm

def hsB (p q g : Int) (n : Nat) : Bool := (List.range n).all fun k : Nat => (derv p q g sHs (k : Int)).isSome

def hsL (p q g : Int) (n : Nat) : List Int := (List.range n).map fun k : Nat => (derv p q g sHs (k : Int)).getD 0

def basesN (p q g : Int) (n : Nat) : (Int × List Int) × Bool :=
  bif (derv p q g sH 0).isSome && hsB p q g n then (((derv p q g sH 0).getD 0, hsL p q g n), true) else ((0, []), false)

theorem hsB_succ {p q g : Int} {n : Nat} : hsB p q g (n + 1) = (hsB p q g n && (derv p q g sHs (n : Int)).isSome) := by simp [hsB, List.range_succ]

theorem hsL_succ {p q g : Int} {n : Nat} : hsL p q g (n + 1) = hsL p q g n ++ [(derv p q g sHs (n : Int)).getD 0] := by simp [hsL, List.range_succ]

theorem hsL_len {p q g : Int} {n : Nat} : (hsL p q g n).length = n := by simp [hsL]

theorem hsB_at {p q g : Int} {n k : Nat} (h : hsB p q g n = true) (hk : k < n) : (derv p q g sHs (k : Int)).isSome = true := List.all_eq_true.1 h k (List.mem_range.2 hk)

theorem hsL_el {p q g : Int} (h : Gr p q g) {n : Nat} (hB : hsB p q g n = true) : (hsL p q g n).all (isEl p q) = true := by
  refine List.all_eq_true.2 fun x hx => ?_
  simp only [hsL, List.mem_map, List.mem_range] at hx
  obtain ⟨k, hk, rfl⟩ := hx
  have h1 := hsB_at hB hk
  cases hd : derv p q g sHs (k : Int) with
  | none => rw [hd] at h1; exact absurd h1 (by simp)
  | some a => exact derv_el h hd

theorem DeriveElement_h {p q g : Int} (h : Gr p q g) (hok : okG p q g = true) : M_S_DeriveElement ((p, q, g), sH, 0) = some ((derv p q g sH 0).getD 0, (derv p q g sH 0).isSome) := by
  unfold M_S_DeriveElement M_S_l3Digest
  dsimp only
  have hd := hDerived_eq (s := sH) (k := 0) h (by show (1 : Nat) ≤ _; omega) (by omega)
  have hz : decide ((sH.size : Int) > 40) = false := rfl
  have t2 : decide ((0 : Int) ≤ 0 ∧ (0 : Int) ≤ 4611686018427387903) = true := rfl
  rw [l2Good_eq, hok]
  simp only [bindO_some', Bool.not_true, cond_false, in_eq, hz, hd, t2]
  cases hd : derv p q g sH 0 with
  | none => rfl
  | some a =>
    have ha := derv_range h hd
    have : decide (a > 0) = true := by simp; omega
    simp only [Option.getD_some, this]
    rfl

theorem DeriveElements_hs {p q g : Int} (h : Gr p q g) (hok : okG p q g = true) {n : Nat} (hn : n ≤ 24) : M_S_DeriveElements ((p, q, g), sHs, (n : Int)) = some (bif hsB p q g n then (hsL p q g n, true) else ([], false)) := by
  unfold M_S_DeriveElements
  dsimp only
  have hz : decide ((sHs.size : Int) > 40) = false := rfl
  have t3 : decide ((0 : Int) ≤ (n : Int) ∧ (n : Int) ≤ 100) = true := by simp; omega
  rw [l2Good_eq, hok]
  simp only [bindO_some', Bool.not_true, cond_false, in_eq, hz, t3]
  refine (loopO_for (σ := List Int) (fun i s => (s, (i : Int))) n (fun i _ => some (bif hsB p q g n then (hsL p q g n, true) else ([], false))) (fun i s => s = hsL p q g i ∧ hsB p q g i = true) (fun again s hs => ?_) (fun again i s hi hs ih => ?_) (by omega) (i := 0) (s := []) (Nat.zero_le _) ⟨rfl, rfl⟩).trans rfl
  · obtain ⟨rfl, hb⟩ := hs
    dsimp only
    rw [lt_no, cond_false, hb, cond_true]
  · obtain ⟨rfl, hb⟩ := hs
    have hd := hDerived_eq (s := sHs) (k := (i : Int)) h (by show (2 : Nat) ≤ _; omega) (by omega)
    dsimp only
    rw [lt_yes hi, cond_true, hd, bindO_some']
    cases hd : derv p q g sHs (i : Int) with
    | none =>
      have : hsB p q g n = false := by
        cases hB : hsB p q g n with
        | false => rfl
        | true =>
          have := hsB_at hB hi
          rw [hd] at this
          exact absurd this (by simp)
      rw [this]
      rfl
    | some a =>
      have ha := derv_range h hd
      have e0 : (a == 0) = false := by simp; omega
      have e2 : (hsL p q g i).length + [a].length ≤ 68719476736 := by rw [hsL_len]; simp only [List.length_cons, List.length_nil]; omega
      simp only [Option.getD_some, e0, cond_false, guardO_of (lenOk_of e2), bindO_some', i64_succ (show i < 2 ^ 62 by omega)]
      exact ih _ ⟨by rw [hsL_succ, hd]; rfl, by rw [hsB_succ, hb, hd]; rfl⟩

theorem S_BasesOf_eq {p q g : Int} (h : Gr p q g) (hok : okG p q g = true) {n : Nat} (hn : n ≤ 24) : M_S_BasesOf ((p, q, g), (n : Int)) = some (basesN p q g n) := by
  unfold M_S_BasesOf
  dsimp only
  have t1 : decide ((0 : Int) ≤ (n : Int) ∧ (n : Int) ≤ 24) = true := by simp; omega
  rw [l2Good_eq, hok, in_eq, t1]
  simp only [bindO_some', Bool.not_true, cond_false]
  rw [show M_S_DeriveElement ((p, q, g), bytesOf [104], 0) = _ from DeriveElement_h h hok, bindO_some']
  rw [show M_S_DeriveElements ((p, q, g), bytesOf [104, 115], (n : Int)) = _ from DeriveElements_hs h hok hn, bindO_some']
  unfold basesN
  generalize (derv p q g sH 0).isSome = o1
  generalize (derv p q g sH 0).getD 0 = o2
  generalize hsL p q g n = o3
  generalize hsB p q g n = o4
  cases o1 <;> cases o4 <;> rfl

theorem I_basesOf_eq {p q g : Int} (h : Gr p q g) {n : Nat} (hn : n ≤ 24) : M_I_Group_basesOf ((p, q, g), (n : Int)) = some (basesN p q g n) := by
  unfold M_I_Group_basesOf
  dsimp only
  rw [show M_I_Group_derive ((p, q, g), bytesOf [104], 0) = _ from derive_eq (s := sH) (k := 0) h (by show (1 : Nat) ≤ _; omega) (by omega), bindO_some']
  generalize hso : (derv p q g sH 0).isSome = o1
  generalize hgo : (derv p q g sH 0).getD 0 = o2
  dsimp only
  have hbn : basesN p q g n = bif o1 && hsB p q g n then ((o2, hsL p q g n), true) else ((0, []), false) := by
    unfold basesN
    rw [hso, hgo]
  rw [hbn]
  clear hbn hso hgo
  refine (loopO_for (σ := Bool × List Int) (fun i s => (s.1, (i : Int), o2, s.2)) n (fun i _ => some (bif o1 && hsB p q g n then ((o2, hsL p q g n), true) else ((0, []), false))) (fun i s => s = (hsB p q g i, hsL p q g i)) (fun again s hs => ?_) (fun again i s hi hs ih => ?_) (by omega) (i := 0) (s := (true, [])) (Nat.zero_le _) rfl).trans rfl
  · subst hs
    dsimp only
    rw [lt_no, cond_false]
    generalize hsL p q g n = o3
    generalize hsB p q g n = o4
    cases o1 <;> cases o4 <;> rfl
  · subst hs
    have hd := derive_eq (s := sHs) (k := (i : Int)) h (by show (2 : Nat) ≤ _; omega) (by omega)
    have e2 : (hsL p q g i).length + [(derv p q g sHs (i : Int)).getD 0].length ≤ 68719476736 := by rw [hsL_len]; simp only [List.length_cons, List.length_nil]; omega
    dsimp only
    rw [lt_yes hi, cond_true, show M_I_Group_derive ((p, q, g), bytesOf [104, 115], (i : Int)) = _ from hd, bindO_some']
    simp only [guardO_of (lenOk_of e2), bindO_some', i64_succ (show i < 2 ^ 62 by omega)]
    have he := ih (hsB p q g (i + 1), hsL p q g (i + 1)) rfl
    rw [hsB_succ, hsL_succ] at he
    revert he
    clear e2 hd ih
    generalize hd1 : (derv p q g sHs (i : Int)).getD 0 = d1
    generalize hd2 : (derv p q g sHs (i : Int)).isSome = d2
    clear hd1 hd2
    intro he
    cases hB : hsB p q g i
    · rw [hB, Bool.false_and] at he
      exact he
    · rw [hB, Bool.true_and] at he
      exact he

theorem bases_ok {p q g : Int} (h : Gr p q g) {n : Nat} (hb : (basesN p q g n).2 = true) : isEl p q (basesN p q g n).1.1 = true ∧ (basesN p q g n).1.2.all (isEl p q) = true ∧ (basesN p q g n).1.2.length = n ∧ (basesN p q g 0) = (((basesN p q g n).1.1, []), true) := by
  have key : ∀ (o1 o4 : Bool) (d : Int) (l : List Int), ((bif o1 && o4 then ((d, l), true) else ((0, []), false)) : (Int × List Int) × Bool).2 = true → o1 = true ∧ o4 = true := by
    intro o1 o4 d l
    cases o1 <;> cases o4 <;> simp
  unfold basesN at hb
  obtain ⟨hc, hB⟩ := key _ _ _ _ hb
  unfold basesN
  rw [hc, hB, show hsB p q g 0 = true from by simp [hsB], show hsL p q g 0 = [] from by simp [hsL]]
  refine ⟨?_, hsL_el h hB, hsL_len, ?_⟩
  rotate_left
  · generalize (derv p q g sH 0).getD 0 = o
    rfl
  cases hd : derv p q g sH 0 with
  | none => rw [hd] at hc; exact absurd hc (by simp)
  | some a => exact derv_el h hd

def chk (p q z c b d : Int) : Bool := prodM p 1 [c, pw p q b z] == d

def lCol : ByteArray := bytesOf [109, 105, 120, 32, 99, 111, 108, 117, 109, 110, 115]

def lMix : ByteArray := bytesOf [109, 105, 120, 32, 112, 114, 111, 111, 102]

def mForm (p q : Int) (n : Nat) (cols chain : List Int) (pf : Pf) : Bool :=
  (cols.length == n) && ((chain.length == n) && ((pf.1.length == n + 5) && ((pf.2.1.length == 1) && ((pf.2.2.length == 2 * n + 4) && (cols.all (isEl p q) && (chain.all (isEl p q) && (pf.1.all (isEl p q) && pf.2.2.all fun e => decide (0 ≤ e ∧ e ≤ q - 1))))))))

theorem eq_decN (a b : Nat) : (((a : Nat) : Int) == ((b : Nat) : Int)) = (a == b) := by
  by_cases h : a = b
  · subst h; rw [beq_self_eq_true, beq_self_eq_true]
  · have h' : ¬ (a : Int) = (b : Int) := by omega
    rw [beq_eq_false_iff_ne.2 h', beq_eq_false_iff_ne.2 h]

theorem cond_and (b c : Bool) : (bif b then some c else some false) = some (b && c) := by cases b <;> rfl

theorem mShape_eq {p q g : Int} {n : Nat} {cols chain : List Int} {pf : Pf} (h : Gr p q g) (hn : n ≤ 24) (h1 : cols.length ≤ 1048576) (h2 : chain.length ≤ 1048576) (hp : pf.small 1048576) :
    M_S_mShape ((p, q, g), (n : Int), cols, chain, pf) = some (mForm p q n cols chain pf) := by
  obtain ⟨h3, h4, h5⟩ := hp
  unfold M_S_mShape
  dsimp only
  rw [i64_in ((n : Int) + 5) (by omega), i64_in (2 * (n : Int)) (by omega), bindO_some', bindO_some', i64_in (2 * (n : Int) + 4) (by omega), bindO_some', gIs_eq h (by omega), gIs_eq h (by omega), gIs_eq h (by omega), gExps_eq h (by omega)]
  rw [show (n : Int) + 5 = ((n + 5 : Nat) : Int) by omega, show 2 * (n : Int) + 4 = ((2 * n + 4 : Nat) : Int) by omega, show (1 : Int) = ((1 : Nat) : Int) by rfl]
  simp only [eq_decN, bindO_some', cond_and]
  rfl

theorem isMatrixForm_eq {p q g : Int} {n : Nat} {cols chain : List Int} {pf : Pf} (h : Gr p q g) (hn : n ≤ 24) (h1 : cols.length ≤ 1048576) (h2 : chain.length ≤ 1048576) (hp : pf.small 1048576) :
    M_I_Group_isMatrixForm ((p, q, g), (cols, chain, pf), (n : Int)) = some (mForm p q n cols chain pf) := by
  obtain ⟨h3, h4, h5⟩ := hp
  unfold M_I_Group_isMatrixForm
  dsimp only
  rw [i64_in ((n : Int) + 5) (by omega), i64_in (2 * (n : Int)) (by omega), bindO_some', bindO_some', i64_in (2 * (n : Int) + 4) (by omega), bindO_some', hasAll_eq h (by omega), hasAll_eq h (by omega), hasAll_eq h (by omega), areExps_eq h (by omega)]
  rw [show (n : Int) + 5 = ((n + 5 : Nat) : Int) by omega, show 2 * (n : Int) + 4 = ((2 * n + 4 : Nat) : Int) by omega, show (1 : Int) = ((1 : Nat) : Int) by rfl]
  simp only [eq_decN, bindO_some', cond_and]
  rfl

structure MFits (p q : Int) (n : Nat) (cols chain : List Int) (pf : Pf) : Prop where
  l1 : cols.length = n
  l2 : chain.length = n
  l3 : pf.1.length = n + 5
  l4 : pf.2.1.length = 1
  l5 : pf.2.2.length = 2 * n + 4
  e1 : cols.all (isEl p q) = true
  e2 : chain.all (isEl p q) = true
  e3 : pf.1.all (isEl p q) = true
  e4 : (pf.2.2.all fun e => decide (0 ≤ e ∧ e ≤ q - 1)) = true

theorem mForm_fits {p q : Int} {n : Nat} {cols chain : List Int} {pf : Pf} (hF : mForm p q n cols chain pf = true) : MFits p q n cols chain pf := by
  simp only [mForm, Bool.and_eq_true, beq_iff_eq] at hF
  obtain ⟨a1, a2, a3, a4, a5, a6, a7, a8, a9⟩ := hF
  exact ⟨a1, a2, a3, a4, a5, a6, a7, a8, a9⟩

def prodQ (q : Int) (l : List Int) : Int := l.foldl (fun a k => a * k % q) 1

theorem prodQ_range {q : Int} (hq : 2 ≤ q) (l : List Int) : 0 ≤ prodQ q l ∧ prodQ q l ≤ q - 1 := by
  have key : ∀ (l : List Int) (s : Int), 0 ≤ s ∧ s ≤ q - 1 → 0 ≤ l.foldl (fun a k => a * k % q) s ∧ l.foldl (fun a k => a * k % q) s ≤ q - 1 := by
    intro l
    induction l with
    | nil => exact fun s h => h
    | cons a l ih => exact fun s _ => ih (s * a % q) ⟨Int.emod_nonneg _ (by omega), by have := Int.emod_lt_of_pos (s * a) (show 0 < q by omega); omega⟩
  exact key l 1 (by omega)

theorem fold_loop {β : Type} {q : Int} (l : List Int) (fin : Int → Option β) {body : (Int × Int → Option β) → Int × Int → Option β} (hq : 2 ≤ q) (hl : l.length < 2 ^ 62)
    (h : ∀ (again : Int × Int → Option β) (i : Nat) (a s : Int), l[i]? = some a → i < l.length → 0 ≤ s ∧ s ≤ q - 1 → body again (s, (i : Int)) = again (s * a % q, ((i + 1 : Nat) : Int)))
    (hend : ∀ again : Int × Int → Option β, body again (prodQ q l, (l.length : Int)) = fin (prodQ q l)) : loopO body (1, 0) = fin (prodQ q l) := by
  refine (loopO_for (σ := Int) (fun i s => (s, (i : Int))) l.length (fun i s => fin (prodQ q l)) (fun i s => s = prodQ q (l.take i)) (fun again s hs => ?_) (fun again i s hi hs ih => ?_) (by omega) (i := 0) (s := 1) (Nat.zero_le _) (by simp [prodQ])).trans rfl
  · subst hs
    rw [List.take_length]
    exact hend again
  · subst hs
    have ha := List.getElem?_eq_getElem hi
    rw [h again i l[i] _ ha hi (prodQ_range hq _)]
    exact ih _ (by rw [List.take_add_one, ha, prodQ, prodQ, Option.toList_some, List.foldl_append]; rfl)

theorem mul_small {q a b : Int} (hq : q ≤ 2000000000) (ha : 0 ≤ a ∧ a ≤ q - 1) (hb : 0 ≤ b ∧ b ≤ q - 1) : IntKind.wrap .i64 (a * b) = a * b ∧ 0 ≤ a * b := by
  have h := mul_in (a := a) (b := b) ha.1 (by omega) hb.1 (by omega)
  exact ⟨i64_in (a * b) (by omega), h.1⟩

def mZ (p q g key : Int) (ins outs : List (Int × Int)) (cols chain cs : List Int) : Int := chal p q g lMix (mixL key ins outs cols ++ (chain ++ cs))

def mL5 (p q H : Int) (Hs : List Int) (ins : List (Int × Int)) (cols chain e : List Int) : List Int :=
  [over p q (prodM p 1 cols) (prodM p 1 Hs), gpf p q cols e, prodM p 1 [chain.getD (ins.length - 1) 0, pw p q H (-(prodQ q e))], gpf p q (ins.map (·.1)) e, gpf p q (ins.map (·.2)) e]

def mR5 (p q g key : Int) (Hs : List Int) (outs : List (Int × Int)) (rs x : List Int) : List Int :=
  [pw p q g (rs.getD 0 0), prodM p 1 [pw p q g (rs.getD 1 0), gpf p q Hs x], pw p q g (rs.getD 2 0), prodM p 1 [pw p q g (-(rs.getD 3 0)), gpf p q (outs.map (·.1)) x], prodM p 1 [pw p q key (-(rs.getD 3 0)), gpf p q (outs.map (·.2)) x]]

def mRow (p q g H : Int) (chain rs x : List Int) (i : Nat) : Int := prodM p 1 [pw p q g (rs.getD (4 + i) 0), pw p q ((H :: chain).getD i 0) (x.getD i 0)]

def mV (p q g key H : Int) (Hs : List Int) (ins outs : List (Int × Int)) (cols chain : List Int) (pf : Pf) : Bool :=
  (List.range (5 + ins.length)).all fun i => chk p q (mZ p q g key ins outs cols chain pf.1) (pf.1.getD i 0)
    ((mL5 p q H Hs ins cols chain (chals p q g lCol (mixL key ins outs cols) ins.length) ++ chain).getD i 0)
    ((mR5 p q g key Hs outs pf.2.2 (pf.2.2.drop (ins.length + 4)) ++ (List.range ins.length).map (mRow p q g H chain pf.2.2 (pf.2.2.drop (ins.length + 4)))).getD i 0)

def mVer (p q g key H : Int) (Hs : List Int) (ins outs : List (Int × Int)) (cols chain : List Int) (pf : Pf) : Bool :=
  (outs.length == ins.length) && (mForm p q ins.length cols chain pf && ((pf.2.1.getD 0 0 == mZ p q g key ins outs cols chain pf.1) && mV p q g key H Hs ins outs cols chain pf))

/-- What a mix is checked for. -/
structure MixOK (p q key H : Int) (Hs : List Int) (ins outs : List (Int × Int)) : Prop where
  n1 : 1 ≤ ins.length
  n2 : ins.length ≤ 12
  o2 : outs.length ≤ 24
  ki : isEl p q key = true
  hi : isEl p q H = true
  hs : Hs.all (isEl p q) = true
  hl : Hs.length = ins.length
  ii : ins.all (isCi p q) = true
  oo : outs.all (isCi p q) = true

theorem okD_pairs {p q g : Int} (h : Gr p q g) {l : List (Int × Int)} (hl : l.all (isCi p q) = true) : okD (flatC l) = true := by
  have := h.pm
  induction l with
  | nil => rfl
  | cons a l ih =>
    simp only [List.all_cons, Bool.and_eq_true] at hl
    have h1 := isCi_in hl.1
    have h2 := ih hl.2
    rw [show flatC (a :: l) = [a.1, a.2] ++ flatC l from rfl, okD_append, h2, Bool.and_true]
    simp only [okD, List.all_cons, List.all_nil, Bool.and_true, Bool.and_eq_true, decide_eq_true_eq]
    omega

theorem okD_mixL {p q g key : Int} (h : Gr p q g) {ins outs : List (Int × Int)} {more : List Int} (hk : isEl p q key = true) (hi : ins.all (isCi p q) = true) (ho : outs.all (isCi p q) = true) (hm : okD more = true) : okD (mixL key ins outs more) = true := by
  have := h.pm
  have hk := isEl_in hk
  unfold mixL
  rw [okD_append, okD_append, okD_append, okD_pairs h hi, okD_pairs h ho, hm]
  simp only [okD, List.all_cons, List.all_nil, Bool.and_true, decide_eq_true_eq]
  omega

theorem comp_in {p q : Int} {l : List (Int × Int)} (hl : l.all (isCi p q) = true) : (∀ x ∈ l.map (·.1), 0 ≤ x ∧ x ≤ p) ∧ ∀ x ∈ l.map (·.2), 0 ≤ x ∧ x ≤ p := by
  refine ⟨fun x hx => ?_, fun x hx => ?_⟩
  all_goals
    obtain ⟨c, hc, rfl⟩ := List.mem_map.1 hx
    have := isCi_in (List.all_eq_true.1 hl c hc)
    first | exact this.1 | exact this.2

theorem neg_in {q a : Int} (hq : q ≤ 2000000000) (ha : 0 ≤ a ∧ a ≤ q - 1) : IntKind.wrap .i64 (0 - a) = -a := by
  rw [i64_in (0 - a) (by omega), Int.zero_sub]

theorem getD_in {p q : Int} {l : List Int} (hl : l.all (isEl p q) = true) {i : Nat} (hi : i < l.length) : 0 ≤ l.getD i 0 ∧ l.getD i 0 ≤ p :=
  isEl_in (List.all_eq_true.1 hl _ (List.mem_of_getElem? (getD_at hi)))

theorem getD_exp {q : Int} {l : List Int} (hl : (l.all fun e => decide (0 ≤ e ∧ e ≤ q - 1)) = true) {i : Nat} (hi : i < l.length) : 0 ≤ l.getD i 0 ∧ l.getD i 0 ≤ q - 1 := all_exp hl (getD_at hi)

theorem mChallenge_eq {p q g key : Int} {ins outs : List (Int × Int)} {cols chain : List Int} {pf : Pf} (h : Gr p q g) (hk : isEl p q key = true) (hi : ins.all (isCi p q) = true) (ho : outs.all (isCi p q) = true)
    (hn : ins.length ≤ 12) (hn2 : outs.length ≤ 24) (hc : okD cols = true) (hc2 : okD chain = true) (hc3 : okD pf.1 = true) (l1 : cols.length ≤ 24) (l2 : chain.length ≤ 24) (l3 : pf.1.length ≤ 24) :
    M_S_mChallenge ((p, q, g), key, ins, outs, cols, chain, pf) = some (mZ p q g key ins outs cols chain pf.1) := by
  unfold M_S_mChallenge
  dsimp only
  have hl := mixL_len (key := key) (ins := ins) (outs := outs) (more := cols)
  rw [mListed_eq (by omega) (by omega) (by omega), bindO_some', guardO_of (lenOk_of (show (mixL key ins outs cols).length + chain.length ≤ 68719476736 by omega)), bindO_some', bindO_some', guardO_of (lenOk_of (show (mixL key ins outs cols ++ chain).length + pf.1.length ≤ 68719476736 by rw [List.length_append]; omega)), bindO_some', bindO_some']
  rw [show M_S_hChallenge ((p, q, g), bytesOf [109, 105, 120, 32, 112, 114, 111, 111, 102], mixL key ins outs cols ++ chain ++ pf.1) = _ from hChallenge_eq (s := lMix) h (by decide) (by rw [okD_append, okD_append, okD_mixL h hk hi ho hc, hc2, hc3]; rfl) (by rw [List.length_append, List.length_append]; omega), bindO_some', List.append_assoc]
  rfl

theorem mChallenges_eq {p q g key : Int} {ins outs : List (Int × Int)} {cols : List Int} (h : Gr p q g) (hk : isEl p q key = true) (hi : ins.all (isCi p q) = true) (ho : outs.all (isCi p q) = true)
    (hn : ins.length ≤ 12) (hn2 : outs.length ≤ 24) (hc : okD cols = true) (l1 : cols.length ≤ 24) :
    M_S_mChallenges ((p, q, g), key, ins, outs, cols) = some (chals p q g lCol (mixL key ins outs cols) ins.length) := by
  unfold M_S_mChallenges
  dsimp only
  have hl := mixL_len (key := key) (ins := ins) (outs := outs) (more := cols)
  rw [mListed_eq (by omega) (by omega) (by omega), bindO_some']
  rw [show M_S_hChallenges ((p, q, g), bytesOf [109, 105, 120, 32, 99, 111, 108, 117, 109, 110, 115], mixL key ins outs cols, ((ins.length : Nat) : Int)) = _ from hChallenges_eq (s := lCol) h (by decide) (okD_mixL h hk hi ho hc) (by omega) (by omega), bindO_some']

theorem mVerify_eq {p q g key H : Int} {Hs : List Int} {ins outs : List (Int × Int)} {cols chain : List Int} {pf : Pf} (h : Gr p q g) (hM : MixOK p q key H Hs ins outs) (h1 : cols.length ≤ 1048576) (h2 : chain.length ≤ 1048576) (hp : pf.small 1048576) :
    M_S_mVerify ((p, q, g), key, (H, Hs), ins, outs, cols, chain, pf) = some (mVer p q g key H Hs ins outs cols chain pf) := by
  have h3 := h.p3; have hpm := h.pm; have hq2 := h.q2; have hqp := h.qp; have hg2 := h.g2; have hgp := h.gp
  have hqm : q ≤ 2000000000 := by omega
  obtain ⟨n1, n2, o2, ki, hHi, hHs, hHl, hii, hoo⟩ := hM
  unfold M_S_mVerify mVer
  dsimp only
  rw [ne_dec]
  cases hno : (outs.length == ins.length) with
  | false => rfl
  | true =>
  have hno' : outs.length = ins.length := by simpa using hno
  simp only [Bool.not_true, cond_false, Bool.true_and]
  rw [show M_S_mShape ((p, q, g), ((ins.length : Nat) : Int), cols, chain, pf.1, pf.2.1, pf.2.2) = _ from mShape_eq (pf := pf) h (by omega) h1 h2 hp, bindO_some']
  cases hF : mForm p q ins.length cols chain pf with
  | false => rfl
  | true =>
  obtain ⟨f1, f2, f3, f4, f5, e1, e2, e3, e4⟩ := mForm_fits hF
  have okc := okD_el h e1
  simp only [Bool.not_true, cond_false, Bool.true_and]
  have g0 : getI pf.2.1 (0 : Int) = some (pf.2.1.getD 0 0) := (getI_nat pf.2.1 0).trans (getD_at (by omega))
  rw [g0, bindO_some', show M_S_mChallenge ((p, q, g), key, ins, outs, cols, chain, pf.1, pf.2.1, pf.2.2) = _ from mChallenge_eq (pf := pf) h ki hii hoo n2 o2 okc (okD_el h e2) (okD_el h e3) (by omega) (by omega) (by omega), bindO_some', bindO_some', bne]
  cases hz : (pf.2.1.getD 0 0 == mZ p q g key ins outs cols chain pf.1) with
  | false => rfl
  | true =>
  have hz' : pf.2.1.getD 0 0 = mZ p q g key ins outs cols chain pf.1 := by simpa using hz
  simp only [Bool.not_true, cond_false, Bool.true_and]
  rw [hz', mChallenges_eq h ki hii hoo n2 o2 okc (by omega)]
  rw [i64_in (((ins.length : Nat) : Int) + 4) (by omega), bindO_some', show ((ins.length : Nat) : Int) + 4 = ((ins.length + 4 : Nat) : Int) by omega, sliceLN_nat (show ins.length + 4 ≤ pf.2.2.length by omega), bindO_some', bindO_some']
  dsimp only
  rw [List.take_length]
  unfold mV
  have hel := chals_len (p := p) (q := q) (g := g) (s := lCol) (l := mixL key ins outs cols) (n := ins.length)
  have her := chals_range h (s := lCol) (l := mixL key ins outs cols) (n := ins.length)
  generalize chals p q g lCol (mixL key ins outs cols) ins.length = e at hel her ⊢
  generalize mZ p q g key ins outs cols chain pf.1 = z
  have hxl : (pf.2.2.drop (ins.length + 4)).length = ins.length := by rw [List.length_drop]; omega
  generalize pf.2.2.drop (ins.length + 4) = x at hxl ⊢
  have hci := comp_in hii
  have hco := comp_in hoo
  have cin := all_in e1
  refine fold_loop (q := q) e (fun all => some ((List.range (5 + ins.length)).all fun i => chk p q z (pf.1.getD i 0) ((([over p q (prodM p 1 cols) (prodM p 1 Hs), gpf p q cols e, prodM p 1 [chain.getD (ins.length - 1) 0, pw p q H (-all)], gpf p q (ins.map (·.1)) e, gpf p q (ins.map (·.2)) e] : List Int) ++ chain).getD i 0) ((mR5 p q g key Hs outs pf.2.2 x ++ (List.range ins.length).map (mRow p q g H chain pf.2.2 x)).getD i 0))) hq2 (by omega) (fun again i a s ha hi hs => ?_) (fun again => ?_)
  · have ha' := her a (List.mem_of_getElem? ha)
    have hm := mul_small hqm hs ha'
    have hq0 : (q != 0) = true := by simp; omega
    dsimp only
    rw [lt_yes hi, cond_true]
    simp only [getI_nat, ha, bindO_some', hm.1, guardO_of hq0, tmod_nn hm.2, i64_succ (show i < 2 ^ 62 by omega)]
  · have hA := prodQ_range hq2 e
    generalize prodQ q e = all at hA ⊢
    have g1 : getI chain (((ins.length : Nat) : Int) - 1) = some (chain.getD (ins.length - 1) 0) := by
      rw [show ((ins.length : Nat) : Int) - 1 = ((ins.length - 1 : Nat) : Int) by omega]
      exact (getI_nat _ _).trans (getD_at (by omega))
    have r0 : getI pf.2.2 (0 : Int) = some (pf.2.2.getD 0 0) := (getI_nat pf.2.2 0).trans (getD_at (by omega))
    have r1 : getI pf.2.2 (1 : Int) = some (pf.2.2.getD 1 0) := (getI_nat pf.2.2 1).trans (getD_at (by omega))
    have r2 : getI pf.2.2 (2 : Int) = some (pf.2.2.getD 2 0) := (getI_nat pf.2.2 2).trans (getD_at (by omega))
    have r3 : getI pf.2.2 (3 : Int) = some (pf.2.2.getD 3 0) := (getI_nat pf.2.2 3).trans (getD_at (by omega))
    have i3 := getD_exp e4 (i := 3) (by omega)
    have hcl := getD_in e2 (i := ins.length - 1) (by omega)
    have hH := isEl_in hHi
    have hk := isEl_in ki
    have hch := all_in e2
    have hsin := all_in hHs
    have hg : 0 ≤ g ∧ g ≤ p := by omega
    have pr : ∀ l, 0 ≤ prodM p 1 l ∧ prodM p 1 l ≤ p := fun l => by have := prod_range (l := l) (show 2 ≤ p by omega); omega
    have pwr : ∀ b c, 0 ≤ pw p q b c ∧ pw p q b c ≤ p := fun b c => by have := pw_range (q := q) (x := b) (e := c) (show 1 ≤ p by omega); omega
    have gpr : ∀ a b, 0 ≤ gpf p q a b ∧ gpf p q a b ≤ p := fun a b => by have := gpf_range (q := q) (show 2 ≤ p by omega) a b; omega
    have inr : ∀ x, 0 ≤ x ^ (q - 1).toNat % p ∧ x ^ (q - 1).toNat % p ≤ p := fun x => by have := inv_range (q := q) (x := x) (show 1 ≤ p by omega); omega
    dsimp only
    rw [lt_no, cond_false]
    simp only [sides1 (show ins.length ≤ 1048576 by omega), sides1 (show outs.length ≤ 1048576 by omega), bindO_some',
      gMul_eq h (l := cols) (fun y hy => by have := cin y hy; omega) (by omega), gMul_eq h (l := Hs) (fun y hy => by have := hsin y hy; omega) (by omega), gInv_eq h (pr Hs).1 (pr Hs).2, mul2 h (pr cols) (inr _),
      gProd_eq h (l := cols) (es := e) (by omega) cin (by omega), i64_in (((ins.length : Nat) : Int) - 1) (by omega), g1, neg_in hqm hA,
      gExp_pw h hH.1 hH.2, mul2 h hcl (pwr _ _), gProd_eq h (l := ins.map (·.1)) (es := e) (by rw [List.length_map]; omega) hci.1 (by rw [List.length_map]; omega), gProd_eq h (l := ins.map (·.2)) (es := e) (by rw [List.length_map]; omega) hci.2 (by rw [List.length_map]; omega),
      r0, r1, r2, r3, gExp_pw h hg.1 hg.2, gProd_eq h (l := Hs) (es := x) (by omega) hsin (by omega), mul2 h (pwr _ _) (gpr _ _), neg_in hqm i3, gExp_pw h hk.1 hk.2,
      gProd_eq h (l := outs.map (·.1)) (es := x) (by rw [List.length_map]; omega) hco.1 (by rw [List.length_map]; omega), gProd_eq h (l := outs.map (·.2)) (es := x) (by rw [List.length_map]; omega) hco.2 (by rw [List.length_map]; omega)]
    have hlist : ∀ (L R : List Int), L.length = 5 → R.length = 5 → (∀ y ∈ L, 0 ≤ y ∧ y ≤ p) → ∀ body : (List Int × List Int × Int × Int → Option Bool) → List Int × List Int × Int × Int → Option Bool,
        (∀ again (i : Nat) (A B : List Int) (c : Int), i < ins.length → A.length ≤ 20 → B.length ≤ 20 → c = (H :: chain).getD i 0 → body again (A, B, c, (i : Int)) = again (A ++ [chain.getD i 0], B ++ [mRow p q g H chain pf.2.2 x i], chain.getD i 0, ((i + 1 : Nat) : Int))) →
        (∀ again (A B : List Int) (c : Int), A.length = 5 + ins.length → B.length = 5 + ins.length → (∀ y ∈ A, 0 ≤ y ∧ y ≤ p) → body again (A, B, c, (ins.length : Int)) = some ((List.range (5 + ins.length)).all fun i => chk p q z (pf.1.getD i 0) (A.getD i 0) (B.getD i 0))) →
        loopO body (L, R, H, 0) = some ((List.range (5 + ins.length)).all fun i => chk p q z (pf.1.getD i 0) ((L ++ chain).getD i 0) ((R ++ (List.range ins.length).map (mRow p q g H chain pf.2.2 x)).getD i 0)) := by
      intro L R hL hR hLr body hstep hend
      refine (loopO_for (σ := List Int × List Int × Int) (fun i s => (s.1, s.2.1, s.2.2, (i : Int))) ins.length (fun i s => some ((List.range (5 + ins.length)).all fun i => chk p q z (pf.1.getD i 0) ((L ++ chain).getD i 0) ((R ++ (List.range ins.length).map (mRow p q g H chain pf.2.2 x)).getD i 0))) (fun i s => s = (L ++ chain.take i, R ++ (List.range i).map (mRow p q g H chain pf.2.2 x), (H :: chain).getD i 0)) (fun again s hs => ?_) (fun again i s hi hs ih => ?_) (by omega) (i := 0) (s := (L, R, H)) (Nat.zero_le _) (by simp)).trans rfl
      · subst hs
        dsimp only
        rw [show chain.take ins.length = chain from List.take_of_length_le (by omega)]
        exact hend again _ _ _ (by rw [List.length_append]; omega) (by rw [List.length_append, List.length_map, List.length_range]; omega) (fun y hy => (List.mem_append.1 hy).elim (hLr y) (hch y))
      · subst hs
        dsimp only
        rw [hstep again i _ _ _ hi (by rw [List.length_append, List.length_take]; omega) (by rw [List.length_append, List.length_map, List.length_range]; omega) rfl]
        refine ih (_, _, _) ?_
        have hc : chain[i]? = some (chain.getD i 0) := getD_at (by omega)
        rw [List.take_add_one, hc, Option.toList_some, List.range_succ, List.map_append, List.append_assoc, List.append_assoc, List.getD_cons_succ]
        rfl
    refine (hlist _ _ ?_ ?_ ?_ _ (fun again i A B c hi hA hB hc => ?_) (fun again A B c hA hB hAr => ?_)).trans ?_
    · rfl
    · rfl
    · intro y hy
      simp only [List.mem_cons, List.not_mem_nil, or_false] at hy
      rcases hy with rfl | rfl | rfl | rfl | rfl
      · exact pr _
      · exact gpr _ _
      · exact pr _
      · exact gpr _ _
      · exact gpr _ _
    · subst hc
      have hc : chain[i]? = some (chain.getD i 0) := getD_at (by omega)
      have hr : pf.2.2[4 + i]? = some (pf.2.2.getD (4 + i) 0) := getD_at (by omega)
      have hx : x[i]? = some (x.getD i 0) := getD_at (by omega)
      have hb : 0 ≤ (H :: chain).getD i 0 ∧ (H :: chain).getD i 0 ≤ p := getD_in (p := p) (q := q) (by rw [List.all_cons, hHi, e2]; rfl) (by rw [List.length_cons]; omega)
      have ea : A.length + [chain.getD i 0].length ≤ 68719476736 := by simp only [List.length_cons, List.length_nil]; omega
      have eb : B.length + [mRow p q g H chain pf.2.2 x i].length ≤ 68719476736 := by simp only [List.length_cons, List.length_nil]; omega
      have ei : IntKind.wrap .i64 ((4 : Int) + (i : Int)) = ((4 + i : Nat) : Int) := by rw [i64_in _ (by omega)]; omega
      dsimp only
      rw [lt_yes (show i < chain.length by omega), cond_true]
      simp only [getI_nat, hc, bindO_some', guardO_of (lenOk_of ea), ei, hr, hx, gExp_pw h hb.1 hb.2, mul2 h (pwr _ _) (pwr _ _), i64_succ (show i < 2 ^ 62 by omega)]
      unfold mRow at eb ⊢
      rw [guardO_of (lenOk_of eb)]
      rfl
    · dsimp only
      rw [f2, lt_no, cond_false]
      refine range_loop (n := 5 + ins.length) (fun i => chk p q z (pf.1.getD i 0) (A.getD i 0) (B.getD i 0)) (by omega) (fun again i hi => ?_) (fun again => ?_)
      · have hAi : A[i]? = some (A.getD i 0) := getD_at (by omega)
        have hBi : B[i]? = some (B.getD i 0) := getD_at (by omega)
        have hci' : pf.1[i]? = some (pf.1.getD i 0) := getD_at (by omega)
        have hAr' := hAr _ (List.mem_of_getElem? hAi)
        have hcr := getD_in e3 (i := i) (by omega)
        rw [lt_yes (show i < A.length by omega), cond_true]
        simp only [getI_nat, hAi, hBi, hci', bindO_some', gExp_pw h hAr'.1 hAr'.2, mul2 h hcr (pwr _ _), i64_succ (show i < 2 ^ 62 by omega), bne, chk]
        cases (prodM p 1 [pf.1.getD i 0, pw p q (A.getD i 0) z] == B.getD i 0) <;> rfl
      · rw [hA, lt_no, cond_false]
    · rfl

theorem and_loop {n : Nat} (c : Nat → Bool) {body : (Bool × Int → Option Bool) → Bool × Int → Option Bool} (hn : n < 2 ^ 62)
    (h : ∀ (again : Bool × Int → Option Bool) (i : Nat), i < n → body again (true, (i : Int)) = again (c i, ((i + 1 : Nat) : Int)))
    (h' : ∀ (again : Bool × Int → Option Bool) (i : Nat), i < n → body again (false, (i : Int)) = again (false, ((i + 1 : Nat) : Int)))
    (hend : ∀ (again : Bool × Int → Option Bool) (b : Bool), body again (b, (n : Int)) = some b) : loopO body (true, 0) = some ((List.range n).all c) := by
  refine (loopO_for (σ := Bool) (fun i s => (s, (i : Int))) n (fun i s => some ((List.range n).all c)) (fun i s => s = (List.range i).all c) (fun again s hs => ?_) (fun again i s hi hs ih => ?_) (by omega) (i := 0) (s := true) (Nat.zero_le _) (by simp)).trans rfl
  · subst hs
    exact hend again _
  · have hs' := ih ((List.range (i + 1)).all c) rfl
    have e1 : (List.range (i + 1)).all c = (s && c i) := by rw [List.range_succ, List.all_append, ← hs]; simp
    rw [e1] at hs'
    cases s with
    | true => rw [h again i hi]; exact hs'
    | false => rw [h' again i hi]; exact hs'

theorem no_loop {n : Nat} {body : (Bool × Int → Option Bool) → Bool × Int → Option Bool} (hn : n < 2 ^ 62)
    (h' : ∀ (again : Bool × Int → Option Bool) (i : Nat), i < n → body again (false, (i : Int)) = again (false, ((i + 1 : Nat) : Int)))
    (hend : ∀ (again : Bool × Int → Option Bool) (b : Bool), body again (b, (n : Int)) = some b) : loopO body (false, 0) = some false := by
  refine (loopO_for (σ := Bool) (fun i s => (s, (i : Int))) n (fun i s => some false) (fun i s => s = false) (fun again s hs => ?_) (fun again i s hi hs ih => ?_) (by omega) (i := 0) (s := false) (Nat.zero_le _) rfl).trans rfl
  · subst hs
    exact hend again _
  · subst hs
    rw [h' again i hi]
    exact ih false rfl

theorem all5 (f : Nat → Bool) (n : Nat) : (List.range (5 + n)).all f = (f 0 && (f 1 && (f 2 && (f 3 && (f 4 && (List.range n).all fun i => f (5 + i)))))) := by
  rw [List.range_add, List.all_append, List.all_map, show List.range 5 = [0, 1, 2, 3, 4] from rfl]
  simp only [List.all_cons, List.all_nil, Bool.and_true, Bool.and_assoc]
  rfl

theorem getD_app {L l : List Int} {k i : Nat} (h : L.length = k) : (L ++ l).getD (k + i) 0 = l.getD i 0 := by
  rw [List.getD_eq_getElem?_getD, List.getElem?_append_right (by omega), ← List.getD_eq_getElem?_getD, show k + i - L.length = i by omega]

theorem verifyMatrix_1_eq {p q g z c b d : Int} (h : Gr p q g) (hc : 0 ≤ c ∧ c ≤ p) (hb : 0 ≤ b ∧ b ≤ p) : M_I_Group_verifyMatrix_1 (c, b, d, (p, q, g), z) = some (chk p q z c b d) := by
  have h3 := h.p3
  unfold M_I_Group_verifyMatrix_1
  dsimp only
  have w := pw_range (q := q) (x := b) (e := z) (show 1 ≤ p by omega)
  rw [pow_pw h hb.1 hb.2, bindO_some', mul2' h hc (show 0 ≤ pw p q b z ∧ pw p q b z ≤ p by omega), bindO_some']
  rfl

theorem verifyMatrix_eq {p q g key H : Int} {Hs : List Int} {ins outs : List (Int × Int)} {cols chain : List Int} {pf : Pf} (h : Gr p q g) (hM : MixOK p q key H Hs ins outs) (h1 : cols.length ≤ 1048576) (h2 : chain.length ≤ 1048576) (hp : pf.small 1048576) :
    M_I_Group_verifyMatrix ((p, q, g), (H, Hs), key, ins, outs, cols, chain, pf) = some (mVer p q g key H Hs ins outs cols chain pf) := by
  have h3 := h.p3; have hpm := h.pm; have hq2 := h.q2; have hqp := h.qp; have hg2 := h.g2; have hgp := h.gp
  have hqm : q ≤ 2000000000 := by omega
  obtain ⟨n1, n2, o2, ki, hHi, hHs, hHl, hii, hoo⟩ := hM
  unfold M_I_Group_verifyMatrix mVer
  dsimp only
  rw [ne_dec]
  cases hno : (outs.length == ins.length) with
  | false => rfl
  | true =>
  have hno' : outs.length = ins.length := by simpa using hno
  simp only [Bool.not_true, cond_false, Bool.true_and]
  rw [show M_I_Group_isMatrixForm ((p, q, g), (cols, chain, pf.1, pf.2.1, pf.2.2), ((ins.length : Nat) : Int)) = _ from isMatrixForm_eq (pf := pf) h (by omega) h1 h2 hp, bindO_some']
  cases hF : mForm p q ins.length cols chain pf with
  | false => rfl
  | true =>
  obtain ⟨f1, f2, f3, f4, f5, e1, e2, e3, e4⟩ := mForm_fits hF
  have okc := okD_el h e1
  have okL := okD_mixL h ki hii hoo okc
  have hL := mixL_len (key := key) (ins := ins) (outs := outs) (more := cols)
  rw [Bool.not_true, cond_false, Bool.true_and]
  have g0 : getI pf.2.1 (0 : Int) = some (pf.2.1.getD 0 0) := (getI_nat pf.2.1 0).trans (getD_at (by omega))
  rw [mixList_eq (by omega) (by omega) (by omega), bindO_some']
  rw [show M_I_Group_challenges ((p, q, g), bytesOf [109, 105, 120, 32, 99, 111, 108, 117, 109, 110, 115], mixL key ins outs cols, ((ins.length : Nat) : Int)) = _ from challenges_eq (s := lCol) h (by decide) okL (show 11 + _ ≤ 395 by omega) (by omega) n1, bindO_some']
  rw [concat3_eq (by omega), bindO_some']
  rw [show M_I_Group_challenge ((p, q, g), bytesOf [109, 105, 120, 32, 112, 114, 111, 111, 102], mixL key ins outs cols ++ (chain ++ pf.1)) = _ from challenge_eq (s := lMix) h (by decide) (by rw [okD_append, okD_append, okL, okD_el h e2, okD_el h e3]; rfl) (show 9 + _ ≤ 396 by rw [List.length_append, List.length_append]; omega), bindO_some']
  dsimp only
  rw [Bool.not_true, cond_false, cond_false, g0, bindO_some', bne, show chal p q g lMix (mixL key ins outs cols ++ (chain ++ pf.1)) = mZ p q g key ins outs cols chain pf.1 from rfl]
  cases hz : (pf.2.1.getD 0 0 == mZ p q g key ins outs cols chain pf.1) with
  | false => rfl
  | true =>
  have hz' : pf.2.1.getD 0 0 = mZ p q g key ins outs cols chain pf.1 := by simpa using hz
  rw [Bool.not_true, cond_false, Bool.true_and]
  rw [i64_in (((ins.length : Nat) : Int) + 4) (by omega), bindO_some', show ((ins.length : Nat) : Int) + 4 = ((ins.length + 4 : Nat) : Int) by omega, sliceLN_nat (show ins.length + 4 ≤ pf.2.2.length by omega), bindO_some']
  dsimp only
  rw [List.take_length]
  unfold mV
  have hel := chals_len (p := p) (q := q) (g := g) (s := lCol) (l := mixL key ins outs cols) (n := ins.length)
  have her := chals_range h (s := lCol) (l := mixL key ins outs cols) (n := ins.length)
  generalize chals p q g lCol (mixL key ins outs cols) ins.length = e at hel her ⊢
  clear hz hz' g0
  generalize mZ p q g key ins outs cols chain pf.1 = z
  have hxl : (pf.2.2.drop (ins.length + 4)).length = ins.length := by rw [List.length_drop]; omega
  generalize pf.2.2.drop (ins.length + 4) = x at hxl ⊢
  have hci := comp_in hii
  have hco := comp_in hoo
  have cin := all_in e1
  refine fold_loop (q := q) e (fun all => some ((List.range (5 + ins.length)).all fun i => chk p q z (pf.1.getD i 0) ((([over p q (prodM p 1 cols) (prodM p 1 Hs), gpf p q cols e, prodM p 1 [chain.getD (ins.length - 1) 0, pw p q H (-all)], gpf p q (ins.map (·.1)) e, gpf p q (ins.map (·.2)) e] : List Int) ++ chain).getD i 0) ((mR5 p q g key Hs outs pf.2.2 x ++ (List.range ins.length).map (mRow p q g H chain pf.2.2 x)).getD i 0))) hq2 (by omega) (fun again i a s ha hi hs => ?_) (fun again => ?_)
  · have ha' := her a (List.mem_of_getElem? ha)
    have hm := mul_small hqm hs ha'
    dsimp only
    rw [lt_yes hi, cond_true]
    simp only [getI_nat, ha, bindO_some', hm.1, exp_eq h, i64_succ (show i < 2 ^ 62 by omega)]
  · have hA := prodQ_range hq2 e
    generalize prodQ q e = all at hA ⊢
    have g1 : getI chain (((ins.length : Nat) : Int) - 1) = some (chain.getD (ins.length - 1) 0) := by
      rw [show ((ins.length : Nat) : Int) - 1 = ((ins.length - 1 : Nat) : Int) by omega]
      exact (getI_nat _ _).trans (getD_at (by omega))
    have r0 : getI pf.2.2 (0 : Int) = some (pf.2.2.getD 0 0) := (getI_nat pf.2.2 0).trans (getD_at (by omega))
    have r1 : getI pf.2.2 (1 : Int) = some (pf.2.2.getD 1 0) := (getI_nat pf.2.2 1).trans (getD_at (by omega))
    have r2 : getI pf.2.2 (2 : Int) = some (pf.2.2.getD 2 0) := (getI_nat pf.2.2 2).trans (getD_at (by omega))
    have r3 : getI pf.2.2 (3 : Int) = some (pf.2.2.getD 3 0) := (getI_nat pf.2.2 3).trans (getD_at (by omega))
    have c0 : getI pf.1 (0 : Int) = some (pf.1.getD 0 0) := (getI_nat pf.1 0).trans (getD_at (by omega))
    have c1 : getI pf.1 (1 : Int) = some (pf.1.getD 1 0) := (getI_nat pf.1 1).trans (getD_at (by omega))
    have c2 : getI pf.1 (2 : Int) = some (pf.1.getD 2 0) := (getI_nat pf.1 2).trans (getD_at (by omega))
    have c3 : getI pf.1 (3 : Int) = some (pf.1.getD 3 0) := (getI_nat pf.1 3).trans (getD_at (by omega))
    have c4 : getI pf.1 (4 : Int) = some (pf.1.getD 4 0) := (getI_nat pf.1 4).trans (getD_at (by omega))
    have k0 := getD_in e3 (i := 0) (by omega)
    have k1 := getD_in e3 (i := 1) (by omega)
    have k2 := getD_in e3 (i := 2) (by omega)
    have k3 := getD_in e3 (i := 3) (by omega)
    have k4 := getD_in e3 (i := 4) (by omega)
    have i3 := getD_exp e4 (i := 3) (by omega)
    have hcl := getD_in e2 (i := ins.length - 1) (by omega)
    have hH := isEl_in hHi
    have hHq := (isEl_range hHi).2.2
    have hk := isEl_in ki
    have hch := all_in e2
    have hsin := all_in hHs
    have hg : 0 ≤ g ∧ g ≤ p := by omega
    have pr : ∀ l, 0 ≤ prodM p 1 l ∧ prodM p 1 l ≤ p := fun l => by have := prod_range (l := l) (show 2 ≤ p by omega); omega
    have pwr : ∀ b c, 0 ≤ pw p q b c ∧ pw p q b c ≤ p := fun b c => by have := pw_range (q := q) (x := b) (e := c) (show 1 ≤ p by omega); omega
    have gpr : ∀ a b, 0 ≤ gpf p q a b ∧ gpf p q a b ≤ p := fun a b => by have := gpf_range (q := q) (show 2 ≤ p by omega) a b; omega
    have hno : ∀ body : (Bool × Int → Option Bool) → Bool × Int → Option Bool, (∀ (again : Bool × Int → Option Bool) (i : Nat), i < ins.length → body again (false, (i : Int)) = again (false, ((i + 1 : Nat) : Int))) →
      (∀ (again : Bool × Int → Option Bool) (b : Bool), body again (b, (ins.length : Int)) = some b) → loopO body (false, 0) = some false := fun body a b => no_loop (by omega) a b
    dsimp only
    rw [lt_no, cond_false, all5]
    have hrow : ∀ i : Nat, i < ins.length → chk p q z (pf.1.getD (5 + i) 0) ((([over p q (prodM p 1 cols) (prodM p 1 Hs), gpf p q cols e, prodM p 1 [chain.getD (ins.length - 1) 0, pw p q H (-all)], gpf p q (ins.map (·.1)) e, gpf p q (ins.map (·.2)) e] : List Int) ++ chain).getD (5 + i) 0) ((mR5 p q g key Hs outs pf.2.2 x ++ (List.range ins.length).map (mRow p q g H chain pf.2.2 x)).getD (5 + i) 0) = chk p q z (pf.1.getD (5 + i) 0) (chain.getD i 0) (mRow p q g H chain pf.2.2 x i) := fun i hi => by
      rw [getD_app (k := 5) rfl, getD_app (k := 5) rfl, getD_is (l := (List.range ins.length).map (mRow p q g H chain pf.2.2 x)) (i := i) (a := mRow p q g H chain pf.2.2 x i) (by rw [List.getElem?_map, List.getElem?_range hi]; rfl)]
    change _ = some (chk p q z (pf.1.getD 0 0) (over p q (prodM p 1 cols) (prodM p 1 Hs)) (pw p q g (pf.2.2.getD 0 0)) && (chk p q z (pf.1.getD 1 0) (gpf p q cols e) (prodM p 1 [pw p q g (pf.2.2.getD 1 0), gpf p q Hs x]) && (chk p q z (pf.1.getD 2 0) (prodM p 1 [chain.getD (ins.length - 1) 0, pw p q H (-all)]) (pw p q g (pf.2.2.getD 2 0)) && (chk p q z (pf.1.getD 3 0) (gpf p q (ins.map (·.1)) e) (prodM p 1 [pw p q g (-(pf.2.2.getD 3 0)), gpf p q (outs.map (·.1)) x]) && (chk p q z (pf.1.getD 4 0) (gpf p q (ins.map (·.2)) e) (prodM p 1 [pw p q key (-(pf.2.2.getD 3 0)), gpf p q (outs.map (·.2)) x]) && (List.range ins.length).all fun i => chk p q z (pf.1.getD (5 + i) 0) ((([over p q (prodM p 1 cols) (prodM p 1 Hs), gpf p q cols e, prodM p 1 [chain.getD (ins.length - 1) 0, pw p q H (-all)], gpf p q (ins.map (·.1)) e, gpf p q (ins.map (·.2)) e] : List Int) ++ chain).getD (5 + i) 0) ((mR5 p q g key Hs outs pf.2.2 x ++ (List.range ins.length).map (mRow p q g H chain pf.2.2 x)).getD (5 + i) 0))))))
    rw [sides2 (show ins.length ≤ 1048576 by omega), bindO_some', sides2 (show outs.length ≤ 1048576 by omega), bindO_some', c0, bindO_some', Group_mul_eq h (l := cols) (fun y hy => by have := cin y hy; omega) (by omega), bindO_some', Group_mul_eq h (l := Hs) (fun y hy => by have := hsin y hy; omega) (by omega), bindO_some', over_eq h (pr cols) (pr Hs), bindO_some', r0, bindO_some', pow_pw h hg.1 hg.2, bindO_some', verifyMatrix_1_eq (b := over p q (prodM p 1 cols) (prodM p 1 Hs)) h k0 (pr _), bindO_some']
    dsimp only
    have eH : [H].length + chain.length ≤ 68719476736 := by simp only [List.length_cons, List.length_nil]; omega
    cases chk p q z (pf.1.getD 0 0) (over p q (prodM p 1 cols) (prodM p 1 Hs)) (pw p q g (pf.2.2.getD 0 0)) with
    | false =>
      rw [cond_false, guardO_of (lenOk_of eH), bindO_some', bindO_some']
      refine (hno _ (fun again i hi => ?_) (fun again b => ?_)).trans rfl
      · dsimp only
        rw [lt_yes hi, cond_true, cond_false, bindO_some', i64_succ (show i < 2 ^ 62 by omega)]
      · dsimp only
        rw [lt_no, cond_false]
    | true =>
    rw [cond_true, Bool.true_and, c1, bindO_some', powers_eq h (l := cols) (es := e) (by omega) cin (by omega), bindO_some', r1, bindO_some', pow_pw h hg.1 hg.2, bindO_some', powers_eq h (l := Hs) (es := x) (by omega) hsin (by omega), bindO_some', mul2' h (pwr _ _) (gpr _ _), bindO_some', verifyMatrix_1_eq h k1 (gpr _ _), bindO_some']
    cases chk p q z (pf.1.getD 1 0) (gpf p q cols e) (prodM p 1 [pw p q g (pf.2.2.getD 1 0), gpf p q Hs x]) with
    | false =>
      rw [cond_false, guardO_of (lenOk_of eH), bindO_some', bindO_some']
      refine (hno _ (fun again i hi => ?_) (fun again b => ?_)).trans rfl
      · dsimp only
        rw [lt_yes hi, cond_true, cond_false, bindO_some', i64_succ (show i < 2 ^ 62 by omega)]
      · dsimp only
        rw [lt_no, cond_false]
    | true =>
    rw [cond_true, Bool.true_and, c2, bindO_some', i64_in (((ins.length : Nat) : Int) - 1) (by omega), bindO_some', g1, bindO_some', pow_pw h hH.1 hH.2, bindO_some', over_eq h hcl (pwr _ _), over_pw h hHq, bindO_some', r2, bindO_some', pow_pw h hg.1 hg.2, bindO_some', verifyMatrix_1_eq h k2 (pr _), bindO_some']
    cases chk p q z (pf.1.getD 2 0) (prodM p 1 [chain.getD (ins.length - 1) 0, pw p q H (-all)]) (pw p q g (pf.2.2.getD 2 0)) with
    | false =>
      rw [cond_false, guardO_of (lenOk_of eH), bindO_some', bindO_some']
      refine (hno _ (fun again i hi => ?_) (fun again b => ?_)).trans rfl
      · dsimp only
        rw [lt_yes hi, cond_true, cond_false, bindO_some', i64_succ (show i < 2 ^ 62 by omega)]
      · dsimp only
        rw [lt_no, cond_false]
    | true =>
    rw [cond_true, Bool.true_and, c3, bindO_some', powers_eq h (l := ins.map (·.1)) (es := e) (by rw [List.length_map]; omega) hci.1 (by rw [List.length_map]; omega), bindO_some', r3, bindO_some', neg_in hqm i3, bindO_some', pow_pw h hg.1 hg.2, bindO_some', powers_eq h (l := outs.map (·.1)) (es := x) (by rw [List.length_map]; omega) hco.1 (by rw [List.length_map]; omega), bindO_some', mul2' h (pwr _ _) (gpr _ _), bindO_some', verifyMatrix_1_eq h k3 (gpr _ _), bindO_some']
    cases chk p q z (pf.1.getD 3 0) (gpf p q (ins.map (·.1)) e) (prodM p 1 [pw p q g (-(pf.2.2.getD 3 0)), gpf p q (outs.map (·.1)) x]) with
    | false =>
      rw [cond_false, guardO_of (lenOk_of eH), bindO_some', bindO_some']
      refine (hno _ (fun again i hi => ?_) (fun again b => ?_)).trans rfl
      · dsimp only
        rw [lt_yes hi, cond_true, cond_false, bindO_some', i64_succ (show i < 2 ^ 62 by omega)]
      · dsimp only
        rw [lt_no, cond_false]
    | true =>
    rw [cond_true, Bool.true_and, c4, bindO_some', powers_eq h (l := ins.map (·.2)) (es := e) (by rw [List.length_map]; omega) hci.2 (by rw [List.length_map]; omega), bindO_some', bindO_some', neg_in hqm i3, bindO_some', pow_pw h hk.1 hk.2, bindO_some', powers_eq h (l := outs.map (·.2)) (es := x) (by rw [List.length_map]; omega) hco.2 (by rw [List.length_map]; omega), bindO_some', mul2' h (pwr _ _) (gpr _ _), bindO_some', verifyMatrix_1_eq h k4 (gpr _ _), bindO_some']
    rw [guardO_of (lenOk_of eH), bindO_some', bindO_some']
    cases chk p q z (pf.1.getD 4 0) (gpf p q (ins.map (·.2)) e) (prodM p 1 [pw p q key (-(pf.2.2.getD 3 0)), gpf p q (outs.map (·.2)) x]) with
    | false =>
      refine (hno _ (fun again i hi => ?_) (fun again b => ?_)).trans rfl
      · dsimp only
        rw [lt_yes hi, cond_true, cond_false, bindO_some', i64_succ (show i < 2 ^ 62 by omega)]
      · dsimp only
        rw [lt_no, cond_false]
    | true =>
    rw [Bool.true_and]
    refine and_loop (n := ins.length) _ (by omega) (fun again i hi => ?_) (fun again i hi => ?_) (fun again b => ?_)
    · have hc : chain[i]? = some (chain.getD i 0) := getD_at (by omega)
      have hr : pf.2.2[4 + i]? = some (pf.2.2.getD (4 + i) 0) := getD_at (by omega)
      have hcs : pf.1[5 + i]? = some (pf.1.getD (5 + i) 0) := getD_at (by omega)
      have hx : x[i]? = some (x.getD i 0) := getD_at (by omega)
      have hbe : ([H] ++ chain)[i]? = some ((H :: chain).getD i 0) := getD_at (l := H :: chain) (by rw [List.length_cons]; omega)
      have hb : 0 ≤ (H :: chain).getD i 0 ∧ (H :: chain).getD i 0 ≤ p := getD_in (p := p) (q := q) (by rw [List.all_cons, hHi, e2]; rfl) (by rw [List.length_cons]; omega)
      have ei : IntKind.wrap .i64 ((4 : Int) + (i : Int)) = ((4 + i : Nat) : Int) := by rw [i64_in _ (by omega)]; omega
      have ej : IntKind.wrap .i64 ((5 : Int) + (i : Int)) = ((5 + i : Nat) : Int) := by rw [i64_in _ (by omega)]; omega
      have k5 := getD_in e3 (i := 5 + i) (by omega)
      have kc := getD_in e2 (i := i) (by omega)
      dsimp only
      rw [hrow i hi, lt_yes hi, cond_true, cond_true]
      rw [ej, bindO_some', getI_nat, hcs, bindO_some', getI_nat, hc, bindO_some', ei, bindO_some', getI_nat, hr, bindO_some', pow_pw h hg.1 hg.2, bindO_some', getI_nat, hbe, bindO_some', getI_nat, hx, bindO_some', pow_pw h hb.1 hb.2, bindO_some', mul2' h (pwr _ _) (pwr _ _), bindO_some', verifyMatrix_1_eq h k5 kc, bindO_some', i64_succ (show i < 2 ^ 62 by omega)]
      rfl
    · dsimp only
      rw [lt_yes hi, cond_true, cond_false, bindO_some', i64_succ (show i < 2 ^ 62 by omega)]
    · dsimp only
      rw [lt_no, cond_false]

def lMx : ByteArray := bytesOf [109, 105, 120, 32, 120]

def lMy : ByteArray := bytesOf [109, 105, 120, 32, 121]

def lMzz : ByteArray := bytesOf [109, 105, 120, 32, 122]

def lMe : ByteArray := bytesOf [109, 105, 120, 32, 101, 110, 100]

abbrev Pp := List Int × List Int × List Int × Pf

def pForm (p q : Int) (n : Nat) (P : Pp) : Bool :=
  (P.1.length == n) && ((P.2.1.length == n) && ((P.2.2.1.length == n) && ((P.2.2.2.1.length == 3 * n + 3) && ((P.2.2.2.2.1.length == 1) && ((P.2.2.2.2.2.length == 5 * n + 2) && (P.1.all (isEl p q) && (P.2.1.all (isEl p q) && (P.2.2.1.all (isEl p q) && (P.2.2.2.1.all (isEl p q) && P.2.2.2.2.2.all fun e => decide (0 ≤ e ∧ e ≤ q - 1))))))))))

def Pp.small (P : Pp) (n : Nat) : Prop := P.1.length ≤ n ∧ P.2.1.length ≤ n ∧ P.2.2.1.length ≤ n ∧ P.2.2.2.small n

theorem vShape_eq {p q g : Int} {n : Nat} {P : Pp} (h : Gr p q g) (hn : n ≤ 24) (hp : Pp.small P 1048576) : M_S_vShape ((p, q, g), (n : Int), P) = some (pForm p q n P) := by
  obtain ⟨h1, h2, h3, h4, h5, h6⟩ := hp
  unfold M_S_vShape
  dsimp only
  rw [i64_in (3 * (n : Int)) (by omega), bindO_some', i64_in (3 * (n : Int) + 3) (by omega), bindO_some', i64_in (5 * (n : Int)) (by omega), bindO_some', i64_in (5 * (n : Int) + 2) (by omega), bindO_some', gIs_eq h (by omega), gIs_eq h (by omega), gIs_eq h (by omega), gIs_eq h (by omega), gExps_eq h (by omega)]
  rw [show 3 * (n : Int) + 3 = ((3 * n + 3 : Nat) : Int) by omega, show 5 * (n : Int) + 2 = ((5 * n + 2 : Nat) : Int) by omega, show (1 : Int) = ((1 : Nat) : Int) by rfl]
  simp only [eq_decN, bindO_some', cond_and]
  rfl

theorem isPolyForm_eq {p q g : Int} {n : Nat} {P : Pp} (h : Gr p q g) (hn : n ≤ 24) (hp : Pp.small P 1048576) : M_I_Group_isPolyForm ((p, q, g), P, (n : Int)) = some (pForm p q n P) := by
  obtain ⟨h1, h2, h3, h4, h5, h6⟩ := hp
  unfold M_I_Group_isPolyForm
  dsimp only
  rw [i64_in (3 * (n : Int)) (by omega), bindO_some', i64_in (3 * (n : Int) + 3) (by omega), bindO_some', i64_in (5 * (n : Int)) (by omega), bindO_some', i64_in (5 * (n : Int) + 2) (by omega), bindO_some', hasAll_eq h (by omega), hasAll_eq h (by omega), hasAll_eq h (by omega), hasAll_eq h (by omega), areExps_eq h (by omega)]
  rw [show 3 * (n : Int) + 3 = ((3 * n + 3 : Nat) : Int) by omega, show 5 * (n : Int) + 2 = ((5 * n + 2 : Nat) : Int) by omega, show (1 : Int) = ((1 : Nat) : Int) by rfl]
  simp only [eq_decN, bindO_some', cond_and]
  rfl

structure PFits (p q : Int) (n : Nat) (P : Pp) : Prop where
  l1 : P.1.length = n
  l2 : P.2.1.length = n
  l3 : P.2.2.1.length = n
  l4 : P.2.2.2.1.length = 3 * n + 3
  l5 : P.2.2.2.2.1.length = 1
  l6 : P.2.2.2.2.2.length = 5 * n + 2
  e1 : P.1.all (isEl p q) = true
  e2 : P.2.1.all (isEl p q) = true
  e3 : P.2.2.1.all (isEl p q) = true
  e4 : P.2.2.2.1.all (isEl p q) = true
  e5 : (P.2.2.2.2.2.all fun e => decide (0 ≤ e ∧ e ≤ q - 1)) = true

theorem pForm_fits {p q : Int} {n : Nat} {P : Pp} (hF : pForm p q n P = true) : PFits p q n P := by
  simp only [pForm, Bool.and_eq_true, beq_iff_eq] at hF
  obtain ⟨a1, a2, a3, a4, a5, a6, a7, a8, a9, a10, a11⟩ := hF
  exact ⟨a1, a2, a3, a4, a5, a6, a7, a8, a9, a10, a11⟩

def tgStep (q x y z : Int) (s : Int × Int) (i : Nat) : Int × Int := (s.1 * ((y * ((i : Int) + 1) + s.2 * x % q - z) % q) % q, s.2 * x % q)

def tgt (q : Int) (n : Nat) (x y z : Int) : Int := ((List.range n).foldl (tgStep q x y z) (1, 1)).1

theorem tg_range {q x y z : Int} (hq : 2 ≤ q) : ∀ n : Nat, (0 ≤ ((List.range n).foldl (tgStep q x y z) (1, 1)).1 ∧ ((List.range n).foldl (tgStep q x y z) (1, 1)).1 ≤ q - 1) ∧ 0 ≤ ((List.range n).foldl (tgStep q x y z) (1, 1)).2 ∧ ((List.range n).foldl (tgStep q x y z) (1, 1)).2 ≤ q - 1
  | 0 => by simp; omega
  | n + 1 => by
    rw [List.range_succ, List.foldl_append]
    generalize (List.range n).foldl (tgStep q x y z) (1, 1) = s
    show (0 ≤ s.1 * ((y * ((n : Int) + 1) + s.2 * x % q - z) % q) % q ∧ s.1 * ((y * ((n : Int) + 1) + s.2 * x % q - z) % q) % q ≤ q - 1) ∧ 0 ≤ s.2 * x % q ∧ s.2 * x % q ≤ q - 1
    have a1 := Int.emod_nonneg (s.1 * ((y * ((n : Int) + 1) + s.2 * x % q - z) % q)) (show q ≠ 0 by omega)
    have a2 := Int.emod_lt_of_pos (s.1 * ((y * ((n : Int) + 1) + s.2 * x % q - z) % q)) (show 0 < q by omega)
    have a3 := Int.emod_nonneg (s.2 * x) (show q ≠ 0 by omega)
    have a4 := Int.emod_lt_of_pos (s.2 * x) (show 0 < q by omega)
    omega

theorem le_yes {k n : Nat} (h : k ≤ n) : decide ((k : Int) ≤ (n : Int)) = true := by simp; omega

theorem le_no {k n : Nat} (h : n < k) : decide ((k : Int) ≤ (n : Int)) = false := by simp; omega

/-- A loop that counts from one. -/
theorem target_loop {q x y z : Int} {n : Nat} (hn : n ≤ 1000) (hq : 2 ≤ q) {body : (Int × Int × Int → Option Int) → Int × Int × Int → Option Int}
    (h : ∀ (again : Int × Int × Int → Option Int) (i : Nat) (s : Int × Int), i < n → 0 ≤ s.1 ∧ s.1 ≤ q - 1 → 0 ≤ s.2 ∧ s.2 ≤ q - 1 → body again (s.1, s.2, ((i + 1 : Nat) : Int)) = again ((tgStep q x y z s i).1, (tgStep q x y z s i).2, ((i + 2 : Nat) : Int)))
    (hend : ∀ (again : Int × Int × Int → Option Int) (s : Int × Int), body again (s.1, s.2, ((n + 1 : Nat) : Int)) = some s.1) : loopO body (1, 1, 1) = some (tgt q n x y z) := by
  refine (loopO_for (σ := Int × Int) (fun i s => (s.1, s.2, ((i + 1 : Nat) : Int))) n (fun i s => some (tgt q n x y z)) (fun i s => s = (List.range i).foldl (tgStep q x y z) (1, 1)) (fun again s hs => ?_) (fun again i s hi hs ih => ?_) (by omega) (i := 0) (s := (1, 1)) (Nat.zero_le _) rfl).trans rfl
  · subst hs
    exact hend again _
  · subst hs
    have hr := tg_range (x := x) (y := y) (z := z) hq i
    rw [h again i _ hi hr.1 hr.2]
    exact ih (tgStep q x y z _ i) (by rw [List.range_succ, List.foldl_append]; rfl)

theorem targetProduct_eq {q x y z : Int} {n : Nat} (hn : n ≤ 24) (hq : 2 ≤ q ∧ q ≤ 2000000000) (hx : 0 ≤ x ∧ x ≤ q - 1) (hy : 0 ≤ y ∧ y ≤ q - 1) (hz : 0 ≤ z ∧ z ≤ q - 1) : M_I_targetProduct (q, (n : Int), x, y, z) = some (tgt q n x y z) := by
  unfold M_I_targetProduct
  dsimp only
  have hq0 : (q != 0) = true := by simp; omega
  refine target_loop (by omega) hq.1 (fun again i s hi h1 h2 => ?_) (fun again s => ?_)
  · have m1 := mul_small hq.2 h2 hx
    have hp := Int.emod_nonneg (s.2 * x) (show q ≠ 0 by omega)
    have hp2 := Int.emod_lt_of_pos (s.2 * x) (show 0 < q by omega)
    have hk : 0 ≤ ((i + 1 : Nat) : Int) ∧ ((i + 1 : Nat) : Int) ≤ 24 := by omega
    have m2 := mul_in (a := y) (b := ((i + 1 : Nat) : Int)) hy.1 (by omega) (by omega) (by omega)
    have hm := Int.emod_nonneg (y * ((i + 1 : Nat) : Int)) (show q ≠ 0 by omega)
    have hm2 := Int.emod_lt_of_pos (y * ((i + 1 : Nat) : Int)) (show 0 < q by omega)
    have e1 : (y * ((i + 1 : Nat) : Int) % q + s.2 * x % q - z) % q = (y * ((i : Int) + 1) + s.2 * x % q - z) % q := by
      rw [Int.add_sub_assoc, Int.add_sub_assoc]
      exact Cg_eq (Cg_add (Cg_mod _) (Cg_refl _))
    have hd := Int.emod_nonneg (y * ((i : Int) + 1) + s.2 * x % q - z) (show q ≠ 0 by omega)
    have hd2 := Int.emod_lt_of_pos (y * ((i : Int) + 1) + s.2 * x % q - z) (show 0 < q by omega)
    have m3 := mul_small hq.2 h1 (b := (y * ((i : Int) + 1) + s.2 * x % q - z) % q) (by omega)
    dsimp only
    rw [le_yes (show i + 1 ≤ n by omega), cond_true, m1.1, bindO_some', guardO_of hq0, bindO_some', bindO_some', tmod_nn m1.2, i64_in (y * ((i + 1 : Nat) : Int)) (by omega), bindO_some', bindO_some', tmod_nn m2.1, bindO_some']
    rw [i64_in (y * ((i + 1 : Nat) : Int) % q + s.2 * x % q) (by omega), bindO_some', i64_in (y * ((i + 1 : Nat) : Int) % q + s.2 * x % q - z) (by omega), bindO_some', mod_eq, nMod_eq (by omega) (by omega), bindO_some', e1, m3.1, bindO_some', bindO_some', tmod_nn m3.2, bindO_some', i64_succ (show i + 1 < 2 ^ 62 by omega), bindO_some']
    rfl
  · dsimp only
    rw [le_no (show n < n + 1 by omega), cond_false]

theorem vTarget_eq {q x y z : Int} {n : Nat} (hn : n ≤ 24) (hq : 2 ≤ q ∧ q ≤ 2000000000) (hx : 0 ≤ x ∧ x ≤ q - 1) (hy : 0 ≤ y ∧ y ≤ q - 1) (hz : 0 ≤ z ∧ z ≤ q - 1) : M_S_vTarget (q, (n : Int), x, y, z) = some (tgt q n x y z) := by
  unfold M_S_vTarget
  dsimp only
  have hq0 : (q != 0) = true := by simp; omega
  rw [guardO_of hq0, bindO_some', bindO_some', tmod_nn (show (0 : Int) ≤ 1 by omega), Int.emod_eq_of_lt (show (0 : Int) ≤ 1 by omega) (by omega)]
  refine target_loop (by omega) hq.1 (fun again i s hi h1 h2 => ?_) (fun again s => ?_)
  · have m1 := mul_small hq.2 h2 hx
    have hp := Int.emod_nonneg (s.2 * x) (show q ≠ 0 by omega)
    have hp2 := Int.emod_lt_of_pos (s.2 * x) (show 0 < q by omega)
    have hk := Int.emod_nonneg ((i + 1 : Nat) : Int) (show q ≠ 0 by omega)
    have hk2 := Int.emod_lt_of_pos ((i + 1 : Nat) : Int) (show 0 < q by omega)
    have m2 := mul_small hq.2 hy (b := ((i + 1 : Nat) : Int) % q) (by omega)
    have m2' : y * (((i + 1 : Nat) : Int) % q) ≤ 4000000000000000000 := by
      have := Int.mul_le_mul (show y ≤ 2000000000 by omega) (show ((i + 1 : Nat) : Int) % q ≤ 2000000000 by omega) hk (by omega)
      omega
    have e1 : (y * (((i + 1 : Nat) : Int) % q) + s.2 * x % q - z) % q = (y * ((i : Int) + 1) + s.2 * x % q - z) % q := by
      rw [Int.add_sub_assoc, Int.add_sub_assoc]
      exact Cg_eq (Cg_add (Cg_mul (Cg_refl _) (Cg_mod _)) (Cg_refl _))
    have hd := Int.emod_nonneg (y * ((i : Int) + 1) + s.2 * x % q - z) (show q ≠ 0 by omega)
    have hd2 := Int.emod_lt_of_pos (y * ((i : Int) + 1) + s.2 * x % q - z) (show 0 < q by omega)
    have m3 := mul_small hq.2 h1 (b := (y * ((i : Int) + 1) + s.2 * x % q - z) % q) (by omega)
    dsimp only
    rw [le_yes (show i + 1 ≤ n by omega), cond_true, m1.1, bindO_some', bindO_some', bindO_some', bindO_some', bindO_some', tmod_nn m1.2, tmod_nn (show (0 : Int) ≤ ((i + 1 : Nat) : Int) by omega), m2.1, bindO_some']
    rw [i64_in (y * (((i + 1 : Nat) : Int) % q) + s.2 * x % q) (by omega), bindO_some', i64_in (y * (((i + 1 : Nat) : Int) % q) + s.2 * x % q - z) (by omega), bindO_some', nMod_eq (by omega) (by omega), bindO_some', e1, m3.1, bindO_some', bindO_some', tmod_nn m3.2, bindO_some', i64_succ (show i + 1 < 2 ^ 62 by omega), bindO_some']
    rfl
  · dsimp only
    rw [le_no (show n < n + 1 by omega), cond_false]

def upTo (q : Int) (n : Nat) (x : Int) : List Int := (List.range n).map fun i => x ^ (i + 1) % q

theorem upTo_len {q : Int} {n : Nat} {x : Int} : (upTo q n x).length = n := by simp [upTo]

theorem upTo_succ {q : Int} {n : Nat} {x : Int} : upTo q (n + 1) x = upTo q n x ++ [x ^ (n + 1) % q] := by simp [upTo, List.range_succ]

theorem vUpTo_eq {p q g x : Int} {n : Nat} (h : Gr p q g) (hn : n ≤ 24) (hx : 0 ≤ x ∧ x ≤ q - 1) : M_S_vUpTo ((p, q, g), (n : Int), x) = some (upTo q n x) := by
  have := h.q2; have := h.qp; have := h.pm
  unfold M_S_vUpTo
  dsimp only
  refine (loopO_for (σ := List Int) (fun i s => (s, ((i + 1 : Nat) : Int))) n (fun i s => some (upTo q n x)) (fun i s => s = upTo q i x) (fun again s hs => ?_) (fun again i s hi hs ih => ?_) (by omega) (i := 0) (s := []) (Nat.zero_le _) rfl).trans rfl
  · subst hs
    dsimp only
    rw [le_no (show n < n + 1 by omega), cond_false]
  · subst hs
    have e2 : (upTo q i x).length + [x ^ (i + 1) % q].length ≤ 68719476736 := by rw [upTo_len]; simp only [List.length_cons, List.length_nil]; omega
    have ep : M_S_nPower (x, ((i + 1 : Nat) : Int), q) = some (x ^ (i + 1) % q) := by
      rw [nPower_eq hx.1 (by omega) (by omega) (by omega) (by omega) (by omega), Int.toNat_natCast]
    dsimp only
    rw [le_yes (show i + 1 ≤ n by omega), cond_true, ep, bindO_some', guardO_of (lenOk_of e2), bindO_some', bindO_some', i64_succ (show i + 1 < 2 ^ 62 by omega), bindO_some']
    exact ih _ upTo_succ.symm

theorem take_eq {l : List Int} {n : Nat} (hn : n ≤ l.length) : M_I_taker_take (l, (n : Int)) = some (l.take n, l.drop n) := by
  unfold M_I_taker_take
  dsimp only
  rw [sliceNH_nat hn, bindO_some', sliceLN_nat hn, bindO_some']
  dsimp only
  rw [List.drop_zero, List.take_length]

theorem takeOne_eq {l : List Int} (hn : 1 ≤ l.length) : M_I_taker_one l = some (l.getD 0 0, l.drop 1) := by
  unfold M_I_taker_one
  rw [show M_I_taker_take (l, 1) = _ from take_eq (n := 1) hn, bindO_some']
  cases l with
  | nil => simp at hn
  | cons a l => rfl

theorem two_loop {β : Type} {n : Nat} (f g : Nat → Int) (fin : List Int → List Int → Option β) {A0 B0 : List Int} {body : (List Int × List Int × Int → Option β) → List Int × List Int × Int → Option β}
    (hn : n ≤ 1000) (hA : A0.length ≤ 1000) (hB : B0.length ≤ 1000)
    (h : ∀ (again : List Int × List Int × Int → Option β) (i : Nat) (A B : List Int), i < n → A.length ≤ 2000 → B.length ≤ 2000 → body again (A, B, (i : Int)) = again (A ++ [f i], B ++ [g i], ((i + 1 : Nat) : Int)))
    (hend : ∀ again : List Int × List Int × Int → Option β, body again (A0 ++ (List.range n).map f, B0 ++ (List.range n).map g, (n : Int)) = fin (A0 ++ (List.range n).map f) (B0 ++ (List.range n).map g)) :
    loopO body (A0, B0, 0) = fin (A0 ++ (List.range n).map f) (B0 ++ (List.range n).map g) := by
  refine (loopO_for (σ := List Int × List Int) (fun i s => (s.1, s.2, (i : Int))) n (fun i s => fin (A0 ++ (List.range n).map f) (B0 ++ (List.range n).map g)) (fun i s => s = (A0 ++ (List.range i).map f, B0 ++ (List.range i).map g)) (fun again s hs => ?_) (fun again i s hi hs ih => ?_) (by omega) (i := 0) (s := (A0, B0)) (Nat.zero_le _) (by simp)).trans rfl
  · subst hs
    exact hend again
  · subst hs
    dsimp only
    rw [h again i _ _ hi (by rw [List.length_append, List.length_map, List.length_range]; omega) (by rw [List.length_append, List.length_map, List.length_range]; omega)]
    exact ih (_, _) (by rw [List.range_succ, List.map_append, List.map_append, ← List.append_assoc, ← List.append_assoc]; rfl)

theorem three_loop {β : Type} {n : Nat} (f g c : Nat → Int) (fin : List Int → List Int → Option β) {A0 B0 : List Int} {body : (List Int × List Int × Int × Int → Option β) → List Int × List Int × Int × Int → Option β}
    (hn : n ≤ 1000) (hA : A0.length ≤ 1000) (hB : B0.length ≤ 1000)
    (h : ∀ (again : List Int × List Int × Int × Int → Option β) (i : Nat) (A B : List Int), i < n → A.length ≤ 2000 → B.length ≤ 2000 → body again (A, B, c i, (i : Int)) = again (A ++ [f i], B ++ [g i], c (i + 1), ((i + 1 : Nat) : Int)))
    (hend : ∀ again : List Int × List Int × Int × Int → Option β, body again (A0 ++ (List.range n).map f, B0 ++ (List.range n).map g, c n, (n : Int)) = fin (A0 ++ (List.range n).map f) (B0 ++ (List.range n).map g)) :
    loopO body (A0, B0, c 0, 0) = fin (A0 ++ (List.range n).map f) (B0 ++ (List.range n).map g) := by
  refine (loopO_for (σ := List Int × List Int) (fun i s => (s.1, s.2, c i, (i : Int))) n (fun i s => fin (A0 ++ (List.range n).map f) (B0 ++ (List.range n).map g)) (fun i s => s = (A0 ++ (List.range i).map f, B0 ++ (List.range i).map g)) (fun again s hs => ?_) (fun again i s hi hs ih => ?_) (by omega) (i := 0) (s := (A0, B0)) (Nat.zero_le _) (by simp)).trans rfl
  · subst hs
    exact hend again
  · subst hs
    dsimp only
    rw [h again i _ _ hi (by rw [List.length_append, List.length_map, List.length_range]; omega) (by rw [List.length_append, List.length_map, List.length_range]; omega)]
    exact ih (_, _) (by rw [List.range_succ, List.map_append, List.map_append, ← List.append_assoc, ← List.append_assoc]; rfl)

def pLst (key : Int) (ins outs : List (Int × Int)) (P : Pp) : List Int := mixL key ins outs P.1 ++ P.2.1

def pX (p q g key : Int) (ins outs : List (Int × Int)) (P : Pp) : Int := chal p q g lMx (mixL key ins outs P.1)

def pY (p q g key : Int) (ins outs : List (Int × Int)) (P : Pp) : Int := chal p q g lMy (pLst key ins outs P)

def pZ (p q g key : Int) (ins outs : List (Int × Int)) (P : Pp) : Int := chal p q g lMzz (pLst key ins outs P)

def pT (p q g key : Int) (ins outs : List (Int × Int)) (P : Pp) : Int := chal p q g lMe (pLst key ins outs P ++ (P.2.2.1 ++ P.2.2.2.1))

def vA (p q g y z : Int) (P : Pp) (i : Nat) : Int := prodM p 1 [pw p q (P.1.getD i 0) y, P.2.1.getD i 0, pw p q g (-z)]

def vB (p q g H : Int) (n : Nat) (rs : List Int) (i : Nat) : Int := cm p q g H (rs.getD i 0) (rs.getD (n + i) 0)

def vB2 (p q g H : Int) (n : Nat) (ch rs : List Int) (i : Nat) : Int := prodM p 1 [pw p q ((g :: ch).getD i 0) (rs.getD i 0), pw p q H (rs.getD (2 * n + i) 0)]

def vK (n : Nat) (rs : List Int) : List Int := (rs.take (4 * n + 1)).drop (3 * n + 1)

def vB4 (p q g H : Int) (n : Nat) (rs : List Int) (i : Nat) : Int := cm p q g H ((vK n rs).getD i 0) (rs.getD (4 * n + 1 + i) 0)

def vL (p q g : Int) (ins : List (Int × Int)) (x y z : Int) (P : Pp) : List Int :=
  ((((List.range ins.length).map (vA p q g y z P) ++ (List.range ins.length).map fun i => P.2.2.1.getD i 0) ++ [prodM p 1 [P.2.2.1.getD (ins.length - 1) 0, pw p q g (-(tgt q ins.length x y z))]]) ++ (List.range ins.length).map fun i => P.2.1.getD i 0) ++ [gpf p q (ins.map (·.1)) (upTo q ins.length x), gpf p q (ins.map (·.2)) (upTo q ins.length x)]

def vR (p q g key H : Int) (n : Nat) (outs : List (Int × Int)) (P : Pp) : List Int :=
  ((((List.range n).map (vB p q g H n P.2.2.2.2.2) ++ (List.range n).map (vB2 p q g H n P.2.2.1 P.2.2.2.2.2)) ++ [pw p q H (P.2.2.2.2.2.getD (3 * n) 0)]) ++ (List.range n).map (vB4 p q g H n P.2.2.2.2.2)) ++ [prodM p 1 [pw p q g (-(P.2.2.2.2.2.getD (5 * n + 1) 0)), gpf p q (outs.map (·.1)) (vK n P.2.2.2.2.2)], prodM p 1 [pw p q key (-(P.2.2.2.2.2.getD (5 * n + 1) 0)), gpf p q (outs.map (·.2)) (vK n P.2.2.2.2.2)]]

def vV (p q g key H : Int) (ins outs : List (Int × Int)) (x y z t : Int) (P : Pp) : Bool :=
  (List.range (3 * ins.length + 3)).all fun i => chk p q t (P.2.2.2.1.getD i 0) ((vL p q g ins x y z P).getD i 0) ((vR p q g key H ins.length outs P).getD i 0)

def vVer (p q g key H : Int) (ins outs : List (Int × Int)) (P : Pp) : Bool :=
  (outs.length == ins.length) && (pForm p q ins.length P && ((P.2.2.2.2.1.getD 0 0 == pT p q g key ins outs P) && vV p q g key H ins outs (pX p q g key ins outs P) (pY p q g key ins outs P) (pZ p q g key ins outs P) (pT p q g key ins outs P) P))

theorem vL_len {p q g : Int} {ins : List (Int × Int)} {x y z : Int} {P : Pp} : (vL p q g ins x y z P).length = 3 * ins.length + 3 := by
  simp only [vL, List.length_append, List.length_map, List.length_range, List.length_cons, List.length_nil]; omega

theorem vR_len {p q g key H : Int} {n : Nat} {outs : List (Int × Int)} {P : Pp} : (vR p q g key H n outs P).length = 3 * n + 3 := by
  simp only [vR, List.length_append, List.length_map, List.length_range, List.length_cons, List.length_nil]; omega

theorem vK_len {n : Nat} {rs : List Int} (h : rs.length = 5 * n + 2) : (vK n rs).length = n := by
  unfold vK
  rw [List.length_drop, List.length_take]; omega

theorem vPoints_eq {p q g key : Int} {ins outs : List (Int × Int)} {P : Pp} (h : Gr p q g) (hL : okD (pLst key ins outs P) = true) (hi : ins.length ≤ 12) (ho : outs.length ≤ 24) (h1 : P.1.length ≤ 24) (h2 : P.2.1.length ≤ 24) :
    M_S_vPoints ((p, q, g), key, ins, outs, P.1, P.2.1) = some (pY p q g key ins outs P, pZ p q g key ins outs P) := by
  unfold M_S_vPoints
  dsimp only
  have hl := mixL_len (key := key) (ins := ins) (outs := outs) (more := P.1)
  have hn : (mixL key ins outs P.1 ++ P.2.1).length < 2 ^ 20 := by rw [List.length_append]; omega
  rw [mListed_eq (by omega) (by omega) (by omega), bindO_some', guardO_of (lenOk_of (show (mixL key ins outs P.1).length + P.2.1.length ≤ 68719476736 by omega)), bindO_some', bindO_some']
  rw [show M_S_hChallenge ((p, q, g), bytesOf [109, 105, 120, 32, 121], mixL key ins outs P.1 ++ P.2.1) = _ from hChallenge_eq (s := lMy) h (by decide) hL hn, bindO_some']
  rw [show M_S_hChallenge ((p, q, g), bytesOf [109, 105, 120, 32, 122], mixL key ins outs P.1 ++ P.2.1) = _ from hChallenge_eq (s := lMzz) h (by decide) hL hn, bindO_some']
  rfl

theorem vEnd_eq {p q g key : Int} {ins outs : List (Int × Int)} {P : Pp} (h : Gr p q g) (hL : okD (pLst key ins outs P) = true) (hc : okD P.2.2.1 = true) (hm : okD P.2.2.2.1 = true) (hi : ins.length ≤ 12) (ho : outs.length ≤ 24) (h1 : P.1.length ≤ 24) (h2 : P.2.1.length ≤ 24) (h3 : P.2.2.1.length ≤ 24) (h4 : P.2.2.2.1.length ≤ 80) :
    M_S_vEnd ((p, q, g), key, ins, outs, P) = some (pT p q g key ins outs P) := by
  unfold M_S_vEnd
  dsimp only
  have hl := mixL_len (key := key) (ins := ins) (outs := outs) (more := P.1)
  rw [mListed_eq (by omega) (by omega) (by omega), bindO_some', guardO_of (lenOk_of (show (mixL key ins outs P.1).length + P.2.1.length ≤ 68719476736 by omega)), bindO_some', bindO_some',
    guardO_of (lenOk_of (show (mixL key ins outs P.1 ++ P.2.1).length + P.2.2.1.length ≤ 68719476736 by rw [List.length_append]; omega)), bindO_some', bindO_some',
    guardO_of (lenOk_of (show (mixL key ins outs P.1 ++ P.2.1 ++ P.2.2.1).length + P.2.2.2.1.length ≤ 68719476736 by rw [List.length_append, List.length_append]; omega)), bindO_some', bindO_some', List.append_assoc (mixL key ins outs P.1 ++ P.2.1)]
  rw [show M_S_hChallenge ((p, q, g), bytesOf [109, 105, 120, 32, 101, 110, 100], mixL key ins outs P.1 ++ P.2.1 ++ (P.2.2.1 ++ P.2.2.2.1)) = _ from hChallenge_eq (s := lMe) h (by decide) (by rw [okD_append, okD_append (a := P.2.2.1), hc, hm, show okD (mixL key ins outs P.1 ++ P.2.1) = true from hL]; rfl) (by rw [List.length_append, List.length_append, List.length_append]; omega), bindO_some']
  rfl

theorem vL_in {p q g x y z : Int} {ins : List (Int × Int)} {P : Pp} (h : Gr p q g) (hF : PFits p q ins.length P) : ∀ a ∈ vL p q g ins x y z P, 0 ≤ a ∧ a ≤ p := by
  obtain ⟨l1, l2, l3, l4, l5, l6, e1, e2, e3, e4, e5⟩ := hF
  have h3 := h.p3
  have pr : ∀ l, 0 ≤ prodM p 1 l ∧ prodM p 1 l ≤ p := fun l => by have := prod_range (l := l) (show 2 ≤ p by omega); omega
  have gpr : ∀ a b, 0 ≤ gpf p q a b ∧ gpf p q a b ≤ p := fun a b => by have := gpf_range (q := q) (show 2 ≤ p by omega) a b; omega
  intro a ha
  simp only [vL, List.mem_append, List.mem_map, List.mem_range, List.mem_cons, List.not_mem_nil, or_false] at ha
  rcases ha with (((⟨i, hi, rfl⟩ | ⟨i, hi, rfl⟩) | rfl) | ⟨i, hi, rfl⟩) | rfl | rfl
  · exact pr _
  · exact getD_in e3 (by omega)
  · exact pr _
  · exact getD_in e2 (by omega)
  · exact gpr _ _
  · exact gpr _ _

set_option maxHeartbeats 2000000 in
theorem vVerify_eq {p q g key H : Int} {Hs : List Int} {ins outs : List (Int × Int)} {P : Pp} (h : Gr p q g) (hM : MixOK p q key H Hs ins outs) (hp : Pp.small P 1048576) :
    M_S_vVerify ((p, q, g), key, H, ins, outs, P) = some (vVer p q g key H ins outs P) := by
  have h3 := h.p3; have hpm := h.pm; have hq2 := h.q2; have hqp := h.qp; have hg2 := h.g2; have hgp := h.gp
  have hqm : q ≤ 2000000000 := by omega
  obtain ⟨n1, n2, o2, ki, hHi, hHs, hHl, hii, hoo⟩ := hM
  unfold M_S_vVerify vVer
  dsimp only
  rw [ne_dec]
  cases hno : (outs.length == ins.length) with
  | false => rfl
  | true =>
  have hno' : outs.length = ins.length := by simpa using hno
  simp only [Bool.not_true, cond_false, Bool.true_and]
  rw [vShape_eq h (by omega) hp, bindO_some']
  cases hF : pForm p q ins.length P with
  | false => rfl
  | true =>
  have hFF := pForm_fits hF
  obtain ⟨l1, l2, l3, l4, l5, l6, e1, e2, e3, e4, e5⟩ := pForm_fits hF
  have okL : okD (pLst key ins outs P) = true := by
    unfold pLst
    rw [okD_append, okD_mixL h ki hii hoo (okD_el h e1), okD_el h e2]
    rfl
  simp only [Bool.not_true, cond_false, Bool.true_and]
  have g0 : getI P.2.2.2.2.1 (0 : Int) = some (P.2.2.2.2.1.getD 0 0) := (getI_nat _ 0).trans (getD_at (by omega))
  rw [g0, bindO_some', vEnd_eq h okL (okD_el h e3) (okD_el h e4) n2 o2 (by omega) (by omega) (by omega) (by omega), bindO_some', bindO_some', bne]
  cases hz : (P.2.2.2.2.1.getD 0 0 == pT p q g key ins outs P) with
  | false => rfl
  | true =>
  have hz' : P.2.2.2.2.1.getD 0 0 = pT p q g key ins outs P := by simpa using hz
  have hl := mixL_len (key := key) (ins := ins) (outs := outs) (more := P.1)
  have w1 : IntKind.wrap .i64 (3 * ((ins.length : Nat) : Int)) = ((3 * ins.length : Nat) : Int) := by rw [i64_in _ (by omega)]; omega
  have w2 : IntKind.wrap .i64 (4 * ((ins.length : Nat) : Int)) = ((4 * ins.length : Nat) : Int) := by rw [i64_in _ (by omega)]; omega
  have w3 : IntKind.wrap .i64 (5 * ((ins.length : Nat) : Int)) = ((5 * ins.length : Nat) : Int) := by rw [i64_in _ (by omega)]; omega
  have w4 : IntKind.wrap .i64 (2 * ((ins.length : Nat) : Int)) = ((2 * ins.length : Nat) : Int) := by rw [i64_in _ (by omega)]; omega
  have gf : P.2.2.2.2.2[5 * ins.length + 1]? = some (P.2.2.2.2.2.getD (5 * ins.length + 1) 0) := getD_at (by omega)
  simp only [Bool.not_true, cond_false, Bool.true_and]
  rw [hz', mListed_eq (by omega) (by omega) (by omega), bindO_some', show M_S_hChallenge ((p, q, g), bytesOf [109, 105, 120, 32, 120], mixL key ins outs P.1) = _ from hChallenge_eq (s := lMx) h (by decide) (okD_mixL h ki hii hoo (okD_el h e1)) (by omega), bindO_some', vPoints_eq h okL n2 o2 (by omega) (by omega), bindO_some', w1, bindO_some', i64_succ (show 3 * ins.length < 2 ^ 62 by omega), bindO_some', w2, bindO_some', i64_succ (show 4 * ins.length < 2 ^ 62 by omega), bindO_some', sliceLH_nat (show 3 * ins.length + 1 ≤ 4 * ins.length + 1 by omega) (by omega), bindO_some', w3, bindO_some', i64_succ (show 5 * ins.length < 2 ^ 62 by omega), bindO_some', getI_nat, gf, bindO_some']
  dsimp only
  have hx := chal_range h lMx (mixL key ins outs P.1)
  have hy : 0 ≤ pY p q g key ins outs P ∧ pY p q g key ins outs P ≤ q - 1 := chal_range h _ _
  have hzr : 0 ≤ pZ p q g key ins outs P ∧ pZ p q g key ins outs P ≤ q - 1 := chal_range h _ _
  rw [show chal p q g lMx (mixL key ins outs P.1) = pX p q g key ins outs P from rfl] at hx ⊢
  generalize pX p q g key ins outs P = x at hx ⊢
  generalize pY p q g key ins outs P = y at hy ⊢
  generalize pZ p q g key ins outs P = z at hzr ⊢
  clear hz hz' g0
  generalize pT p q g key ins outs P = t
  have hin := vL_in (x := x) (y := y) (z := z) h hFF
  have hK := vK_len l6
  have hH := isEl_in hHi
  have hk := isEl_in ki
  have hg : 0 ≤ g ∧ g ≤ p := by omega
  have pr : ∀ l, 0 ≤ prodM p 1 l ∧ prodM p 1 l ≤ p := fun l => by have := prod_range (l := l) (show 2 ≤ p by omega); omega
  have pwr : ∀ b c, 0 ≤ pw p q b c ∧ pw p q b c ≤ p := fun b c => by have := pw_range (q := q) (x := b) (e := c) (show 1 ≤ p by omega); omega
  have gpr : ∀ a b, 0 ≤ gpf p q a b ∧ gpf p q a b ≤ p := fun a b => by have := gpf_range (q := q) (show 2 ≤ p by omega) a b; omega
  have hci := comp_in hii
  have hco := comp_in hoo
  have htg : 0 ≤ tgt q ins.length x y z ∧ tgt q ins.length x y z ≤ q - 1 := (tg_range (x := x) (y := y) (z := z) hq2 ins.length).1
  have hf := getD_exp e5 (i := 5 * ins.length + 1) (by omega)
  rw [show List.drop (3 * ins.length + 1) (List.take (4 * ins.length + 1) P.2.2.2.2.2) = vK ins.length P.2.2.2.2.2 from rfl]
  have lm : ∀ f : Nat → Int, ((List.range ins.length).map f).length = ins.length := fun f => by rw [List.length_map, List.length_range]
  refine (two_loop (vA p q g y z P) (vB p q g H ins.length P.2.2.2.2.2) (fun A B => some ((List.range (3 * ins.length + 3)).all fun i => chk p q t (P.2.2.2.1.getD i 0)
    (((((A ++ (List.range ins.length).map fun i => P.2.2.1.getD i 0) ++ [prodM p 1 [P.2.2.1.getD (ins.length - 1) 0, pw p q g (-(tgt q ins.length x y z))]]) ++ (List.range ins.length).map fun i => P.2.1.getD i 0) ++ [gpf p q (ins.map (·.1)) (upTo q ins.length x), gpf p q (ins.map (·.2)) (upTo q ins.length x)]).getD i 0)
    (((((B ++ (List.range ins.length).map (vB2 p q g H ins.length P.2.2.1 P.2.2.2.2.2)) ++ [pw p q H (P.2.2.2.2.2.getD (3 * ins.length) 0)]) ++ (List.range ins.length).map (vB4 p q g H ins.length P.2.2.2.2.2)) ++ [prodM p 1 [pw p q g (-(P.2.2.2.2.2.getD (5 * ins.length + 1) 0)), gpf p q (outs.map (·.1)) (vK ins.length P.2.2.2.2.2)], prodM p 1 [pw p q key (-(P.2.2.2.2.2.getD (5 * ins.length + 1) 0)), gpf p q (outs.map (·.2)) (vK ins.length P.2.2.2.2.2)]]).getD i 0)))
    (A0 := []) (B0 := []) (by omega) (by simp) (by simp) (fun again i A B hi hA hB => ?_) (fun again => ?_)).trans rfl
  · have c1 : P.1[i]? = some (P.1.getD i 0) := getD_at (by omega)
    have c2 : P.2.1[i]? = some (P.2.1.getD i 0) := getD_at (by omega)
    have c3 : P.2.2.2.2.2[i]? = some (P.2.2.2.2.2.getD i 0) := getD_at (by omega)
    have c4 : P.2.2.2.2.2[ins.length + i]? = some (P.2.2.2.2.2.getD (ins.length + i) 0) := getD_at (by omega)
    have k1 := getD_in e1 (i := i) (by omega)
    have k2 := getD_in e2 (i := i) (by omega)
    have wi : IntKind.wrap .i64 (((ins.length : Nat) : Int) + (i : Int)) = ((ins.length + i : Nat) : Int) := by rw [i64_in _ (by omega)]; omega
    have ea : A.length + [vA p q g y z P i].length ≤ 68719476736 := by simp only [List.length_cons, List.length_nil]; omega
    have eb : B.length + [vB p q g H ins.length P.2.2.2.2.2 i].length ≤ 68719476736 := by simp only [List.length_cons, List.length_nil]; omega
    have em : M_S_gMul ((p, q, g), [pw p q (P.1.getD i 0) y, P.2.1.getD i 0, pw p q g (-z)]) = some (vA p q g y z P i) := gMul_eq h (fun a ha => by
      have m1 := pwr (P.1.getD i 0) y
      have m2 := pwr g (-z)
      simp only [List.mem_cons, List.not_mem_nil, or_false] at ha
      omega) (by simp)
    dsimp only
    rw [lt_yes hi, cond_true, getI_nat, c1, bindO_some', gExp_pw h k1.1 k1.2, bindO_some', getI_nat, c2, bindO_some', neg_in hqm hzr, bindO_some', gExp_pw h hg.1 hg.2, bindO_some', em, bindO_some', guardO_of (lenOk_of ea), bindO_some', bindO_some', getI_nat, c3, bindO_some', wi, bindO_some', getI_nat, c4, bindO_some', vC_eq h hH, bindO_some']
    rw [show cm p q g H (P.2.2.2.2.2.getD i 0) (P.2.2.2.2.2.getD (ins.length + i) 0) = vB p q g H ins.length P.2.2.2.2.2 i from rfl, guardO_of (lenOk_of eb), bindO_some', bindO_some', i64_succ (show i < 2 ^ 62 by omega), bindO_some']
  · dsimp only
    rw [lt_no, cond_false]
    have hA1 := lm (vA p q g y z P)
    have hB1 := lm (vB p q g H ins.length P.2.2.2.2.2)
    refine three_loop (fun i => P.2.2.1.getD i 0) (vB2 p q g H ins.length P.2.2.1 P.2.2.2.2.2) (fun i => (g :: P.2.2.1).getD i 0) (fun A B => some ((List.range (3 * ins.length + 3)).all fun i => chk p q t (P.2.2.2.1.getD i 0)
      ((((A ++ [prodM p 1 [P.2.2.1.getD (ins.length - 1) 0, pw p q g (-(tgt q ins.length x y z))]]) ++ (List.range ins.length).map fun i => P.2.1.getD i 0) ++ [gpf p q (ins.map (·.1)) (upTo q ins.length x), gpf p q (ins.map (·.2)) (upTo q ins.length x)]).getD i 0)
      ((((B ++ [pw p q H (P.2.2.2.2.2.getD (3 * ins.length) 0)]) ++ (List.range ins.length).map (vB4 p q g H ins.length P.2.2.2.2.2)) ++ [prodM p 1 [pw p q g (-(P.2.2.2.2.2.getD (5 * ins.length + 1) 0)), gpf p q (outs.map (·.1)) (vK ins.length P.2.2.2.2.2)], prodM p 1 [pw p q key (-(P.2.2.2.2.2.getD (5 * ins.length + 1) 0)), gpf p q (outs.map (·.2)) (vK ins.length P.2.2.2.2.2)]]).getD i 0)))
      (A0 := [] ++ (List.range ins.length).map (vA p q g y z P)) (B0 := [] ++ (List.range ins.length).map (vB p q g H ins.length P.2.2.2.2.2)) (by omega) (by rw [List.nil_append]; omega) (by rw [List.nil_append]; omega) (fun again i A B hi hA hB => ?_) (fun again => ?_)
    · have c1 : P.2.2.1[i]? = some (P.2.2.1.getD i 0) := getD_at (by omega)
      have c3 : P.2.2.2.2.2[i]? = some (P.2.2.2.2.2.getD i 0) := getD_at (by omega)
      have c4 : P.2.2.2.2.2[2 * ins.length + i]? = some (P.2.2.2.2.2.getD (2 * ins.length + i) 0) := getD_at (by omega)
      have hb : 0 ≤ (g :: P.2.2.1).getD i 0 ∧ (g :: P.2.2.1).getD i 0 ≤ p := getD_in (p := p) (q := q) (by rw [List.all_cons, isEl_g h, e3]; rfl) (by rw [List.length_cons]; omega)
      have wi : IntKind.wrap .i64 (((2 * ins.length : Nat) : Int) + (i : Int)) = ((2 * ins.length + i : Nat) : Int) := by rw [i64_in _ (by omega)]; omega
      have ea : A.length + [P.2.2.1.getD i 0].length ≤ 68719476736 := by simp only [List.length_cons, List.length_nil]; omega
      have eb : B.length + [vB2 p q g H ins.length P.2.2.1 P.2.2.2.2.2 i].length ≤ 68719476736 := by simp only [List.length_cons, List.length_nil]; omega
      dsimp only
      rw [lt_yes hi, cond_true, getI_nat, c1, bindO_some', guardO_of (lenOk_of ea), bindO_some', bindO_some', getI_nat, c3, bindO_some', gExp_pw h hb.1 hb.2, bindO_some', w4, bindO_some', wi, bindO_some', getI_nat, c4, bindO_some', gExp_pw h hH.1 hH.2, bindO_some', mul2 h (pwr _ _) (pwr _ _), bindO_some']
      rw [show prodM p 1 [pw p q ((g :: P.2.2.1).getD i 0) (P.2.2.2.2.2.getD i 0), pw p q H (P.2.2.2.2.2.getD (2 * ins.length + i) 0)] = vB2 p q g H ins.length P.2.2.1 P.2.2.2.2.2 i from rfl, guardO_of (lenOk_of eb), bindO_some', bindO_some', bindO_some', i64_succ (show i < 2 ^ 62 by omega), bindO_some', List.getD_cons_succ]
    · have hA2 := lm fun i => P.2.2.1.getD i 0
      have hB2 := lm (vB2 p q g H ins.length P.2.2.1 P.2.2.2.2.2)
      have g1 : P.2.2.1[ins.length - 1]? = some (P.2.2.1.getD (ins.length - 1) 0) := getD_at (by omega)
      have g2 : P.2.2.2.2.2[3 * ins.length]? = some (P.2.2.2.2.2.getD (3 * ins.length) 0) := getD_at (by omega)
      have k1 := getD_in e3 (i := ins.length - 1) (by omega)
      dsimp only
      rw [lt_no, cond_false, i64_in (((ins.length : Nat) : Int) - 1) (by omega), bindO_some', show ((ins.length : Nat) : Int) - 1 = ((ins.length - 1 : Nat) : Int) by omega, getI_nat, g1, bindO_some', vTarget_eq (by omega) ⟨hq2, hqm⟩ hx hy hzr, bindO_some', neg_in hqm htg, bindO_some', gExp_pw h hg.1 hg.2, bindO_some', mul2 h k1 (pwr _ _), bindO_some',
        guardO_of (lenOk_of (by rw [List.nil_append, List.length_append, hA1, hA2]; simp only [List.length_cons, List.length_nil]; omega)), bindO_some', bindO_some', bindO_some', getI_nat, g2, bindO_some', gExp_pw h hH.1 hH.2, bindO_some', guardO_of (lenOk_of (by rw [List.nil_append, List.length_append, hB1, hB2]; simp only [List.length_cons, List.length_nil]; omega)), bindO_some', bindO_some']
      refine two_loop (fun i => P.2.1.getD i 0) (vB4 p q g H ins.length P.2.2.2.2.2) (fun A B => some ((List.range (3 * ins.length + 3)).all fun i => chk p q t (P.2.2.2.1.getD i 0)
        ((A ++ [gpf p q (ins.map (·.1)) (upTo q ins.length x), gpf p q (ins.map (·.2)) (upTo q ins.length x)]).getD i 0)
        ((B ++ [prodM p 1 [pw p q g (-(P.2.2.2.2.2.getD (5 * ins.length + 1) 0)), gpf p q (outs.map (·.1)) (vK ins.length P.2.2.2.2.2)], prodM p 1 [pw p q key (-(P.2.2.2.2.2.getD (5 * ins.length + 1) 0)), gpf p q (outs.map (·.2)) (vK ins.length P.2.2.2.2.2)]]).getD i 0)))
        (by omega) (by rw [List.nil_append, List.length_append, List.length_append, hA1, hA2]; simp only [List.length_cons, List.length_nil]; omega) (by rw [List.nil_append, List.length_append, List.length_append, hB1, hB2]; simp only [List.length_cons, List.length_nil]; omega) (fun again i A B hi hA hB => ?_) (fun again => ?_)
      · have c1 : P.2.1[i]? = some (P.2.1.getD i 0) := getD_at (by omega)
        have c3 : (vK ins.length P.2.2.2.2.2)[i]? = some ((vK ins.length P.2.2.2.2.2).getD i 0) := getD_at (by omega)
        have c4 : P.2.2.2.2.2[4 * ins.length + 1 + i]? = some (P.2.2.2.2.2.getD (4 * ins.length + 1 + i) 0) := getD_at (by omega)
        have wi : IntKind.wrap .i64 (((4 * ins.length + 1 : Nat) : Int) + (i : Int)) = ((4 * ins.length + 1 + i : Nat) : Int) := by rw [i64_in _ (by omega)]; omega
        have ea : A.length + [P.2.1.getD i 0].length ≤ 68719476736 := by simp only [List.length_cons, List.length_nil]; omega
        have eb : B.length + [vB4 p q g H ins.length P.2.2.2.2.2 i].length ≤ 68719476736 := by simp only [List.length_cons, List.length_nil]; omega
        dsimp only
        rw [lt_yes hi, cond_true, getI_nat, c1, bindO_some', guardO_of (lenOk_of ea), bindO_some', bindO_some', getI_nat, c3, bindO_some', bindO_some', i64_succ (show 4 * ins.length < 2 ^ 62 by omega), bindO_some', wi, bindO_some', getI_nat, c4, bindO_some', vC_eq h hH, bindO_some']
        rw [show cm p q g H ((vK ins.length P.2.2.2.2.2).getD i 0) (P.2.2.2.2.2.getD (4 * ins.length + 1 + i) 0) = vB4 p q g H ins.length P.2.2.2.2.2 i from rfl, guardO_of (lenOk_of eb), bindO_some', bindO_some', i64_succ (show i < 2 ^ 62 by omega), bindO_some']
      · have hA3 := lm fun i => P.2.1.getD i 0
        have hB3 := lm (vB4 p q g H ins.length P.2.2.2.2.2)
        have hul := upTo_len (q := q) (n := ins.length) (x := x)
        dsimp only
        rw [lt_no, cond_false, sides1 (show ins.length ≤ 1048576 by omega), bindO_some', sides1 (show outs.length ≤ 1048576 by omega), bindO_some', vUpTo_eq h (by omega) hx, bindO_some']
        dsimp only
        rw [gProd_eq h (l := ins.map (·.1)) (es := upTo q ins.length x) (by rw [List.length_map]; omega) hci.1 (by rw [List.length_map]; omega), bindO_some', bindO_some', gProd_eq h (l := ins.map (·.2)) (es := upTo q ins.length x) (by rw [List.length_map]; omega) hci.2 (by rw [List.length_map]; omega), bindO_some',
          guardO_of (lenOk_of (by rw [List.length_append, List.length_append, List.nil_append, List.length_append, hA1, hA2, hA3]; simp only [List.length_cons, List.length_nil]; omega)), bindO_some', bindO_some', neg_in hqm hf, bindO_some', gExp_pw h hg.1 hg.2, bindO_some',
          gProd_eq h (l := outs.map (·.1)) (es := vK ins.length P.2.2.2.2.2) (by rw [List.length_map]; omega) hco.1 (by rw [List.length_map]; omega), bindO_some', mul2 h (pwr _ _) (gpr _ _), bindO_some', bindO_some', gExp_pw h hk.1 hk.2, bindO_some', gProd_eq h (l := outs.map (·.2)) (es := vK ins.length P.2.2.2.2.2) (by rw [List.length_map]; omega) hco.2 (by rw [List.length_map]; omega), bindO_some', mul2 h (pwr _ _) (gpr _ _), bindO_some',
          guardO_of (lenOk_of (by rw [List.length_append, List.length_append, List.nil_append, List.length_append, hB1, hB2, hB3]; simp only [List.length_cons, List.length_nil]; omega)), bindO_some', bindO_some']
        have hLl := vL_len (p := p) (q := q) (g := g) (ins := ins) (x := x) (y := y) (z := z) (P := P)
        have hRl := vR_len (p := p) (q := q) (g := g) (key := key) (H := H) (n := ins.length) (outs := outs) (P := P)
        refine range_loop (n := 3 * ins.length + 3) (fun i => chk p q t (P.2.2.2.1.getD i 0) ((vL p q g ins x y z P).getD i 0) ((vR p q g key H ins.length outs P).getD i 0)) (by omega) (fun again i hi => ?_) (fun again => ?_)
        · have hAi : (vL p q g ins x y z P)[i]? = some ((vL p q g ins x y z P).getD i 0) := getD_at (by omega)
          have hBi : (vR p q g key H ins.length outs P)[i]? = some ((vR p q g key H ins.length outs P).getD i 0) := getD_at (by omega)
          have hci' : P.2.2.2.1[i]? = some (P.2.2.2.1.getD i 0) := getD_at (by omega)
          have hAr' := hin _ (List.mem_of_getElem? hAi)
          have hcr := getD_in e4 (i := i) (by omega)
          rw [lt_yes (show i < P.2.2.2.1.length by omega), cond_true, getI_nat, hci', bindO_some', getI_nat]
          rw [show ([] ++ (List.range ins.length).map (vA p q g y z P) ++ ((List.range ins.length).map fun i => P.2.2.1.getD i 0) ++ [prodM p 1 [P.2.2.1.getD (ins.length - 1) 0, pw p q g (-(tgt q ins.length x y z))]] ++ ((List.range ins.length).map fun i => P.2.1.getD i 0) ++ [gpf p q (ins.map (·.1)) (upTo q ins.length x), gpf p q (ins.map (·.2)) (upTo q ins.length x)]) = vL p q g ins x y z P from rfl, hAi, bindO_some', gExp_pw h hAr'.1 hAr'.2, bindO_some', mul2 h hcr (pwr _ _), bindO_some', getI_nat]
          refine (congrArg (fun o => bindO o fun (a99 : Int) => bif prodM p 1 [P.2.2.2.1.getD i 0, pw p q ((vL p q g ins x y z P).getD i 0) t] != a99 then some false else bindO (some (IntKind.wrap .i64 ((i : Int) + 1))) fun a => again a) hBi).trans ?_
          rw [bindO_some', i64_succ (show i < 2 ^ 62 by omega), bindO_some', bne]
          unfold chk
          cases (prodM p 1 [P.2.2.2.1.getD i 0, pw p q ((vL p q g ins x y z P).getD i 0) t] == (vR p q g key H ins.length outs P).getD i 0) <;> rfl
        · rw [l4, lt_no, cond_false]

theorem getD_left {A B : List Int} {i : Nat} (h : i < A.length) : (A ++ B).getD i 0 = A.getD i 0 := by
  rw [List.getD_eq_getElem?_getD, List.getElem?_append_left h, ← List.getD_eq_getElem?_getD]

theorem getD_mapr {f : Nat → Int} {n i : Nat} (hi : i < n) : ((List.range n).map f).getD i 0 = f i :=
  getD_is (by rw [List.getElem?_map, List.getElem?_range hi]; rfl)

/-- The parts of a list that is put together of five. -/
theorem five_parts {A B C D E : List Int} {n : Nat} (hA : A.length = n) (hB : B.length = n) (hC : C.length = 1) (hD : D.length = n) :
    (∀ i, i < n → ((((A ++ B) ++ C) ++ D) ++ E).getD i 0 = A.getD i 0) ∧ (∀ i, i < n → ((((A ++ B) ++ C) ++ D) ++ E).getD (n + i) 0 = B.getD i 0) ∧
    ((((A ++ B) ++ C) ++ D) ++ E).getD (2 * n) 0 = C.getD 0 0 ∧ (∀ i, i < n → ((((A ++ B) ++ C) ++ D) ++ E).getD (2 * n + 1 + i) 0 = D.getD i 0) ∧ (∀ i, ((((A ++ B) ++ C) ++ D) ++ E).getD (3 * n + 1 + i) 0 = E.getD i 0) := by
  refine ⟨fun i hi => ?_, fun i hi => ?_, ?_, fun i hi => ?_, fun i => ?_⟩
  · rw [getD_left (by simp only [List.length_append]; omega), getD_left (by simp only [List.length_append]; omega), getD_left (by simp only [List.length_append]; omega), getD_left (by omega)]
  · rw [getD_left (by simp only [List.length_append]; omega), getD_left (by simp only [List.length_append]; omega), getD_left (by simp only [List.length_append]; omega), getD_app hA]
  · rw [getD_left (by simp only [List.length_append]; omega), getD_left (by simp only [List.length_append]; omega)]
    exact getD_app (k := 2 * n) (i := 0) (by simp only [List.length_append]; omega)
  · rw [getD_left (by simp only [List.length_append]; omega)]
    exact getD_app (by simp only [List.length_append]; omega)
  · exact getD_app (by simp only [List.length_append]; omega)

theorem vV_eq {p q g key H x y z t : Int} {ins outs : List (Int × Int)} {P : Pp} : vV p q g key H ins outs x y z t P =
    (((((List.range ins.length).all fun i => chk p q t (P.2.2.2.1.getD i 0) (vA p q g y z P i) (vB p q g H ins.length P.2.2.2.2.2 i) && (chk p q t (P.2.2.2.1.getD (ins.length + i) 0) (P.2.2.1.getD i 0) (vB2 p q g H ins.length P.2.2.1 P.2.2.2.2.2 i) && chk p q t (P.2.2.2.1.getD (2 * ins.length + 1 + i) 0) (P.2.1.getD i 0) (vB4 p q g H ins.length P.2.2.2.2.2 i))) &&
      chk p q t (P.2.2.2.1.getD (2 * ins.length) 0) (prodM p 1 [P.2.2.1.getD (ins.length - 1) 0, pw p q g (-(tgt q ins.length x y z))]) (pw p q H (P.2.2.2.2.2.getD (3 * ins.length) 0))) &&
      chk p q t (P.2.2.2.1.getD (3 * ins.length + 1) 0) (gpf p q (ins.map (·.1)) (upTo q ins.length x)) (prodM p 1 [pw p q g (-(P.2.2.2.2.2.getD (5 * ins.length + 1) 0)), gpf p q (outs.map (·.1)) (vK ins.length P.2.2.2.2.2)])) &&
      chk p q t (P.2.2.2.1.getD (3 * ins.length + 2) 0) (gpf p q (ins.map (·.2)) (upTo q ins.length x)) (prodM p 1 [pw p q key (-(P.2.2.2.2.2.getD (5 * ins.length + 1) 0)), gpf p q (outs.map (·.2)) (vK ins.length P.2.2.2.2.2)])) := by
  have lm : ∀ f : Nat → Int, ((List.range ins.length).map f).length = ins.length := fun f => by rw [List.length_map, List.length_range]
  obtain ⟨a1, a2, a3, a4, a5⟩ := five_parts (E := [gpf p q (ins.map (·.1)) (upTo q ins.length x), gpf p q (ins.map (·.2)) (upTo q ins.length x)]) (lm (vA p q g y z P)) (lm fun i => P.2.2.1.getD i 0) (C := [prodM p 1 [P.2.2.1.getD (ins.length - 1) 0, pw p q g (-(tgt q ins.length x y z))]]) rfl (lm fun i => P.2.1.getD i 0)
  obtain ⟨b1, b2, b3, b4, b5⟩ := five_parts (E := [prodM p 1 [pw p q g (-(P.2.2.2.2.2.getD (5 * ins.length + 1) 0)), gpf p q (outs.map (·.1)) (vK ins.length P.2.2.2.2.2)], prodM p 1 [pw p q key (-(P.2.2.2.2.2.getD (5 * ins.length + 1) 0)), gpf p q (outs.map (·.2)) (vK ins.length P.2.2.2.2.2)]]) (lm (vB p q g H ins.length P.2.2.2.2.2)) (lm (vB2 p q g H ins.length P.2.2.1 P.2.2.2.2.2)) (C := [pw p q H (P.2.2.2.2.2.getD (3 * ins.length) 0)]) rfl (lm (vB4 p q g H ins.length P.2.2.2.2.2))
  unfold vV vL vR
  rw [Bool.eq_iff_iff]
  simp only [Bool.and_eq_true, List.all_eq_true, List.mem_range]
  constructor
  · intro hall
    refine ⟨⟨⟨fun i hi => ⟨?_, ?_, ?_⟩, ?_⟩, ?_⟩, ?_⟩
    · have := hall i (by omega)
      rwa [a1 i hi, b1 i hi, getD_mapr hi, getD_mapr hi] at this
    · have := hall (ins.length + i) (by omega)
      rwa [a2 i hi, b2 i hi, getD_mapr hi, getD_mapr hi] at this
    · have := hall (2 * ins.length + 1 + i) (by omega)
      rwa [a4 i hi, b4 i hi, getD_mapr hi, getD_mapr hi] at this
    · have := hall (2 * ins.length) (by omega)
      rwa [a3, b3] at this
    · have := hall (3 * ins.length + 1) (by omega)
      rwa [show 3 * ins.length + 1 = 3 * ins.length + 1 + 0 from rfl, a5 0, b5 0] at this
    · have := hall (3 * ins.length + 2) (by omega)
      rwa [show 3 * ins.length + 2 = 3 * ins.length + 1 + 1 from rfl, a5 1, b5 1] at this
  · rintro ⟨⟨⟨hall, k1⟩, k2⟩, k3⟩ i hi
    rcases Nat.lt_or_ge i ins.length with c1 | c1
    · rw [a1 i c1, b1 i c1, getD_mapr c1, getD_mapr c1]
      exact (hall i c1).1
    · rcases Nat.lt_or_ge i (2 * ins.length) with c2 | c2
      · obtain ⟨j, rfl⟩ : ∃ j, i = ins.length + j := ⟨i - ins.length, by omega⟩
        have hj : j < ins.length := by omega
        rw [a2 j hj, b2 j hj, getD_mapr hj, getD_mapr hj]
        exact (hall j hj).2.1
      · by_cases c3 : i = 2 * ins.length
        · subst c3
          rw [a3, b3]
          exact k1
        · rcases Nat.lt_or_ge i (3 * ins.length + 1) with c4 | c4
          · obtain ⟨j, rfl⟩ : ∃ j, i = 2 * ins.length + 1 + j := ⟨i - (2 * ins.length + 1), by omega⟩
            have hj : j < ins.length := by omega
            rw [a4 j hj, b4 j hj, getD_mapr hj, getD_mapr hj]
            exact (hall j hj).2.2
          · by_cases c5 : i = 3 * ins.length + 1
            · subst c5
              rw [show 3 * ins.length + 1 = 3 * ins.length + 1 + 0 from rfl, a5 0, b5 0]
              exact k2
            · have c6 : i = 3 * ins.length + 1 + 1 := by omega
              subst c6
              rw [a5 1, b5 1]
              exact k3

theorem verifyPoly_1_eq {p q g t c b d : Int} {r : Bool} (h : Gr p q g) (hc : 0 ≤ c ∧ c ≤ p) (hb : 0 ≤ b ∧ b ≤ p) : M_I_Group_verifyPoly_1 (c, b, d, r, (p, q, g), t) = some (r && chk p q t c b d) := by
  have h3 := h.p3
  unfold M_I_Group_verifyPoly_1
  dsimp only
  have w := pw_range (q := q) (x := b) (e := t) (show 1 ≤ p by omega)
  rw [pow_pw h hb.1 hb.2, bindO_some', mul2' h hc (show 0 ≤ pw p q b t ∧ pw p q b t ≤ p by omega), bindO_some']
  cases r <;> rfl

theorem points_eq {p q g : Int} {l : List Int} (h : Gr p q g) (hl : okD l = true) (hn : l.length ≤ 300) : M_I_Group_points ((p, q, g), l) = some (chal p q g lMy l, chal p q g lMzz l, true) := by
  unfold M_I_Group_points
  dsimp only
  rw [show M_I_Group_challenge ((p, q, g), bytesOf [109, 105, 120, 32, 121], l) = _ from challenge_eq (s := lMy) h (by decide) hl (show 5 + _ ≤ 396 by omega), bindO_some']
  rw [show M_I_Group_challenge ((p, q, g), bytesOf [109, 105, 120, 32, 122], l) = _ from challenge_eq (s := lMzz) h (by decide) hl (show 5 + _ ≤ 396 by omega), bindO_some']
  rfl

theorem take_at {rs : List Int} {a n i : Nat} (hi : i < n) (h : a + n ≤ rs.length) : ((rs.drop a).take n)[i]? = some (rs.getD (a + i) 0) := by
  rw [List.getElem?_take_of_lt hi, List.getElem?_drop]
  exact getD_at (by omega)

def vC3 (p q g H y z t : Int) (n : Nat) (P : Pp) (i : Nat) : Bool :=
  chk p q t (P.2.2.2.1.getD i 0) (vA p q g y z P i) (vB p q g H n P.2.2.2.2.2 i) && (chk p q t (P.2.2.2.1.getD (n + i) 0) (P.2.2.1.getD i 0) (vB2 p q g H n P.2.2.1 P.2.2.2.2.2 i) && chk p q t (P.2.2.2.1.getD (2 * n + 1 + i) 0) (P.2.1.getD i 0) (vB4 p q g H n P.2.2.2.2.2 i))

set_option maxHeartbeats 2000000 in
theorem verifyPoly_eq {p q g key H : Int} {Hs hs : List Int} {ins outs : List (Int × Int)} {P : Pp} (h : Gr p q g) (hM : MixOK p q key H Hs ins outs) (hp : Pp.small P 1048576) :
    M_I_Group_verifyPoly ((p, q, g), (H, hs), key, ins, outs, P) = some (vVer p q g key H ins outs P) := by
  have h3 := h.p3; have hpm := h.pm; have hq2 := h.q2; have hqp := h.qp; have hg2 := h.g2; have hgp := h.gp
  have hqm : q ≤ 2000000000 := by omega
  obtain ⟨n1, n2, o2, ki, hHi, hHs, hHl, hii, hoo⟩ := hM
  unfold M_I_Group_verifyPoly vVer
  dsimp only
  rw [ne_dec]
  cases hno : (outs.length == ins.length) with
  | false => rfl
  | true =>
  have hno' : outs.length = ins.length := by simpa using hno
  simp only [Bool.not_true, cond_false, Bool.true_and]
  rw [show M_I_Group_isPolyForm ((p, q, g), (P.1, P.2.1, P.2.2.1, P.2.2.2.1, P.2.2.2.2.1, P.2.2.2.2.2), ((ins.length : Nat) : Int)) = _ from isPolyForm_eq (P := P) h (by omega) hp, bindO_some']
  cases hF : pForm p q ins.length P with
  | false => rfl
  | true =>
  obtain ⟨l1, l2, l3, l4, l5, l6, e1, e2, e3, e4, e5⟩ := pForm_fits hF
  have okM := okD_mixL (more := P.1) h ki hii hoo (okD_el h e1)
  have okL : okD (pLst key ins outs P) = true := by
    unfold pLst
    rw [okD_append, okM, okD_el h e2]
    rfl
  have hl := mixL_len (key := key) (ins := ins) (outs := outs) (more := P.1)
  have hll : (pLst key ins outs P).length = 1 + 2 * ins.length + 2 * outs.length + P.1.length + P.2.1.length := by unfold pLst; rw [List.length_append, hl]
  have eL : mixL key ins outs (P.1 ++ P.2.1) = pLst key ins outs P := by unfold pLst mixL; rw [List.append_assoc]; simp only [List.append_assoc]
  have g0 : getI P.2.2.2.2.1 (0 : Int) = some (P.2.2.2.2.1.getD 0 0) := (getI_nat _ 0).trans (getD_at (by omega))
  rw [Bool.not_true, cond_false, Bool.true_and, mixList_eq (by omega) (by omega) (by omega), bindO_some']
  rw [show M_I_Group_challenge ((p, q, g), bytesOf [109, 105, 120, 32, 120], mixL key ins outs P.1) = _ from challenge_eq (s := lMx) h (by decide) okM (show 5 + _ ≤ 396 by omega), bindO_some', clone_eq (by omega), bindO_some', guardO_of (lenOk_of (show P.1.length + P.2.1.length ≤ 68719476736 by omega)), bindO_some', bindO_some', mixList_eq (by omega) (by omega) (by rw [List.length_append]; omega), bindO_some', eL, points_eq h okL (by omega), bindO_some', concat3_eq (by omega), bindO_some']
  rw [show M_I_Group_challenge ((p, q, g), bytesOf [109, 105, 120, 32, 101, 110, 100], pLst key ins outs P ++ (P.2.2.1 ++ P.2.2.2.1)) = _ from challenge_eq (s := lMe) h (by decide) (by rw [okD_append, okD_append, okL, okD_el h e3, okD_el h e4]; rfl) (show 7 + _ ≤ 396 by rw [List.length_append, List.length_append]; omega), bindO_some']
  dsimp only
  rw [Bool.not_true, cond_false, cond_false, cond_false, g0, bindO_some', bne, show chal p q g lMe (pLst key ins outs P ++ (P.2.2.1 ++ P.2.2.2.1)) = pT p q g key ins outs P from rfl]
  cases hz : (P.2.2.2.2.1.getD 0 0 == pT p q g key ins outs P) with
  | false => rfl
  | true =>
  rw [Bool.not_true, cond_false, Bool.true_and, vV_eq]
  have hx := chal_range h lMx (mixL key ins outs P.1)
  have hy : 0 ≤ pY p q g key ins outs P ∧ pY p q g key ins outs P ≤ q - 1 := chal_range h _ _
  have hzr : 0 ≤ pZ p q g key ins outs P ∧ pZ p q g key ins outs P ≤ q - 1 := chal_range h _ _
  rw [show chal p q g lMx (mixL key ins outs P.1) = pX p q g key ins outs P from rfl] at hx ⊢
  rw [show chal p q g lMy (pLst key ins outs P) = pY p q g key ins outs P from rfl, show chal p q g lMzz (pLst key ins outs P) = pZ p q g key ins outs P from rfl]
  generalize pX p q g key ins outs P = x at hx ⊢
  generalize pY p q g key ins outs P = y at hy ⊢
  generalize pZ p q g key ins outs P = z at hzr ⊢
  clear hz g0
  generalize pT p q g key ins outs P = t
  have hK := vK_len l6
  have hH := isEl_in hHi
  have hk := isEl_in ki
  have hg : 0 ≤ g ∧ g ≤ p := by omega
  have pr : ∀ l, 0 ≤ prodM p 1 l ∧ prodM p 1 l ≤ p := fun l => by have := prod_range (l := l) (show 2 ≤ p by omega); omega
  have pwr : ∀ b c, 0 ≤ pw p q b c ∧ pw p q b c ≤ p := fun b c => by have := pw_range (q := q) (x := b) (e := c) (show 1 ≤ p by omega); omega
  have gpr : ∀ a b, 0 ≤ gpf p q a b ∧ gpf p q a b ≤ p := fun a b => by have := gpf_range (q := q) (show 2 ≤ p by omega) a b; omega
  have hci := comp_in hii
  have hco := comp_in hoo
  have hf := getD_exp e5 (i := 5 * ins.length + 1) (by omega)
  have t1 : M_I_taker_take (P.2.2.2.2.2, ((ins.length : Nat) : Int)) = some ((P.2.2.2.2.2.drop 0).take ins.length, P.2.2.2.2.2.drop ins.length) := take_eq (by omega)
  have t2 : M_I_taker_take (P.2.2.2.2.2.drop ins.length, ((ins.length : Nat) : Int)) = some ((P.2.2.2.2.2.drop ins.length).take ins.length, P.2.2.2.2.2.drop (2 * ins.length)) := by
    rw [take_eq (by rw [List.length_drop]; omega), List.drop_drop, show ins.length + ins.length = 2 * ins.length by omega]
  have t3 : M_I_taker_take (P.2.2.2.2.2.drop (2 * ins.length), ((ins.length : Nat) : Int)) = some ((P.2.2.2.2.2.drop (2 * ins.length)).take ins.length, P.2.2.2.2.2.drop (3 * ins.length)) := by
    rw [take_eq (by rw [List.length_drop]; omega), List.drop_drop, show 2 * ins.length + ins.length = 3 * ins.length by omega]
  have t4 : M_I_taker_one (P.2.2.2.2.2.drop (3 * ins.length)) = some (P.2.2.2.2.2.getD (3 * ins.length) 0, P.2.2.2.2.2.drop (3 * ins.length + 1)) := by
    rw [takeOne_eq (by rw [List.length_drop]; omega), List.drop_drop]
    simp
  have t5 : M_I_taker_take (P.2.2.2.2.2.drop (3 * ins.length + 1), ((ins.length : Nat) : Int)) = some (vK ins.length P.2.2.2.2.2, P.2.2.2.2.2.drop (4 * ins.length + 1)) := by
    rw [take_eq (by rw [List.length_drop]; omega), List.drop_drop, show 3 * ins.length + 1 + ins.length = 4 * ins.length + 1 by omega]
    unfold vK
    rw [List.drop_take, show 4 * ins.length + 1 - (3 * ins.length + 1) = ins.length by omega]
  have t6 : M_I_taker_take (P.2.2.2.2.2.drop (4 * ins.length + 1), ((ins.length : Nat) : Int)) = some ((P.2.2.2.2.2.drop (4 * ins.length + 1)).take ins.length, P.2.2.2.2.2.drop (5 * ins.length + 1)) := by
    rw [take_eq (by rw [List.length_drop]; omega), List.drop_drop, show 4 * ins.length + 1 + ins.length = 5 * ins.length + 1 by omega]
  have t7 : M_I_taker_one (P.2.2.2.2.2.drop (5 * ins.length + 1)) = some (P.2.2.2.2.2.getD (5 * ins.length + 1) 0, P.2.2.2.2.2.drop (5 * ins.length + 2)) := by
    rw [takeOne_eq (by rw [List.length_drop]; omega), List.drop_drop]
    simp
  have w1 : IntKind.wrap .i64 (3 * ((ins.length : Nat) : Int)) = ((3 * ins.length : Nat) : Int) := by rw [i64_in _ (by omega)]; omega
  have w4 : IntKind.wrap .i64 (2 * ((ins.length : Nat) : Int)) = ((2 * ins.length : Nat) : Int) := by rw [i64_in _ (by omega)]; omega
  have eG : [g].length + P.2.2.1.length ≤ 68719476736 := by simp only [List.length_cons, List.length_nil]; omega
  rw [t1, bindO_some', t2, bindO_some', t3, bindO_some', t4, bindO_some', t5, bindO_some', t6, bindO_some', t7, bindO_some', guardO_of (lenOk_of eG), bindO_some', bindO_some']
  refine (loopO_for (σ := List Int × Bool) (fun i s => (s.1, (i : Int), s.2)) ins.length (fun i s => some (((((List.range ins.length).all (vC3 p q g H y z t ins.length P)) && chk p q t (P.2.2.2.1.getD (2 * ins.length) 0) (prodM p 1 [P.2.2.1.getD (ins.length - 1) 0, pw p q g (-(tgt q ins.length x y z))]) (pw p q H (P.2.2.2.2.2.getD (3 * ins.length) 0))) &&
      chk p q t (P.2.2.2.1.getD (3 * ins.length + 1) 0) (gpf p q (ins.map (·.1)) (upTo q ins.length x)) (prodM p 1 [pw p q g (-(P.2.2.2.2.2.getD (5 * ins.length + 1) 0)), gpf p q (outs.map (·.1)) (vK ins.length P.2.2.2.2.2)])) &&
      chk p q t (P.2.2.2.1.getD (3 * ins.length + 2) 0) (gpf p q (ins.map (·.2)) (upTo q ins.length x)) (prodM p 1 [pw p q key (-(P.2.2.2.2.2.getD (5 * ins.length + 1) 0)), gpf p q (outs.map (·.2)) (vK ins.length P.2.2.2.2.2)]))) (fun i s => s = (upTo q i x, (List.range i).all (vC3 p q g H y z t ins.length P))) (fun again s hs => ?_) (fun again i s hi hs ih => ?_) (by omega) (i := 0) (s := ([], true)) (Nat.zero_le _) rfl).trans rfl
  · subst hs
    have htg : 0 ≤ tgt q ins.length x y z ∧ tgt q ins.length x y z ≤ q - 1 := (tg_range (x := x) (y := y) (z := z) hq2 ins.length).1
    have c1 : P.2.2.2.1[2 * ins.length]? = some (P.2.2.2.1.getD (2 * ins.length) 0) := getD_at (by omega)
    have c2 : P.2.2.2.1[3 * ins.length + 1]? = some (P.2.2.2.1.getD (3 * ins.length + 1) 0) := getD_at (by omega)
    have c3 : P.2.2.2.1[3 * ins.length + 2]? = some (P.2.2.2.1.getD (3 * ins.length + 2) 0) := getD_at (by omega)
    have g1 : P.2.2.1[ins.length - 1]? = some (P.2.2.1.getD (ins.length - 1) 0) := getD_at (by omega)
    have k1 := getD_in e3 (i := ins.length - 1) (by omega)
    have d1 := getD_in e4 (i := 2 * ins.length) (by omega)
    have d2 := getD_in e4 (i := 3 * ins.length + 1) (by omega)
    have d3 := getD_in e4 (i := 3 * ins.length + 2) (by omega)
    have hul := upTo_len (q := q) (n := ins.length) (x := x)
    have w5 : IntKind.wrap .i64 (((3 * ins.length : Nat) : Int) + 2) = ((3 * ins.length + 2 : Nat) : Int) := by rw [i64_in _ (by omega)]; omega
    dsimp only
    rw [lt_no, cond_false, w4, bindO_some', getI_nat, c1, bindO_some', i64_in (((ins.length : Nat) : Int) - 1) (by omega), bindO_some', show ((ins.length : Nat) : Int) - 1 = ((ins.length - 1 : Nat) : Int) by omega, getI_nat, g1, bindO_some', targetProduct_eq (by omega) ⟨hq2, hqm⟩ hx hy hzr, bindO_some', pow_pw h hg.1 hg.2, bindO_some', over_eq h k1 (pwr _ _), over_pw h h.gq, bindO_some', pow_pw h hH.1 hH.2, bindO_some', verifyPoly_1_eq h d1 (pr _), bindO_some',
      sides2 (show ins.length ≤ 1048576 by omega), bindO_some', sides2 (show outs.length ≤ 1048576 by omega), bindO_some', w1, bindO_some', i64_succ (show 3 * ins.length < 2 ^ 62 by omega), bindO_some', getI_nat, c2, bindO_some']
    dsimp only
    rw [powers_eq h (l := ins.map (·.1)) (es := upTo q ins.length x) (by rw [List.length_map]; omega) hci.1 (by rw [List.length_map]; omega), bindO_some', neg_in hqm hf, bindO_some', pow_pw h hg.1 hg.2, bindO_some', powers_eq h (l := outs.map (·.1)) (es := vK ins.length P.2.2.2.2.2) (by rw [List.length_map]; omega) hco.1 (by rw [List.length_map]; omega), bindO_some', mul2' h (pwr _ _) (gpr _ _), bindO_some', verifyPoly_1_eq h d2 (gpr _ _), bindO_some', bindO_some', w5, bindO_some', getI_nat, c3, bindO_some',
      powers_eq h (l := ins.map (·.2)) (es := upTo q ins.length x) (by rw [List.length_map]; omega) hci.2 (by rw [List.length_map]; omega), bindO_some', bindO_some', pow_pw h hk.1 hk.2, bindO_some', powers_eq h (l := outs.map (·.2)) (es := vK ins.length P.2.2.2.2.2) (by rw [List.length_map]; omega) hco.2 (by rw [List.length_map]; omega), bindO_some', mul2' h (pwr _ _) (gpr _ _), bindO_some', verifyPoly_1_eq h d3 (gpr _ _), bindO_some']
  · subst hs
    have c1 : P.2.2.2.1[i]? = some (P.2.2.2.1.getD i 0) := getD_at (by omega)
    have c2 : P.2.2.2.1[ins.length + i]? = some (P.2.2.2.1.getD (ins.length + i) 0) := getD_at (by omega)
    have c3 : P.2.2.2.1[2 * ins.length + 1 + i]? = some (P.2.2.2.1.getD (2 * ins.length + 1 + i) 0) := getD_at (by omega)
    have p1 : P.1[i]? = some (P.1.getD i 0) := getD_at (by omega)
    have p2 : P.2.1[i]? = some (P.2.1.getD i 0) := getD_at (by omega)
    have p3 : P.2.2.1[i]? = some (P.2.2.1.getD i 0) := getD_at (by omega)
    have p4 : ([g] ++ P.2.2.1)[i]? = some ((g :: P.2.2.1).getD i 0) := getD_at (l := g :: P.2.2.1) (by rw [List.length_cons]; omega)
    have r1 : ((P.2.2.2.2.2.drop 0).take ins.length)[i]? = some (P.2.2.2.2.2.getD i 0) := by rw [take_at hi (by omega), Nat.zero_add]
    have r2 := take_at (rs := P.2.2.2.2.2) (a := ins.length) hi (by omega)
    have r3 := take_at (rs := P.2.2.2.2.2) (a := 2 * ins.length) hi (by omega)
    have r4 : (vK ins.length P.2.2.2.2.2)[i]? = some ((vK ins.length P.2.2.2.2.2).getD i 0) := getD_at (by omega)
    have r5 := take_at (rs := P.2.2.2.2.2) (a := 4 * ins.length + 1) hi (by omega)
    have k1 := getD_in e1 (i := i) (by omega)
    have k2 := getD_in e2 (i := i) (by omega)
    have k3 := getD_in e3 (i := i) (by omega)
    have d1 := getD_in e4 (i := i) (by omega)
    have d2 := getD_in e4 (i := ins.length + i) (by omega)
    have d3 := getD_in e4 (i := 2 * ins.length + 1 + i) (by omega)
    have hb : 0 ≤ (g :: P.2.2.1).getD i 0 ∧ (g :: P.2.2.1).getD i 0 ≤ p := getD_in (p := p) (q := q) (by rw [List.all_cons, isEl_g h, e3]; rfl) (by rw [List.length_cons]; omega)
    have wi : IntKind.wrap .i64 (((ins.length : Nat) : Int) + (i : Int)) = ((ins.length + i : Nat) : Int) := by rw [i64_in _ (by omega)]; omega
    have wj : IntKind.wrap .i64 (((2 * ins.length + 1 : Nat) : Int) + (i : Int)) = ((2 * ins.length + 1 + i : Nat) : Int) := by rw [i64_in _ (by omega)]; omega
    have ea : (upTo q i x).length + [x ^ (i + 1) % q].length ≤ 68719476736 := by rw [upTo_len]; simp only [List.length_cons, List.length_nil]; omega
    have ep : M_I_power (x, ((i + 1 : Nat) : Int), q) = some (x ^ (i + 1) % q) := by
      rw [power_eq (by omega), nPower_eq hx.1 (by omega) (by omega) (by omega) (by omega) (by omega), Int.toNat_natCast]
    have em : M_I_Group_mul ((p, q, g), [pw p q (P.1.getD i 0) y, P.2.1.getD i 0, pw p q g (-z)]) = some (vA p q g y z P i) := Group_mul_eq h (fun a ha => by
      have m1 := pwr (P.1.getD i 0) y
      have m2 := pwr g (-z)
      simp only [List.mem_cons, List.not_mem_nil, or_false] at ha
      omega) (by simp)
    have kA : 0 ≤ vA p q g y z P i ∧ vA p q g y z P i ≤ p := pr _
    dsimp only
    rw [lt_yes hi, cond_true, i64_succ (show i < 2 ^ 62 by omega), bindO_some', ep, bindO_some', guardO_of (lenOk_of ea), bindO_some', bindO_some', getI_nat, c1, bindO_some', getI_nat, p1, bindO_some', pow_pw h k1.1 k1.2, bindO_some', getI_nat, p2, bindO_some', neg_in hqm hzr, bindO_some', pow_pw h hg.1 hg.2, bindO_some', em, bindO_some', getI_nat, r1, bindO_some', getI_nat, r2, bindO_some', commit_eq h hH, bindO_some', verifyPoly_1_eq h d1 kA, bindO_some']
    rw [wi, bindO_some', getI_nat, c2, bindO_some', getI_nat, p3, bindO_some', getI_nat, p4, bindO_some', bindO_some', pow_pw h hb.1 hb.2, bindO_some', getI_nat, r3, bindO_some', pow_pw h hH.1 hH.2, bindO_some', mul2' h (pwr _ _) (pwr _ _), bindO_some', verifyPoly_1_eq h d2 k3, bindO_some']
    rw [w4, bindO_some', i64_succ (show 2 * ins.length < 2 ^ 62 by omega), bindO_some', wj, bindO_some', getI_nat, c3, bindO_some', bindO_some', getI_nat, r4, bindO_some', getI_nat, r5, bindO_some', commit_eq h hH, bindO_some', verifyPoly_1_eq h d3 k2, bindO_some', bindO_some']
    refine ih (_, _) ?_
    rw [upTo_succ, List.range_succ, List.all_append]
    refine Prod.ext rfl ?_
    have ba : ∀ a b c d : Bool, (((a && b) && c) && d) = (a && (b && (c && d))) := fun a b c d => by cases a <;> cases b <;> cases c <;> cases d <;> rfl
    refine (ba _ _ _ _).trans ?_
    simp only [List.all_cons, List.all_nil, Bool.and_true]
    rfl

abbrev Mp := List Int × List Int × Pf

abbrev Stg := Int × List (Int × Int) × Mp × Pp

noncomputable def mixB (p q g key : Int) (l : List (Int × Int)) : Bool := okG p q g && (isEl p q key && (decide (1 ≤ l.length ∧ l.length ≤ 12) && l.all (isCi p q)))

noncomputable def rdB (p q g key : Int) (l : List (Int × Int)) : Bool := mixB p q g key l && (basesN p q g l.length).2

theorem in12 (n : Nat) : decide ((1 : Int) ≤ (n : Int) ∧ (n : Int) ≤ 12) = decide (1 ≤ n ∧ n ≤ 12) := decide_eq_decide.2 (by omega)

theorem mList_eq {p q g key : Int} {l : List (Int × Int)} : M_S_mList ((p, q, g), key, l) = some (mixB p q g key l) := by
  unfold M_S_mList mixB
  dsimp only
  rw [eKey_eq, bindO_some']
  cases hok : okG p q g with
  | false => rfl
  | true =>
  have h := okG_spec hok
  cases isEl p q key with
  | false => rfl
  | true =>
  rw [Bool.true_and, cond_true, in_eq, bindO_some', in12, eGood_eq h, bindO_some', cond_and, Bool.true_and, Bool.true_and]
  by_cases hn : 1 ≤ l.length ∧ l.length ≤ 12
  · rw [decide_eq_true hn, decide_eq_true (show l.length ≤ 24 by omega), Bool.true_and, Bool.true_and]
  · rw [decide_eq_false hn, Bool.false_and, Bool.false_and]

theorem areMixed_eq {p q g : Int} {l : List (Int × Int)} (h : Gr p q g) (hl : l.length ≤ 1048576) : M_I_Group_areMixed ((p, q, g), l) = some (decide (1 ≤ l.length ∧ l.length ≤ 12) && l.all (isCi p q)) := by
  unfold M_I_Group_areMixed
  dsimp only
  rw [within_eq, bindO_some', in12, hasCiphers_eq h (by omega), bindO_some', cond_and]
  by_cases hn : 1 ≤ l.length ∧ l.length ≤ 12
  · rw [decide_eq_true hn, decide_eq_true (show l.length ≤ 24 by omega), Bool.true_and, Bool.true_and]
  · rw [decide_eq_false hn, Bool.false_and, Bool.false_and]

theorem mixB_spec {p q g key : Int} {l : List (Int × Int)} (hm : mixB p q g key l = true) : okG p q g = true ∧ isEl p q key = true ∧ (1 ≤ l.length ∧ l.length ≤ 12) ∧ l.all (isCi p q) = true := by
  simp only [mixB, Bool.and_eq_true, decide_eq_true_eq] at hm
  exact hm

theorem mixBases_eq {p q g key : Int} {l : List (Int × Int)} (hl : l.length ≤ 1048576) : M_I_mixBases ((p, q, g), key, l) = some (bif mixB p q g key l then basesN p q g l.length else ((0, []), false)) := by
  unfold M_I_mixBases mixB
  dsimp only
  rw [IsValidGroup_eq, bindO_some']
  cases hok : okG p q g with
  | false => rfl
  | true =>
  have h := okG_spec hok
  rw [has_eq' h, bindO_some', Bool.not_true, cond_false, Bool.true_and]
  cases isEl p q key with
  | false => rfl
  | true =>
  rw [areMixed_eq h hl, bindO_some', Bool.not_true, cond_false, Bool.true_and]
  cases hc : (decide (1 ≤ l.length ∧ l.length ≤ 12) && l.all (isCi p q)) with
  | false => rfl
  | true =>
  simp only [Bool.and_eq_true, decide_eq_true_eq] at hc
  rw [I_basesOf_eq h (by omega), bindO_some', Bool.not_true, cond_false, cond_true]

theorem xReady_eq {p q g key : Int} {l : List (Int × Int)} : M_S_xReady ((p, q, g), key, l) = some (rdB p q g key l) := by
  unfold M_S_xReady rdB
  dsimp only
  rw [mList_eq, bindO_some']
  cases hm : mixB p q g key l with
  | false => rfl
  | true =>
  obtain ⟨hok, -, hn, -⟩ := mixB_spec hm
  rw [Bool.not_true, cond_false, S_BasesOf_eq (okG_spec hok) hok (by omega), bindO_some', Bool.true_and]

theorem polyBases_eq {p q g key : Int} {l : List (Int × Int)} (hl : l.length ≤ 1048576) : M_I_polyBases ((p, q, g), key, l) = some (bif rdB p q g key l then (((basesN p q g l.length).1.1, []), true) else ((0, []), false)) := by
  unfold M_I_polyBases rdB
  dsimp only
  rw [mixBases_eq hl, bindO_some']
  cases hm : mixB p q g key l with
  | false => rfl
  | true =>
  obtain ⟨hok, -, hn, -⟩ := mixB_spec hm
  have h := okG_spec hok
  rw [cond_true, Bool.true_and]
  cases hb : (basesN p q g l.length).2 with
  | false => rfl
  | true =>
  rw [Bool.not_true, cond_false, cond_true, show M_I_Group_basesOf ((p, q, g), 0) = _ from I_basesOf_eq (n := 0) h (by omega), bindO_some', (bases_ok h hb).2.2.2]

def noPf (a : Pf) : Bool := (a.1.length == 0) && ((a.2.1.length == 0) && (a.2.2.length == 0))

def noM (a : Mp) : Bool := (a.1.length == 0) && ((a.2.1.length == 0) && noPf a.2.2)

def noP (a : Pp) : Bool := (a.1.length == 0) && ((a.2.1.length == 0) && ((a.2.2.1.length == 0) && noPf a.2.2.2))

def Mp.small (a : Mp) (n : Nat) : Prop := a.1.length ≤ n ∧ a.2.1.length ≤ n ∧ a.2.2.small n

theorem zero_dec (n : Nat) : (((n : Nat) : Int) == 0) = (n == 0) := eq_decN n 0

theorem Proof_isEmpty_eq {a : Pf} : M_I_Proof_isEmpty a = some (noPf a) := by
  unfold M_I_Proof_isEmpty noPf
  simp only [zero_dec, cond_and]

theorem bNone_eq {a : Pf} (h : a.small 1048576) : M_S_bNone a = some (noPf a) := by
  obtain ⟨h1, h2, h3⟩ := h
  unfold M_S_bNone noPf
  rw [i64_in ((a.1.length : Int) + (a.2.1.length : Int)) (by omega), bindO_some', i64_in ((a.1.length : Int) + (a.2.1.length : Int) + (a.2.2.length : Int)) (by omega), bindO_some']
  congr 1
  rw [Bool.eq_iff_iff]
  simp only [Bool.and_eq_true, beq_iff_eq]
  omega

theorem M_isEmpty_eq {a : Mp} : M_I_MatrixProof_isEmpty a = some (noM a) := by
  unfold M_I_MatrixProof_isEmpty noM
  simp only [Proof_isEmpty_eq, zero_dec, bindO_some', cond_and]

theorem P_isEmpty_eq {a : Pp} : M_I_PolyProof_isEmpty a = some (noP a) := by
  unfold M_I_PolyProof_isEmpty noP
  simp only [Proof_isEmpty_eq, zero_dec, bindO_some', cond_and]

theorem xNoMatrix_eq {a : Mp} (h : Mp.small a 1048576) : M_S_xNoMatrix a = some (noM a) := by
  obtain ⟨h1, h2, h3⟩ := h
  unfold M_S_xNoMatrix noM
  rw [i64_in ((a.1.length : Int) + (a.2.1.length : Int)) (by omega), bindO_some', bNone_eq h3, bindO_some', cond_and]
  congr 1
  rw [Bool.eq_iff_iff]
  simp only [Bool.and_eq_true, beq_iff_eq]
  constructor
  · rintro ⟨u, v⟩
    exact ⟨by omega, by omega, v⟩
  · rintro ⟨u1, u2, v⟩
    exact ⟨by omega, v⟩

theorem xNoPoly_eq {a : Pp} (h : Pp.small a 1048576) : M_S_xNoPoly a = some (noP a) := by
  obtain ⟨h1, h2, h2', h3⟩ := h
  unfold M_S_xNoPoly noP
  rw [i64_in ((a.1.length : Int) + (a.2.1.length : Int)) (by omega), bindO_some', i64_in ((a.1.length : Int) + (a.2.1.length : Int) + (a.2.2.1.length : Int)) (by omega), bindO_some', bNone_eq h3, bindO_some', cond_and]
  congr 1
  rw [Bool.eq_iff_iff]
  simp only [Bool.and_eq_true, beq_iff_eq]
  constructor
  · rintro ⟨u, v⟩
    exact ⟨by omega, by omega, by omega, v⟩
  · rintro ⟨u1, u2, u3, v⟩
    exact ⟨by omega, v⟩

def Stg.small (s : Stg) : Prop := s.2.1.length ≤ 1048576 ∧ Mp.small s.2.2.1 1048576 ∧ Pp.small s.2.2.2 1048576

noncomputable def stageB (p q g key : Int) (ins : List (Int × Int)) (s : Stg) : Bool :=
  (decide (1 ≤ s.2.1.length ∧ s.2.1.length ≤ 12) && s.2.1.all (isCi p q)) &&
    (bif s.1 == 1 then mVer p q g key (basesN p q g ins.length).1.1 (basesN p q g ins.length).1.2 ins s.2.1 s.2.2.1.1 s.2.2.1.2.1 s.2.2.1.2.2 && noP s.2.2.2
     else bif s.1 == 2 then vVer p q g key (basesN p q g ins.length).1.1 ins s.2.1 s.2.2.2 && noM s.2.2.1 else false)

theorem mixOK_of {p q g key : Int} {ins outs : List (Int × Int)} (hr : rdB p q g key ins = true) (ho : outs.length ≤ 24) (hoo : outs.all (isCi p q) = true) :
    MixOK p q key (basesN p q g ins.length).1.1 (basesN p q g ins.length).1.2 ins outs := by
  simp only [rdB, Bool.and_eq_true] at hr
  obtain ⟨hm, hb⟩ := hr
  obtain ⟨hok, hk, hn, hi⟩ := mixB_spec hm
  obtain ⟨b1, b2, b3, -⟩ := bases_ok (okG_spec hok) hb
  exact ⟨hn.1, hn.2, ho, hk, b1, b2, b3, hi, hoo⟩

theorem stageB_next {p q g key : Int} {ins : List (Int × Int)} {s : Stg} (hr : rdB p q g key ins = true) (hs : stageB p q g key ins s = true) : rdB p q g key s.2.1 = true := by
  simp only [stageB, Bool.and_eq_true, decide_eq_true_eq] at hs
  obtain ⟨⟨hn, ho⟩, hv⟩ := hs
  have hl : s.2.1.length = ins.length := by
    by_cases h1 : s.1 = 1
    · rw [h1] at hv
      simp only [beq_self_eq_true, cond_true, mVer, Bool.and_eq_true, beq_iff_eq] at hv
      exact hv.1.1
    · rw [beq_eq_false_iff_ne.2 h1, cond_false] at hv
      by_cases h2 : s.1 = 2
      · rw [h2] at hv
        simp only [beq_self_eq_true, cond_true, vVer, Bool.and_eq_true, beq_iff_eq] at hv
        exact hv.1.1
      · rw [beq_eq_false_iff_ne.2 h2, cond_false] at hv
        exact absurd hv (by simp)
  simp only [rdB, Bool.and_eq_true] at hr ⊢
  obtain ⟨hm, hb⟩ := hr
  obtain ⟨hok, hk, -, -⟩ := mixB_spec hm
  refine ⟨?_, by rw [hl]; exact hb⟩
  simp only [mixB, Bool.and_eq_true, decide_eq_true_eq]
  exact ⟨hok, hk, hn, ho⟩

theorem xVerify_eq {p q g key : Int} {ins : List (Int × Int)} {s : Stg} (hr : rdB p q g key ins = true) (hs : s.small) : M_S_xVerify ((p, q, g), key, ins, s) = some (stageB p q g key ins s) := by
  obtain ⟨s1, s2, s3⟩ := hs
  have hr' := hr
  simp only [rdB, Bool.and_eq_true] at hr'
  obtain ⟨hm, hb⟩ := hr'
  obtain ⟨hok, hk, hn, hi⟩ := mixB_spec hm
  have h := okG_spec hok
  unfold M_S_xVerify stageB
  dsimp only
  rw [eGood_eq h, bindO_some']
  have hml : M_S_mList ((p, q, g), key, s.2.1) = some (decide (1 ≤ s.2.1.length ∧ s.2.1.length ≤ 12) && s.2.1.all (isCi p q)) := by
    rw [mList_eq, mixB, hok, hk, Bool.true_and, Bool.true_and]
  have hmi : M_S_mList ((p, q, g), key, ins) = some true := by rw [mList_eq, hm]
  have hvb : M_S_vBase (p, q, g) = some ((basesN p q g ins.length).1.1, true) := by
    have := bases_ok h hb
    rw [vBase_eq h hok]
    have h0 := this.2.2.2
    unfold basesN at h0 ⊢
    revert h0 hb
    unfold basesN
    generalize (derv p q g sH 0).isSome = o1
    generalize (derv p q g sH 0).getD 0 = o2
    generalize hsB p q g ins.length = o3
    generalize hsL p q g ins.length = o4
    generalize hsB p q g 0 = o5
    generalize hsL p q g 0 = o6
    cases o1 <;> cases o3 <;> intro hb <;> simp_all
  cases ha : (s.2.1.all (isCi p q)) with
  | false => simp
  | true =>
  by_cases hl : s.2.1.length ≤ 24
  · rw [decide_eq_true hl]
    simp only [Bool.and_true, Bool.not_true, cond_false]
    by_cases h1 : s.1 = 1
    · rw [h1]
      simp only [beq_self_eq_true, cond_true]
      unfold M_S_VerifyMatrix
      dsimp only
      rw [hmi, bindO_some', hml, bindO_some', ha, Bool.and_true, Bool.not_true, cond_false]
      by_cases hn2 : 1 ≤ s.2.1.length ∧ s.2.1.length ≤ 12
      · have hM := mixOK_of hr hl ha
        rw [decide_eq_true hn2, Bool.not_true, cond_false, S_BasesOf_eq h hok (by omega), bindO_some', hb, Bool.not_true, cond_false]
        rw [show M_S_mVerify ((p, q, g), key, ((basesN p q g ins.length).1.1, (basesN p q g ins.length).1.2), ins, s.2.1, s.2.2.1.1, s.2.2.1.2.1, s.2.2.1.2.2.1, s.2.2.1.2.2.2.1, s.2.2.1.2.2.2.2) = _ from mVerify_eq (pf := s.2.2.1.2.2) h hM s2.1 s2.2.1 s2.2.2, bindO_some', bindO_some']
        dsimp only
        rw [show M_S_xNoPoly (s.2.2.2.1, s.2.2.2.2.1, s.2.2.2.2.2.1, s.2.2.2.2.2.2.1, s.2.2.2.2.2.2.2.1, s.2.2.2.2.2.2.2.2) = _ from xNoPoly_eq (a := s.2.2.2) s3, bindO_some', cond_true, cond_and, Bool.true_and]
      · rw [decide_eq_false hn2]
        rfl
    · rw [beq_eq_false_iff_ne.2 h1, cond_false, cond_false]
      by_cases h2 : s.1 = 2
      · rw [h2]
        simp only [beq_self_eq_true, cond_true]
        unfold M_S_VerifyPoly
        dsimp only
        rw [hmi, bindO_some', hml, bindO_some', ha, Bool.and_true, Bool.not_true, cond_false]
        by_cases hn2 : 1 ≤ s.2.1.length ∧ s.2.1.length ≤ 12
        · have hM := mixOK_of hr hl ha
          rw [decide_eq_true hn2, Bool.not_true, cond_false, hvb, bindO_some', Bool.not_true, cond_false]
          rw [show M_S_vVerify ((p, q, g), key, (basesN p q g ins.length).1.1, ins, s.2.1, s.2.2.2.1, s.2.2.2.2.1, s.2.2.2.2.2.1, s.2.2.2.2.2.2.1, s.2.2.2.2.2.2.2.1, s.2.2.2.2.2.2.2.2) = _ from vVerify_eq (P := s.2.2.2) h hM s3, bindO_some', bindO_some']
          dsimp only
          rw [show M_S_xNoMatrix (s.2.2.1.1, s.2.2.1.2.1, s.2.2.1.2.2.1, s.2.2.1.2.2.2.1, s.2.2.1.2.2.2.2) = _ from xNoMatrix_eq (a := s.2.2.1) s2, bindO_some', cond_true, cond_and, Bool.true_and]
        · rw [decide_eq_false hn2]
          rfl
      · rw [beq_eq_false_iff_ne.2 h2, cond_false, cond_false, Bool.and_false]
  · rw [decide_eq_false hl, decide_eq_false (show ¬ (1 ≤ s.2.1.length ∧ s.2.1.length ≤ 12) by omega)]
    rfl

end Go.Proofs.YtjmpdejigkjaoaaGreat.Vd
