/- The law FnExactCountPassing as plain functions on data returns true for all arguments. No conditions. -/
import Derived.Test.YtlacogoljcpijaaCntpMod
set_option linter.unusedVariables false
set_option linter.unusedSimpArgs false
set_option linter.unusedSectionVars false
set_option linter.unnecessarySimpa false
namespace Go.Proofs.Ytlacogoljcpijaa.Vd
open Go.IntWalk

theorem i64_succ {i : Nat} (h : i < 2 ^ 62) : IntKind.wrap .i64 ((i : Int) + 1) = ((i + 1 : Nat) : Int) := by
  rw [i64_in _ (by omega)]
  rfl

theorem lt_yes {i n : Nat} (h : i < n) : decide ((i : Int) < (n : Int)) = true := by simp [h]

theorem lt_no (n : Nat) : decide ((n : Int) < (n : Int)) = false := by simp

/-- A walk over a list by its numbers, with no other state. -/
def walk {α β : Type} (step : Nat → α → Option β → Option β) (fin : Option β) : Nat → List α → Option β
  | _, [] => fin
  | i, a :: r => step i a (walk step fin (i + 1) r)

theorem loop_walk {α β : Type} {body : (Int → Option β) → Int → Option β} (l : List α) (step : Nat → α → Option β → Option β) (fin : Option β)
    (h : ∀ (again : Int → Option β) (i : Nat) a, l[i]? = some a → i < l.length → body again (i : Int) = step i a (again ((i + 1 : Nat) : Int)))
    (hend : ∀ again : Int → Option β, body again (l.length : Int) = fin) (hl : l.length < 2 ^ 64) : loopO body 0 = walk step fin 0 l := by
  refine (loopO_for (σ := Unit) (fun i _ => (i : Int)) l.length (fun i _ => walk step fin i (l.drop i)) (fun _ _ => True) (fun again _ _ => ?_) (fun again i _ hi _ ih => ?_) hl (i := 0) (s := ()) (Nat.zero_le _) trivial).trans rfl
  · simp [hend, walk]
  · rw [h again i l[i] (List.getElem?_eq_getElem hi) hi, ih () trivial, List.drop_eq_getElem_cons hi, walk]

/-- A walk over a list by its numbers, with a state (before the number). -/
def walkS {α β σ : Type} (step : Nat → α → σ → (σ → Option β) → Option β) (fin : σ → Option β) : Nat → List α → σ → Option β
  | _, [], s => fin s
  | i, a :: r, s => step i a s (walkS step fin (i + 1) r)

/-- The same, where the states keep something. -/
theorem loop_walkI {α β σ τ : Type} {body : (τ → Option β) → τ → Option β} (enc : Int → σ → τ) (l : List α) (step : Nat → α → σ → (σ → Option β) → Option β) (fin : σ → Option β) (Inv : Nat → σ → Prop)
    (hc : ∀ (i : Nat) a s (k k' : σ → Option β), l[i]? = some a → Inv i s → (∀ s', Inv (i + 1) s' → k s' = k' s') → step i a s k = step i a s k')
    (h : ∀ (again : τ → Option β) (i : Nat) a s, l[i]? = some a → i < l.length → Inv i s → body again (enc i s) = step i a s fun s' => again (enc ((i + 1 : Nat) : Int) s'))
    (hend : ∀ (again : τ → Option β) s, Inv l.length s → body again (enc l.length s) = fin s) (hl : l.length < 2 ^ 64) (s : σ) (h0 : Inv 0 s) : loopO body (enc 0 s) = walkS step fin 0 l s := by
  refine (loopO_for (σ := σ) (fun i s => enc (i : Int) s) l.length (fun i s => walkS step fin i (l.drop i) s) Inv (fun again s hs => ?_) (fun again i s hi hs ih => ?_) hl (i := 0) (s := s) (Nat.zero_le _) h0).trans rfl
  · simp [hend _ _ hs, walkS]
  · rw [h again i l[i] s (List.getElem?_eq_getElem hi) hi hs, List.drop_eq_getElem_cons hi, walkS]
    exact hc i l[i] s _ _ (List.getElem?_eq_getElem hi) hs fun s' hs' => ih s' hs'

theorem walk_all {α : Type} (p : α → Bool) : ∀ (l : List α) (i : Nat), walk (fun _ a k => if p a = true then k else some false) (some true) i l = some (l.all p)
  | [], _ => rfl
  | a :: l, i => by
    rw [walk, walk_all p l]
    cases h : p a <;> simp [h]

theorem toIntS_eq {x : List Int} (h : x.length ≤ 1048576) : M_L_toIntS x = some x := by
  unfold M_L_toIntS
  have hx : (x.length : Int) ≤ ((lim : Nat) : Int) := by rw [lim_eq]; omega
  rw [guardO_of (by simpa using hx), bindO_some']
  refine (loopO_for (σ := List Int) (fun i s => ((i : Int), s)) x.length (fun i s => some (x.take i ++ x.drop i)) (fun i s => s = x.take i ++ List.replicate (x.length - i) 0) (fun again s hs => ?_) (fun again i s hi hs ih => ?_) (by omega) (i := 0) (s := List.replicate x.length 0) (Nat.zero_le _) (by simp)).trans (by simp)
  · subst hs; simp
  · subst hs
    have h1 : (x.take i ++ List.replicate (x.length - i) (0 : Int))[i]? = some 0 := by
      rw [List.getElem?_append_right (by simp; omega)]
      simp [List.getElem?_replicate]
      omega
    have h2 : (x.take i ++ List.replicate (x.length - i) (0 : Int)).set i x[i] = x.take (i + 1) ++ List.replicate (x.length - (i + 1)) 0 := by
      refine List.ext_getElem? fun j => ?_
      rw [List.getElem?_set]
      by_cases hij : i = j
      · subst hij
        rw [if_pos rfl, if_pos (by simp; omega), List.getElem?_append_left (by simp; omega), List.getElem?_take, if_pos (by omega), List.getElem?_eq_getElem hi]
      · rw [if_neg hij]
        by_cases hj : j < i
        · rw [List.getElem?_append_left (by simp; omega), List.getElem?_append_left (by simp; omega), List.getElem?_take, List.getElem?_take, if_pos hj, if_pos (by omega)]
        · rw [List.getElem?_append_right (by simp; omega), List.getElem?_append_right (by simp; omega)]
          simp only [List.length_take, List.getElem?_replicate]
          rw [Nat.min_eq_left (by omega), Nat.min_eq_left (by omega)]
          by_cases hjx : j < x.length
          · rw [if_pos (by omega), if_pos (by omega)]
          · rw [if_neg (by omega), if_neg (by omega)]
    simp only [getI_nat, List.getElem?_eq_getElem hi, h1, bindO_some', Int.toNat_natCast, h2, i64_succ (show i < 2 ^ 62 by omega)]
    rw [ih _ rfl]
    simp [hi]

theorem eqIntS_eq {a b : List Int} (h : a.length < 2 ^ 62) : M_L_eqIntS (a, b) = some (decide (a = b)) := by
  unfold M_L_eqIntS
  by_cases hl : a.length = b.length
  · have e1 : ((a.length : Int) != (b.length : Int)) = false := by simp [hl]
    dsimp only
    rw [e1]
    simp only [cond_false]
    refine (loopO_for (σ := Unit) (fun i _ => (i : Int)) a.length (fun i _ => some (decide (a.drop i = b.drop i))) (fun _ _ => True) (fun again _ _ => ?_) (fun again i _ hi _ ih => ?_) (by omega) (i := 0) (s := ()) (Nat.zero_le _) trivial).trans (by simp)
    · simp [hl]
    · have hi' : i < b.length := by omega
      simp only [getI_nat, List.getElem?_eq_getElem hi, List.getElem?_eq_getElem hi', bindO_some', i64_succ (show i < 2 ^ 62 by omega), ih () trivial]
      rw [List.drop_eq_getElem_cons hi, List.drop_eq_getElem_cons hi']
      by_cases he : a[i] = b[i] <;> simp [bne_dec, he, hi, -List.getElem_cons_drop]
  · have e1 : ((a.length : Int) != (b.length : Int)) = true := by simp; omega
    dsimp only
    rw [e1]
    simp only [cond_true, Option.some.injEq]
    symm
    simp only [decide_eq_false_iff_not]
    rintro rfl
    exact hl rfl

theorem sliceLN_nat {l n : Nat} (h : l ≤ n) : sliceLN (l : Int) n = some (l, n) := by
  unfold sliceLN
  rw [if_pos ⟨by omega, by omega⟩]
  simp

/-- A loop whose states go down: a property of its answer. -/
theorem loopO_ind {σ β : Type} {body : (σ → Option β) → σ → Option β} (Q : σ → Option β → Prop) (Inv : σ → Prop) (μ : σ → Nat)
    (step : ∀ (again : σ → Option β) s, Inv s → (∀ s', Inv s' → μ s' < μ s → Q s' (again s')) → Q s (body again s)) {s : σ} (h0 : Inv s) (hm : μ s < 2 ^ 64) : Q s (loopO body s) := by
  rw [loopO_eq]
  have H : ∀ (n : Nat) (s : σ), Inv s → μ s < n → Q s (iter body n s) := by
    intro n
    induction n with
    | zero => intro s _ h; exact absurd h (Nat.not_lt_zero _)
    | succ n ih => intro s hs h; exact step _ s hs fun s' hs' h' => ih s' hs' (by omega)
  exact H many s h0 hm

theorem in_eq (x a b : Int) : M_S_l1In (x, a, b) = some (decide (a ≤ x ∧ x ≤ b)) := by
  by_cases h : a ≤ x <;> by_cases h2 : x ≤ b <;> simp [M_S_l1In, h, h2]

theorem within_eq (x a b : Int) : M_I_within (x, a, b) = some (decide (a ≤ x ∧ x ≤ b)) := by
  by_cases h : a ≤ x <;> by_cases h2 : x ≤ b <;> simp [M_I_within, h, h2]

theorem isModulus_eq (x : Int) : M_I_isModulus x = some (decide (2 ≤ x ∧ x ≤ 2000000000)) := by
  unfold M_I_isModulus
  rw [within_eq]
  rfl

def IsP (n : Int) : Prop := 2 ≤ n ∧ ∀ d, 2 ≤ d → d * d ≤ n → n % d ≠ 0

noncomputable def isP (n : Int) : Bool := @decide (IsP n) (Classical.propDecidable _)

/-- No divisor from d on. -/
def NoDiv (n s : Int) : Prop := ∀ d, s ≤ d → d * d ≤ n → n % d ≠ 0

noncomputable def noDiv (n s : Int) : Bool := @decide (NoDiv n s) (Classical.propDecidable _)

theorem noDiv_end {n s : Int} (hs : 0 ≤ s) (h : n < s * s) : noDiv n s = true := by
  simp only [noDiv, decide_eq_true_eq]
  intro d hd hdd
  have := Int.mul_le_mul hd hd hs (by omega)
  omega

theorem noDiv_hit {n s : Int} (h : s * s ≤ n) (h2 : n % s = 0) : noDiv n s = false := by
  simp only [noDiv, decide_eq_false_iff_not]
  intro hn
  exact hn s (Int.le_refl _) h h2

theorem noDiv_step {n s : Int} (h2 : s * s ≤ n → n % s ≠ 0) : noDiv n s = noDiv n (s + 1) := by
  simp only [noDiv, decide_eq_decide]
  constructor
  · intro h d hd hdd
    exact h d (by omega) hdd
  · intro h d hd hdd
    by_cases he : d = s
    · subst he
      exact h2 hdd
    · exact h d (by omega) hdd

theorem sq_lt {s : Int} (h0 : 0 ≤ s) (h : s * s ≤ 2000000000) : s ≤ 44721 := by
  refine Int.not_lt.1 fun hlt => ?_
  have := Int.mul_le_mul (show (44722 : Int) ≤ s by omega) (show (44722 : Int) ≤ s by omega) (by omega) h0
  omega

theorem sq_le {s k : Int} (h0 : 0 ≤ s) (h : s ≤ k) : s * s ≤ k * k := Int.mul_le_mul h h h0 (by omega)

theorem nPrime_eq {n : Int} (hn : n ≤ 2000000000) : M_S_nPrime n = some (isP n) := by
  unfold M_S_nPrime
  by_cases h2 : n < 2
  · have : isP n = false := by simp only [isP, decide_eq_false_iff_not]; intro h; have := h.1; omega
    simp [h2, this]
  · have hb : decide (n < 2) = false := by simpa using h2
    rw [hb, cond_false]
    have h1 : isP n = noDiv n 2 := by
      simp only [isP, noDiv, decide_eq_decide]
      exact ⟨fun h => h.2, fun h => ⟨by omega, h⟩⟩
    rw [h1]
    refine loopO_spec (fun s => some (noDiv n s)) (fun s => 2 ≤ s ∧ s ≤ 50000) (fun s => (50000 - s).toNat) (fun again s hs ih => ?_) ⟨by omega, by omega⟩ (by omega)
    obtain ⟨hs1, hs2⟩ := hs
    have hq := sq_le (by omega) hs2
    have hq0 : 0 ≤ s * s := Int.mul_nonneg (by omega) (by omega)
    simp only [bindO_some', i64_in _ (show (-9223372036854775808 : Int) ≤ s * s ∧ s * s ≤ 9223372036854775807 by omega)]
    by_cases hle : s * s ≤ n
    · have := sq_lt (by omega) (show s * s ≤ 2000000000 by omega)
      have hgs : guardO (s != 0) = some () := guardO_of (by simp; omega)
      simp only [hle, decide_true, cond_true, hgs, bindO_some', tmod_nn (show 0 ≤ n by omega)]
      by_cases h0 : n % s = 0
      · simp [h0, noDiv_hit hle h0]
      · have hb : (n % s == 0) = false := by simpa using h0
        have hw := i64_in (s + 1) (by omega)
        have hi := ih (s + 1) ⟨by omega, by omega⟩ (by omega)
        have hn := noDiv_step (n := n) (s := s) (fun _ => h0)
        rw [hb, cond_false, hw, hi, hn]
    · simp [hle, noDiv_end (by omega) (show n < s * s by omega)]

theorem odd_loop {n : Int} (hn : n ≤ 2000000000) (h2 : 2 ≤ n) (hodd : n % 2 = 1 ∨ n = 2) : loopO (fun (again9 : (Int → (Option Bool))) => (fun (s10 : Int) => (bindO (some (IntKind.wrap .i64 (s10 * s10))) (fun (a11 : Int) => (cond (decide (a11 ≤ n)) (bindO (guardO (s10 != (0 : Int))) (fun (a12 : Unit) => (bindO (some (Int.tmod n s10)) (fun (a13 : Int) => (cond (a13 == (0 : Int)) (some false) (bindO (some (IntKind.wrap .i64 (s10 + (2 : Int)))) (fun (a14 : Int) => (again9 a14)))))))) (some true)))))) (3 : Int) = some (noDiv n 3) := by
  refine loopO_spec (fun s => some (noDiv n s)) (fun s => 3 ≤ s ∧ s ≤ 50000 ∧ s % 2 = 1) (fun s => (50000 - s).toNat) (fun again s hs ih => ?_) ⟨by omega, by omega, by omega⟩ (by omega)
  obtain ⟨hs1, hs2, hs3⟩ := hs
  have hq := sq_le (by omega) hs2
  have hq0 : 0 ≤ s * s := Int.mul_nonneg (by omega) (by omega)
  simp only [bindO_some', i64_in _ (show (-9223372036854775808 : Int) ≤ s * s ∧ s * s ≤ 9223372036854775807 by omega)]
  by_cases hle : s * s ≤ n
  · have := sq_lt (by omega) (show s * s ≤ 2000000000 by omega)
    have h9 := sq_le (show (0 : Int) ≤ 3 by omega) hs1
    have hgs : guardO (s != 0) = some () := guardO_of (by simp; omega)
    simp only [hle, decide_true, cond_true, hgs, bindO_some', tmod_nn (show 0 ≤ n by omega)]
    by_cases h0 : n % s = 0
    · simp [h0, noDiv_hit hle h0]
    · have hb : (n % s == 0) = false := by simpa using h0
      have hw := i64_in (s + 2) (by omega)
      have hi := ih (s + 2) ⟨by omega, by omega, by omega⟩ (by omega)
      have hn1 := noDiv_step (n := n) (s := s) (fun _ => h0)
      have hn2 := noDiv_step (n := n) (s := s + 1) (fun h8 h1 => by
        have := Int.emod_emod_of_dvd n (show (2 : Int) ∣ (s + 1) by omega)
        rw [h1] at this
        have h3 : n ≠ 2 := fun h => by subst h; omega
        omega)
      rw [hb, cond_false, hw, hi, hn1, hn2, show s + 1 + 1 = s + 2 by omega]
  · simp [hle, noDiv_end (by omega) (show n < s * s by omega)]

theorem isPrime_eq {n : Int} (hn : n ≤ 2000000000) : M_I_isPrime n = some (isP n) := by
  unfold M_I_isPrime
  rw [isModulus_eq]
  by_cases h2 : 2 ≤ n
  · have h1 : isP n = noDiv n 2 := by
      simp only [isP, noDiv, decide_eq_decide]
      exact ⟨fun h => h.2, fun h => ⟨h2, h⟩⟩
    have hg2 : guardO ((2 : Int) != 0) = some () := rfl
    by_cases ho : n % 2 = 1 ∨ n = 2
    · rw [odd_loop hn h2 ho, hg2]
      simp only [bindO_some', h2, hn, and_self, decide_true, Bool.not_true, cond_false, tmod_nn (show 0 ≤ n by omega), h1]
      rcases ho with ho | rfl
      · have hb : (n % 2 == 0) = false := by simp [ho]
        rw [hb, cond_false, noDiv_step (n := n) (s := 2) (fun _ => by omega)]
        rfl
      · rw [noDiv_end (n := 2) (s := 2) (by omega) (by omega), noDiv_end (n := 2) (s := 3) (by omega) (by omega)]
        rfl
    · have he : n % 2 = 0 := by omega
      have hn2 : n ≠ 2 := fun h => ho (.inr h)
      have hb : (n != 2) = true := by simpa using hn2
      simp only [bindO_some', hg2, h2, hn, and_self, decide_true, Bool.not_true, cond_false, tmod_nn (show 0 ≤ n by omega), he, beq_self_eq_true, cond_true, hb, h1]
      rw [noDiv_hit (by omega) he]
  · have : isP n = false := by simp only [isP, decide_eq_false_iff_not]; intro h; have := h.1; omega
    simp [h2, this]

theorem l1All_eq {l : List Int} {lo hi : Int} (hl : l.length < 2 ^ 62) : M_S_l1All (l, lo, hi) = some (l.all fun n => decide (lo ≤ n ∧ n ≤ hi)) := by
  unfold M_S_l1All
  refine (loop_walk l (fun _ a k => if (decide (lo ≤ a ∧ a ≤ hi)) = true then k else some false) (some true) (fun again i a ha hi' => ?_) (fun again => ?_) (by omega)).trans (walk_all (fun n => decide (lo ≤ n ∧ n ≤ hi)) l 0)
  · simp only [getI_nat, ha, bindO_some', i64_succ (show i < 2 ^ 62 by omega), lt_yes hi', cond_true, in_eq]
    cases decide (lo ≤ a ∧ a ≤ hi) <;> rfl
  · simp

theorem walk_index_mem {α : Type} (p : α → Bool) (f : α → Option Bool) : ∀ (l : List α) (i : Nat), (∀ a ∈ l, f a = some (p a)) →
    ∃ j : Int, walk (fun i a k => bindO (f a) fun b => cond b (some (i : Int)) k) (some (-1)) i l = some j ∧ decide (j ≥ 0) = l.any p
  | [], _, _ => ⟨-1, rfl, rfl⟩
  | a :: l, i, hf => by
    obtain ⟨j, h1, h2⟩ := walk_index_mem p f l (i + 1) fun b hb => hf b (List.mem_cons_of_mem _ hb)
    have ha := hf a (List.mem_cons_self ..)
    cases h : p a
    · exact ⟨j, by simp [walk, ha, h, h1], by simp [h, h2]⟩
    · exact ⟨i, by simp [walk, ha, h], by simp [h]⟩

theorem containsFunc_eq {l : List Int} {f : Int → Option Bool} {p : Int → Bool} (hl : l.length < 2 ^ 62) (hf : ∀ a ∈ l, f a = some (p a)) : M_slices_ContainsFunc_sint_int (l, f) = some (l.any p) := by
  obtain ⟨j, h1, h2⟩ := walk_index_mem p f l 0 hf
  unfold M_slices_ContainsFunc_sint_int
  have : M_slices_IndexFunc_sint_int (l, f) = some j := by
    unfold M_slices_IndexFunc_sint_int
    refine (loop_walk l _ _ (fun again i a ha hi => ?_) (fun again => ?_) (by omega)).trans h1
    · simp only [getI_nat, ha, bindO_some', i64_succ (show i < 2 ^ 62 by omega), lt_yes hi, cond_true]
    · simp
  dsimp only
  rw [this, bindO_some', h2]

theorem areAll_eq {l : List Int} {f : Int → Option Bool} {p : Int → Bool} (hl : l.length < 2 ^ 62) (hf : ∀ a ∈ l, f a = some (p a)) : M_I_areAll (l, f) = some (l.all p) := by
  unfold M_I_areAll
  dsimp only
  rw [containsFunc_eq (p := fun a => !p a) hl fun a ha => by simp [M_I_areAll_1, hf a ha], bindO_some']
  congr 1
  rw [List.any_eq_not_all_not]
  simp

/-- A product of residues. -/
def prodM (p : Int) : Int → List Int → Int
  | out, [] => out
  | out, x :: l => prodM p (out * x % p) l

def hstep (c s k : Int) : Int := (c * s + k + 1) % 2147483647

/-- a over b. -/
def over (p q a b : Int) : Int := prodM p 1 [a, b ^ (q - 1).toNat % p]

theorem areBelow_eq {l : List Int} {m : Int} (hl : l.length < 2 ^ 62) (h1 : -9223372036854775807 ≤ m) (h2 : m ≤ 9223372036854775807) : M_I_areBelow (l, m) = some (l.all fun n => decide (0 ≤ n ∧ n ≤ m - 1)) := by
  unfold M_I_areBelow
  rw [areAll_eq (p := fun n => decide (0 ≤ n ∧ n ≤ m - 1)) hl fun a _ => by simp [M_I_areBelow_1, i64_in (m - 1) (by omega), within_eq], bindO_some']

/-- Steps of a function that calls itself: nothing or the answer; the answer in the end. -/
def Comes {α β : Type} (R : Nat → α → Option β) (x : α) (N : Nat) (y : β) : Prop := ∀ m, (R m x = none ∨ R m x = some y) ∧ (N ≤ m → R m x = some y)

theorem Comes.lim {α β : Type} {R : Nat → α → Option β} {x : α} {N : Nat} {y : β} (h : Comes R x N y) : limO R x = some y :=
  limO_eq ⟨N, (h N).2 (Nat.le_refl _)⟩ fun n z hz => by
    rcases (h n).1 with h1 | h1
    · rw [h1] at hz; cases hz
    · rw [h1] at hz; cases hz; rfl

def sumR (f : Nat → Nat) : Nat → Nat
  | 0 => 0
  | n + 1 => sumR f n + f n

theorem sumR_add (f : Nat → Nat) (a : Nat) : ∀ b : Nat, sumR f (a + b) = sumR f a + sumR (fun i => f (a + i)) b
  | 0 => rfl
  | b + 1 => by
    show sumR f (a + b) + f (a + b) = sumR f a + (sumR (fun i => f (a + i)) b + f (a + b))
    rw [sumR_add f a b]
    omega

theorem sumR_both (f g : Nat → Nat) : ∀ n : Nat, sumR (fun i => f i + g i) n = sumR f n + sumR g n
  | 0 => rfl
  | n + 1 => by
    simp only [sumR]
    rw [sumR_both f g n]
    omega

theorem sumR_congr {f g : Nat → Nat} : ∀ {n : Nat}, (∀ i, i < n → f i = g i) → sumR f n = sumR g n
  | 0, _ => rfl
  | n + 1, h => by
    simp only [sumR]
    rw [sumR_congr fun i hi => h i (by omega), h n (by omega)]

theorem sumR_zero : ∀ n : Nat, sumR (fun _ => 0) n = 0
  | 0 => rfl
  | n + 1 => by simp only [sumR]; rw [sumR_zero n]

theorem sumR_le {f : Nat → Nat} {B : Nat} (h : ∀ i, f i ≤ B) : ∀ n : Nat, sumR f n ≤ n * B
  | 0 => by simp [sumR]
  | n + 1 => by
    have h1 := sumR_le h n
    have h2 := h n
    simp only [sumR]
    rw [Nat.add_mul]
    omega

/-- A sum over pairs. -/
theorem sumR_mul (F : Nat → Nat) (m : Nat) : ∀ M : Nat, sumR F (m * M) = sumR (fun d => sumR (fun r => F (d + m * r)) M) m
  | 0 => by
    show sumR F (m * 0) = sumR (fun _ => 0) m
    rw [sumR_zero, Nat.mul_zero]
    rfl
  | M + 1 => by
    rw [Nat.mul_add, Nat.mul_one, sumR_add, sumR_mul F m M]
    show _ = sumR (fun d => sumR (fun r => F (d + m * r)) M + F (d + m * M)) m
    rw [sumR_both]
    congr 1
    exact sumR_congr fun i _ => by rw [Nat.add_comm]

def ind (q s : Int) : Nat := if s % q = 0 then 1 else 0

def cnt (q : Int) (m : Nat) : List Int → Int → Nat
  | [], s => ind q s
  | e :: l, s => sumR (fun d => cnt q m l (s + ((d + 1 : Nat) : Int) * e)) m

def totM (m : Nat) (l : List Int) (s : Int × Nat) : Int × Nat := l.foldl (fun s a => (s.1 + (1 + ((s.2 % m : Nat) : Int)) * a, s.2 / m)) s

theorem cnt_eq (q : Int) {m : Nat} (hm : 1 ≤ m) : ∀ (l : List Int) (t : Int), sumR (fun n => ind q (totM m l (t, n)).1) (m ^ l.length) = cnt q m l t
  | [], t => by
    show 0 + ind q t = ind q t
    omega
  | e :: l, t => by
    rw [List.length_cons, Nat.pow_succ, Nat.mul_comm, sumR_mul, cnt]
    refine sumR_congr fun d hd => ?_
    rw [← cnt_eq q hm l]
    refine sumR_congr fun r _ => ?_
    show ind q (totM m l (t + (1 + (((d + m * r) % m : Nat) : Int)) * e, (d + m * r) / m)).1 = _
    rw [Nat.add_mul_mod_self_left, Nat.mod_eq_of_lt hd, Nat.add_mul_div_left _ _ (by omega), Nat.div_eq_of_lt hd, Nat.zero_add]
    rw [show (1 + (d : Int)) = ((d + 1 : Nat) : Int) by omega]

theorem cnt_le (q : Int) {m : Nat} (hm : m ≤ 23) : ∀ (l : List Int) (t : Int), cnt q m l t ≤ 23 ^ l.length
  | [], t => by
    show ind q t ≤ 1
    unfold ind
    split <;> omega
  | e :: l, t => by
    rw [cnt, List.length_cons, Nat.pow_succ, Nat.mul_comm]
    exact Nat.le_trans (sumR_le (fun d => cnt_le q hm l _) m) (Nat.mul_le_mul_right _ hm)

theorem wPassing_comes {q : Int} {m : Nat} (hq : q = (m : Int) + 1) (hm : m ≤ 22) (hm1 : 1 ≤ m) : ∀ (l : List Int) (s : Int), l.length ≤ 3 → (∀ e ∈ l, 0 ≤ e ∧ e ≤ 22) → 0 ≤ s → s + l.length * 1000 ≤ 10000 → Comes R_S_wPassing (q, l, s) (l.length + 1) ((cnt q m l s : Nat) : Int)
  | [], s, _, _, hs, _ => fun k => by
    cases k with
    | zero => exact ⟨.inl rfl, fun h => by simp at h⟩
    | succ k =>
      have : R_S_wPassing (k + 1) (q, [], s) = some ((cnt q m [] s : Nat) : Int) := by
        unfold R_S_wPassing
        dsimp only
        rw [show ((([] : List Int).length : Int) == 0) = true from rfl, cond_true, guardO_of (by simp; omega), bindO_some', bindO_some', tmod_nn hs]
        show _ = some (((ind q s : Nat)) : Int)
        unfold ind
        by_cases h : s % q = 0
        · simp [h]
        · have b : (s % q == 0) = false := by simpa using h
          rw [b, if_neg h]
          rfl
      exact ⟨.inr this, fun _ => this⟩
  | e :: l, s, hl, he, hs, hb => fun k => by
    cases k with
    | zero => exact ⟨.inl rfl, fun h => by simp at h⟩
    | succ k =>
      have he0 := he e (List.mem_cons_self ..)
      simp only [List.length_cons] at hl hb
      unfold R_S_wPassing
      dsimp only
      have b0 : ((((e :: l).length : Nat) : Int) == 0) = false := by rw [beq_eq_false_iff_ne]; simp only [List.length_cons]; omega
      rw [b0, cond_false]
      have hB : 23 ^ l.length ≤ 23 ^ 3 := Nat.pow_le_pow_right (by omega) (by omega)
      refine loopO_ind (fun (_ : Int × Int) (y : Option Int) => (y = none ∨ y = some ((cnt q m (e :: l) s : Nat) : Int)) ∧ ((e :: l).length + 1 ≤ k + 1 → y = some ((cnt q m (e :: l) s : Nat) : Int)))
        (fun st => ∃ d : Nat, d ≤ m ∧ st = (((sumR (fun d => cnt q m l (s + ((d + 1 : Nat) : Int) * e)) d : Nat) : Int), ((d + 1 : Nat) : Int))) (fun st => (q - st.2).toNat) (fun again st hst ih => ?_) ⟨0, by omega, rfl⟩ (by dsimp only; omega)
      obtain ⟨d, hd, rfl⟩ := hst
      dsimp only at ih ⊢
      by_cases hdm : d < m
      · have d1 : decide (((d + 1 : Nat) : Int) < q) = true := by rw [decide_eq_true_eq]; omega
        have p0 : 0 ≤ ((d + 1 : Nat) : Int) * e := Int.mul_nonneg (by omega) he0.1
        have p1 : ((d + 1 : Nat) : Int) * e ≤ 22 * 22 := Int.mul_le_mul (by omega) (by omega) he0.1 (by omega)
        have hc := wPassing_comes hq hm hm1 l (s + ((d + 1 : Nat) : Int) * e) (by omega) (fun x hx => he x (List.mem_cons_of_mem _ hx)) (by omega) (by omega) k
        have hcl := cnt_le q (show m ≤ 23 by omega) l (s + ((d + 1 : Nat) : Int) * e)
        have hsl := sumR_le (fun d => cnt_le q (show m ≤ 23 by omega) l (s + ((d + 1 : Nat) : Int) * e)) d
        have hsl2 : sumR (fun d => cnt q m l (s + ((d + 1 : Nat) : Int) * e)) d ≤ 22 * 23 ^ 3 := Nat.le_trans hsl (Nat.mul_le_mul (by omega) hB)
        have hsN : sliceLN 1 (e :: l).length = some (1, (e :: l).length) := sliceLN_nat (show 1 ≤ (e :: l).length by simp only [List.length_cons]; omega)
        rw [d1, cond_true, hsN, bindO_some', show getI (e :: l) 0 = some e from rfl, bindO_some', i64_in _ (by omega), bindO_some', i64_in _ (by omega), bindO_some', List.take_length, show (e :: l).drop 1 = l from rfl]
        rcases hc.1 with h | h
        · rw [h]
          refine ⟨.inl rfl, fun hk => ?_⟩
          have := hc.2 (by simp only [List.length_cons] at hk; omega)
          rw [h] at this
          cases this
        · rw [h, bindO_some', i64_in _ (by omega), bindO_some', i64_succ (by omega), bindO_some']
          refine ih _ ⟨d + 1, by omega, ?_⟩ (by dsimp only; omega)
          simp only [sumR]
          congr 1
      · have d1 : decide (((d + 1 : Nat) : Int) < q) = false := by rw [decide_eq_false_iff_not]; omega
        have : d = m := by omega
        subst this
        rw [d1, cond_false]
        exact ⟨.inr rfl, fun _ => rfl⟩

theorem totWalk {β : Type} (m : Nat) (K : Int → Option β) : ∀ (l : List Int) (i : Nat) (s : Int × Nat), walkS (fun _ a (s : Int × Nat) k => k (s.1 + (1 + ((s.2 % m : Nat) : Int)) * a, s.2 / m)) (fun s => K s.1) i l s = K (totM m l s).1
  | [], _, _ => rfl
  | a :: l, i, s => by
    rw [walkS, totWalk m K l (i + 1)]
    rfl

theorem powWalk (m : Nat) (β : Type) (K : Int → Option β) : ∀ (l : List Int) (i : Nat) (s : Nat), walkS (fun _ _ (s : Nat) k => k (s * m)) (fun s => K (s : Int)) i l s = K ((s * m ^ l.length : Nat) : Int)
  | [], _, s => by
    simp [walkS]
  | a :: l, i, s => by
    rw [walkS, powWalk m β K l (i + 1), List.length_cons, Nat.pow_succ, Nat.mul_comm (m ^ l.length) m, Nat.mul_assoc]

theorem totM_range {m : Nat} (hm : m ≤ 22) (hm1 : 1 ≤ m) : ∀ (l : List Int) (s : Int × Nat), (∀ e ∈ l, 0 ≤ e ∧ e ≤ 22) → 0 ≤ s.1 → 0 ≤ (totM m l s).1
  | [], _, _, h => h
  | e :: l, s, he, h => by
    have h0 := he e (List.mem_cons_self ..)
    refine totM_range hm hm1 l _ (fun x hx => he x (List.mem_cons_of_mem _ hx)) ?_
    have : 0 ≤ (1 + ((s.2 % m : Nat) : Int)) * e := Int.mul_nonneg (by omega) h0.1
    show 0 ≤ s.1 + (1 + ((s.2 % m : Nat) : Int)) * e
    omega

theorem passing_eq {q : Int} {m : Nat} (hq : q = (m : Int) + 1) (hm : m ≤ 22) (hm1 : 1 ≤ m) {l : List Int} (hl : l.length ≤ 3) (he : ∀ e ∈ l, 0 ≤ e ∧ e ≤ 22) : M_I_passing (q, l) = some (((cnt q m l 0 : Nat) : Int), ((m ^ l.length : Nat) : Int)) := by
  unfold M_I_passing
  dsimp only
  have hB : m ^ l.length ≤ 22 ^ 3 := Nat.le_trans (Nat.pow_le_pow_left hm _) (Nat.pow_le_pow_right (by omega) hl)
  have hqm : q - 1 = (m : Int) := by omega
  rw [← cnt_eq q hm1 l 0]
  refine (loop_walkI (fun i (s : Nat) => ((s : Int), i)) l (fun _ _ (s : Nat) k => k (s * m)) (fun s => loopO (fun (again5 : Int × Int → Option (Int × Int)) (s6 : Int × Int) => cond (decide (s6.2 < (s : Int))) (loopO (fun (again7 : Int × Int × Int → Option (Int × Int)) (s8 : Int × Int × Int) => cond (decide (s8.2.2 < ((l.length : Nat) : Int))) (bindO (getI l s8.2.2) fun a9 => bindO (some (IntKind.wrap .i64 (q - 1))) fun a10 => bindO (guardO (a10 != 0)) fun _ => bindO (some (Int.tmod s8.2.1 a10)) fun a12 => bindO (some (IntKind.wrap .i64 (1 + a12))) fun a13 => bindO (some (IntKind.wrap .i64 (a13 * a9))) fun a14 => bindO (some (IntKind.wrap .i64 (s8.1 + a14))) fun a15 => bindO (some (IntKind.wrap .i64 (q - 1))) fun a16 => bindO (guardO (a16 != 0)) fun _ => bindO (some (IntKind.wrap .i64 (Int.tdiv s8.2.1 a16))) fun a18 => bindO (some (IntKind.wrap .i64 (s8.2.2 + 1))) fun a19 => again7 (a15, a18, a19)) (bindO (guardO (q != 0)) fun _ => bindO (some (Int.tmod s8.1 q)) fun a21 => cond (a21 == 0) (bindO (some (IntKind.wrap .i64 (s6.1 + 1))) fun a22 => bindO (some (IntKind.wrap .i64 (s6.2 + 1))) fun a23 => again5 (a22, a23)) (bindO (some (IntKind.wrap .i64 (s6.2 + 1))) fun a24 => again5 (s6.1, a24)))) (0, s6.2, 0)) (some (s6.1, (s : Int)))) (0, 0)) (fun i s => s = m ^ i) (fun i a s k k' _ hi hk => hk _ (by rw [hi, Nat.pow_succ])) (fun again i a s h1 hi hs => ?_) (fun again s hs => ?_) (by omega) 1 (by simp)).trans ?_
  · have hpi : m ^ i ≤ 22 ^ 3 := Nat.le_trans (Nat.pow_le_pow_left hm _) (Nat.pow_le_pow_right (by omega) (by omega))
    have h2 : s * m ≤ 22 ^ 3 * 22 := Nat.mul_le_mul (by omega) hm
    have h3 : ((s : Int) * (m : Int)) = ((s * m : Nat) : Int) := by simp
    simp only [lt_yes hi, cond_true, hqm, i64_in ((m : Nat) : Int) (by omega), bindO_some', h3, i64_in ((s * m : Nat) : Int) (by omega), i64_succ (show i < 2 ^ 62 by omega)]
  · simp only [lt_no, cond_false]
  · refine (powWalk m (Int × Int) (fun S => loopO (fun (again5 : Int × Int → Option (Int × Int)) (s6 : Int × Int) => cond (decide (s6.2 < S)) (loopO (fun (again7 : Int × Int × Int → Option (Int × Int)) (s8 : Int × Int × Int) => cond (decide (s8.2.2 < ((l.length : Nat) : Int))) (bindO (getI l s8.2.2) fun a9 => bindO (some (IntKind.wrap .i64 (q - 1))) fun a10 => bindO (guardO (a10 != 0)) fun _ => bindO (some (Int.tmod s8.2.1 a10)) fun a12 => bindO (some (IntKind.wrap .i64 (1 + a12))) fun a13 => bindO (some (IntKind.wrap .i64 (a13 * a9))) fun a14 => bindO (some (IntKind.wrap .i64 (s8.1 + a14))) fun a15 => bindO (some (IntKind.wrap .i64 (q - 1))) fun a16 => bindO (guardO (a16 != 0)) fun _ => bindO (some (IntKind.wrap .i64 (Int.tdiv s8.2.1 a16))) fun a18 => bindO (some (IntKind.wrap .i64 (s8.2.2 + 1))) fun a19 => again7 (a15, a18, a19)) (bindO (guardO (q != 0)) fun _ => bindO (some (Int.tmod s8.1 q)) fun a21 => cond (a21 == 0) (bindO (some (IntKind.wrap .i64 (s6.1 + 1))) fun a22 => bindO (some (IntKind.wrap .i64 (s6.2 + 1))) fun a23 => again5 (a22, a23)) (bindO (some (IntKind.wrap .i64 (s6.2 + 1))) fun a24 => again5 (s6.1, a24)))) (0, s6.2, 0)) (some (s6.1, S))) (0, 0)) l 0 1).trans ?_
    rw [Nat.one_mul]
    generalize hM : m ^ l.length = M at hB ⊢
    refine (loopO_for (σ := Int) (fun i s => (s, (i : Int))) M (fun _ _ => some (((sumR (fun n => ind q (totM m l (0, n)).1) M : Nat) : Int), (M : Int))) (fun i s => s = ((sumR (fun n => ind q (totM m l (0, n)).1) i : Nat) : Int)) (fun again s hs => ?_) (fun again i s hi hs ih => ?_) (by omega) (i := 0) (s := 0) (Nat.zero_le _) rfl)
    · subst hs
      simp only [lt_no, cond_false]
    · subst hs
      have hind : ∀ n, ind q (totM m l (0, n)).1 ≤ 1 := fun n => by unfold ind; split <;> omega
      have hsl := sumR_le hind i
      dsimp only
      rw [lt_yes hi, cond_true]
      refine (loop_walkI (fun j (s : Int × Nat) => (s.1, (s.2 : Int), j)) l (fun _ a (s : Int × Nat) k => k (s.1 + (1 + ((s.2 % m : Nat) : Int)) * a, s.2 / m)) (fun s => bindO (guardO (q != 0)) fun _ => bindO (some (Int.tmod s.1 q)) fun a21 => cond (a21 == 0) (bindO (some (IntKind.wrap .i64 (((sumR (fun n => ind q (totM m l (0, n)).1) i : Nat) : Int) + 1))) fun a22 => bindO (some (IntKind.wrap .i64 ((i : Int) + 1))) fun a23 => again (a22, a23)) (bindO (some (IntKind.wrap .i64 ((i : Int) + 1))) fun a24 => again (((sumR (fun n => ind q (totM m l (0, n)).1) i : Nat) : Int), a24))) (fun j s => 0 ≤ s.1 ∧ s.1 ≤ j * 1000 ∧ s.2 ≤ 22 ^ 3) (fun j a s k k' h1 hs hk => ?_) (fun again2 j a s h1 hj hs => ?_) (fun again2 s hs => ?_) (by omega) (0, i) ⟨by simp, by simp, by dsimp only; omega⟩).trans ?_
      · have h0 := he a (List.mem_of_getElem? h1)
        have hmod : s.2 % m < m := Nat.mod_lt _ (by omega)
        have p0 : 0 ≤ (1 + ((s.2 % m : Nat) : Int)) * a := Int.mul_nonneg (by omega) h0.1
        have p1 : (1 + ((s.2 % m : Nat) : Int)) * a ≤ 22 * 22 := Int.mul_le_mul (by omega) (by omega) h0.1 (by omega)
        have hdv : s.2 / m ≤ s.2 := Nat.div_le_self _ _
        exact hk _ ⟨by dsimp only; omega, by dsimp only; omega, by dsimp only; omega⟩
      · have h0 := he a (List.mem_of_getElem? h1)
        have hmod : s.2 % m < m := Nat.mod_lt _ (by omega)
        have p0 : 0 ≤ (1 + ((s.2 % m : Nat) : Int)) * a := Int.mul_nonneg (by omega) h0.1
        have p1 : (1 + ((s.2 % m : Nat) : Int)) * a ≤ 22 * 22 := Int.mul_le_mul (by omega) (by omega) h0.1 (by omega)
        have hdv : s.2 / m ≤ s.2 := Nat.div_le_self _ _
        have hd0 : ((s.2 / m : Nat) : Int) ≤ 22 ^ 3 := by exact_mod_cast Nat.le_trans hdv hs.2.2
        have hd1 : 0 ≤ ((s.2 / m : Nat) : Int) := Int.natCast_nonneg _
        have hd2 : IntKind.wrap .i64 ((s.2 / m : Nat) : Int) = ((s.2 / m : Nat) : Int) := by
          generalize ((s.2 / m : Nat) : Int) = D at hd0 hd1
          exact i64_in D (by omega)
        have t1 : Int.tmod (s.2 : Int) (m : Int) = ((s.2 % m : Nat) : Int) := rfl
        have t2 : Int.tdiv (s.2 : Int) (m : Int) = ((s.2 / m : Nat) : Int) := rfl
        have hg : guardO ((m : Int) != 0) = some () := guardO_of (by simp; omega)
        simp only [lt_yes hj, cond_true, getI_nat, h1, hqm, i64_in ((m : Nat) : Int) (by omega), bindO_some', hg, t1, t2, i64_in (1 + ((s.2 % m : Nat) : Int)) (by omega), i64_in ((1 + ((s.2 % m : Nat) : Int)) * a) (by omega), i64_in (s.1 + (1 + ((s.2 % m : Nat) : Int)) * a) (by omega), hd2, i64_succ (show j < 2 ^ 62 by omega)]
      · simp only [lt_no, cond_false]
      · refine (totWalk m (fun s => bindO (guardO (q != 0)) fun _ => bindO (some (Int.tmod s q)) fun a21 => cond (a21 == 0) (bindO (some (IntKind.wrap .i64 (((sumR (fun n => ind q (totM m l (0, n)).1) i : Nat) : Int) + 1))) fun a22 => bindO (some (IntKind.wrap .i64 ((i : Int) + 1))) fun a23 => again (a22, a23)) (bindO (some (IntKind.wrap .i64 ((i : Int) + 1))) fun a24 => again (((sumR (fun n => ind q (totM m l (0, n)).1) i : Nat) : Int), a24))) l 0 (0, i)).trans ?_
        have hnn := totM_range hm hm1 l (0, i) he (by simp)
        rw [guardO_of (by simp; omega), bindO_some', bindO_some', tmod_nn hnn]
        have hstep : sumR (fun n => ind q (totM m l (0, n)).1) (i + 1) = sumR (fun n => ind q (totM m l (0, n)).1) i + ind q (totM m l (0, i)).1 := rfl
        by_cases h0 : (totM m l (0, i)).1 % q = 0
        · have b : ((totM m l (0, i)).1 % q == 0) = true := by simpa using h0
          rw [b, cond_true, i64_succ (by omega), bindO_some', i64_succ (by omega), bindO_some']
          refine ih _ ?_
          rw [hstep, ind, if_pos h0]
        · have b : ((totM m l (0, i)).1 % q == 0) = false := by simpa using h0
          rw [b, cond_false, i64_succ (by omega), bindO_some']
          refine ih _ ?_
          rw [hstep, ind, if_neg h0]
          omega

noncomputable def errOk (q : Int) (l : List Int) : Bool := decide (2 ≤ q ∧ q ≤ 23) && (isP q && (decide (1 ≤ (l.length : Int) ∧ (l.length : Int) ≤ 3) && l.all fun n => decide (0 ≤ n ∧ n ≤ q - 1)))

theorem wErrors_eq {q : Int} {l : List Int} (hl : l.length < 2 ^ 62) : M_S_wErrors (q, l) = some (errOk q l) := by
  unfold M_S_wErrors errOk
  dsimp only
  rw [in_eq, bindO_some']
  by_cases hq : 2 ≤ q ∧ q ≤ 23
  · have d : decide (2 ≤ q ∧ q ≤ 23) = true := by simpa using hq
    rw [d, cond_true, nPrime_eq (by omega), bindO_some', in_eq, bindO_some', i64_in _ (by omega), bindO_some', l1All_eq hl, bindO_some']
    cases isP q <;> cases decide (1 ≤ (l.length : Int) ∧ (l.length : Int) ≤ 3) <;> rfl
  · have d : decide (2 ≤ q ∧ q ≤ 23) = false := by simpa using hq
    rw [d]
    rfl

theorem areErrors_eq {q : Int} {l : List Int} (hl : l.length < 2 ^ 62) : M_I_areErrors (q, l) = some (errOk q l) := by
  unfold M_I_areErrors errOk
  dsimp only
  rw [within_eq, bindO_some']
  by_cases hq : 2 ≤ q ∧ q ≤ 23
  · have d : decide (2 ≤ q ∧ q ≤ 23) = true := by simpa using hq
    rw [d, cond_true, isPrime_eq (by omega), bindO_some', within_eq, bindO_some', areBelow_eq hl (by omega) (by omega), bindO_some']
    cases isP q <;> cases decide (1 ≤ (l.length : Int) ∧ (l.length : Int) ≤ 3) <;> rfl
  · have d : decide (2 ≤ q ∧ q ≤ 23) = false := by simpa using hq
    rw [d]
    rfl

theorem errOk_spec {q : Int} {l : List Int} (h : errOk q l = true) : ∃ m : Nat, q = (m : Int) + 1 ∧ m ≤ 22 ∧ 1 ≤ m ∧ l.length ≤ 3 ∧ ∀ e ∈ l, 0 ≤ e ∧ e ≤ 22 := by
  simp only [errOk, Bool.and_eq_true, decide_eq_true_eq, List.all_eq_true] at h
  obtain ⟨h1, _, h2, h3⟩ := h
  exact ⟨(q - 1).toNat, by omega, by omega, by omega, by omega, fun e he => by have := h3 e he; omega⟩

theorem CountPassing_eq (q : Int) (l : List Int) (hl : l.length < 2 ^ 62) : ∃ r b, M_S_CountPassing (q, l) = some (r, b) ∧ M_I_CountPassing (q, l) = some (r, b) := by
  unfold M_S_CountPassing M_I_CountPassing
  dsimp only
  rw [wErrors_eq hl, areErrors_eq hl, bindO_some', bindO_some']
  cases hok : errOk q l with
  | false => exact ⟨0, false, rfl, rfl⟩
  | true =>
    obtain ⟨m, hq, hm, hm1, h3, he⟩ := errOk_spec hok
    refine ⟨((cnt q m l 0 : Nat) : Int), true, ?_, ?_⟩
    · have := Comes.lim (wPassing_comes hq hm hm1 l 0 h3 he (by omega) (by omega))
      have hS : M_S_wPassing (q, l, 0) = some ((cnt q m l 0 : Nat) : Int) := this
      rw [hS]
      rfl
    · rw [passing_eq hq hm hm1 h3 he]
      rfl

theorem law_FnExactCountPassing (x : Int × List Int) : M_L_FnExactCountPassing x = some true := by
  obtain ⟨q, cs⟩ := x
  unfold M_L_FnExactCountPassing
  dsimp only
  by_cases h0 : cs.length ≤ 1048576
  · have e0 : decide (((cs.length : Nat) : Int) > 1048576) = false := by simp; omega
    obtain ⟨r, b, hs, hi⟩ := CountPassing_eq q cs (by omega)
    rw [e0]
    simp [toIntS_eq h0, hs, hi, eqIntS_eq (show cs.length < 2 ^ 62 by omega)]
  · have e0 : decide (((cs.length : Nat) : Int) > 1048576) = true := by simp; omega
    rw [e0, cond_true]

end Go.Proofs.Ytlacogoljcpijaa.Vd
