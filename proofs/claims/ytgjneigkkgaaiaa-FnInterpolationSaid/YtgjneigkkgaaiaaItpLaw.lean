/- The law FnInterpolation as plain functions on data returns true for all arguments. No conditions. -/
import Derived.Test.YtgjneigkkgaaiaaItpMod
set_option linter.unusedVariables false
set_option linter.unusedSimpArgs false
set_option linter.unusedSectionVars false
set_option linter.unnecessarySimpa false
namespace Go.Proofs.Ytgjneigkkgaaiaa.Vd
open Go.IntWalk

theorem i64_succ {i : Nat} (h : i < 2 ^ 62) : IntKind.wrap .i64 ((i : Int) + 1) = ((i + 1 : Nat) : Int) := by
  rw [i64_in _ (by omega)]
  rfl

theorem lt_yes {i n : Nat} (h : i < n) : decide ((i : Int) < (n : Int)) = true := by simp [h]

theorem lt_no (n : Nat) : decide ((n : Int) < (n : Int)) = false := by simp

/-- A walk over a list by its numbers, with no other state. -/
def walk {α β : Type} (step : Nat → α → Option β → Option β) (fin : Option β) : Nat → List α → Option β
  | _, [] => fin
  | i, a :: r => step i a (walk step fin (i + 1) r)

theorem loop_walk {α β : Type} {body : (Int → Option β) → Int → Option β} (l : List α) (step : Nat → α → Option β → Option β) (fin : Option β)
    (h : ∀ (again : Int → Option β) (i : Nat) a, l[i]? = some a → i < l.length → body again (i : Int) = step i a (again ((i + 1 : Nat) : Int)))
    (hend : ∀ again : Int → Option β, body again (l.length : Int) = fin) (hl : l.length < 2 ^ 64) : loopO body 0 = walk step fin 0 l := by
  refine (loopO_for (σ := Unit) (fun i _ => (i : Int)) l.length (fun i _ => walk step fin i (l.drop i)) (fun _ _ => True) (fun again _ _ => ?_) (fun again i _ hi _ ih => ?_) hl (i := 0) (s := ()) (Nat.zero_le _) trivial).trans rfl
  · simp [hend, walk]
  · rw [h again i l[i] (List.getElem?_eq_getElem hi) hi, ih () trivial, List.drop_eq_getElem_cons hi, walk]

theorem walk_any {α : Type} (p : α → Bool) : ∀ (l : List α) (i : Nat), walk (fun _ a k => if p a = true then some true else k) (some false) i l = some (l.any p)
  | [], _ => rfl
  | a :: l, i => by
    rw [walk, walk_any p l]
    cases h : p a <;> simp [h]

theorem walk_all {α : Type} (p : α → Bool) : ∀ (l : List α) (i : Nat), walk (fun _ a k => if p a = true then k else some false) (some true) i l = some (l.all p)
  | [], _ => rfl
  | a :: l, i => by
    rw [walk, walk_all p l]
    cases h : p a <;> simp [h]

theorem walk_index {α : Type} (p : α → Bool) : ∀ (l : List α) (i : Nat), ∃ j : Int, walk (fun i a k => if p a = true then some (i : Int) else k) (some (-1)) i l = some j ∧ decide (j ≥ 0) = l.any p
  | [], _ => ⟨-1, rfl, rfl⟩
  | a :: l, i => by
    obtain ⟨j, h1, h2⟩ := walk_index p l (i + 1)
    cases h : p a
    · exact ⟨j, by simp [walk, h, h1], by simp [h, h2]⟩
    · exact ⟨i, by simp [walk, h], by simp [h]⟩

theorem has_eq {l : List Int} {n : Int} (hl : l.length < 2 ^ 62) : M_S_l1Has (l, n) = some (l.any (· == n)) := by
  unfold M_S_l1Has
  refine (loop_walk l (fun _ a k => if (a == n) = true then some true else k) (some false) (fun again i a ha hi => ?_) (fun again => ?_) (by omega)).trans (walk_any _ l 0)
  · simp only [getI_nat, ha, bindO_some', i64_succ (show i < 2 ^ 62 by omega)]
    cases h : a == n <;> simp [h, hi]
  · simp

theorem index_eq {l : List Int} {n : Int} (hl : l.length < 2 ^ 62) : ∃ j : Int, M_slices_Index_sint_int (l, n) = some j ∧ decide (j ≥ 0) = l.any (· == n) := by
  obtain ⟨j, h1, h2⟩ := walk_index (fun a : Int => a == n) l 0
  refine ⟨j, ?_, h2⟩
  unfold M_slices_Index_sint_int
  refine (loop_walk l (fun i a k => if (a == n) = true then some (i : Int) else k) (some (-1)) (fun again i a ha hi => ?_) (fun again => ?_) (by omega)).trans h1
  · simp only [getI_nat, ha, bindO_some', i64_succ (show i < 2 ^ 62 by omega), lt_yes hi, cond_true]
    rw [show (n == a) = (a == n) from BEq.comm]
    cases h : a == n <;> simp [h]
  · simp

theorem lenOk_of {n : Nat} (h : n ≤ 68719476736) : lenOk n = true := by simp [lenOk, lim_eq, h]

theorem sliceLN_nat {l n : Nat} (h : l ≤ n) : sliceLN (l : Int) n = some (l, n) := by
  unfold sliceLN
  rw [if_pos ⟨by omega, by omega⟩]
  simp

theorem sliceNH_nat {h n : Nat} (hh : h ≤ n) : sliceNH (h : Int) n = some (0, h) := by
  unfold sliceNH
  rw [if_pos ⟨by omega, by omega⟩]
  simp

theorem contains_eq {l : List Int} {n : Int} (hl : l.length < 2 ^ 62) : M_slices_Contains_sint_int (l, n) = some (l.any (· == n)) := by
  obtain ⟨j, h1, h2⟩ := index_eq (n := n) hl
  unfold M_slices_Contains_sint_int
  dsimp only
  rw [h1, bindO_some', h2]

/-- A loop whose states go down: a property of its answer. -/
theorem loopO_ind {σ β : Type} {body : (σ → Option β) → σ → Option β} (Q : σ → Option β → Prop) (Inv : σ → Prop) (μ : σ → Nat)
    (step : ∀ (again : σ → Option β) s, Inv s → (∀ s', Inv s' → μ s' < μ s → Q s' (again s')) → Q s (body again s)) {s : σ} (h0 : Inv s) (hm : μ s < 2 ^ 64) : Q s (loopO body s) := by
  rw [loopO_eq]
  have H : ∀ (n : Nat) (s : σ), Inv s → μ s < n → Q s (iter body n s) := by
    intro n
    induction n with
    | zero => intro s _ h; exact absurd h (Nat.not_lt_zero _)
    | succ n ih => intro s hs h; exact step _ s hs fun s' hs' h' => ih s' hs' (by omega)
  exact H many s h0 hm

theorem in_eq (x a b : Int) : M_S_l1In (x, a, b) = some (decide (a ≤ x ∧ x ≤ b)) := by
  by_cases h : a ≤ x <;> by_cases h2 : x ≤ b <;> simp [M_S_l1In, h, h2]

theorem within_eq (x a b : Int) : M_I_within (x, a, b) = some (decide (a ≤ x ∧ x ≤ b)) := by
  by_cases h : a ≤ x <;> by_cases h2 : x ≤ b <;> simp [M_I_within, h, h2]

theorem isModulus_eq (x : Int) : M_I_isModulus x = some (decide (2 ≤ x ∧ x ≤ 2000000000)) := by
  unfold M_I_isModulus
  rw [within_eq]
  rfl

def IsP (n : Int) : Prop := 2 ≤ n ∧ ∀ d, 2 ≤ d → d * d ≤ n → n % d ≠ 0

noncomputable def isP (n : Int) : Bool := @decide (IsP n) (Classical.propDecidable _)

/-- No divisor from d on. -/
def NoDiv (n s : Int) : Prop := ∀ d, s ≤ d → d * d ≤ n → n % d ≠ 0

noncomputable def noDiv (n s : Int) : Bool := @decide (NoDiv n s) (Classical.propDecidable _)

theorem noDiv_end {n s : Int} (hs : 0 ≤ s) (h : n < s * s) : noDiv n s = true := by
  simp only [noDiv, decide_eq_true_eq]
  intro d hd hdd
  have := Int.mul_le_mul hd hd hs (by omega)
  omega

theorem noDiv_hit {n s : Int} (h : s * s ≤ n) (h2 : n % s = 0) : noDiv n s = false := by
  simp only [noDiv, decide_eq_false_iff_not]
  intro hn
  exact hn s (Int.le_refl _) h h2

theorem noDiv_step {n s : Int} (h2 : s * s ≤ n → n % s ≠ 0) : noDiv n s = noDiv n (s + 1) := by
  simp only [noDiv, decide_eq_decide]
  constructor
  · intro h d hd hdd
    exact h d (by omega) hdd
  · intro h d hd hdd
    by_cases he : d = s
    · subst he
      exact h2 hdd
    · exact h d (by omega) hdd

theorem sq_lt {s : Int} (h0 : 0 ≤ s) (h : s * s ≤ 2000000000) : s ≤ 44721 := by
  refine Int.not_lt.1 fun hlt => ?_
  have := Int.mul_le_mul (show (44722 : Int) ≤ s by omega) (show (44722 : Int) ≤ s by omega) (by omega) h0
  omega

theorem sq_le {s k : Int} (h0 : 0 ≤ s) (h : s ≤ k) : s * s ≤ k * k := Int.mul_le_mul h h h0 (by omega)

theorem nPrime_eq {n : Int} (hn : n ≤ 2000000000) : M_S_nPrime n = some (isP n) := by
  unfold M_S_nPrime
  by_cases h2 : n < 2
  · have : isP n = false := by simp only [isP, decide_eq_false_iff_not]; intro h; have := h.1; omega
    simp [h2, this]
  · have hb : decide (n < 2) = false := by simpa using h2
    rw [hb, cond_false]
    have h1 : isP n = noDiv n 2 := by
      simp only [isP, noDiv, decide_eq_decide]
      exact ⟨fun h => h.2, fun h => ⟨by omega, h⟩⟩
    rw [h1]
    refine loopO_spec (fun s => some (noDiv n s)) (fun s => 2 ≤ s ∧ s ≤ 50000) (fun s => (50000 - s).toNat) (fun again s hs ih => ?_) ⟨by omega, by omega⟩ (by omega)
    obtain ⟨hs1, hs2⟩ := hs
    have hq := sq_le (by omega) hs2
    have hq0 : 0 ≤ s * s := Int.mul_nonneg (by omega) (by omega)
    simp only [bindO_some', i64_in _ (show (-9223372036854775808 : Int) ≤ s * s ∧ s * s ≤ 9223372036854775807 by omega)]
    by_cases hle : s * s ≤ n
    · have := sq_lt (by omega) (show s * s ≤ 2000000000 by omega)
      have hgs : guardO (s != 0) = some () := guardO_of (by simp; omega)
      simp only [hle, decide_true, cond_true, hgs, bindO_some', tmod_nn (show 0 ≤ n by omega)]
      by_cases h0 : n % s = 0
      · simp [h0, noDiv_hit hle h0]
      · have hb : (n % s == 0) = false := by simpa using h0
        have hw := i64_in (s + 1) (by omega)
        have hi := ih (s + 1) ⟨by omega, by omega⟩ (by omega)
        have hn := noDiv_step (n := n) (s := s) (fun _ => h0)
        rw [hb, cond_false, hw, hi, hn]
    · simp [hle, noDiv_end (by omega) (show n < s * s by omega)]

theorem odd_loop {n : Int} (hn : n ≤ 2000000000) (h2 : 2 ≤ n) (hodd : n % 2 = 1 ∨ n = 2) : loopO (fun (again9 : (Int → (Option Bool))) => (fun (s10 : Int) => (bindO (some (IntKind.wrap .i64 (s10 * s10))) (fun (a11 : Int) => (cond (decide (a11 ≤ n)) (bindO (guardO (s10 != (0 : Int))) (fun (a12 : Unit) => (bindO (some (Int.tmod n s10)) (fun (a13 : Int) => (cond (a13 == (0 : Int)) (some false) (bindO (some (IntKind.wrap .i64 (s10 + (2 : Int)))) (fun (a14 : Int) => (again9 a14)))))))) (some true)))))) (3 : Int) = some (noDiv n 3) := by
  refine loopO_spec (fun s => some (noDiv n s)) (fun s => 3 ≤ s ∧ s ≤ 50000 ∧ s % 2 = 1) (fun s => (50000 - s).toNat) (fun again s hs ih => ?_) ⟨by omega, by omega, by omega⟩ (by omega)
  obtain ⟨hs1, hs2, hs3⟩ := hs
  have hq := sq_le (by omega) hs2
  have hq0 : 0 ≤ s * s := Int.mul_nonneg (by omega) (by omega)
  simp only [bindO_some', i64_in _ (show (-9223372036854775808 : Int) ≤ s * s ∧ s * s ≤ 9223372036854775807 by omega)]
  by_cases hle : s * s ≤ n
  · have := sq_lt (by omega) (show s * s ≤ 2000000000 by omega)
    have h9 := sq_le (show (0 : Int) ≤ 3 by omega) hs1
    have hgs : guardO (s != 0) = some () := guardO_of (by simp; omega)
    simp only [hle, decide_true, cond_true, hgs, bindO_some', tmod_nn (show 0 ≤ n by omega)]
    by_cases h0 : n % s = 0
    · simp [h0, noDiv_hit hle h0]
    · have hb : (n % s == 0) = false := by simpa using h0
      have hw := i64_in (s + 2) (by omega)
      have hi := ih (s + 2) ⟨by omega, by omega, by omega⟩ (by omega)
      have hn1 := noDiv_step (n := n) (s := s) (fun _ => h0)
      have hn2 := noDiv_step (n := n) (s := s + 1) (fun h8 h1 => by
        have := Int.emod_emod_of_dvd n (show (2 : Int) ∣ (s + 1) by omega)
        rw [h1] at this
        have h3 : n ≠ 2 := fun h => by subst h; omega
        omega)
      rw [hb, cond_false, hw, hi, hn1, hn2, show s + 1 + 1 = s + 2 by omega]
  · simp [hle, noDiv_end (by omega) (show n < s * s by omega)]

theorem isPrime_eq {n : Int} (hn : n ≤ 2000000000) : M_I_isPrime n = some (isP n) := by
  unfold M_I_isPrime
  rw [isModulus_eq]
  by_cases h2 : 2 ≤ n
  · have h1 : isP n = noDiv n 2 := by
      simp only [isP, noDiv, decide_eq_decide]
      exact ⟨fun h => h.2, fun h => ⟨h2, h⟩⟩
    have hg2 : guardO ((2 : Int) != 0) = some () := rfl
    by_cases ho : n % 2 = 1 ∨ n = 2
    · rw [odd_loop hn h2 ho, hg2]
      simp only [bindO_some', h2, hn, and_self, decide_true, Bool.not_true, cond_false, tmod_nn (show 0 ≤ n by omega), h1]
      rcases ho with ho | rfl
      · have hb : (n % 2 == 0) = false := by simp [ho]
        rw [hb, cond_false, noDiv_step (n := n) (s := 2) (fun _ => by omega)]
        rfl
      · rw [noDiv_end (n := 2) (s := 2) (by omega) (by omega), noDiv_end (n := 2) (s := 3) (by omega) (by omega)]
        rfl
    · have he : n % 2 = 0 := by omega
      have hn2 : n ≠ 2 := fun h => ho (.inr h)
      have hb : (n != 2) = true := by simpa using hn2
      simp only [bindO_some', hg2, h2, hn, and_self, decide_true, Bool.not_true, cond_false, tmod_nn (show 0 ≤ n by omega), he, beq_self_eq_true, cond_true, hb, h1]
      rw [noDiv_hit (by omega) he]
  · have : isP n = false := by simp only [isP, decide_eq_false_iff_not]; intro h; have := h.1; omega
    simp [h2, this]

theorem l1All_eq {l : List Int} {lo hi : Int} (hl : l.length < 2 ^ 62) : M_S_l1All (l, lo, hi) = some (l.all fun n => decide (lo ≤ n ∧ n ≤ hi)) := by
  unfold M_S_l1All
  refine (loop_walk l (fun _ a k => if (decide (lo ≤ a ∧ a ≤ hi)) = true then k else some false) (some true) (fun again i a ha hi' => ?_) (fun again => ?_) (by omega)).trans (walk_all (fun n => decide (lo ≤ n ∧ n ≤ hi)) l 0)
  · simp only [getI_nat, ha, bindO_some', i64_succ (show i < 2 ^ 62 by omega), lt_yes hi', cond_true, in_eq]
    cases decide (lo ≤ a ∧ a ≤ hi) <;> rfl
  · simp

theorem walk_index_mem {α : Type} (p : α → Bool) (f : α → Option Bool) : ∀ (l : List α) (i : Nat), (∀ a ∈ l, f a = some (p a)) →
    ∃ j : Int, walk (fun i a k => bindO (f a) fun b => cond b (some (i : Int)) k) (some (-1)) i l = some j ∧ decide (j ≥ 0) = l.any p
  | [], _, _ => ⟨-1, rfl, rfl⟩
  | a :: l, i, hf => by
    obtain ⟨j, h1, h2⟩ := walk_index_mem p f l (i + 1) fun b hb => hf b (List.mem_cons_of_mem _ hb)
    have ha := hf a (List.mem_cons_self ..)
    cases h : p a
    · exact ⟨j, by simp [walk, ha, h, h1], by simp [h, h2]⟩
    · exact ⟨i, by simp [walk, ha, h], by simp [h]⟩

theorem containsFunc_eq {l : List Int} {f : Int → Option Bool} {p : Int → Bool} (hl : l.length < 2 ^ 62) (hf : ∀ a ∈ l, f a = some (p a)) : M_slices_ContainsFunc_sint_int (l, f) = some (l.any p) := by
  obtain ⟨j, h1, h2⟩ := walk_index_mem p f l 0 hf
  unfold M_slices_ContainsFunc_sint_int
  have : M_slices_IndexFunc_sint_int (l, f) = some j := by
    unfold M_slices_IndexFunc_sint_int
    refine (loop_walk l _ _ (fun again i a ha hi => ?_) (fun again => ?_) (by omega)).trans h1
    · simp only [getI_nat, ha, bindO_some', i64_succ (show i < 2 ^ 62 by omega), lt_yes hi, cond_true]
    · simp
  dsimp only
  rw [this, bindO_some', h2]

theorem areAll_eq {l : List Int} {f : Int → Option Bool} {p : Int → Bool} (hl : l.length < 2 ^ 62) (hf : ∀ a ∈ l, f a = some (p a)) : M_I_areAll (l, f) = some (l.all p) := by
  unfold M_I_areAll
  dsimp only
  rw [containsFunc_eq (p := fun a => !p a) hl fun a ha => by simp [M_I_areAll_1, hf a ha], bindO_some']
  congr 1
  rw [List.any_eq_not_all_not]
  simp

theorem nMod_eq {a m : Int} (hm : 1 ≤ m) (hm2 : m ≤ 4611686018427387903) : M_S_nMod (a, m) = some (a % m) := by
  unfold M_S_nMod
  have hg : guardO (m != 0) = some () := guardO_of (by simp; omega)
  have h1 := Int.tmod_lt_of_pos a (show 0 < m by omega)
  have h2 : -m < a.tmod m := Int.lt_tmod_of_pos a (by omega)
  simp only [hg, bindO_some', i64_in (a.tmod m + m) (by omega), tmod_nn (show 0 ≤ a.tmod m + m by omega)]
  congr 1
  rw [Int.add_emod_right]
  have h3 := Int.mul_tdiv_add_tmod a m
  have : a % m = (m * a.tdiv m + a.tmod m) % m := by rw [h3]
  rw [this, Int.mul_add_emod_self_left]

theorem mod_eq {x : Int × Int} : M_I_mod x = M_S_nMod x := rfl

/-- A product of residues. -/
def prodM (p : Int) : Int → List Int → Int
  | out, [] => out
  | out, x :: l => prodM p (out * x % p) l

def hstep (c s k : Int) : Int := (c * s + k + 1) % 2147483647

/-- a over b. -/
def over (p q a b : Int) : Int := prodM p 1 [a, b ^ (q - 1).toNat % p]

/-- A proposition as a Boolean. -/
noncomputable def pdec (p : Prop) : Bool := @decide p (Classical.propDecidable p)

theorem pdec_iff {p : Prop} : pdec p = true ↔ p := by simp [pdec]

theorem pdec_yes {p : Prop} (h : p) : pdec p = true := pdec_iff.2 h

theorem pdec_no {p : Prop} (h : ¬ p) : pdec p = false := by simp [pdec, h]

/-- A walk that checks: `G i` holds of the first i elements. -/
theorem loop_check {α β : Type} {body : (Int → Option β) → Int → Option β} (l : List α) (G : Nat → Prop) (yes no : Option β)
    (hstep : ∀ (again : Int → Option β) (i : Nat) a, l[i]? = some a → i < l.length → G i → (body again (i : Int) = again ((i + 1 : Nat) : Int) ∧ G (i + 1)) ∨ (body again (i : Int) = no ∧ ¬ G l.length))
    (hend : ∀ again : Int → Option β, body again (l.length : Int) = yes) (h0 : G 0) (hl : l.length < 2 ^ 64) : (G l.length → loopO body 0 = yes) ∧ (¬ G l.length → loopO body 0 = no) := by
  constructor
  · intro hG
    refine (loopO_for (σ := Unit) (fun i _ => (i : Int)) l.length (fun _ _ => yes) (fun i _ => G i) (fun again _ hg => hend again) (fun again i _ hi hg ih => ?_) hl (i := 0) (s := ()) (Nat.zero_le _) h0).trans rfl
    rcases hstep again i l[i] (List.getElem?_eq_getElem hi) hi hg with ⟨h1, h2⟩ | ⟨h1, h2⟩
    · rw [h1]
      exact ih () h2
    · exact absurd hG h2
  · intro hG
    refine (loopO_for (σ := Unit) (fun i _ => (i : Int)) l.length (fun _ _ => no) (fun i _ => G i) (fun again _ hg => absurd hg hG) (fun again i _ hi hg ih => ?_) hl (i := 0) (s := ()) (Nat.zero_le _) h0).trans rfl
    rcases hstep again i l[i] (List.getElem?_eq_getElem hi) hi hg with ⟨h1, h2⟩ | ⟨h1, h2⟩
    · rw [h1]
      exact ih () h2
    · exact h1

theorem check_dec {β : Type} {m : Option β} {G : Prop} {f : Bool → Option β} (h : (G → m = f true) ∧ (¬ G → m = f false)) : m = f (pdec G) := by
  by_cases hg : G
  · rw [h.1 hg, pdec_yes hg]
  · rw [h.2 hg, pdec_no hg]

theorem mem_take_succ {α : Type} {l : List α} {i : Nat} {a : α} (h : l[i]? = some a) : l.take (i + 1) = l.take i ++ [a] := by
  rw [List.take_add_one, h]
  rfl

theorem pairwise_snoc {α : Type} {R : α → α → Prop} {l : List α} {a : α} : (l ++ [a]).Pairwise R ↔ l.Pairwise R ∧ ∀ b ∈ l, R b a := by
  rw [List.pairwise_append]
  constructor
  · rintro ⟨h1, _, h2⟩
    exact ⟨h1, fun b hb => h2 b hb a (by simp)⟩
  · rintro ⟨h1, h2⟩
    exact ⟨h1, by simp, fun b hb c hc => by simp at hc; subst hc; exact h2 b hb⟩

noncomputable def nodupB (l : List Int) : Bool := pdec l.Nodup

theorem areDifferent_eq {l : List Int} (hl : l.length < 2 ^ 62) : M_I_areDifferent l = some (nodupB l) := by
  unfold M_I_areDifferent
  have h := loop_check (β := Bool) l (fun i => (l.take i).Nodup) (some true) (some false) (body := (fun (again0 : (Int → (Option Bool))) => (fun (s1 : Int) => (cond (decide (s1 < (((List.length l) : Nat) : Int))) (bindO (getI l s1) (fun (a2 : Int) => (bindO (sliceNH s1 (List.length l)) (fun (a3 : (Nat × Nat)) => (bindO (M_slices_Contains_sint_int ((List.drop a3.1 (List.take a3.2 l)), a2)) (fun (a4 : Bool) => (cond a4 (some false) (bindO (some (IntKind.wrap .i64 (s1 + (1 : Int)))) (fun (a5 : Int) => (again0 a5)))))))))) (some true)))))
    (fun again i a ha hi' hg => ?_) (fun again => ?_) (by simp) (by omega)
  · rw [List.take_length] at h
    exact check_dec (f := some) h
  · have hlen : (l.take i).length < 2 ^ 62 := by simp; omega
    simp only [lt_yes hi', cond_true, getI_nat, ha, bindO_some', sliceNH_nat (show i ≤ l.length by omega), List.drop_zero, contains_eq hlen, i64_succ (show i < 2 ^ 62 by omega), mem_take_succ ha, List.take_length]
    by_cases hm : a ∈ l.take i
    · right
      have : (l.take i).any (· == a) = true := by simpa using hm
      refine ⟨by rw [this]; rfl, fun hn => ?_⟩
      have h2 : (l.take (i + 1)).Nodup := hn.sublist (List.take_sublist _ _)
      rw [mem_take_succ ha] at h2
      have := (pairwise_snoc.1 h2).2 a hm
      exact this rfl
    · left
      have : (l.take i).any (· == a) = false := by
        cases hc : (l.take i).any (· == a)
        · rfl
        · exact absurd (by simpa using hc) hm
      refine ⟨by rw [this]; rfl, pairwise_snoc.2 ⟨hg, fun b hb hba => hm (by subst hba; exact hb)⟩⟩
  · simp

theorem areBelow_eq {l : List Int} {m : Int} (hl : l.length < 2 ^ 62) (h1 : -9223372036854775807 ≤ m) (h2 : m ≤ 9223372036854775807) : M_I_areBelow (l, m) = some (l.all fun n => decide (0 ≤ n ∧ n ≤ m - 1)) := by
  unfold M_I_areBelow
  rw [areAll_eq (p := fun n => decide (0 ≤ n ∧ n ≤ m - 1)) hl fun a _ => by simp [M_I_areBelow_1, i64_in (m - 1) (by omega), within_eq], bindO_some']

theorem wrap_u64 {i : Nat} (h : i < 2 ^ 62) : IntKind.wrap .u64 ((i : Nat) : Int) = (i : Int) := u64_in _ (by omega)

theorem has_contains {l : List Int} (hl : l.length < 2 ^ 62) (p : Nat × Nat) (a : Int) : M_S_l1Has (List.drop p.1 (List.take p.2 l), a) = M_slices_Contains_sint_int (List.drop p.1 (List.take p.2 l), a) := by
  have : (List.drop p.1 (List.take p.2 l)).length < 2 ^ 62 := by simp; omega
  rw [contains_eq this, has_eq this]

theorem vDifferent_eq {l : List Int} (hl : l.length < 2 ^ 62) : M_S_vDifferent l = some (nodupB l) := by
  rw [← areDifferent_eq hl]
  unfold M_S_vDifferent M_I_areDifferent
  simp only [has_contains hl]

/-- A list is put together, element by element. -/
theorem append_loop {α β : Type} (y : List α) (fin : List α → Option β) {body : (List α × Int → Option β) → List α × Int → Option β}
    (h : ∀ (again : List α × Int → Option β) (i : Nat) a (s : List α), y[i]? = some a → i < y.length → s.length = i → body again (s, (i : Int)) = again (s ++ [a], ((i + 1 : Nat) : Int)))
    (hend : ∀ (again : List α × Int → Option β) (s : List α), s.length = y.length → body again (s, (y.length : Int)) = fin s) (hl : y.length < 2 ^ 62) : loopO body ([], 0) = fin y := by
  refine (loopO_for (σ := List α) (fun i s => (s, (i : Int))) y.length (fun i s => fin y) (fun i s => s = y.take i) (fun again s hs => ?_) (fun again i s hi hs ih => ?_) (by omega) (i := 0) (s := []) (Nat.zero_le _) (by simp)).trans rfl
  · subst hs
    rw [List.take_length]
    exact hend again y rfl
  · subst hs
    have ha := List.getElem?_eq_getElem hi
    rw [h again i y[i] _ ha hi (by simp; omega)]
    refine ih _ ?_
    rw [List.take_add_one, ha]
    rfl

theorem clone_eq {l : List Int} (hl : l.length ≤ 1048576) : M_slices_Clone_sint_int l = some l := by
  unfold M_slices_Clone_sint_int
  rw [guardO_of (lenOk_of (by simp; omega))]
  simp only [bindO_some', List.nil_append, Bool.not_true, cond_false]
  cases l with
  | nil => simp [ambO]
  | cons a l => rfl

def inv (p q x : Int) : Int := x ^ (q - 1).toNat % p

theorem isP_spec {n : Int} (h : isP n = true) : IsP n := by
  unfold isP at h
  exact @of_decide_eq_true _ (Classical.propDecidable _) h

theorem yPoints_eq {l : List Int} (hl : l.length < 2 ^ 62) : M_S_yPoints l = some (nodupB l) := vDifferent_eq hl

theorem mul_out {p s b : Int} (hs : 0 ≤ s ∧ s < p) : prodM p 1 [s, b] = s * b % p := by
  simp only [prodM]
  rw [Int.one_mul, Int.emod_eq_of_lt hs.1 hs.2]

theorem getD_at {α : Type} {l : List α} {i : Nat} {d : α} (h : i < l.length) : l[i]? = some (l.getD i d) := by
  rw [List.getElem?_eq_getElem h, List.getD_eq_getElem?_getD, List.getElem?_eq_getElem h]
  rfl

theorem mul_one {p x : Int} (hp : 2 ≤ p) (hx : 0 ≤ x ∧ x < p) : prodM p 1 [1, x] = x := by
  rw [mul_out (by omega), Int.one_mul, Int.emod_eq_of_lt hx.1 hx.2]

def iterN {σ : Type} (f : Nat → σ → σ) (s0 : σ) : Nat → σ
  | 0 => s0
  | n + 1 => f n (iterN f s0 n)

theorem iterN_inv {σ : Type} {f : Nat → σ → σ} {s0 : σ} {Inv : Nat → σ → Prop} (h0 : Inv 0 s0) : ∀ n, (∀ i s, i < n → Inv i s → Inv (i + 1) (f i s)) → Inv n (iterN f s0 n)
  | 0, _ => h0
  | n + 1, h => h n _ (by omega) (iterN_inv h0 n fun i s hi => h i s (by omega))

theorem iter_loop {σ τ β : Type} (f : Nat → σ → σ) (s0 : σ) (n : Nat) (enc : Int → σ → τ) (fin : σ → Option β) (Inv : Nat → σ → Prop) {body : (τ → Option β) → τ → Option β} (hn : n < 2 ^ 62) (h0 : Inv 0 s0) (hs : ∀ i s, i < n → Inv i s → Inv (i + 1) (f i s))
    (h : ∀ (again : τ → Option β) (i : Nat) s, i < n → Inv i s → body again (enc (i : Int) s) = again (enc ((i + 1 : Nat) : Int) (f i s))) (hend : ∀ (again : τ → Option β) s, Inv n s → body again (enc (n : Int) s) = fin s) : loopO body (enc 0 s0) = fin (iterN f s0 n) := by
  refine (loopO_for (σ := σ) (fun i s => enc (i : Int) s) n (fun _ _ => fin (iterN f s0 n)) (fun i s => s = iterN f s0 i ∧ Inv i s) (fun again s hs => ?_) (fun again i s hi hv ih => ?_) (by omega) (i := 0) (s := s0) (Nat.zero_le _) ⟨rfl, h0⟩).trans rfl
  · obtain ⟨rfl, h2⟩ := hs
    exact hend again _ h2
  · obtain ⟨rfl, h2⟩ := hv
    rw [h again i _ hi h2]
    exact ih _ ⟨rfl, hs i _ hi h2⟩

theorem getD_is {α : Type} {l : List α} {i : Nat} {a d : α} (h : l[i]? = some a) : l.getD i d = a := by
  rw [List.getD_eq_getElem?_getD, h]
  rfl

abbrev El := Int × Int × Int × Int

def e0 : El := (0, 0, 0, 0)

theorem i64_addN {n i : Nat} (h : n + i ≤ 1000000) : IntKind.wrap .i64 ((n : Int) + (i : Int)) = ((n + i : Nat) : Int) := by
  rw [i64_in _ (by omega)]
  omega

def sumN : Nat → (Nat → Int) → Int
  | 0, _ => 0
  | n + 1, g => sumN n g + g n

theorem sumN_front (g : Nat → Int) : ∀ n, sumN (n + 1) g = g 0 + sumN n fun t => g (t + 1)
  | 0 => by simp [sumN]
  | n + 1 => by
    rw [sumN, sumN_front g n, sumN]
    omega

theorem sumN_congr {g h : Nat → Int} : ∀ n, (∀ t, t < n → g t = h t) → sumN n g = sumN n h
  | 0, _ => rfl
  | n + 1, e => by rw [sumN, sumN, sumN_congr n fun t ht => e t (by omega), e n (by omega)]

theorem sumN_zero {g : Nat → Int} : ∀ n, (∀ t, t < n → g t = 0) → sumN n g = 0
  | 0, _ => rfl
  | n + 1, e => by rw [sumN, sumN_zero n fun t ht => e t (by omega), e n (by omega)]; rfl

def rowN (n : Nat) (f : Nat → Int) : List Int := (List.range n).map f

theorem rowN_get {n : Nat} {f : Nat → Int} {j : Nat} (h : j < n) : (rowN n f)[j]? = some (f j) := by
  rw [rowN, List.getElem?_map, List.getElem?_range h]
  rfl

theorem rowN_len (n : Nat) (f : Nat → Int) : (rowN n f).length = n := by simp [rowN]

theorem rowN_zero (n : Nat) : rowN n (fun _ => 0) = List.replicate n 0 := by
  refine List.ext_getElem? fun j => ?_
  rw [List.getElem?_replicate]
  split
  · rename_i h
    exact rowN_get h
  · rw [List.getElem?_eq_none (by rw [rowN_len]; omega)]

theorem rowN_set {n a : Nat} {f : Nat → Int} {v : Int} : (rowN n f).set a v = rowN n fun k => if k = a then v else f k := by
  refine List.ext_getElem? fun t => ?_
  by_cases ht : t < n
  · rw [rowN_get ht, List.getElem?_set]
    by_cases hat : a = t
    · subst hat
      rw [if_pos rfl, if_pos (by rw [rowN_len]; exact ht), if_pos rfl]
    · rw [if_neg hat, rowN_get ht, if_neg (fun h => hat h.symm)]
  · rw [List.getElem?_eq_none (by rw [List.length_set, rowN_len]; omega), List.getElem?_eq_none (by rw [rowN_len]; omega)]

theorem rowN_congr {n : Nat} {f g : Nat → Int} (h : ∀ k, k < n → f k = g k) : rowN n f = rowN n g := List.map_congr_left fun k hk => h k (List.mem_range.1 hk)

theorem prime_one {q d : Int} (hq : IsP q) (h1 : 1 ≤ d) (h2 : d < q) (h3 : d ∣ q) : d = 1 := by
  obtain ⟨hq2, hd⟩ := hq
  obtain ⟨c, hc⟩ := h3
  have hc1 : 2 ≤ c := by
    rcases Int.lt_or_le c 2 with h | h
    · rcases Int.lt_or_le c 1 with h' | h'
      · have : d * c ≤ d * 0 := Int.mul_le_mul_of_nonneg_left (by omega) (by omega)
        rw [Int.mul_zero] at this
        omega
      · obtain rfl : c = 1 := by omega
        rw [Int.mul_one] at hc
        omega
    · exact h
  by_cases hd1 : d = 1
  · exact hd1
  · exfalso
    rcases Int.le_total d c with h | h
    · refine hd d (by omega) ?_ (by rw [hc]; exact Int.mul_emod_right d c)
      rw [hc]
      exact Int.mul_le_mul_of_nonneg_left h (by omega)
    · refine hd c hc1 ?_ (by rw [hc]; exact Int.mul_emod_left d c)
      rw [hc]
      exact Int.mul_le_mul_of_nonneg_right h (by omega)

/-- Euclid's invariant. -/
def EuOK (q a : Int) (s : Int × Int × Int × Int) : Prop :=
  (0 ≤ s.2.1 ∧ s.2.1 < s.1 ∧ s.1 ≤ q) ∧ ((s.2.2.1 ≤ 0 ∧ 0 ≤ s.2.2.2 ∧ s.1 * s.2.2.2 - s.2.1 * s.2.2.1 = q) ∨ (0 ≤ s.2.2.1 ∧ s.2.2.2 ≤ 0 ∧ s.2.1 * s.2.2.1 - s.1 * s.2.2.2 = q)) ∧
  (∃ u, s.1 = a * s.2.2.1 + q * u) ∧ (∃ v, s.2.1 = a * s.2.2.2 + q * v) ∧ ∀ d, d ∣ s.1 → d ∣ s.2.1 → d ∣ a ∧ d ∣ q

theorem eu_bound {r n y x q : Int} (hr : 1 ≤ r) (hn : 1 ≤ n) (hy : 0 ≤ y) (hx : 0 ≤ x) (h : r * y + n * x = q) : y ≤ q ∧ x ≤ q ∧ r * y ≤ q ∧ n * x ≤ q := by
  have h1 : 1 * y ≤ r * y := Int.mul_le_mul_of_nonneg_right hr hy
  have h2 : 1 * x ≤ n * x := Int.mul_le_mul_of_nonneg_right hn hx
  have h3 : 0 ≤ r * y := Int.mul_nonneg (by omega) hy
  have h4 : 0 ≤ n * x := Int.mul_nonneg (by omega) hx
  omega

theorem eu_step {q a : Int} {s : Int × Int × Int × Int} (h : EuOK q a s) (hn : s.2.1 ≠ 0) (hq : q ≤ 2000000000) :
    EuOK q a (s.2.1, s.1 - s.1 / s.2.1 * s.2.1, s.2.2.2, s.2.2.1 - s.1 / s.2.1 * s.2.2.2) ∧ s.1 - s.1 / s.2.1 * s.2.1 = s.1 % s.2.1 ∧ (0 ≤ s.1 / s.2.1 ∧ s.1 / s.2.1 ≤ q) ∧ (0 ≤ s.1 / s.2.1 * s.2.1 ∧ s.1 / s.2.1 * s.2.1 ≤ q) ∧
      (-q ≤ s.1 / s.2.1 * s.2.2.2 ∧ s.1 / s.2.1 * s.2.2.2 ≤ q) ∧ -q ≤ s.2.2.1 ∧ s.2.2.1 ≤ q := by
  obtain ⟨r, n, x, y⟩ := s
  obtain ⟨⟨g1, g2, g3⟩, g4, ⟨u, g5⟩, ⟨v, g6⟩, g7⟩ := h
  dsimp only at *
  have hn1 : 1 ≤ n := by omega
  have e1 : r - r / n * n = r % n := by have := Int.emod_def r n; rw [Int.mul_comm] at this; omega
  have e2 := Int.emod_nonneg r hn
  have e3 := Int.emod_lt_of_pos r (show 0 < n by omega)
  have t0 : 0 ≤ r / n := Int.ediv_nonneg (by omega) (by omega)
  have t1 : r / n ≤ r := Int.ediv_le_self _ (by omega)
  generalize ht : r / n = t at *
  have t2 : t * n ≤ r := by omega
  have t3 : 0 ≤ t * n := Int.mul_nonneg t0 (by omega)
  have inv : (y ≤ 0 ∧ 0 ≤ x - t * y ∧ n * (x - t * y) - (r - t * n) * y = q) ∨ (0 ≤ y ∧ x - t * y ≤ 0 ∧ (r - t * n) * y - n * (x - t * y) = q) := by
    rcases g4 with ⟨a1, a2, a3⟩ | ⟨a1, a2, a3⟩
    · right
      have : 0 ≤ t * y := Int.mul_nonneg t0 a2
      refine ⟨a2, by omega, ?_⟩
      rw [← a3]
      grind
    · left
      have : 0 ≤ t * (-y) := Int.mul_nonneg t0 (by omega)
      rw [Int.mul_neg] at this
      refine ⟨a2, by omega, ?_⟩
      rw [← a3]
      grind
  have bnd : (-q ≤ t * y ∧ t * y ≤ q) ∧ -q ≤ x ∧ x ≤ q := by
    rcases g4 with ⟨a1, a2, a3⟩ | ⟨a1, a2, a3⟩
    · have h1 := eu_bound (r := r) (n := n) (y := y) (x := -x) (q := q) (by omega) hn1 a2 (by omega) (by rw [Int.mul_neg]; omega)
      have h2 : t * y ≤ r * y := Int.mul_le_mul_of_nonneg_right t1 a2
      have h3 : 0 ≤ t * y := Int.mul_nonneg t0 a2
      omega
    · have h1 := eu_bound (r := r) (n := n) (y := -y) (x := x) (q := q) (by omega) hn1 (by omega) a1 (by rw [Int.mul_neg]; omega)
      have h2 : t * (-y) ≤ r * (-y) := Int.mul_le_mul_of_nonneg_right t1 (by omega)
      have h3 : 0 ≤ t * (-y) := Int.mul_nonneg t0 (by omega)
      rw [Int.mul_neg] at h2 h3
      omega
  refine ⟨⟨⟨by dsimp only; omega, by dsimp only; omega, by dsimp only; omega⟩, inv, ⟨v, g6⟩, ⟨u - t * v, by dsimp only; rw [g5, g6]; grind⟩, fun d d1 d2 => ?_⟩, e1, ⟨t0, by omega⟩, ⟨t3, by omega⟩, bnd.1, bnd.2⟩
  have : r = (r - t * n) + t * n := by omega
  exact g7 d (by rw [this]; exact Int.dvd_add d2 (Int.dvd_mul_of_dvd_right d1)) d1

theorem euclid_loop {β : Type} {q a : Int} (hq : IsP q) (hq2 : q ≤ 2000000000) (ha : 1 ≤ a ∧ a < q) (fin : Int → Int → Option β) {body : (Int × Int × Int × Int → Option β) → Int × Int × Int × Int → Option β}
    (hb : ∀ again s, body again s = cond (s.2.1 != 0) (bindO (guardO (s.2.1 != 0)) fun _ => bindO (some (IntKind.wrap .i64 (Int.tdiv s.1 s.2.1))) fun a3 => bindO (some (IntKind.wrap .i64 (a3 * s.2.1))) fun a4 => bindO (some (IntKind.wrap .i64 (s.1 - a4))) fun a5 => bindO (some (IntKind.wrap .i64 (a3 * s.2.2.2))) fun a6 => bindO (some (IntKind.wrap .i64 (s.2.2.1 - a6))) fun a7 => again (s.2.1, a5, s.2.2.2, a7)) (fin s.1 s.2.2.1))
    {s0 : Int × Int × Int × Int} (h0 : EuOK q a s0 ∨ s0 = (a, q, 1, 0)) : ∃ x, loopO body s0 = fin 1 x ∧ a * x % q = 1 := by
  refine loopO_ind (fun (_ : Int × Int × Int × Int) (y : Option β) => ∃ x, y = fin 1 x ∧ a * x % q = 1) (fun s => EuOK q a s ∨ s = (a, q, 1, 0)) (fun s => s.2.1.toNat) (fun again s hs ih => ?_) h0 ?_
  · rw [hb]
    rcases hs with hs | rfl
    · by_cases hn : s.2.1 = 0
      · obtain ⟨⟨g1, g2, g3⟩, g4, ⟨u, g5⟩, ⟨v, g6⟩, g7⟩ := hs
        rw [show (s.2.1 != 0) = false from by simpa using hn, cond_false]
        obtain ⟨d1, d2⟩ := g7 s.1 (Int.dvd_refl _) (by rw [hn]; exact Int.dvd_zero _)
        have h1 : s.1 ≤ a := Int.le_of_dvd (by omega) d1
        have h2 : s.1 = 1 := prime_one hq (by omega) (by omega) d2
        refine ⟨s.2.2.1, by rw [h2], ?_⟩
        have h3 : a * s.2.2.1 = 1 + q * (-u) := by rw [h2] at g5; rw [Int.mul_neg]; omega
        rw [h3, Int.add_mul_emod_self_left]
        exact Int.emod_eq_of_lt (by omega) (by omega)
      · obtain ⟨k1, k2, k3, k4, k5, k6⟩ := eu_step hs hn hq2
        have hr := hs.1
        rw [show (s.2.1 != 0) = true from bne_iff_ne.2 hn, cond_true, guardO_of rfl, bindO_some', tdiv_nn (by omega), i64_in _ (by omega), bindO_some', i64_in _ (by omega), bindO_some', i64_in _ (by omega), bindO_some', i64_in _ (by omega), bindO_some', i64_in _ (by omega), bindO_some']
        refine ih _ (.inl k1) ?_
        dsimp only
        rw [k2]
        have := Int.emod_lt_of_pos s.1 (show 0 < s.2.1 by omega)
        have := Int.emod_nonneg s.1 hn
        omega
    · have e1 : a.tdiv q = 0 := by rw [tdiv_nn (by omega)]; exact Int.ediv_eq_zero_of_lt (by omega) ha.2
      dsimp only
      rw [show (q != 0) = true from bne_iff_ne.2 (by omega), cond_true, guardO_of rfl, bindO_some', e1, i64_in 0 (by omega), bindO_some', Int.zero_mul, i64_in 0 (by omega), bindO_some', Int.sub_zero, i64_in a (by omega), bindO_some', Int.zero_mul, i64_in 0 (by omega), bindO_some', Int.sub_zero, i64_in 1 (by omega), bindO_some']
      refine ih _ (.inl ⟨⟨by dsimp only; omega, by dsimp only; omega, by dsimp only; omega⟩, .inl ⟨by dsimp only; omega, by dsimp only; omega, by dsimp only; omega⟩, ⟨1, by dsimp only; omega⟩, ⟨0, by dsimp only; omega⟩, fun d d1 d2 => ⟨d2, d1⟩⟩) ?_
      dsimp only
      omega
  · rcases h0 with h0 | rfl
    · have := h0.1
      omega
    · dsimp only
      omega

/-- The inverse of a modulo a prime. -/
theorem inv_both {q a : Int} (hq : IsP q) (hq2 : q ≤ 2000000000) (ha : 1 ≤ a ∧ a < q) : ∃ b, (0 ≤ b ∧ b < q) ∧ a * b % q = 1 ∧ M_I_inverse (a, q) = some b ∧ M_S_nInverse (a, q) = some (b, true) := by
  have hq1 := hq.1
  obtain ⟨x, x1, x2⟩ := euclid_loop hq hq2 ha (fun r x => cond (r != 1) (some 0) (bindO (M_I_mod (x, q)) fun a8 => some a8)) (s0 := (q, a, 0, 1)) (fun _ _ => rfl) (.inl ⟨⟨by dsimp only; omega, by dsimp only; omega, by dsimp only; omega⟩, .inl ⟨by dsimp only; omega, by dsimp only; omega, by dsimp only; omega⟩, ⟨1, by dsimp only; omega⟩, ⟨0, by dsimp only; omega⟩, fun d d1 d2 => ⟨d2, d1⟩⟩)
  obtain ⟨y, y1, y2⟩ := euclid_loop hq hq2 ha (fun r x => bindO (M_S_nMod (x, q)) fun a9 => some (a9, (r == (1 : Int)))) (s0 := (a, q, 1, 0)) (fun _ _ => rfl) (.inr rfl)
  have hx := Int.emod_nonneg x (show q ≠ 0 by omega)
  have hx' := Int.emod_lt_of_pos x (show 0 < q by omega)
  have heq : x % q = y % q := by
    have e1 : x % q = x * (a * y) % q := by rw [Int.mul_emod x (a * y), y2, Int.mul_one, Int.emod_emod_of_dvd _ (Int.dvd_refl q)]
    have e2 : y % q = y * (a * x) % q := by rw [Int.mul_emod y (a * x), x2, Int.mul_one, Int.emod_emod_of_dvd _ (Int.dvd_refl q)]
    rw [e1, e2]
    congr 1
    grind
  refine ⟨x % q, ⟨hx, hx'⟩, by rw [← x2]; rw [Int.mul_emod, Int.emod_emod_of_dvd _ (Int.dvd_refl q), ← Int.mul_emod], ?_, ?_⟩
  · unfold M_I_inverse
    dsimp only
    refine x1.trans ?_
    rw [mod_eq, nMod_eq (by omega) (by omega), bindO_some']
    rfl
  · unfold M_S_nInverse
    dsimp only
    rw [nMod_eq (by omega) (by omega), Int.emod_eq_of_lt (by omega) ha.2, bindO_some']
    refine y1.trans ?_
    rw [nMod_eq (by omega) (by omega), bindO_some', heq]
    rfl

/-- A product of what a prime does not divide. -/
theorem mul_ne {q a b : Int} (hq : IsP q) (hq2 : q ≤ 2000000000) (ha : a % q ≠ 0) (hb : b % q ≠ 0) : a * b % q ≠ 0 := by
  have hq1 := hq.1
  have h1 := Int.emod_nonneg a (show q ≠ 0 by omega)
  have h2 := Int.emod_lt_of_pos a (show 0 < q by omega)
  obtain ⟨c, c1, c2, _, _⟩ := inv_both hq hq2 (a := a % q) (by omega)
  intro h0
  apply hb
  have e : b % q = b * (a % q * c) % q := by rw [Int.mul_emod b, c2, Int.mul_one, Int.emod_emod_of_dvd _ (Int.dvd_refl q)]
  rw [e, show b * (a % q * c) = c * (a % q * b) by grind, Int.mul_emod, show a % q * b % q = a * b % q from by rw [Int.mul_emod, Int.emod_emod_of_dvd _ (Int.dvd_refl q), ← Int.mul_emod], h0, Int.mul_zero]
  rfl

/-- Equal modulo q. -/
def Cg (q a b : Int) : Prop := ∃ u, a = b + q * u

theorem Cg_refl {q : Int} (a : Int) : Cg q a a := ⟨0, by omega⟩

theorem Cg_mod {q : Int} (a : Int) : Cg q (a % q) a := ⟨-(a / q), by have := Int.emod_def a q; rw [Int.mul_neg]; omega⟩

theorem Cg_trans {q a b c : Int} (h1 : Cg q a b) (h2 : Cg q b c) : Cg q a c := by
  obtain ⟨u, h1⟩ := h1
  obtain ⟨v, h2⟩ := h2
  exact ⟨u + v, by rw [h1, h2]; grind⟩

theorem Cg_symm {q a b : Int} (h : Cg q a b) : Cg q b a := by
  obtain ⟨u, h⟩ := h
  exact ⟨-u, by rw [h]; grind⟩

theorem Cg_add {q a b c d : Int} (h1 : Cg q a b) (h2 : Cg q c d) : Cg q (a + c) (b + d) := by
  obtain ⟨u, h1⟩ := h1
  obtain ⟨v, h2⟩ := h2
  exact ⟨u + v, by rw [h1, h2]; grind⟩

theorem Cg_mul {q a b c d : Int} (h1 : Cg q a b) (h2 : Cg q c d) : Cg q (a * c) (b * d) := by
  obtain ⟨u, h1⟩ := h1
  obtain ⟨v, h2⟩ := h2
  exact ⟨b * v + u * d + q * u * v, by rw [h1, h2]; grind⟩

theorem Cg_eq {q a b : Int} (h : Cg q a b) : a % q = b % q := by
  obtain ⟨u, h⟩ := h
  rw [h, Int.add_mul_emod_self_left]

theorem Cg_of {q a b : Int} (h : a % q = b % q) : Cg q a b := Cg_trans (Cg_symm (Cg_mod a)) (h ▸ Cg_mod b)

theorem sumN_addF (g h : Nat → Int) : ∀ n, sumN n (fun t => g t + h t) = sumN n g + sumN n h
  | 0 => rfl
  | n + 1 => by rw [sumN, sumN, sumN, sumN_addF g h n]; omega

theorem sumN_mulL (c : Int) (g : Nat → Int) : ∀ n, sumN n (fun t => c * g t) = c * sumN n g
  | 0 => by simp [sumN]
  | n + 1 => by rw [sumN, sumN, sumN_mulL c g n, Int.mul_add]

theorem sumN_upd (g : Nat → Int) (j : Nat) (v : Int) : ∀ n, sumN n (fun t => if t = j then v else g t) = sumN n g + if j < n then v - g j else 0
  | 0 => by simp [sumN]
  | n + 1 => by
    rw [sumN, sumN, sumN_upd g j v n]
    by_cases h : n = j
    · subst h
      simp
      omega
    · by_cases h2 : j < n
      · simp [h, h2, show j < n + 1 by omega]
        omega
      · simp [h, h2, show ¬ j < n + 1 by omega]

def polyv (f : List Int) (x : Int) : Int := sumN f.length fun i => f.getD i 0 * x ^ i

def evC (n : Nat) (C : Nat → Int) (x : Int) : Int := sumN n fun t => C t * x ^ t

theorem polyv_row {n : Nat} {C : Nat → Int} {x : Int} : polyv (rowN n C) x = evC n C x := by
  unfold polyv evC
  rw [rowN_len]
  exact sumN_congr n fun t ht => by rw [getD_is (rowN_get ht)]

/-- Coefficients below q. -/
def inF (q : Int) (f : List Int) : Prop := ∀ a ∈ f, 0 ≤ a ∧ a < q

theorem inF_get {q : Int} {f : List Int} (h : inF q f) {i : Nat} (hi : i < f.length) : 0 ≤ f.getD i 0 ∧ f.getD i 0 < q := h _ (List.mem_of_getElem? (getD_at hi))

theorem horner {f : List Int} {x : Int} {k : Nat} (hk : k < f.length) : (sumN (k + 1) fun t => f.getD (f.length - (k + 1) + t) 0 * x ^ t) = (sumN k fun t => f.getD (f.length - k + t) 0 * x ^ t) * x + f.getD (f.length - 1 - k) 0 := by
  rw [sumN_front]
  have e : (fun t => f.getD (f.length - (k + 1) + (t + 1)) 0 * x ^ (t + 1)) = fun t => x * (f.getD (f.length - k + t) 0 * x ^ t) := by
    funext t
    rw [show f.length - (k + 1) + (t + 1) = f.length - k + t by omega, Int.pow_succ]
    grind
  rw [e, sumN_mulL, show f.length - (k + 1) + 0 = f.length - 1 - k by omega, Int.pow_zero]
  grind

theorem prod_small {q a b : Int} (hq : q ≤ 2000000000) (ha : 0 ≤ a ∧ a < q) (hb : 0 ≤ b ∧ b < q) : 0 ≤ a * b ∧ a * b ≤ 4000000000000000000 := by
  refine ⟨Int.mul_nonneg ha.1 hb.1, ?_⟩
  have : a * b ≤ 2000000000 * 2000000000 := Int.mul_le_mul (by omega) (by omega) hb.1 (by omega)
  omega

theorem evalPoly_eq {q x : Int} {f : List Int} (hq : 2 ≤ q ∧ q ≤ 2000000000) (hx : 0 ≤ x ∧ x < q) (hf : inF q f) (hl : f.length < 2 ^ 30) : M_I_evalPoly (q, f, x) = some (polyv f x % q) := by
  unfold M_I_evalPoly
  dsimp only
  rw [i64_in _ (by omega), bindO_some']
  have key := iter_loop (fun k (s : Int) => (s * x % q + f.getD (f.length - 1 - k) 0) % q) 0 f.length (fun i s => (s, (f.length : Int) - 1 - i)) (fun s => some s) (fun k s => s = (sumN k fun t => f.getD (f.length - k + t) 0 * x ^ t) % q)
    (body := fun (again1 : (Int × Int) → Option Int) (s2 : Int × Int) => cond (decide (s2.2 ≥ 0)) (bindO (some (IntKind.wrap .i64 (s2.1 * x))) fun a3 => bindO (guardO (q != 0)) fun _ => bindO (some (Int.tmod a3 q)) fun a5 => bindO (getI f s2.2) fun a6 => bindO (some (IntKind.wrap .i64 (a5 + a6))) fun a7 => bindO (guardO (q != 0)) fun _ => bindO (some (Int.tmod a7 q)) fun a9 => bindO (some (IntKind.wrap .i64 (s2.2 - 1))) fun a10 => again1 (a9, a10)) (some s2.1))
    (by omega) (by simp [sumN]) (fun k s hk hv => ?_) (fun again k s hk hv => ?_) (fun again s hv => ?_)
  · rw [Int.sub_zero] at key
    refine key.trans ?_
    have := iterN_inv (f := fun k (s : Int) => (s * x % q + f.getD (f.length - 1 - k) 0) % q) (s0 := 0) (Inv := fun k s => s = (sumN k fun t => f.getD (f.length - k + t) 0 * x ^ t) % q) (by simp [sumN]) f.length (fun k s hk hv => ?_)
    · rw [this, Nat.sub_self]
      unfold polyv
      congr 3
      funext t
      rw [Nat.zero_add]
    · subst hv
      rw [horner hk]
      exact Cg_eq (Cg_add (Cg_trans (Cg_mod _) (Cg_mul (Cg_mod _) (Cg_refl _))) (Cg_refl _))
  · subst hv
    rw [horner hk]
    exact Cg_eq (Cg_add (Cg_trans (Cg_mod _) (Cg_mul (Cg_mod _) (Cg_refl _))) (Cg_refl _))
  · have hs : 0 ≤ s ∧ s < q := by
      subst hv
      exact ⟨Int.emod_nonneg _ (by omega), Int.emod_lt_of_pos _ (by omega)⟩
    have hp := prod_small hq.2 hs hx
    have hi : f.length - 1 - k < f.length := by omega
    have hfi := inF_get hf hi
    have hg : getI f ((f.length : Int) - 1 - (k : Int)) = some (f.getD (f.length - 1 - k) 0) := by
      rw [show (f.length : Int) - 1 - (k : Int) = ((f.length - 1 - k : Nat) : Int) by omega, getI_nat, getD_at hi]
    have r1 := Int.emod_nonneg (s * x) (show q ≠ 0 by omega)
    have r2 := Int.emod_lt_of_pos (s * x) (show 0 < q by omega)
    have hg0 : guardO (q != 0) = some () := guardO_of (bne_iff_ne.2 (by omega))
    dsimp only
    rw [decide_eq_true (show (f.length : Int) - 1 - (k : Int) ≥ 0 by omega), cond_true, i64_in (s * x) (by omega), bindO_some', hg0, bindO_some', bindO_some', tmod_nn hp.1, hg, bindO_some', i64_in _ (by omega), bindO_some', bindO_some', tmod_nn (by omega), bindO_some', i64_in _ (by omega), bindO_some']
    congr 2
    omega
  · dsimp only
    rw [decide_eq_false (show ¬ (f.length : Int) - 1 - (f.length : Int) ≥ 0 by omega), cond_false]

def mp2 (q : Int) (f g : List Int) (i k : Nat) (C : Nat → Int) : Nat → Int := fun t => if t = i + k then (C (i + k) + f.getD i 0 * g.getD k 0 % q) % q else C t

def mp1 (q : Int) (f g : List Int) (i : Nat) (C : Nat → Int) : Nat → Int := iterN (mp2 q f g i) C g.length

def mpN (q : Int) (f g : List Int) : Nat → Int := iterN (mp1 q f g) (fun _ => 0) f.length

def mulP (q : Int) (f g : List Int) : List Int := rowN (f.length + g.length - 1) (mpN q f g)

def rngC (q : Int) (C : Nat → Int) : Prop := ∀ t, 0 ≤ C t ∧ C t < q

theorem mp2_rng {q : Int} {f g : List Int} {i k : Nat} {C : Nat → Int} (hq : 2 ≤ q) (h : rngC q C) : rngC q (mp2 q f g i k C) := fun t => by
  unfold mp2
  split
  · exact ⟨Int.emod_nonneg _ (by omega), Int.emod_lt_of_pos _ (by omega)⟩
  · exact h t

theorem mp2_ev {q x : Int} {f g : List Int} {i k n : Nat} {C : Nat → Int} (hn : i + k < n) : Cg q (evC n (mp2 q f g i k C) x) (evC n C x + f.getD i 0 * x ^ i * (g.getD k 0 * x ^ k)) := by
  have e : evC n (mp2 q f g i k C) x = evC n C x + ((C (i + k) + f.getD i 0 * g.getD k 0 % q) % q - C (i + k)) * x ^ (i + k) := by
    unfold evC mp2
    have : (fun t => (if t = i + k then (C (i + k) + f.getD i 0 * g.getD k 0 % q) % q else C t) * x ^ t) = fun t => if t = i + k then (C (i + k) + f.getD i 0 * g.getD k 0 % q) % q * x ^ (i + k) else C t * x ^ t := by
      funext t
      by_cases h : t = i + k
      · rw [if_pos h, if_pos h, h]
      · rw [if_neg h, if_neg h]
    rw [this, sumN_upd (fun t => C t * x ^ t), if_pos hn]
    grind
  rw [e, show f.getD i 0 * x ^ i * (g.getD k 0 * x ^ k) = f.getD i 0 * g.getD k 0 * x ^ (i + k) by rw [Int.pow_add]; grind]
  refine Cg_add (Cg_refl _) (Cg_mul ?_ (Cg_refl _))
  have h1 : Cg q ((C (i + k) + f.getD i 0 * g.getD k 0 % q) % q) (C (i + k) + f.getD i 0 * g.getD k 0) := Cg_trans (Cg_mod _) (Cg_add (Cg_refl _) (Cg_mod _))
  obtain ⟨u, h1⟩ := h1
  exact ⟨u, by rw [h1]; grind⟩

theorem mp1_ev {q x : Int} {f g : List Int} {i n : Nat} {C : Nat → Int} (hn : i + g.length ≤ n) : Cg q (evC n (mp1 q f g i C) x) (evC n C x + f.getD i 0 * x ^ i * polyv g x) := by
  have := iterN_inv (f := mp2 q f g i) (s0 := C) (Inv := fun k D => k ≤ g.length → Cg q (evC n D x) (evC n C x + f.getD i 0 * x ^ i * sumN k fun j => g.getD j 0 * x ^ j)) (fun _ => by simp only [sumN]; rw [Int.mul_zero, Int.add_zero]; exact Cg_refl _) g.length (fun k D hk hv _ => by
    refine Cg_trans (mp2_ev (by omega)) ?_
    rw [sumN, Int.mul_add, ← Int.add_assoc]
    exact Cg_add (hv (by omega)) (Cg_refl _))
  exact this (Nat.le_refl _)

theorem mpN_ev {q x : Int} {f g : List Int} (hg : 1 ≤ g.length) : Cg q (polyv (mulP q f g) x) (polyv f x * polyv g x) := by
  rw [mulP, polyv_row]
  have := iterN_inv (f := mp1 q f g) (s0 := fun _ => 0) (Inv := fun i D => i ≤ f.length → Cg q (evC (f.length + g.length - 1) D x) ((sumN i fun j => f.getD j 0 * x ^ j) * polyv g x)) (fun _ => by
    have e0 : evC (f.length + g.length - 1) (fun _ => 0) x = 0 := sumN_zero _ fun t _ => by simp
    rw [e0]; simp only [sumN]; rw [Int.zero_mul]; exact Cg_refl _) f.length (fun i D hi hv _ => by
    refine Cg_trans (mp1_ev (by omega)) ?_
    rw [sumN, Int.add_mul]
    exact Cg_add (hv (by omega)) (Cg_refl _))
  exact this (Nat.le_refl _)

theorem mulP_inF {q : Int} {f g : List Int} (hq : 2 ≤ q) : inF q (mulP q f g) := by
  have h1 : rngC q (mpN q f g) := iterN_inv (Inv := fun _ C => rngC q C) (fun t => ⟨by omega, by omega⟩) _ fun i C _ hv => iterN_inv (Inv := fun _ C => rngC q C) hv _ fun k C _ hw => mp2_rng hq hw
  intro a ha
  obtain ⟨t, _, rfl⟩ := List.mem_map.1 ha
  exact h1 t

theorem mulP_len {q : Int} {f g : List Int} : (mulP q f g).length = f.length + g.length - 1 := rowN_len ..

theorem mulPolys_eq {q : Int} {f g : List Int} (hq : 2 ≤ q ∧ q ≤ 2000000000) (hf : inF q f) (hg : inF q g) (hfl : 1 ≤ f.length ∧ f.length ≤ 1000) (hgl : 1 ≤ g.length ∧ g.length ≤ 1000) : M_I_mulPolys (q, f, g) = some (mulP q f g) := by
  unfold M_I_mulPolys
  dsimp only
  have hg0 : guardO (q != 0) = some () := guardO_of (bne_iff_ne.2 (by omega))
  have hN : IntKind.wrap .i64 (IntKind.wrap .i64 ((f.length : Int) + (g.length : Int)) - 1) = ((f.length + g.length - 1 : Nat) : Int) := by
    rw [i64_in ((f.length : Int) + (g.length : Int)) (by omega), i64_in _ (by omega)]
    omega
  have hlim : (((f.length + g.length - 1 : Nat) : Int)) ≤ ((lim : Nat) : Int) := by rw [lim_eq]; omega
  rw [show (((f.length : Nat) : Int) == 0) = false from beq_eq_false_iff_ne.2 (by omega), show (((g.length : Nat) : Int) == 0) = false from beq_eq_false_iff_ne.2 (by omega), cond_false, cond_false, bindO_some', bindO_some', hN, guardO_of (by simpa using hlim), bindO_some', Int.toNat_natCast, ← rowN_zero]
  unfold mulP
  generalize hn : f.length + g.length - 1 = n
  refine iter_loop (mp1 q f g) (fun _ => 0) f.length (fun i C => (i, rowN n C)) (fun C => some (rowN n C)) (fun _ C => rngC q C) (by omega) (fun t => ⟨Int.le_refl 0, show (0 : Int) < q by omega⟩) (fun i C _ hv => iterN_inv (Inv := fun _ C => rngC q C) hv _ fun k C _ hw => mp2_rng hq.1 hw) (fun again i C hi hv => ?_) (fun again C hv => ?_)
  · have hfi := getD_at (d := (0 : Int)) hi
    have hfr := inF_get hf hi
    simp only [lt_yes hi, cond_true, getI_nat, hfi, bindO_some']
    refine iter_loop (mp2 q f g i) C g.length (fun k C => (k, rowN n C)) (fun C => again (((i + 1 : Nat) : Int), rowN n C)) (fun _ C => rngC q C) (by omega) hv (fun k C _ hw => mp2_rng hq.1 hw) (fun again2 k C hk hw => ?_) (fun again2 C hw => ?_)
    · have hgk := getD_at (d := (0 : Int)) hk
      have hgr := inF_get hg hk
      have hik : i + k < n := by omega
      have hp := prod_small hq.2 hfr hgr
      have hC := hw (i + k)
      have r1 := Int.emod_nonneg (f.getD i 0 * g.getD k 0) (show q ≠ 0 by omega)
      have r2 := Int.emod_lt_of_pos (f.getD i 0 * g.getD k 0) (show 0 < q by omega)
      simp only [lt_yes hk, cond_true, getI_nat, hgk, bindO_some', i64_addN (show i + k ≤ 1000000 by omega), rowN_get hik, i64_in (f.getD i 0 * g.getD k 0) (by omega), hg0, tmod_nn hp.1, i64_in (C (i + k) + f.getD i 0 * g.getD k 0 % q) (by omega), tmod_nn (show 0 ≤ C (i + k) + f.getD i 0 * g.getD k 0 % q by omega), Int.toNat_natCast, i64_succ (show k < 2 ^ 62 by omega), rowN_set]
      rfl
    · simp only [lt_no, cond_false, i64_succ (show i < 2 ^ 62 by omega)]
  · simp only [lt_no, cond_false]

def prodT (l : List Int) (x : Int) (t : Nat) : Int := iterN (fun j p => p * (x - l.getD j 0)) 1 t

def skipT (l : List Int) (i : Nat) (x : Int) (t : Nat) : Int := iterN (fun j p => if j = i then p else p * (x - l.getD j 0)) 1 t

def othersL (l : List Int) (i : Nat) : List Int := l.take i ++ l.drop (i + 1)

theorem others_len {l : List Int} {i : Nat} (hi : i < l.length) : (othersL l i).length = l.length - 1 := by
  simp only [othersL, List.length_append, List.length_take, List.length_drop]
  omega

theorem others_get {l : List Int} {i j : Nat} (hi : i < l.length) : (othersL l i).getD j 0 = if j < i then l.getD j 0 else l.getD (j + 1) 0 := by
  unfold othersL
  rw [List.getD_eq_getElem?_getD]
  by_cases h : j < i
  · rw [if_pos h, List.getElem?_append_left (by rw [List.length_take]; omega), List.getElem?_take, if_pos h, List.getD_eq_getElem?_getD]
  · rw [if_neg h, List.getElem?_append_right (by rw [List.length_take]; omega), List.getElem?_drop, List.length_take, show i + 1 + (j - min i l.length) = j + 1 by omega, List.getD_eq_getElem?_getD]

theorem skip_others {l : List Int} {i : Nat} {x : Int} (hi : i < l.length) : ∀ t, skipT l i x t = prodT (othersL l i) x (if t ≤ i then t else t - 1)
  | 0 => rfl
  | t + 1 => by
    have e : skipT l i x (t + 1) = if t = i then skipT l i x t else skipT l i x t * (x - l.getD t 0) := rfl
    rw [e, skip_others hi t]
    by_cases h1 : t = i
    · subst h1
      rw [if_pos rfl, if_pos (Nat.le_refl _), if_neg (by omega), Nat.add_sub_cancel]
    · rw [if_neg h1]
      by_cases h2 : t < i
      · rw [if_pos (by omega), if_pos (by omega)]
        show _ = prodT (othersL l i) x t * (x - (othersL l i).getD t 0)
        rw [others_get hi, if_pos h2]
      · rw [if_neg (by omega), if_neg (by omega), show t + 1 - 1 = (t - 1) + 1 by omega]
        show _ = prodT (othersL l i) x (t - 1) * (x - (othersL l i).getD (t - 1) 0)
        rw [others_get hi, if_neg (by omega), show t - 1 + 1 = t by omega]

theorem skip_all {l : List Int} {i : Nat} {x : Int} (hi : i < l.length) : skipT l i x l.length = prodT (othersL l i) x (othersL l i).length := by
  rw [skip_others hi, if_neg (by omega), others_len hi]

/-- Distinct points do not meet. -/
theorem skip_ne {q : Int} {l : List Int} {i : Nat} (hq : IsP q) (hq2 : q ≤ 2000000000) (hl : inF q l) (hn : l.Nodup) (hi : i < l.length) : ∀ t, t ≤ l.length → skipT l i (l.getD i 0) t % q ≠ 0
  | 0, _ => by
    show (1 : Int) % q ≠ 0
    have := hq.1
    rw [Int.emod_eq_of_lt (by omega) (by omega)]
    omega
  | t + 1, ht => by
    have e : skipT l i (l.getD i 0) (t + 1) = if t = i then skipT l i (l.getD i 0) t else skipT l i (l.getD i 0) t * (l.getD i 0 - l.getD t 0) := rfl
    rw [e]
    split
    · exact skip_ne hq hq2 hl hn hi t (by omega)
    · rename_i hti
      refine mul_ne hq hq2 (skip_ne hq hq2 hl hn hi t (by omega)) fun h0 => ?_
      have a1 := inF_get hl hi
      have a2 := inF_get hl (show t < l.length by omega)
      have hne : l.getD i 0 ≠ l.getD t 0 := fun he => by
        have g1 := getD_at (d := (0 : Int)) hi
        have g2 := getD_at (d := (0 : Int)) (show t < l.length by omega)
        rw [he, ← g2] at g1
        exact hti (((List.getElem?_inj hi hn).1 g1).symm)
      obtain ⟨u, hu⟩ := Int.dvd_of_emod_eq_zero h0
      rcases Int.lt_trichotomy u 0 with h | h | h
      · have : q * u ≤ q * (-1) := Int.mul_le_mul_of_nonneg_left (by omega) (by omega)
        omega
      · rw [h, Int.mul_zero] at hu
        omega
      · have : q * 1 ≤ q * u := Int.mul_le_mul_of_nonneg_left (by omega) (by omega)
        omega

def frN (q : Int) (roots : List Int) : List Int := iterN (fun j acc => mulP q acc [(-(roots.getD j 0)) % q, 1]) [1] roots.length

theorem pair_inF {q c : Int} (hq : 2 ≤ q) : inF q [c % q, 1] := by
  intro a ha
  simp only [List.mem_cons, List.not_mem_nil, or_false] at ha
  rcases ha with rfl | rfl
  · exact ⟨Int.emod_nonneg _ (by omega), Int.emod_lt_of_pos _ (by omega)⟩
  · omega

def FrOK (q : Int) (roots : List Int) (t : Nat) (acc : List Int) : Prop := acc.length = t + 1 ∧ inF q acc ∧ ∀ x, Cg q (polyv acc x) (prodT roots x t)

theorem fr_step {q : Int} {roots acc : List Int} {t : Nat} (hq : 2 ≤ q) (h : FrOK q roots t acc) : FrOK q roots (t + 1) (mulP q acc [(-(roots.getD t 0)) % q, 1]) := by
  obtain ⟨h1, h2, h3⟩ := h
  refine ⟨by rw [mulP_len, h1]; rfl, mulP_inF hq, fun x => Cg_trans (mpN_ev (by simp)) ?_⟩
  refine Cg_mul (h3 x) ?_
  have e : polyv [(-(roots.getD t 0)) % q, 1] x = (-(roots.getD t 0)) % q + x := by
    simp [polyv, sumN, Int.pow_succ]
  rw [e, show x - roots.getD t 0 = -(roots.getD t 0) + x by omega]
  exact Cg_add (Cg_mod _) (Cg_refl _)

theorem fr_zero {q : Int} (hq : 2 ≤ q) (roots : List Int) : FrOK q roots 0 [1] := ⟨rfl, fun a ha => by simp only [List.mem_cons, List.not_mem_nil, or_false] at ha; omega, fun x => by
  have e : polyv [1] x = 1 := by simp [polyv, sumN]
  rw [e]
  exact Cg_refl _⟩

theorem frN_ok {q : Int} (hq : 2 ≤ q) (roots : List Int) : FrOK q roots roots.length (frN q roots) := iterN_inv (Inv := fun t acc => FrOK q roots t acc) (fr_zero hq roots) roots.length fun _ _ _ hv => fr_step hq hv

theorem fromRoots_eq {q : Int} {roots : List Int} (hq : 2 ≤ q ∧ q ≤ 2000000000) (hr : ∀ a ∈ roots, -2000000000 ≤ a ∧ a ≤ 2000000000) (hl : roots.length ≤ 100) : M_I_fromRoots (q, roots) = some (frN q roots) := by
  unfold M_I_fromRoots
  dsimp only
  refine iter_loop (fun j acc => mulP q acc [(-(roots.getD j 0)) % q, 1]) [1] roots.length (fun i acc => (acc, i)) (fun acc => some acc) (fun t acc => FrOK q roots t acc) (by omega) (fr_zero hq.1 roots) (fun _ _ _ hv => fr_step hq.1 hv) (fun again i acc hi hv => ?_) (fun again acc hv => ?_)
  · obtain ⟨h1, h2, h3⟩ := hv
    have ha := getD_at (d := (0 : Int)) hi
    have hr := hr _ (List.mem_of_getElem? ha)
    simp only [lt_yes hi, cond_true, getI_nat, ha, bindO_some', Int.zero_sub, i64_in (-(roots.getD i 0)) (by omega), mod_eq, nMod_eq (show 1 ≤ q by omega) (show q ≤ 4611686018427387903 by omega), mulPolys_eq hq h2 (pair_inF (c := -(roots.getD i 0)) hq.1) (show 1 ≤ acc.length ∧ acc.length ≤ 1000 by omega) (show 1 ≤ [(-(roots.getD i 0)) % q, 1].length ∧ [(-(roots.getD i 0)) % q, 1].length ≤ 1000 by simp), i64_succ (show i < 2 ^ 62 by omega)]
  · simp only [lt_no, cond_false]

theorem delete_eq {l : List Int} {i : Nat} (hi : i < l.length) : M_slices_Delete_sint_int (l, (i : Int), ((i + 1 : Nat) : Int)) = some (othersL l i) := by
  unfold M_slices_Delete_sint_int
  dsimp only
  rw [if_pos ⟨⟨by omega, by omega⟩, by omega, by omega⟩, Int.toNat_natCast, Int.toNat_natCast]
  rfl

theorem mem_others {l : List Int} {i : Nat} {a : Int} (h : a ∈ othersL l i) : a ∈ l := by
  rcases List.mem_append.1 h with h | h
  · exact List.mem_of_mem_take h
  · exact List.mem_of_mem_drop h

/-- The basis polynomial at point i: 1 there, 0 at the othersL. -/
theorem basisAt_eq {q : Int} {xs : List Int} {i : Nat} (hq : IsP q) (hq2 : q ≤ 2000000000) (hx : inF q xs) (hn : xs.Nodup) (hl : xs.length ≤ 100) (hi : i < xs.length) :
    ∃ h c, M_I_basisAt (q, xs, (i : Int)) = some h ∧ h.length = xs.length ∧ inF q h ∧ (∀ x, Cg q (polyv h x) (skipT xs i x xs.length * c)) ∧ (0 ≤ c ∧ c < q) ∧ Cg q (skipT xs i (xs.getD i 0) xs.length * c) 1 ∧ M_S_nInverse (skipT xs i (xs.getD i 0) xs.length % q, q) = some (c, true) := by
  have hq1 := hq.1
  have hxi := inF_get hx hi
  have hne := skip_ne hq hq2 hx hn hi xs.length (Nat.le_refl _)
  have r1 := Int.emod_nonneg (skipT xs i (xs.getD i 0) xs.length) (show q ≠ 0 by omega)
  have r2 := Int.emod_lt_of_pos (skipT xs i (xs.getD i 0) xs.length) (show 0 < q by omega)
  obtain ⟨c, c1, c2, c3, c4⟩ := inv_both hq hq2 (a := skipT xs i (xs.getD i 0) xs.length % q) (by omega)
  have hol := others_len hi
  have hoe : ∀ a ∈ othersL xs i, -2000000000 ≤ a ∧ a ≤ 2000000000 := fun a ha => by have := hx a (mem_others ha); omega
  obtain ⟨f1, f2, f3⟩ := frN_ok (q := q) hq1 (othersL xs i)
  have hev := Cg_eq (f3 (xs.getD i 0))
  rw [← skip_all hi] at hev
  have hc : inF q [c] := fun a ha => by simp only [List.mem_cons, List.not_mem_nil, or_false] at ha; omega
  refine ⟨mulP q (frN q (othersL xs i)) [c], c, ?_, ?_, mulP_inF hq1, fun x => ?_, c1, ?_, c4⟩
  · unfold M_I_basisAt
    dsimp only
    rw [clone_eq (by omega), bindO_some', i64_succ (by omega), bindO_some', delete_eq hi, bindO_some', fromRoots_eq ⟨hq1, hq2⟩ hoe (by omega), bindO_some', getI_nat, getD_at (d := (0 : Int)) hi, bindO_some', evalPoly_eq ⟨hq1, hq2⟩ hxi f2 (by omega), bindO_some', hev, c3, bindO_some',
      mulPolys_eq ⟨hq1, hq2⟩ f2 hc (by omega) (by simp), bindO_some']
  · rw [mulP_len, f1, hol]
    simp
    omega
  · refine Cg_trans (mpN_ev (by simp)) ?_
    rw [skip_all hi]
    refine Cg_mul (f3 x) ?_
    have e : polyv [c] x = c := by simp [polyv, sumN]
    rw [e]
    exact Cg_refl _
  · refine Cg_of ?_
    rw [Int.mul_emod] at c2
    rw [Int.emod_emod_of_dvd _ (Int.dvd_refl q), ← Int.mul_emod] at c2
    rw [c2, Int.emod_eq_of_lt (by omega) (by omega)]

noncomputable def cI (q : Int) (xs : List Int) (i : Nat) : Int := ((M_S_nInverse (skipT xs i (xs.getD i 0) xs.length % q, q)).getD (0, false)).1

theorem basisAt_c {q : Int} {xs : List Int} {i : Nat} (hq : IsP q) (hq2 : q ≤ 2000000000) (hx : inF q xs) (hn : xs.Nodup) (hl : xs.length ≤ 100) (hi : i < xs.length) :
    ∃ h, M_I_basisAt (q, xs, (i : Int)) = some h ∧ h.length = xs.length ∧ inF q h ∧ (∀ x, Cg q (polyv h x) (skipT xs i x xs.length * cI q xs i)) ∧ (0 ≤ cI q xs i ∧ cI q xs i < q) ∧ Cg q (skipT xs i (xs.getD i 0) xs.length * cI q xs i) 1 ∧ M_S_nInverse (skipT xs i (xs.getD i 0) xs.length % q, q) = some (cI q xs i, true) := by
  obtain ⟨h, c, h1, h2, h3, h4, h5, h6, h7⟩ := basisAt_eq hq hq2 hx hn hl hi
  have hc : cI q xs i = c := by unfold cI; rw [h7]; rfl
  rw [hc]
  exact ⟨h, h1, h2, h3, h4, h5, h6, h7⟩

noncomputable def lagL (q : Int) (xs : List Int) (x : Int) : List Int := (List.range xs.length).map fun i => skipT xs i x xs.length * cI q xs i % q

theorem lagL_len {q : Int} {xs : List Int} {x : Int} : (lagL q xs x).length = xs.length := by simp [lagL]

theorem lagL_get {q : Int} {xs : List Int} {x : Int} {i : Nat} (hi : i < xs.length) : (lagL q xs x)[i]? = some (skipT xs i x xs.length * cI q xs i % q) := by
  rw [lagL, List.getElem?_map, List.getElem?_range hi]
  rfl

theorem lagL_inF {q : Int} {xs : List Int} {x : Int} (hq : 2 ≤ q) : inF q (lagL q xs x) := by
  intro a ha
  obtain ⟨t, _, rfl⟩ := List.mem_map.1 ha
  exact ⟨Int.emod_nonneg _ (by omega), Int.emod_lt_of_pos _ (by omega)⟩

theorem lagrange_eq {q x : Int} {xs : List Int} (hq : IsP q) (hq2 : q ≤ 2000000000) (hx : inF q xs) (hn : xs.Nodup) (hl : xs.length ≤ 100) (hxr : 0 ≤ x ∧ x < q) : M_I_lagrange (q, xs, x) = some (lagL q xs x) := by
  unfold M_I_lagrange
  dsimp only
  refine append_loop (lagL q xs x) some (fun again i a s ha hi hs => ?_) (fun again s hs => ?_) (by rw [lagL_len]; omega)
  · rw [lagL_len] at hi
    rw [lagL_get hi] at ha
    cases ha
    obtain ⟨h, h1, h2, h3, h4, _⟩ := basisAt_c hq hq2 hx hn hl hi
    have g3 : ∀ z : Int, guardO (lenOk (s.length + [z].length)) = some () := fun z => guardO_of (lenOk_of (by simp only [List.length_cons, List.length_nil]; omega))
    simp only [lt_yes hi, cond_true, h1, bindO_some', evalPoly_eq ⟨hq.1, hq2⟩ hxr h3 (show h.length < 2 ^ 30 by omega), Cg_eq (h4 x), g3, i64_succ (show i < 2 ^ 62 by omega)]
  · rw [lagL_len]
    simp only [lt_no, cond_false]

theorem skipT_succ {l : List Int} {i : Nat} {x : Int} {t : Nat} : skipT l i x (t + 1) = if t = i then skipT l i x t else skipT l i x t * (x - l.getD t 0) := rfl

theorem mp2_same {q : Int} {f g : List Int} {i k : Nat} {C : Nat → Int} : (C (i + k) + f.getD i 0 * g.getD k 0) % q = (C (i + k) + f.getD i 0 * g.getD k 0 % q) % q :=
  Cg_eq (Cg_add (Cg_refl _) (Cg_symm (Cg_mod _)))

theorem yMul_eq {q : Int} {f g : List Int} (hq : 2 ≤ q ∧ q ≤ 2000000000) (hf : inF q f) (hg : inF q g) (hfl : 1 ≤ f.length ∧ f.length ≤ 1000) (hgl : 1 ≤ g.length ∧ g.length ≤ 1000) : M_S_yMul (q, f, g) = some (mulP q f g) := by
  unfold M_S_yMul
  dsimp only
  have hg0 : guardO (q != 0) = some () := guardO_of (bne_iff_ne.2 (by omega))
  have hN : IntKind.wrap .i64 (IntKind.wrap .i64 ((f.length : Int) + (g.length : Int)) - 1) = ((f.length + g.length - 1 : Nat) : Int) := by
    rw [i64_in ((f.length : Int) + (g.length : Int)) (by omega), i64_in _ (by omega)]
    omega
  have hlim : (((f.length + g.length - 1 : Nat) : Int)) ≤ ((lim : Nat) : Int) := by rw [lim_eq]; omega
  rw [show (((f.length : Nat) : Int) == 0) = false from beq_eq_false_iff_ne.2 (by omega), show (((g.length : Nat) : Int) == 0) = false from beq_eq_false_iff_ne.2 (by omega), cond_false, cond_false, bindO_some', bindO_some', hN, guardO_of (by simpa using hlim), bindO_some', Int.toNat_natCast, ← rowN_zero]
  unfold mulP
  generalize hn : f.length + g.length - 1 = n
  refine iter_loop (mp1 q f g) (fun _ => 0) f.length (fun i C => (i, rowN n C)) (fun C => some (rowN n C)) (fun _ C => rngC q C) (by omega) (fun t => ⟨Int.le_refl 0, show (0 : Int) < q by omega⟩) (fun i C _ hv => iterN_inv (Inv := fun _ C => rngC q C) hv _ fun k C _ hw => mp2_rng hq.1 hw) (fun again i C hi hv => ?_) (fun again C hv => ?_)
  · have hfi := getD_at (d := (0 : Int)) hi
    have hfr := inF_get hf hi
    simp only [lt_yes hi, cond_true, getI_nat, hfi, bindO_some']
    refine iter_loop (mp2 q f g i) C g.length (fun k C => (k, rowN n C)) (fun C => again (((i + 1 : Nat) : Int), rowN n C)) (fun _ C => rngC q C) (by omega) hv (fun k C _ hw => mp2_rng hq.1 hw) (fun again2 k C hk hw => ?_) (fun again2 C hw => ?_)
    · have hgk := getD_at (d := (0 : Int)) hk
      have hgr := inF_get hg hk
      have hik : i + k < n := by omega
      have hp := prod_small hq.2 hfr hgr
      have hC := hw (i + k)
      simp only [lt_yes hk, cond_true, getI_nat, hgk, bindO_some', i64_addN (show i + k ≤ 1000000 by omega), rowN_get hik, i64_in (f.getD i 0 * g.getD k 0) (by omega), hg0, i64_in (C (i + k) + f.getD i 0 * g.getD k 0) (by omega), tmod_nn (show 0 ≤ C (i + k) + f.getD i 0 * g.getD k 0 by omega), Int.toNat_natCast, i64_succ (show k < 2 ^ 62 by omega), rowN_set, mp2_same]
      rfl
    · simp only [lt_no, cond_false, i64_succ (show i < 2 ^ 62 by omega)]
  · simp only [lt_no, cond_false]

theorem yRoots_eq {q : Int} {roots : List Int} (hq : 2 ≤ q ∧ q ≤ 2000000000) (hr : ∀ a ∈ roots, -2000000000 ≤ a ∧ a ≤ 2000000000) (hl : roots.length ≤ 100) : M_S_yRoots (q, roots) = some (frN q roots) := by
  unfold M_S_yRoots
  dsimp only
  unfold frN
  refine iter_loop (fun j acc => mulP q acc [(-(roots.getD j 0)) % q, 1]) [1] roots.length (fun i acc => (acc, i)) (fun acc => some acc) (fun t acc => FrOK q roots t acc) (by omega) (fr_zero hq.1 roots) (fun t acc _ hv => fr_step hq.1 hv) (fun again t acc ht hv => ?_) (fun again acc hv => ?_)
  · have hg := getD_at (d := (0 : Int)) ht
    have hb := hr _ (List.mem_of_getElem? hg)
    simp only [lt_yes ht, cond_true, getI_nat, hg, bindO_some', i64_in (0 - roots.getD t 0) (by omega), nMod_eq (show 1 ≤ q by omega) (show q ≤ 4611686018427387903 by omega)]
    rw [Int.zero_sub, yMul_eq hq hv.2.1 (pair_inF hq.1) (by have := hv.1; omega) (by simp), bindO_some', i64_succ (by omega)]
  · simp only [lt_no, cond_false]

theorem yEval_eq {q x : Int} {f : List Int} (hq : 2 ≤ q ∧ q ≤ 2000000000) (hx : 0 ≤ x ∧ x < q) (hf : inF q f) (hl : f.length < 2 ^ 30) : M_S_yEval (q, f, x) = some (polyv f x % q) := by
  unfold M_S_yEval
  dsimp only
  rw [i64_in _ (by omega), bindO_some']
  have key := iter_loop (fun k (s : Int) => (s * x + f.getD (f.length - 1 - k) 0) % q) 0 f.length (fun i s => (s, (f.length : Int) - 1 - i)) (fun s => some s) (fun k s => s = (sumN k fun t => f.getD (f.length - k + t) 0 * x ^ t) % q)
    (body := fun (again1 : (Int × Int) → Option Int) (s2 : Int × Int) => cond (decide (s2.2 ≥ 0)) (bindO (some (IntKind.wrap .i64 (s2.1 * x))) fun a3 => bindO (getI f s2.2) fun a4 => bindO (some (IntKind.wrap .i64 (a3 + a4))) fun a5 => bindO (guardO (q != 0)) fun _ => bindO (some (Int.tmod a5 q)) fun a7 => bindO (some (IntKind.wrap .i64 (s2.2 - 1))) fun a8 => again1 (a7, a8)) (some s2.1))
    (by omega) (by simp [sumN]) (fun k s hk hv => ?_) (fun again k s hk hv => ?_) (fun again s hv => ?_)
  · rw [Int.sub_zero] at key
    refine key.trans ?_
    have := iterN_inv (f := fun k (s : Int) => (s * x + f.getD (f.length - 1 - k) 0) % q) (s0 := 0) (Inv := fun k s => s = (sumN k fun t => f.getD (f.length - k + t) 0 * x ^ t) % q) (by simp [sumN]) f.length (fun k s hk hv => ?_)
    · rw [this, Nat.sub_self]
      unfold polyv
      congr 3
      funext t
      rw [Nat.zero_add]
    · subst hv
      rw [horner hk]
      exact Cg_eq (Cg_add (Cg_mul (Cg_mod _) (Cg_refl _)) (Cg_refl _))
  · subst hv
    rw [horner hk]
    exact Cg_eq (Cg_add (Cg_mul (Cg_mod _) (Cg_refl _)) (Cg_refl _))
  · have hs : 0 ≤ s ∧ s < q := by
      subst hv
      exact ⟨Int.emod_nonneg _ (by omega), Int.emod_lt_of_pos _ (by omega)⟩
    have hp := prod_small hq.2 hs hx
    have hi : f.length - 1 - k < f.length := by omega
    have hfi := inF_get hf hi
    have hg : getI f ((f.length : Int) - 1 - (k : Int)) = some (f.getD (f.length - 1 - k) 0) := by
      rw [show (f.length : Int) - 1 - (k : Int) = ((f.length - 1 - k : Nat) : Int) by omega, getI_nat, getD_at hi]
    have hg0 : guardO (q != 0) = some () := guardO_of (bne_iff_ne.2 (by omega))
    dsimp only
    rw [decide_eq_true (show (f.length : Int) - 1 - (k : Int) ≥ 0 by omega), cond_true, i64_in (s * x) (by omega), bindO_some', hg, bindO_some', i64_in _ (by omega), bindO_some', hg0, bindO_some', bindO_some', tmod_nn (by omega), i64_in _ (by omega), bindO_some']
    congr 2
    omega
  · dsimp only
    rw [decide_eq_false (show ¬ (f.length : Int) - 1 - (f.length : Int) ≥ 0 by omega), cond_false]

theorem yAdd_eq {q : Int} {n : Nat} {A : Nat → Int} {g : List Int} (hq : 2 ≤ q ∧ q ≤ 2000000000) (hA : rngC q A) (hg : inF q g) (hn : n ≤ 1000) (hl : g.length = n) : M_S_yAdd (q, rowN n A, g) = some (rowN n fun k => if k < n then (A k + g.getD k 0) % q else A k) := by
  have hg0 : guardO (q != 0) = some () := guardO_of (bne_iff_ne.2 (by omega))
  have hlim : ((n : Nat) : Int) ≤ ((lim : Nat) : Int) := by rw [lim_eq]; omega
  have hmost : M_S_l1Most (((n : Nat) : Int), ((n : Nat) : Int)) = some ((n : Nat) : Int) := by
    unfold M_S_l1Most
    dsimp only
    rw [decide_eq_false (by omega), cond_false]
  unfold M_S_yAdd
  dsimp only
  rw [rowN_len, hl, hmost, bindO_some', guardO_of (by simpa using hlim), bindO_some', bindO_some', Int.toNat_natCast, List.length_replicate, show (rowN n A).take n = rowN n A from List.take_of_length_le (by rw [rowN_len]; exact Nat.le_refl _), List.drop_of_length_le (by rw [List.length_replicate]; exact Nat.le_refl _), List.append_nil]
  refine (iter_loop (fun k (C : Nat → Int) => fun t => if t = k then (C k + g.getD k 0) % q else C t) A n (fun i C => (i, rowN n C)) (fun C => some (rowN n C)) (fun k C => ∀ t, C t = if t < k then (A t + g.getD t 0) % q else A t) (by omega) (fun t => by simp) (fun k C hk hv t => ?_) (fun again k C hk hv => ?_) (fun again C hv => ?_)).trans ?_
  · show (if t = k then (C k + g.getD k 0) % q else C t) = _
    by_cases e : t = k
    · subst e
      rw [if_pos rfl, if_pos (by omega), hv, if_neg (by omega)]
    · rw [if_neg e, hv]
      by_cases h2 : t < k
      · rw [if_pos h2, if_pos (by omega)]
      · rw [if_neg h2, if_neg (by omega)]
  · have hgk := getD_at (d := (0 : Int)) (l := g) (i := k) (by omega)
    have hgr := inF_get hg (i := k) (by omega)
    have hC : 0 ≤ C k ∧ C k < q := by
      rw [hv, if_neg (by omega)]
      exact hA k
    simp only [lt_yes hk, cond_true, getI_nat, hgk, bindO_some', rowN_get hk, hg0, i64_in (C k + g.getD k 0) (by omega), tmod_nn (show 0 ≤ C k + g.getD k 0 by omega), Int.toNat_natCast, i64_succ (show k < 2 ^ 62 by omega), rowN_set]
  · simp only [lt_no, cond_false]
  · refine congrArg some (rowN_congr fun k hk => ?_)
    exact iterN_inv (f := fun k (C : Nat → Int) => fun t => if t = k then (C k + g.getD k 0) % q else C t) (s0 := A) (Inv := fun k C => ∀ t, C t = if t < k then (A t + g.getD t 0) % q else A t) (fun t => by simp) n (fun k C hk hv t => by
      show (if t = k then (C k + g.getD k 0) % q else C t) = _
      by_cases e : t = k
      · subst e
        rw [if_pos rfl, if_pos (by omega), hv, if_neg (by omega)]
      · rw [if_neg e, hv]
        by_cases h2 : t < k
        · rw [if_pos h2, if_pos (by omega)]
        · rw [if_neg h2, if_neg (by omega)]) k

noncomputable def bas (q : Int) (xs : List Int) (i : Nat) : List Int := mulP q (frN q (othersL xs i)) [cI q xs i]

theorem bas_ok {q : Int} {xs : List Int} {i : Nat} (hq : IsP q) (hq2 : q ≤ 2000000000) (hx : inF q xs) (hn : xs.Nodup) (hl : xs.length ≤ 100) (hi : i < xs.length) :
    M_I_basisAt (q, xs, (i : Int)) = some (bas q xs i) ∧ (bas q xs i).length = xs.length ∧ inF q (bas q xs i) ∧ (∀ x, Cg q (polyv (bas q xs i) x) (skipT xs i x xs.length * cI q xs i)) ∧ (0 ≤ cI q xs i ∧ cI q xs i < q) ∧ Cg q (skipT xs i (xs.getD i 0) xs.length * cI q xs i) 1 ∧ M_S_nInverse (skipT xs i (xs.getD i 0) xs.length % q, q) = some (cI q xs i, true) ∧
    polyv (frN q (othersL xs i)) (xs.getD i 0) % q = skipT xs i (xs.getD i 0) xs.length % q ∧ FrOK q (othersL xs i) (othersL xs i).length (frN q (othersL xs i)) := by
  have hq1 := hq.1
  have hxi := inF_get hx hi
  have hne := skip_ne hq hq2 hx hn hi xs.length (Nat.le_refl _)
  have r1 := Int.emod_nonneg (skipT xs i (xs.getD i 0) xs.length) (show q ≠ 0 by omega)
  have r2 := Int.emod_lt_of_pos (skipT xs i (xs.getD i 0) xs.length) (show 0 < q by omega)
  obtain ⟨c, c1, c2, c3, c4⟩ := inv_both hq hq2 (a := skipT xs i (xs.getD i 0) xs.length % q) (by omega)
  have hol := others_len hi
  have hoe : ∀ a ∈ othersL xs i, -2000000000 ≤ a ∧ a ≤ 2000000000 := fun a ha => by have := hx a (mem_others ha); omega
  have hfr := frN_ok (q := q) hq1 (othersL xs i)
  obtain ⟨f1, f2, f3⟩ := id hfr
  have hev := Cg_eq (f3 (xs.getD i 0))
  rw [← skip_all hi] at hev
  have hcI : cI q xs i = c := by unfold cI; rw [c4]; rfl
  obtain ⟨h, e1, e2, e3, e4, e5, e6, e7⟩ := basisAt_c hq hq2 hx hn hl hi
  have hc : inF q [cI q xs i] := fun a ha => by simp only [List.mem_cons, List.not_mem_nil, or_false] at ha; omega
  have hb : M_I_basisAt (q, xs, (i : Int)) = some (bas q xs i) := by
    unfold M_I_basisAt
    dsimp only
    rw [clone_eq (by omega), bindO_some', i64_succ (by omega), bindO_some', delete_eq hi, bindO_some', fromRoots_eq ⟨hq1, hq2⟩ hoe (by omega), bindO_some', getI_nat, getD_at (d := (0 : Int)) hi, bindO_some', evalPoly_eq ⟨hq1, hq2⟩ hxi f2 (by omega), bindO_some', hev, c3, bindO_some', ← hcI,
      mulPolys_eq ⟨hq1, hq2⟩ f2 hc (by omega) (by simp), bindO_some']
    rfl
  rw [e1] at hb
  have hh : h = bas q xs i := Option.some.inj hb
  subst hh
  exact ⟨e1, e2, e3, e4, e5, e6, e7, hev, hfr⟩

theorem isP_of {q : Int} (h : IsP q) : isP q = true := by
  unfold isP
  exact @decide_eq_true _ (Classical.propDecidable _) h

theorem mulP_one {q c : Int} {F : List Int} {k : Nat} (hk : k < F.length) : (mulP q F [c]).getD k 0 = F.getD k 0 * c % q := by
  have h : ∀ t, mpN q F [c] t = if t < F.length then F.getD t 0 * c % q else 0 := by
    unfold mpN
    refine iterN_inv (Inv := fun n (C : Nat → Int) => ∀ t, C t = if t < n then F.getD t 0 * c % q else 0) (fun t => by simp) F.length fun n C hn hv t => ?_
    unfold mp1
    show mp2 q F [c] n 0 C t = _
    unfold mp2
    by_cases e : t = n + 0
    · rw [if_pos e, if_pos (by omega), hv, if_neg (by omega), Int.zero_add, e]
      simp
    · rw [if_neg e, hv]
      by_cases h2 : t < n
      · rw [if_pos h2, if_pos (by omega)]
      · rw [if_neg h2, if_neg (by omega)]
  have hg : (mulP q F [c])[k]? = some (mpN q F [c] k) := by
    unfold mulP
    exact rowN_get (by simpa using hk)
  rw [List.getD_eq_getElem?_getD, hg, Option.getD_some, h, if_pos hk]

/-- One point is brought in. -/
noncomputable def itS (q : Int) (xs ys : List Int) (i : Nat) (C : Nat → Int) : Nat → Int := fun k => if k < xs.length then (C k + (bas q xs i).getD k 0 * ys.getD i 0 % q) % q else C k

noncomputable def itL (q : Int) (xs ys : List Int) : List Int := rowN xs.length (iterN (itS q xs ys) (fun _ => 0) xs.length)

theorem itS_rng {q : Int} {xs ys : List Int} {i : Nat} {C : Nat → Int} (hq : 2 ≤ q) (h : rngC q C) : rngC q (itS q xs ys i C) := fun t => by
  unfold itS
  by_cases e : t < xs.length
  · rw [if_pos e]
    exact ⟨Int.emod_nonneg _ (by omega), Int.emod_lt_of_pos _ (by omega)⟩
  · rw [if_neg e]
    exact h t

theorem yInterpolate_eq {q : Int} {xs ys : List Int} (hq : IsP q) (hq2 : q ≤ 2000000000) (hx : inF q xs) (hn : xs.Nodup) (hl : xs.length ≤ 100) (hy : inF q ys) (hyl : ys.length = xs.length) : M_S_yInterpolate (q, xs, ys) = some (itL q xs ys) := by
  have hq1 := hq.1
  have hg0 : guardO (q != 0) = some () := guardO_of (bne_iff_ne.2 (by omega))
  have hlim : ((xs.length : Nat) : Int) ≤ ((lim : Nat) : Int) := by rw [lim_eq]; omega
  unfold M_S_yInterpolate
  dsimp only
  rw [guardO_of (by simpa using hlim), bindO_some', Int.toNat_natCast, ← rowN_zero]
  unfold itL
  refine iter_loop (itS q xs ys) (fun _ => 0) xs.length (fun i C => (rowN xs.length C, i)) (fun C => some (rowN xs.length C)) (fun _ C => rngC q C) (by omega) (fun t => ⟨Int.le_refl 0, show (0 : Int) < q by omega⟩) (fun i C _ hv => itS_rng hq1 hv) (fun again i C hi hv => ?_) (fun again C hv => ?_)
  · obtain ⟨b1, b2, b3, b4, b5, b6, b7, b8, f1, f2, f3⟩ := bas_ok hq hq2 hx hn hl hi
    have hol := others_len hi
    have hoe : ∀ a ∈ othersL xs i, -2000000000 ≤ a ∧ a ≤ 2000000000 := fun a ha => by have := hx a (mem_others ha); omega
    have hxi := inF_get hx hi
    have hyi := inF_get hy (i := i) (by omega)
    have hp := prod_small hq2 hyi b5
    have r1 := Int.emod_nonneg (ys.getD i 0 * cI q xs i) (show q ≠ 0 by omega)
    have r2 := Int.emod_lt_of_pos (ys.getD i 0 * cI q xs i) (show 0 < q by omega)
    have hown : M_S_l1Own (xs.take i) = some (xs.take i) := by
      unfold M_S_l1Own
      rw [guardO_of (lenOk_of (by rw [List.length_take]; simp only [List.length_nil]; omega)), bindO_some', bindO_some', List.nil_append]
    have hm : inF q [ys.getD i 0 * cI q xs i % q] := fun a ha => by simp only [List.mem_cons, List.not_mem_nil, or_false] at ha; omega
    have hF : (frN q (othersL xs i)).length = xs.length := by omega
    dsimp only
    rw [lt_yes hi, cond_true, getI_nat, getD_at (d := (0 : Int)) hi, bindO_some', sliceNH_nat (by omega), bindO_some']
    dsimp only
    rw [List.drop_zero, hown, bindO_some', i64_succ (by omega), bindO_some', sliceLN_nat (by omega), bindO_some']
    dsimp only
    rw [List.take_of_length_le (Nat.le_refl _), guardO_of (lenOk_of (by rw [List.length_take, List.length_drop]; omega)), bindO_some', bindO_some', show xs.take i ++ xs.drop (i + 1) = othersL xs i from rfl, yRoots_eq ⟨hq1, hq2⟩ hoe (by omega), bindO_some', yEval_eq ⟨hq1, hq2⟩ hxi f2 (by omega), bindO_some', b8, b7, bindO_some']
    dsimp only
    rw [getI_nat, getD_at (d := (0 : Int)) (l := ys) (i := i) (by omega), bindO_some', i64_in _ (by omega), bindO_some', hg0, bindO_some', bindO_some', tmod_nn hp.1,
      yMul_eq ⟨hq1, hq2⟩ f2 hm (by omega) (by simp), bindO_some', yAdd_eq ⟨hq1, hq2⟩ hv (mulP_inF hq1) (by omega) (by rw [mulP_len]; simp only [List.length_cons, List.length_nil]; omega), bindO_some', bindO_some']
    refine congrArg (fun r => again (r, ((i + 1 : Nat) : Int))) (rowN_congr fun k hk => ?_)
    unfold itS
    rw [if_pos hk, if_pos hk, mulP_one (by omega)]
    unfold bas
    rw [mulP_one (by omega)]
    refine Cg_eq (Cg_add (Cg_refl _) ?_)
    refine Cg_trans (Cg_mod _) (Cg_trans ?_ (Cg_symm (Cg_mod _)))
    refine Cg_trans (Cg_mul (Cg_refl _) (Cg_mod _)) (Cg_trans ?_ (Cg_symm (Cg_mul (Cg_mod _) (Cg_refl _))))
    refine ⟨0, ?_⟩
    rw [Int.mul_zero, Int.add_zero, Int.mul_comm (ys.getD i 0), Int.mul_assoc]
  · simp only [lt_no, cond_false]

theorem itLoop_eq {q : Int} {xs ys : List Int} (hq : IsP q) (hq2 : q ≤ 2000000000) (hx : inF q xs) (hn : xs.Nodup) (hl : 1 ≤ xs.length ∧ xs.length ≤ 24) (hy : inF q ys) (hyl : ys.length = xs.length) : M_I_Interpolate (q, xs, ys) = some (itL q xs ys, true) := by
  have hq1 := hq.1
  have hg0 : guardO (q != 0) = some () := guardO_of (bne_iff_ne.2 (by omega))
  have hlim : ((xs.length : Nat) : Int) ≤ ((lim : Nat) : Int) := by rw [lim_eq]; omega
  have hall : (xs.all fun n => decide (0 ≤ n ∧ n ≤ q - 1)) = true := List.all_eq_true.2 fun a ha => decide_eq_true (by have := hx a ha; omega)
  have hally : (ys.all fun n => decide (0 ≤ n ∧ n ≤ q - 1)) = true := List.all_eq_true.2 fun a ha => decide_eq_true (by have := hy a ha; omega)
  have hnd : nodupB xs = true := pdec_iff.2 hn
  have hpts : M_I_arePoints (q, xs) = some true := by
    unfold M_I_arePoints M_I_isPoly M_I_isField
    dsimp only
    rw [decide_eq_true (show ((xs.length : Nat) : Int) > 0 by omega), cond_true, isPrime_eq hq2, bindO_some', bindO_some', isP_of hq, cond_true, decide_eq_true (show ((xs.length : Nat) : Int) ≤ 24 by omega), cond_true, areBelow_eq (by omega) (by omega) (by omega), hall, bindO_some', bindO_some', cond_true, areDifferent_eq (by omega), hnd, bindO_some']
  unfold M_I_Interpolate
  dsimp only
  rw [hpts, bindO_some', Bool.not_true, cond_false, hyl, show (((xs.length : Nat) : Int) != ((xs.length : Nat) : Int)) = false from bne_self_eq_false _, cond_false, areBelow_eq (by omega) (by omega) (by omega), hally, bindO_some', Bool.not_true, cond_false, guardO_of (by simpa using hlim), bindO_some', Int.toNat_natCast, ← rowN_zero]
  unfold itL
  refine iter_loop (itS q xs ys) (fun _ => 0) xs.length (fun i C => (i, rowN xs.length C)) (fun C => some (rowN xs.length C, true)) (fun _ C => rngC q C) (by omega) (fun t => ⟨Int.le_refl 0, show (0 : Int) < q by omega⟩) (fun i C _ hv => itS_rng hq1 hv) (fun again i C hi hv => ?_) (fun again C hv => ?_)
  · obtain ⟨b1, b2, b3, -⟩ := bas_ok hq hq2 hx hn (by omega) hi
    have hyi := inF_get hy (i := i) (by omega)
    dsimp only
    rw [lt_yes hi, cond_true, b1, bindO_some']
    refine (iter_loop (fun k (D : Nat → Int) => fun t => if t = k then (D k + (bas q xs i).getD k 0 * ys.getD i 0 % q) % q else D t) C xs.length (fun k D => (k, rowN xs.length D)) (fun D => again (((i + 1 : Nat) : Int), rowN xs.length D)) (fun k D => ∀ t, D t = if t < k then (C t + (bas q xs i).getD t 0 * ys.getD i 0 % q) % q else C t) (by omega) (fun t => by simp) (fun k D hk hw t => ?_) (fun again2 k D hk hw => ?_) (fun again2 D hw => ?_)).trans ?_
    · show (if t = k then (D k + (bas q xs i).getD k 0 * ys.getD i 0 % q) % q else D t) = _
      by_cases e : t = k
      · subst e
        rw [if_pos rfl, if_pos (by omega), hw, if_neg (by omega)]
      · rw [if_neg e, hw]
        by_cases h2 : t < k
        · rw [if_pos h2, if_pos (by omega)]
        · rw [if_neg h2, if_neg (by omega)]
    · have hbk := getD_at (d := (0 : Int)) (l := bas q xs i) (i := k) (by omega)
      have hbr := inF_get b3 (i := k) (by omega)
      have hp := prod_small hq2 hbr hyi
      have r1 := Int.emod_nonneg ((bas q xs i).getD k 0 * ys.getD i 0) (show q ≠ 0 by omega)
      have r2 := Int.emod_lt_of_pos ((bas q xs i).getD k 0 * ys.getD i 0) (show 0 < q by omega)
      have hD : 0 ≤ D k ∧ D k < q := by
        rw [hw, if_neg (by omega)]
        exact hv k
      have hyg := getD_at (d := (0 : Int)) (l := ys) (i := i) (by omega)
      simp only [b2, lt_yes hk, cond_true, getI_nat, hbk, hyg, bindO_some', rowN_get hk, hg0, i64_in ((bas q xs i).getD k 0 * ys.getD i 0) (by omega), tmod_nn hp.1, i64_in (D k + (bas q xs i).getD k 0 * ys.getD i 0 % q) (by omega), tmod_nn (show 0 ≤ D k + (bas q xs i).getD k 0 * ys.getD i 0 % q by omega), Int.toNat_natCast, i64_succ (show k < 2 ^ 62 by omega), rowN_set]
    · simp only [b2, lt_no, cond_false, i64_succ (show i < 2 ^ 62 by omega), bindO_some']
    · refine congrArg (fun r => again (((i + 1 : Nat) : Int), r)) (rowN_congr fun k hk => ?_)
      refine (iterN_inv (f := fun k (D : Nat → Int) => fun t => if t = k then (D k + (bas q xs i).getD k 0 * ys.getD i 0 % q) % q else D t) (s0 := C) (Inv := fun k D => ∀ t, D t = if t < k then (C t + (bas q xs i).getD t 0 * ys.getD i 0 % q) % q else C t) (fun t => by simp) xs.length (fun k D hk hw t => ?_) k).trans rfl
      show (if t = k then (D k + (bas q xs i).getD k 0 * ys.getD i 0 % q) % q else D t) = _
      by_cases e : t = k
      · subst e
        rw [if_pos rfl, if_pos (by omega), hw, if_neg (by omega)]
      · rw [if_neg e, hw]
        by_cases h2 : t < k
        · rw [if_pos h2, if_pos (by omega)]
        · rw [if_neg h2, if_neg (by omega)]
  · simp only [lt_no, cond_false]

theorem sumN_cg {q : Int} {g h : Nat → Int} : ∀ n, (∀ t, t < n → Cg q (g t) (h t)) → Cg q (sumN n g) (sumN n h)
  | 0, _ => Cg_refl _
  | n + 1, hc => Cg_add (sumN_cg n fun t ht => hc t (by omega)) (hc n (by omega))

theorem itL_ev {q x : Int} {xs ys : List Int} (hq : IsP q) (hq2 : q ≤ 2000000000) (hx : inF q xs) (hn : xs.Nodup) (hl : xs.length ≤ 100) :
    Cg q (polyv (itL q xs ys) x) (sumN xs.length fun i => skipT xs i x xs.length * cI q xs i * ys.getD i 0) := by
  unfold itL
  rw [polyv_row]
  refine iterN_inv (f := itS q xs ys) (s0 := fun _ => 0) (Inv := fun i (C : Nat → Int) => i ≤ xs.length → Cg q (evC xs.length C x) (sumN i fun i => skipT xs i x xs.length * cI q xs i * ys.getD i 0)) (fun _ => ?_) xs.length (fun i C hi hv _ => ?_) (Nat.le_refl _)
  · refine ⟨0, ?_⟩
    have : ∀ n, sumN n (fun t => (0 : Int) * x ^ t) = 0 := fun n => by
      induction n with
      | zero => rfl
      | succ n ih =>
        show sumN n (fun t => (0 : Int) * x ^ t) + 0 * x ^ n = 0
        rw [ih, Int.zero_mul]
        rfl
    show sumN xs.length (fun t => (0 : Int) * x ^ t) = _
    rw [this]
    simp [sumN]
  · obtain ⟨b1, b2, b3, b4, -⟩ := bas_ok hq hq2 hx hn hl hi
    refine Cg_trans ?_ (Cg_add (hv (by omega)) (Cg_mul (b4 x) (Cg_refl (ys.getD i 0))))
    unfold evC polyv
    rw [b2, Int.mul_comm (sumN _ _), ← sumN_mulL, ← sumN_addF]
    refine sumN_cg _ fun t ht => ?_
    unfold itS
    rw [if_pos ht]
    refine Cg_trans (Cg_mul (Cg_trans (Cg_mod _) (Cg_add (Cg_refl _) (Cg_mod _))) (Cg_refl _)) ⟨0, ?_⟩
    rw [Int.mul_zero, Int.add_zero, Int.add_mul, Int.mul_comm ((bas q xs i).getD t 0) (ys.getD i 0), Int.mul_assoc]

theorem skip_zero {l : List Int} {i k : Nat} (h : k ≠ i) : ∀ t, k < t → skipT l i (l.getD k 0) t = 0
  | 0, h0 => absurd h0 (Nat.not_lt_zero _)
  | t + 1, h0 => by
    rw [skipT_succ]
    by_cases e : k = t
    · rw [if_neg (by omega), e, Int.sub_self, Int.mul_zero]
    · have ih := skip_zero (l := l) h t (by omega)
      rw [ih]
      by_cases e2 : t = i
      · rw [if_pos e2]
      · rw [if_neg e2, Int.zero_mul]

theorem itL_at {q : Int} {xs ys : List Int} {k : Nat} (hq : IsP q) (hq2 : q ≤ 2000000000) (hx : inF q xs) (hn : xs.Nodup) (hl : xs.length ≤ 100) (hk : k < xs.length) :
    Cg q (polyv (itL q xs ys) (xs.getD k 0)) (ys.getD k 0) := by
  refine Cg_trans (itL_ev hq hq2 hx hn hl) ?_
  have h1 : Cg q (sumN xs.length fun i => skipT xs i (xs.getD k 0) xs.length * cI q xs i * ys.getD i 0) (sumN xs.length fun i => if i = k then ys.getD k 0 else 0) := sumN_cg _ fun i hi => by
    by_cases e : i = k
    · subst e
      obtain ⟨b1, b2, b3, b4, b5, b6, -⟩ := bas_ok hq hq2 hx hn hl hi
      rw [if_pos rfl]
      refine Cg_trans (Cg_mul b6 (Cg_refl _)) ⟨0, by omega⟩
    · rw [if_neg e, skip_zero (fun h => e h.symm) _ hk]
      exact ⟨0, by simp⟩
  refine Cg_trans h1 ⟨0, ?_⟩
  have := sumN_upd (fun _ => 0) k (ys.getD k 0) xs.length
  rw [this, if_pos hk]
  have h0 : ∀ n, sumN n (fun _ => (0 : Int)) = 0 := fun n => by
    induction n with
    | zero => rfl
    | succ n ih => simp [sumN, ih]
  rw [h0]
  omega

theorem dotG {q : Int} {a b : List Int} (hq : 2 ≤ q ∧ q ≤ 2000000000) (ha : inF q a) (hb : inF q b) (hl : b.length = a.length) (hn : a.length ≤ 1000) : M_I_dot (a, b, q) = some (sumN a.length (fun i => a.getD i 0 * b.getD i 0) % q) := by
  have hg0 : guardO (q != 0) = some () := guardO_of (bne_iff_ne.2 (by omega))
  unfold M_I_dot
  dsimp only
  refine (iter_loop (fun i (s : Int) => (s + a.getD i 0 * b.getD i 0 % q) % q) 0 a.length (fun i s => (s, i)) (fun s => some s) (fun i s => s = sumN i (fun i => a.getD i 0 * b.getD i 0) % q) (by omega) (by simp [sumN]) (fun i s hi hv => ?_) (fun again i s hi hv => ?_) (fun again s hv => ?_)).trans ?_
  · subst hv
    exact Cg_eq (Cg_add (Cg_mod _) (Cg_mod _))
  · have hs : 0 ≤ s ∧ s < q := by
      subst hv
      exact ⟨Int.emod_nonneg _ (by omega), Int.emod_lt_of_pos _ (by omega)⟩
    have har := inF_get ha hi
    have hbr := inF_get hb (i := i) (by omega)
    have hp := prod_small hq.2 har hbr
    have r1 := Int.emod_nonneg (a.getD i 0 * b.getD i 0) (show q ≠ 0 by omega)
    have r2 := Int.emod_lt_of_pos (a.getD i 0 * b.getD i 0) (show 0 < q by omega)
    simp only [lt_yes hi, cond_true, getI_nat, getD_at (d := (0 : Int)) hi, getD_at (d := (0 : Int)) (l := b) (i := i) (by omega), bindO_some', hg0, i64_in (a.getD i 0 * b.getD i 0) (by omega), tmod_nn hp.1, i64_in (s + a.getD i 0 * b.getD i 0 % q) (by omega), tmod_nn (show 0 ≤ s + a.getD i 0 * b.getD i 0 % q by omega), i64_succ (show i < 2 ^ 62 by omega)]
  · simp only [lt_no, cond_false]
  · refine congrArg some ?_
    exact iterN_inv (f := fun i (s : Int) => (s + a.getD i 0 * b.getD i 0 % q) % q) (s0 := 0) (Inv := fun i s => s = sumN i (fun i => a.getD i 0 * b.getD i 0) % q) (by simp [sumN]) a.length fun i s hi hv => by
      subst hv
      exact Cg_eq (Cg_add (Cg_mod _) (Cg_mod _))

/-- The value at x by Lagrange's coefficients. -/
theorem dot_lag {q x : Int} {xs ys : List Int} (hq : IsP q) (hq2 : q ≤ 2000000000) (hx : inF q xs) (hn : xs.Nodup) (hl : xs.length ≤ 100) (hy : inF q ys) (hyl : ys.length = xs.length) : M_I_dot (lagL q xs x, ys, q) = some (polyv (itL q xs ys) x % q) := by
  rw [dotG ⟨hq.1, hq2⟩ (lagL_inF hq.1) hy (by rw [lagL_len]; exact hyl) (by rw [lagL_len]; omega), lagL_len]
  refine congrArg some (Cg_eq (Cg_symm (Cg_trans (itL_ev hq hq2 hx hn hl) ?_)))
  refine sumN_cg _ fun i hi => ?_
  have hg : (lagL q xs x).getD i 0 = skipT xs i x xs.length * cI q xs i % q := by
    rw [List.getD_eq_getElem?_getD, lagL_get hi, Option.getD_some]
  rw [hg]
  exact Cg_mul (Cg_symm (Cg_mod _)) (Cg_refl _)

theorem itL_len {q : Int} {xs ys : List Int} : (itL q xs ys).length = xs.length := rowN_len ..

theorem itL_inF {q : Int} {xs ys : List Int} (hq : 2 ≤ q) : inF q (itL q xs ys) := fun a ha => by
  obtain ⟨t, _, rfl⟩ := List.mem_map.1 ha
  exact iterN_inv (f := itS q xs ys) (s0 := fun _ => 0) (Inv := fun _ C => rngC q C) (fun t => ⟨Int.le_refl 0, show (0 : Int) < q by omega⟩) xs.length (fun i C _ hv => itS_rng hq hv) t

noncomputable def isF (q : Int) : Bool := decide (2 ≤ q ∧ q ≤ 2000000000) && isP q

theorem isF_spec {q : Int} (h : isF q = true) : IsP q ∧ q ≤ 2000000000 := by
  simp only [isF, Bool.and_eq_true, decide_eq_true_eq] at h
  exact ⟨isP_spec h.2, h.1.2⟩

theorem isField_eq (q : Int) : M_I_isField q = some (isF q) := by
  unfold M_I_isField
  by_cases h : q ≤ 2000000000
  · rw [isPrime_eq h, bindO_some']
    refine congrArg some ?_
    unfold isF
    cases hp : isP q
    · rw [Bool.and_false]
    · have := (isP_spec hp).1
      rw [decide_eq_true ⟨this, h⟩]
      rfl
  · unfold M_I_isPrime
    rw [isModulus_eq, bindO_some', decide_eq_false (by omega)]
    unfold isF
    rw [decide_eq_false (by omega)]
    rfl

theorem yModulus_eq (q : Int) : M_S_yModulus q = some (isF q) := by
  unfold M_S_yModulus M_S_nModulus
  rw [in_eq, bindO_some', bindO_some']
  unfold isF
  by_cases h : 2 ≤ q ∧ q ≤ 2000000000
  · rw [decide_eq_true h, cond_true, nPrime_eq h.2, bindO_some']
    rfl
  · rw [decide_eq_false h]
    rfl

def lowB (q : Int) (f : List Int) : Bool := f.all fun n => decide (0 ≤ n ∧ n ≤ q - 1)

def shortB (q : Int) (f : List Int) : Bool := decide (f.length ≤ 24) && lowB q f

theorem lowB_inF {q : Int} {f : List Int} (h : lowB q f = true) : inF q f := fun a ha => by
  have := of_decide_eq_true (List.all_eq_true.1 h a ha)
  omega

theorem inF_lowB {q : Int} {f : List Int} (h : inF q f) : lowB q f = true := List.all_eq_true.2 fun a ha => decide_eq_true (by have := h a ha; omega)

theorem le24L (f : List Int) : decide (((f.length : Nat) : Int) ≤ 24) = decide (f.length ≤ 24) := by
  rw [decide_eq_decide]
  omega

theorem isPoly_eq {q : Int} {f : List Int} (hl : f.length < 2 ^ 62) : M_I_isPoly (q, f) = some (isF q && shortB q f) := by
  unfold M_I_isPoly shortB lowB
  dsimp only
  rw [isField_eq, bindO_some']
  cases hq : isF q
  · rfl
  have h := isF_spec hq
  have h2 := h.1.1
  rw [cond_true, le24L, areBelow_eq hl (by omega) (by omega), bindO_some']
  cases decide (f.length ≤ 24) <;> rfl

theorem gt24' (f : List Int) : decide (((f.length : Nat) : Int) > 24) = !decide (f.length ≤ 24) := by
  rw [← decide_not, decide_eq_decide]
  omega

theorem yGood_walk {q : Int} {l : List (List Int)} (hl : ∀ f ∈ l, f.length < 2 ^ 62) (hn : l.length ≤ 10) : M_S_yGood (q, l) = some (isF q && l.all (shortB q)) := by
  unfold M_S_yGood
  dsimp only
  rw [yModulus_eq, bindO_some']
  cases hq : isF q
  · rfl
  have h := isF_spec hq
  have h2 := h.1.1
  rw [Bool.not_true, cond_false]
  refine (loop_walk l (fun _ f k => if shortB q f = true then k else some false) (some true) (fun again i f hf hi => ?_) (fun again => ?_) (by omega)).trans ?_
  · have hfl := hl f (List.mem_of_getElem? hf)
    rw [lt_yes hi, cond_true, getI_nat, hf, bindO_some', gt24']
    unfold shortB lowB
    by_cases h24 : f.length ≤ 24
    · rw [decide_eq_true h24, Bool.not_true, cond_false, i64_in _ (by omega), bindO_some', l1All_eq hfl, bindO_some', i64_succ (by omega), bindO_some', Bool.true_and]
      cases f.all fun n => decide (0 ≤ n ∧ n ≤ q - 1) <;> rfl
    · rw [decide_eq_false h24]
      rfl
  · rw [lt_no, cond_false]
  · exact walk_all (fun f => shortB q f) l 0

noncomputable def ptsB (q : Int) (xs : List Int) : Bool := decide (0 < xs.length) && ((isF q && shortB q xs) && nodupB xs)

theorem gt0' (f : List Int) : decide (((f.length : Nat) : Int) > 0) = decide (0 < f.length) := by
  rw [decide_eq_decide]
  omega

theorem arePoints_eq {q : Int} {xs : List Int} (hl : xs.length < 2 ^ 62) : M_I_arePoints (q, xs) = some (ptsB q xs) := by
  unfold M_I_arePoints ptsB
  dsimp only
  rw [gt0', isPoly_eq hl, bindO_some', areDifferent_eq hl, bindO_some']
  cases decide (0 < xs.length)
  · rfl
  cases isF q && shortB q xs <;> rfl

noncomputable def tabB (q : Int) (xs ys : List Int) : Bool := ptsB q xs && (decide (ys.length = xs.length) && lowB q ys)

theorem tabB_spec {q : Int} {xs ys : List Int} (h : tabB q xs ys = true) : IsP q ∧ q ≤ 2000000000 ∧ inF q xs ∧ xs.Nodup ∧ (1 ≤ xs.length ∧ xs.length ≤ 24) ∧ inF q ys ∧ ys.length = xs.length := by
  simp only [tabB, ptsB, shortB, Bool.and_eq_true, decide_eq_true_eq] at h
  obtain ⟨⟨h1, ⟨h2, h3, h4⟩, h5⟩, h6, h7⟩ := h
  exact ⟨(isF_spec h2).1, (isF_spec h2).2, lowB_inF h4, pdec_iff.1 h5, ⟨h1, h3⟩, lowB_inF h7, h6⟩

theorem ne_len (a b : List Int) : (((a.length : Nat) : Int) != ((b.length : Nat) : Int)) = !decide (a.length = b.length) := by
  by_cases h : a.length = b.length
  · rw [h, bne_self_eq_false]
    simp
  · rw [decide_eq_false h]
    have : ¬ (a.length : Int) = (b.length : Int) := by omega
    simpa using this

theorem eq_len (a b : List Int) : (((a.length : Nat) : Int) == ((b.length : Nat) : Int)) = decide (b.length = a.length) := by
  by_cases h : b.length = a.length
  · rw [decide_eq_true h]
    simp [h]
  · rw [decide_eq_false h]
    have : ¬ (a.length : Int) = (b.length : Int) := by omega
    simpa using this

theorem I_Interpolate_eq {q : Int} {xs ys : List Int} (hx : xs.length < 2 ^ 62) (hy : ys.length < 2 ^ 62) : M_I_Interpolate (q, xs, ys) = some (bif tabB q xs ys then (itL q xs ys, true) else ([], false)) := by
  cases ht : tabB q xs ys
  · unfold M_I_Interpolate
    dsimp only
    rw [arePoints_eq hx, bindO_some']
    unfold tabB at ht
    cases hp : ptsB q xs
    · rfl
    have hq : isF q = true := by
      simp only [ptsB, Bool.and_eq_true] at hp
      exact hp.2.1.1
    have h := isF_spec hq
    have h2 := h.1.1
    rw [Bool.not_true, cond_false, ne_len]
    rw [hp, Bool.true_and] at ht
    by_cases he : ys.length = xs.length
    · rw [decide_eq_true he, Bool.true_and] at ht
      rw [decide_eq_true he, Bool.not_true, cond_false, areBelow_eq hy (by omega) (by omega), bindO_some', show (ys.all fun n => decide (0 ≤ n ∧ n ≤ q - 1)) = false from ht]
      rfl
    · rw [decide_eq_false he]
      rfl
  · obtain ⟨h1, h2, h3, h4, h5, h6, h7⟩ := tabB_spec ht
    exact itLoop_eq h1 h2 h3 h4 h5 h6 h7

theorem yTable_eq {q : Int} {xs ys : List Int} (hx : xs.length < 2 ^ 62) (hy : ys.length < 2 ^ 62) : M_S_yTable (q, xs, ys) = some (tabB q xs ys) := by
  unfold M_S_yTable
  dsimp only
  rw [yGood_walk (l := [xs, ys]) (fun f hf => (List.mem_cons.1 hf).elim (fun h => h ▸ hx) fun h => (List.mem_singleton.1 h) ▸ hy) (by simp), bindO_some', yPoints_eq hx, bindO_some', gt0', eq_len]
  unfold tabB ptsB
  simp only [List.all_cons, List.all_nil, Bool.and_true]
  by_cases he : ys.length = xs.length
  · have hs : shortB q ys = (decide (xs.length ≤ 24) && lowB q ys) := by unfold shortB; rw [he]
    rw [decide_eq_true he, hs]
    unfold shortB
    cases isF q <;> cases decide (xs.length ≤ 24) <;> cases lowB q xs <;> cases lowB q ys <;> cases nodupB xs <;> cases decide (0 < xs.length) <;> rfl
  · rw [decide_eq_false he]
    cases isF q <;> cases shortB q xs <;> cases shortB q ys <;> cases nodupB xs <;> cases decide (0 < xs.length) <;> rfl

theorem S_Interpolate_eq {q : Int} {xs ys : List Int} (hx : xs.length < 2 ^ 62) (hy : ys.length < 2 ^ 62) : M_S_Interpolate (q, xs, ys) = some (bif tabB q xs ys then (itL q xs ys, true) else ([], false)) := by
  unfold M_S_Interpolate
  dsimp only
  rw [yTable_eq hx hy, bindO_some']
  cases ht : tabB q xs ys
  · rfl
  · obtain ⟨h1, h2, h3, h4, h5, h6, h7⟩ := tabB_spec ht
    rw [yInterpolate_eq h1 h2 h3 h4 (by omega) h6 h7]
    rfl

noncomputable def rootB (q : Int) (roots : List Int) : Bool := (isF q && shortB q roots) && decide (roots.length < 24)

theorem rootB_spec {q : Int} {roots : List Int} (h : rootB q roots = true) : IsP q ∧ q ≤ 2000000000 ∧ inF q roots ∧ roots.length < 24 := by
  simp only [rootB, shortB, Bool.and_eq_true, decide_eq_true_eq] at h
  obtain ⟨⟨h2, h3, h4⟩, h5⟩ := h
  exact ⟨(isF_spec h2).1, (isF_spec h2).2, lowB_inF h4, h5⟩

theorem ge24 (f : List Int) : decide (((f.length : Nat) : Int) ≥ 24) = !decide (f.length < 24) := by
  rw [← decide_not, decide_eq_decide]
  omega

theorem I_PolyFromRoots_eq {q : Int} {roots : List Int} (hl : roots.length < 2 ^ 62) : M_I_PolyFromRoots (q, roots) = some (bif rootB q roots then (frN q roots, true) else ([], false)) := by
  unfold M_I_PolyFromRoots
  dsimp only
  rw [isPoly_eq hl, bindO_some', ge24]
  cases hr : rootB q roots
  · unfold rootB at hr
    cases h1 : isF q && shortB q roots
    · rfl
    · rw [h1, Bool.true_and] at hr
      rw [hr]
      rfl
  · obtain ⟨h1, h2, h3, h4⟩ := rootB_spec hr
    have hq := h1.1
    have hb := hr
    simp only [rootB, Bool.and_eq_true] at hb
    rw [show (isF q && shortB q roots) = true from by rw [hb.1.1, hb.1.2]; rfl, hb.2, Bool.not_true, cond_false, cond_false, fromRoots_eq ⟨hq, h2⟩ (fun a ha => by have := h3 a ha; omega) (by omega)]
    rfl

theorem S_PolyFromRoots_eq {q : Int} {roots : List Int} (hl : roots.length < 2 ^ 62) : M_S_PolyFromRoots (q, roots) = some (bif rootB q roots then (frN q roots, true) else ([], false)) := by
  unfold M_S_PolyFromRoots
  dsimp only
  rw [yGood_walk (l := [roots]) (fun f hf => (List.mem_singleton.1 hf) ▸ hl) (by simp), bindO_some', ge24]
  simp only [List.all_cons, List.all_nil, Bool.and_true]
  cases hr : rootB q roots
  · unfold rootB at hr
    cases h1 : isF q && shortB q roots
    · rfl
    · rw [h1, Bool.true_and] at hr
      rw [hr]
      rfl
  · obtain ⟨h1, h2, h3, h4⟩ := rootB_spec hr
    have hq := h1.1
    have hb := hr
    simp only [rootB, Bool.and_eq_true] at hb
    rw [show (isF q && shortB q roots) = true from by rw [hb.1.1, hb.1.2]; rfl, hb.2, Bool.not_true, cond_false, cond_false, yRoots_eq ⟨hq, h2⟩ (fun a ha => by have := h3 a ha; omega) (by omega)]
    rfl

theorem mulP_top {q r : Int} {f : List Int} : (mulP q f [r, 1]).getD f.length 0 = if f.length = 0 then (mulP q f [r, 1]).getD f.length 0 else f.getD (f.length - 1) 0 * 1 % q := by
  by_cases h0 : f.length = 0
  · rw [if_pos h0]
  rw [if_neg h0]
  have h : (∀ t, f.length < t → mpN q f [r, 1] t = 0) ∧ (1 ≤ f.length → mpN q f [r, 1] f.length = f.getD (f.length - 1) 0 * 1 % q) := by
    unfold mpN
    refine iterN_inv (Inv := fun n (C : Nat → Int) => (∀ t, n < t → C t = 0) ∧ (1 ≤ n → C n = f.getD (n - 1) 0 * 1 % q)) ⟨fun t _ => rfl, fun h => by omega⟩ f.length fun n C hn hv => ?_
    show (∀ t, n + 1 < t → mp2 q f [r, 1] n 1 (mp2 q f [r, 1] n 0 C) t = 0) ∧ (1 ≤ n + 1 → mp2 q f [r, 1] n 1 (mp2 q f [r, 1] n 0 C) (n + 1) = f.getD (n + 1 - 1) 0 * 1 % q)
    unfold mp2
    refine ⟨fun t ht => ?_, fun _ => ?_⟩
    · rw [if_neg (by omega), if_neg (by omega)]
      exact hv.1 t (by omega)
    · rw [if_pos rfl, if_neg (by omega), hv.1 (n + 1) (by omega), Int.zero_add, Nat.add_sub_cancel]
      show f.getD n 0 * 1 % q % q = _
      rw [Int.emod_emod_of_dvd _ (Int.dvd_refl q)]
  have hg : (mulP q f [r, 1])[f.length]? = some (mpN q f [r, 1] f.length) := by
    unfold mulP
    exact rowN_get (by simp)
  rw [List.getD_eq_getElem?_getD, hg, Option.getD_some, h.2 (by omega)]

theorem frN_top {q : Int} (hq : 2 ≤ q) (roots : List Int) : (frN q roots).getD roots.length 0 = 1 := by
  unfold frN
  refine (iterN_inv (f := fun j acc => mulP q acc [(-(roots.getD j 0)) % q, 1]) (s0 := [1]) (Inv := fun t (acc : List Int) => FrOK q roots t acc ∧ acc.getD t 0 = 1) ⟨fr_zero hq roots, rfl⟩ roots.length fun t acc ht hv => ⟨fr_step hq hv.1, ?_⟩).2
  have hl : acc.length = t + 1 := hv.1.1
  have h := mulP_top (q := q) (r := (-(roots.getD t 0)) % q) (f := acc)
  rw [hl, if_neg (by omega), Nat.add_sub_cancel, hv.2] at h
  rw [h, Int.mul_one]
  exact Int.emod_eq_of_lt (by omega) (by omega)

theorem prodT_zero {l : List Int} {k : Nat} : ∀ t, k < t → prodT l (l.getD k 0) t = 0
  | 0, h0 => absurd h0 (Nat.not_lt_zero _)
  | t + 1, h0 => by
    show prodT l (l.getD k 0) t * (l.getD k 0 - l.getD t 0) = 0
    by_cases e : k = t
    · rw [e, Int.sub_self, Int.mul_zero]
    · rw [prodT_zero t (by omega), Int.zero_mul]

theorem EvalAll_eq {q : Int} {f xs : List Int} (hq : isF q = true) (hf : inF q f) (hfl : f.length ≤ 24) (hx : inF q xs) (hxl : xs.length ≤ 24) : M_I_EvalAll (q, f, xs) = some (xs.map fun x => polyv f x % q, true) := by
  have h := isF_spec hq
  unfold M_I_EvalAll
  dsimp only
  rw [isPoly_eq (by omega), isPoly_eq (by omega), hq, show shortB q f = true from by unfold shortB; rw [decide_eq_true hfl, inF_lowB hf]; rfl, show shortB q xs = true from by unfold shortB; rw [decide_eq_true hxl, inF_lowB hx]; rfl, bindO_some', bindO_some']
  refine append_loop (xs.map fun x => polyv f x % q) (fun r => some (r, true)) (fun again i a s ha hi hs => ?_) (fun again s hs => ?_) (by rw [List.length_map]; omega)
  · rw [List.length_map] at hi
    have hg := List.getElem?_eq_getElem hi
    rw [List.getElem?_map, hg] at ha
    cases ha
    have hxr := hx _ (List.getElem_mem hi)
    have g3 : ∀ z : Int, guardO (lenOk (s.length + [z].length)) = some () := fun z => guardO_of (lenOk_of (by simp only [List.length_cons, List.length_nil]; omega))
    simp only [lt_yes hi, cond_true, getI_nat, hg, bindO_some', evalPoly_eq ⟨h.1.1, h.2⟩ hxr hf (show f.length < 2 ^ 30 by omega), g3, i64_succ (show i < 2 ^ 62 by omega)]
  · rw [List.length_map]
    simp only [lt_no, cond_false]

theorem DegreeOf_eq {q : Int} {f : List Int} {n : Nat} (hq : isF q = true) (hf : inF q f) (hn : n + 1 ≤ 24) (hl : f.length = n + 1) (ht : f.getD n 0 = 1) : M_I_DegreeOf (q, f) = some ((n : Int), true) := by
  unfold M_I_DegreeOf
  dsimp only
  rw [isPoly_eq (by omega), hq, show shortB q f = true from by unfold shortB; rw [decide_eq_true (by omega), inF_lowB hf]; rfl, bindO_some', Bool.and_self, Bool.not_true, cond_false, hl, i64_in _ (by omega), bindO_some']
  refine loopO_spec (fun _ => some ((n : Int), true)) (fun s : Int => s = (n : Int)) (fun _ => 0) (fun again s hs _ => ?_) (by omega) (by decide)
  subst hs
  rw [decide_eq_true (by omega), cond_true, getI_nat, getD_at (d := (0 : Int)) (l := f) (i := n) (by omega), ht, bindO_some']
  rfl

theorem EvalPoly_eq {q x : Int} {f : List Int} (hq : isF q = true) (hf : inF q f) (hl : f.length ≤ 24) (hx : 0 ≤ x ∧ x < q) : M_I_EvalPoly (q, f, x) = some (polyv f x % q, true) := by
  have h := isF_spec hq
  have h2 := h.1.1
  have h3 := h.2
  unfold M_I_EvalPoly
  dsimp only
  rw [isPoly_eq (by omega), hq, show shortB q f = true from by unfold shortB; rw [decide_eq_true hl, inF_lowB hf]; rfl, bindO_some', Bool.and_self, Bool.not_true, cond_false, i64_in _ (by omega), bindO_some', within_eq, bindO_some', decide_eq_true (by omega), Bool.not_true, cond_false, evalPoly_eq ⟨h2, h3⟩ hx hf (by omega), bindO_some']

theorem LagrangeCoefs_eq {q x : Int} {xs : List Int} (hp : ptsB q xs = true) (hx : 0 ≤ x ∧ x < q) : M_I_LagrangeCoefs (q, xs, x) = some (lagL q xs x, true) := by
  have hb := hp
  simp only [ptsB, shortB, Bool.and_eq_true, decide_eq_true_eq] at hb
  obtain ⟨h1, ⟨h2, h3, h4⟩, h5⟩ := hb
  have h := isF_spec h2
  have hq2 := h.1.1
  have hq3 := h.2
  unfold M_I_LagrangeCoefs
  dsimp only
  rw [arePoints_eq (by omega), hp, bindO_some', Bool.not_true, cond_false, i64_in _ (by omega), bindO_some', within_eq, bindO_some', decide_eq_true (by omega), Bool.not_true, cond_false, lagrange_eq h.1 hq3 (lowB_inF h4) (pdec_iff.1 h5) (by omega) hx, bindO_some']

theorem ValueFrom_eq {q x : Int} {xs ys : List Int} (ht : tabB q xs ys = true) (hx : 0 ≤ x ∧ x < q) : M_I_ValueFrom (q, xs, ys, x) = some (polyv (itL q xs ys) x % q, true) := by
  obtain ⟨h1, h2, h3, h4, h5, h6, h7⟩ := tabB_spec ht
  have hq2 := h1.1
  have hp : ptsB q xs = true := by
    simp only [tabB, Bool.and_eq_true] at ht
    exact ht.1
  unfold M_I_ValueFrom
  dsimp only
  rw [arePoints_eq (by omega), hp, bindO_some', Bool.not_true, cond_false, ne_len, decide_eq_true h7, Bool.not_true, cond_false, areBelow_eq (by omega) (by omega) (by omega), show (ys.all fun n => decide (0 ≤ n ∧ n ≤ q - 1)) = true from inF_lowB h6, bindO_some', Bool.not_true, cond_false, i64_in _ (by omega), bindO_some', within_eq, bindO_some', decide_eq_true (by omega), Bool.not_true, cond_false, lagrange_eq h1 h2 h3 h4 (by omega) hx, bindO_some', dot_lag h1 h2 h3 h4 (by omega) h6 h7, bindO_some']

theorem areTerms_eq {q : Int} {f : List Int} (hq : isF q = true) (hf : inF q f) (hl : f.length ≤ 24) : M_I_areTerms (f, q) = some true := by
  have h := isF_spec hq
  have h2 := h.1.1
  have h3 := h.2
  unfold M_I_areTerms
  dsimp only
  rw [isModulus_eq, bindO_some', decide_eq_true ⟨h2, h3⟩, cond_true, decide_eq_true (by omega), cond_true, areBelow_eq (by omega) (by omega) (by omega), show (f.all fun n => decide (0 ≤ n ∧ n ≤ q - 1)) = true from inF_lowB hf, bindO_some']

theorem DotMod_eq {q x : Int} {xs ys : List Int} (ht : tabB q xs ys = true) : M_I_DotMod (lagL q xs x, ys, q) = some (polyv (itL q xs ys) x % q, true) := by
  obtain ⟨h1, h2, h3, h4, h5, h6, h7⟩ := tabB_spec ht
  have hq : isF q = true := by
    simp only [tabB, ptsB, Bool.and_eq_true] at ht
    exact ht.1.2.1.1
  unfold M_I_DotMod
  dsimp only
  rw [areTerms_eq hq (lagL_inF h1.1) (by rw [lagL_len]; omega), bindO_some', Bool.not_true, cond_false, areTerms_eq hq h6 (by omega), bindO_some', Bool.not_true, cond_false, lagL_len, h7, show (((xs.length : Nat) : Int) != ((xs.length : Nat) : Int)) = false from bne_self_eq_false _, cond_false, dot_lag h1 h2 h3 h4 (by omega) h6 h7, bindO_some']

theorem bits_255 (x : Int) : 0 ≤ Vd.bits .and .u64 x 255 ∧ Vd.bits .and .u64 x 255 ≤ 255 := by
  have h : (BitVec.ofInt (IntKind.bits .u64) x &&& BitVec.ofInt (IntKind.bits .u64) 255).toNat ≤ 255 := by
    rw [BitVec.toNat_and]
    exact Nat.le_trans Nat.and_le_right (by decide)
  show 0 ≤ IntKind.wrap .u64 ((BitVec.ofInt (IntKind.bits .u64) x &&& BitVec.ofInt (IntKind.bits .u64) 255).toNat : Int) ∧ IntKind.wrap .u64 ((BitVec.ofInt (IntKind.bits .u64) x &&& BitVec.ofInt (IntKind.bits .u64) 255).toNat : Int) ≤ 255
  generalize (BitVec.ofInt (IntKind.bits .u64) x &&& BitVec.ofInt (IntKind.bits .u64) 255).toNat = n at h ⊢
  rw [wrap_u64 (by omega)]
  omega

def Bytes (code : List Int) : Prop := ∀ a ∈ code, 0 ≤ a ∧ a ≤ 255

theorem next_ok {code : List Int} {pos seed : Int} (hb : Bytes code) (h0 : 0 ≤ pos) (h1 : pos ≤ 2 ^ 40) : ∃ v seed', M_S_l1Cur_next (code, pos, seed) = some (v, code, pos + 1, seed') ∧ 0 ≤ v ∧ v ≤ 255 := by
  obtain ⟨k, rfl⟩ : ∃ k : Nat, pos = (k : Int) := ⟨pos.toNat, by omega⟩
  unfold M_S_l1Cur_next
  dsimp only
  by_cases hl : k < code.length
  · have hg := List.getElem?_eq_getElem hl
    have ha := hb _ (List.getElem_mem hl)
    rw [lt_yes hl, cond_true, getI_nat, hg, bindO_some', i64_in ((k : Int) + 1) (by omega), bindO_some', bindO_some', bindO_some', bindO_some', decide_eq_true (show (k : Int) + 1 ≤ ((code.length : Nat) : Int) by omega), cond_true, i64_in code[k] (by omega)]
    exact ⟨_, _, rfl, ha.1, ha.2⟩
  · rw [decide_eq_false (show ¬ (k : Int) < ((code.length : Nat) : Int) by omega), cond_false, i64_in ((k : Int) + 1) (by omega), bindO_some', bindO_some', bindO_some', bindO_some', decide_eq_false (show ¬ (k : Int) + 1 ≤ ((code.length : Nat) : Int) by omega), cond_false, guardO_of (by decide), bindO_some', bindO_some', bindO_some']
    have hx := bits_255 (shr .u64 (IntKind.wrap .u64 (IntKind.wrap .u64 (IntKind.wrap .u64 (seed * 6364136223846793005) + IntKind.wrap .u64 0) + 1442695040888963407)) 40)
    rw [i64_in _ (by omega)]
    exact ⟨_, _, rfl, hx.1, hx.2⟩

theorem pick_ok {code : List Int} {pos seed n : Int} (hb : Bytes code) (h0 : 0 ≤ pos) (h1 : pos ≤ 2 ^ 39) (hn : n ≤ 2 ^ 40) : ∃ v pos' seed', M_S_l1Cur_pick ((code, pos, seed), n) = some (v, code, pos', seed') ∧ 0 ≤ v ∧ v ≤ 65535 ∧ (n ≤ 1 → v = 0) ∧ (1 < n → v < n) ∧ pos ≤ pos' ∧ pos' ≤ pos + 2 := by
  unfold M_S_l1Cur_pick
  dsimp only
  by_cases hn1 : n ≤ 1
  · rw [decide_eq_true hn1, cond_true]
    exact ⟨_, _, _, rfl, by omega, by omega, fun _ => rfl, fun h => by omega, by omega, by omega⟩
  have hg0 : guardO (n != 0) = some () := guardO_of (bne_iff_ne.2 (by omega))
  obtain ⟨v, s1, e1, v1, v2⟩ := next_ok (seed := seed) hb h0 (by omega)
  rw [decide_eq_false hn1, cond_false, e1, bindO_some']
  dsimp only
  by_cases h2 : n > 200
  · obtain ⟨w, s2, e2, w1, w2⟩ := next_ok (seed := s1) hb (show 0 ≤ pos + 1 by omega) (by omega)
    rw [decide_eq_true h2, cond_true, i64_in _ (by omega), bindO_some', e2, bindO_some']
    dsimp only
    rw [i64_in _ (by omega), bindO_some', hg0, bindO_some', tmod_nn (by omega), bindO_some']
    have r1 := Int.emod_nonneg (v * 256 + w) (show n ≠ 0 by omega)
    have r2 := Int.emod_lt_of_pos (v * 256 + w) (show 0 < n by omega)
    have r3 : (v * 256 + w) % n ≤ v * 256 + w := by
      by_cases hlt : v * 256 + w < n
      · rw [Int.emod_eq_of_lt (by omega) hlt]
        exact Int.le_refl _
      · omega
    exact ⟨_, _, _, rfl, r1, by omega, fun h => by omega, fun _ => r2, by omega, by omega⟩
  · rw [decide_eq_false h2, cond_false, hg0, bindO_some', tmod_nn v1, bindO_some']
    have r1 := Int.emod_nonneg v (show n ≠ 0 by omega)
    have r2 := Int.emod_lt_of_pos v (show 0 < n by omega)
    exact ⟨_, _, _, rfl, r1, by omega, fun h => by omega, fun _ => r2, by omega, by omega⟩

theorem one_ok {code : List Int} {pos seed n : Int} (hb : Bytes code) (h0 : 0 ≤ pos) (h1 : pos ≤ 2 ^ 39) (hn : n ≤ 2 ^ 40) : ∃ b pos' seed', M_S_l1Cur_one ((code, pos, seed), n) = some (b, code, pos', seed') ∧ pos ≤ pos' ∧ pos' ≤ pos + 2 := by
  obtain ⟨v, p, s, e, -, -, -, -, h3, h4⟩ := pick_ok (seed := seed) hb h0 h1 hn
  refine ⟨v == 0, p, s, ?_, h3, h4⟩
  unfold M_S_l1Cur_one
  dsimp only
  rw [e, bindO_some']

theorem among_ok {code l : List Int} {pos seed : Int} (hb : Bytes code) (h0 : 0 ≤ pos) (h1 : pos ≤ 2 ^ 39) (hl : 1 ≤ l.length ∧ l.length ≤ 1000) : ∃ v pos' seed', M_S_l1Cur_among ((code, pos, seed), l) = some (v, code, pos', seed') ∧ v ∈ l ∧ pos ≤ pos' ∧ pos' ≤ pos + 2 := by
  obtain ⟨v, p, s, e, h2, -, h5, h6, h3, h4⟩ := pick_ok (seed := seed) (n := (l.length : Int)) hb h0 h1 (by omega)
  obtain ⟨k, rfl⟩ : ∃ k : Nat, v = (k : Int) := ⟨v.toNat, by omega⟩
  have hk : k < l.length := by omega
  refine ⟨l[k], p, s, ?_, List.getElem_mem hk, h3, h4⟩
  unfold M_S_l1Cur_among
  dsimp only
  rw [e, bindO_some']
  dsimp only
  rw [getI_nat, List.getElem?_eq_getElem hk, bindO_some']

theorem least_some (a b : Int) : M_S_l1Least (a, b) = some (bif decide (a < b) then a else b) := by
  unfold M_S_l1Least
  dsimp only
  cases decide (a < b) <;> rfl

theorem most_some (a b : Int) : M_S_l1Most (a, b) = some (bif decide (a > b) then a else b) := by
  unfold M_S_l1Most
  dsimp only
  cases decide (a > b) <;> rfl

theorem width_ok {q b : Int} (hb : 1 ≤ b ∧ b ≤ 60000) : ∃ v, bindO (M_S_l1Least (q, b)) (fun a4 => M_S_l1Most (1, a4)) = some v ∧ v ≤ 60000 := by
  rw [least_some, bindO_some', most_some]
  refine ⟨_, rfl, ?_⟩
  by_cases h1 : q < b
  · rw [decide_eq_true h1, cond_true]
    by_cases h2 : 1 > q
    · rw [decide_eq_true h2, cond_true]; omega
    · rw [decide_eq_false h2, cond_false]; omega
  · rw [decide_eq_false h1, cond_false]
    by_cases h2 : 1 > b
    · rw [decide_eq_true h2, cond_true]; omega
    · rw [decide_eq_false h2, cond_false]; omega

theorem most_le {q b : Int} (hb : 1 ≤ b ∧ b ≤ 60000) : (bif decide ((1 : Int) > (bif decide (q < b) then q else b)) then 1 else (bif decide (q < b) then q else b)) ≤ 60000 := by
  obtain ⟨v, h1, h2⟩ := width_ok (q := q) hb
  rw [least_some, bindO_some', most_some] at h1
  cases h1
  exact h2

theorem residues_ok {code : List Int} {pos seed q : Int} (hb : Bytes code) (h0 : 0 ≤ pos) (h1 : pos ≤ 1000000) : ∃ f pos' seed', M_S_l1Cur_residues ((code, pos, seed), (q, 5)) = some (f, code, pos', seed') ∧ f.length ≤ 6 ∧ 0 ≤ pos' ∧ pos' ≤ pos + 100 := by
  unfold M_S_l1Cur_residues
  dsimp only
  obtain ⟨k, p, s, e, k1, -, -, k2, p1, p2⟩ := pick_ok (seed := seed) (n := 5 + 1) hb h0 (by omega) (by omega)
  have k3 := k2 (by omega)
  rw [i64_in _ (by omega), bindO_some', e, bindO_some']
  dsimp only
  refine loopO_ind (fun _ (r : Option (List Int × List Int × Int × Int)) => ∃ f pos' seed', r = some (f, code, pos', seed') ∧ f.length ≤ 6 ∧ 0 ≤ pos' ∧ pos' ≤ pos + 100)
    (fun s3 : List Int × Int × List Int × Int × Int => s3.2.2.1 = code ∧ 0 ≤ s3.2.1 ∧ (s3.1.length : Int) + s3.2.1 ≤ 5 ∧ 0 ≤ s3.2.2.2.1 ∧ s3.2.2.2.1 + 2 * s3.2.1 ≤ pos + 20) (fun s3 => s3.2.1.toNat) (fun again s3 hs ih => ?_) ⟨rfl, k1, by simp only [List.length_nil]; omega, show 0 ≤ p by omega, show p + 2 * k ≤ pos + 20 by omega⟩ (by show k.toNat < 2 ^ 64; omega)
  obtain ⟨out, j, cd, ps, sd⟩ := s3
  obtain ⟨i1, i2, i3, i4, i5⟩ := hs
  dsimp only at i1 i2 i3 i4 i5
  subst i1
  dsimp only
  by_cases hj : j > 0
  · rw [decide_eq_true hj, cond_true, least_some, bindO_some', most_some, bindO_some']
    obtain ⟨v, p', s', e', -, -, -, -, q1, q2⟩ := pick_ok (seed := sd) (n := (bif decide ((1 : Int) > (bif decide (q < 60000) then q else 60000)) then 1 else (bif decide (q < 60000) then q else 60000))) hb i4 (by omega) (by have := most_le (q := q) (b := 60000) (by omega); omega)
    rw [e', bindO_some', guardO_of (lenOk_of (by simp only [List.length_cons, List.length_nil]; omega)), bindO_some', bindO_some', i64_in _ (by omega), bindO_some']
    exact ih _ ⟨rfl, by dsimp only; omega, by simp only [List.length_append, List.length_cons, List.length_nil]; omega, by dsimp only; omega, by dsimp only; omega⟩ (by dsimp only; omega)
  · obtain ⟨b, p', s', e', q1, q2⟩ := one_ok (seed := sd) (n := 20) hb i4 (by omega) (by omega)
    rw [decide_eq_false hj, cond_false, e', bindO_some']
    dsimp only
    cases b
    · exact ⟨out, p', s', rfl, by omega, by omega, by omega⟩
    · obtain ⟨w, p2', s2', e2', -, r1, r2⟩ := among_ok (seed := s') (l := [-1, q]) hb (show 0 ≤ p' by omega) (by omega) (by simp)
      rw [cond_true, e2', bindO_some', guardO_of (lenOk_of (by simp only [List.length_cons, List.length_nil]; omega)), bindO_some', bindO_some']
      exact ⟨_, p2', s2', rfl, by simp only [List.length_append, List.length_cons, List.length_nil]; omega, by omega, by omega⟩

theorem polynomial_ok {code : List Int} {pos seed q : Int} (hb : Bytes code) (h0 : 0 ≤ pos) (h1 : pos ≤ 1000) : ∃ f pos' seed', M_S_l1Cur_polynomial ((code, pos, seed), (q, 5)) = some (f, code, pos', seed') ∧ f.length ≤ 25 ∧ 0 ≤ pos' ∧ pos' ≤ pos + 200 := by
  unfold M_S_l1Cur_polynomial
  dsimp only
  obtain ⟨f, p, s, e, f1, p1, p2⟩ := residues_ok (seed := seed) (q := q) hb h0 (by omega)
  obtain ⟨b, p', s', e', q1, q2⟩ := one_ok (seed := s) (n := 40) hb p1 (by omega) (by omega)
  rw [e, bindO_some']
  dsimp only
  rw [e', bindO_some']
  dsimp only
  cases b
  · exact ⟨f, p', s', rfl, by omega, by omega, by omega⟩
  · obtain ⟨v, p2', s2', e2', v1, -, -, v2, r1, r2⟩ := pick_ok (seed := s') (n := 2) hb (show 0 ≤ p' by omega) (by omega) (by omega)
    have v3 := v2 (by omega)
    have hlim : (24 + v) ≤ ((lim : Nat) : Int) := by rw [lim_eq]; omega
    rw [cond_true, e2', bindO_some']
    dsimp only
    rw [i64_in _ (by omega), bindO_some', guardO_of (by simp only [decide_eq_true (show 0 ≤ 24 + v by omega), decide_eq_true (Int.le_refl (24 + v)), decide_eq_true hlim]; rfl), bindO_some']
    exact ⟨_, p2', s2', rfl, by rw [List.length_replicate]; omega, by omega, by omega⟩

theorem field_ok {code : List Int} {pos seed : Int} (hb : Bytes code) (h0 : 0 ≤ pos) (h1 : pos ≤ 1000) : ∃ q pos' seed', M_S_l1Cur_field (code, pos, seed) = some (q, code, pos', seed') ∧ pos ≤ pos' ∧ pos' ≤ pos + 2 := by
  unfold M_S_l1Cur_field
  dsimp only
  obtain ⟨v, p, s, e, -, p1, p2⟩ := among_ok (seed := seed) (l := [2, 3, 5, 7, 11, 11, 23, 101, 1019, 65537, 500000003, 1999999973, 9, 1, 2000000011]) hb h0 (by omega) (by simp)
  rw [e, bindO_some']
  exact ⟨v, p, s, rfl, p1, p2⟩

theorem DrawPolyFromRoots_ok {code : List Int} (hb : Bytes code) : ∃ q f, M_S_DrawPolyFromRoots code = some (q, f) ∧ f.length ≤ 27 := by
  unfold M_S_DrawPolyFromRoots M_S_DrawDegreeOf
  obtain ⟨q, p, s, e, p1, p2⟩ := field_ok (pos := 0) (seed := 0) hb (by omega) (by omega)
  obtain ⟨f, p', s', e', f1, q1, q2⟩ := polynomial_ok (seed := s) (q := q) hb p1 (by omega)
  obtain ⟨b, p2', s2', e2', -, -⟩ := one_ok (seed := s') (n := 3) hb q1 (by omega) (by omega)
  rw [e, bindO_some']
  dsimp only
  rw [e', bindO_some']
  dsimp only
  rw [e2', bindO_some']
  dsimp only
  cases b
  · exact ⟨q, f, rfl, by omega⟩
  · rw [cond_true, guardO_of (lenOk_of (by simp only [List.length_cons, List.length_nil]; omega)), bindO_some', bindO_some', bindO_some']
    exact ⟨q, _, rfl, by simp only [List.length_append, List.length_cons, List.length_nil]; omega⟩

theorem points_ok {code : List Int} {pos seed q : Int} (hb : Bytes code) (h0 : 0 ≤ pos) (h1 : pos ≤ 1000) : ∃ xs ys c, M_S_l1Cur_points ((code, pos, seed), q) = some (xs, ys, c) ∧ xs.length ≤ 6 ∧ ys.length ≤ 7 := by
  unfold M_S_l1Cur_points
  dsimp only
  obtain ⟨k, p, s, e, k1, -, -, k2, p1, p2⟩ := pick_ok (seed := seed) (n := 5) hb h0 (by omega) (by omega)
  have k3 := k2 (by omega)
  rw [e, bindO_some']
  dsimp only
  rw [i64_in _ (by omega), bindO_some']
  refine loopO_ind (fun _ (r : Option (List Int × List Int × List Int × Int × Int)) => ∃ xs ys c, r = some (xs, ys, c) ∧ xs.length ≤ 6 ∧ ys.length ≤ 7)
    (fun s3 : List Int × List Int × Int × List Int × Int × Int => s3.2.2.2.1 = code ∧ 0 ≤ s3.2.2.1 ∧ (s3.1.length : Int) + s3.2.2.1 ≤ 5 ∧ 0 ≤ s3.2.2.2.2.1 ∧ s3.2.2.2.2.1 + 6 * s3.2.2.1 ≤ pos + 100 ∧ s3.2.1.length = s3.1.length ∧ (s3.1 = [] → 1 ≤ s3.2.2.1)) (fun s3 => s3.2.2.1.toNat) (fun again s3 hs ih => ?_)
    ⟨rfl, show 0 ≤ 1 + k by omega, show ((0 : Nat) : Int) + (1 + k) ≤ 5 by omega, show 0 ≤ p by omega, show p + 6 * (1 + k) ≤ pos + 100 by omega, rfl, fun _ => show 1 ≤ 1 + k by omega⟩ (by show (1 + k).toNat < 2 ^ 64; omega)
  obtain ⟨xs, ys, j, cd, ps, sd⟩ := s3
  obtain ⟨i1, i2, i3, i4, i5, i6, i7⟩ := hs
  dsimp only at i1 i2 i3 i4 i5 i6 i7
  subst i1
  dsimp only
  by_cases hj : j > 0
  · rw [decide_eq_true hj, cond_true, least_some, bindO_some', most_some, bindO_some']
    obtain ⟨v, p', s', e', -, -, -, -, q1, q2⟩ := pick_ok (seed := sd) (n := (bif decide ((1 : Int) > (bif decide (q < 60) then q else 60)) then 1 else (bif decide (q < 60) then q else 60))) hb i4 (by omega) (by have := most_le (q := q) (b := 60) (by omega); omega)
    rw [e', bindO_some']
    dsimp only
    rw [has_eq (by omega), bindO_some']
    have hgo : ∀ p1 s1, p' ≤ p1 → p1 ≤ p' + 2 → ∃ xs' ys' c, bindO (guardO (lenOk (xs.length + (v :: ([] : List Int)).length))) (fun _ => bindO (some (xs ++ [v])) fun a9 => bindO (M_S_l1Least (q, 60000)) fun a10 => bindO (M_S_l1Most (1, a10)) fun a11 => bindO (M_S_l1Cur_pick ((cd, p1, s1), a11)) fun a12 => bindO (guardO (lenOk (ys.length + (a12.1 :: ([] : List Int)).length))) fun _ => bindO (some (ys ++ [a12.1])) fun a14 => bindO (some (IntKind.wrap .i64 (j - 1))) fun a15 => again (a9, a14, a15, a12.2.1, a12.2.2.1, a12.2.2.2)) = some (xs', ys', c) ∧ xs'.length ≤ 6 ∧ ys'.length ≤ 7 := fun p1 s1 g1 g2 => by
      obtain ⟨w, p2', s2', e2', -, -, -, -, r1, r2⟩ := pick_ok (seed := s1) (n := (bif decide ((1 : Int) > (bif decide (q < 60000) then q else 60000)) then 1 else (bif decide (q < 60000) then q else 60000))) hb (show 0 ≤ p1 by omega) (by omega) (by have := most_le (q := q) (b := 60000) (by omega); omega)
      rw [guardO_of (lenOk_of (by simp only [List.length_cons, List.length_nil]; omega)), bindO_some', bindO_some', least_some, bindO_some', most_some, bindO_some', e2', bindO_some', guardO_of (lenOk_of (by simp only [List.length_cons, List.length_nil]; omega)), bindO_some', bindO_some', i64_in _ (by omega), bindO_some']
      refine ih _ ⟨rfl, show 0 ≤ j - 1 by omega, ?_, show 0 ≤ p2' by omega, show p2' + 6 * (j - 1) ≤ pos + 100 by omega, ?_, fun h => ?_⟩ (by show (j - 1).toNat < j.toNat; omega)
      · simp only [List.length_append, List.length_cons, List.length_nil]
        omega
      · simp only [List.length_append, List.length_cons, List.length_nil]
        omega
      · simp at h
    cases hin : xs.any (· == v)
    · rw [Bool.not_false, cond_true]
      exact hgo p' s' (by omega) (by omega)
    · have hne : xs ≠ [] := fun h => by
        rw [h] at hin
        cases hin
      obtain ⟨b, p3, s3, e3, t1, t2⟩ := one_ok (seed := s') (n := 20) hb (show 0 ≤ p' by omega) (by omega) (by omega)
      rw [Bool.not_true, cond_false, e3, bindO_some']
      dsimp only
      cases b
      · rw [cond_false, i64_in _ (by omega), bindO_some']
        exact ih _ ⟨rfl, show 0 ≤ j - 1 by omega, show (xs.length : Int) + (j - 1) ≤ 5 by omega, show 0 ≤ p3 by omega, show p3 + 6 * (j - 1) ≤ pos + 100 by omega, i6, fun h => absurd h hne⟩ (by show (j - 1).toNat < j.toNat; omega)
      · rw [cond_true]
        exact hgo p3 s3 (by omega) (by omega)
  · have hne : xs ≠ [] := fun h => hj (by have := i7 h; omega)
    have hyl : 0 < ys.length := by
      rw [i6]
      exact List.length_pos_iff.2 hne
    obtain ⟨v, p3, s3, e3, -, -, -, -, t1, t2⟩ := pick_ok (seed := sd) (n := 20) hb i4 (by omega) (by omega)
    rw [decide_eq_false hj, cond_false, e3, bindO_some']
    dsimp only
    cases v == 0
    · rw [cond_false]
      cases v == 1
      · rw [cond_false]
        cases v == 2
        · exact ⟨xs, ys, _, rfl, by omega, by omega⟩
        · obtain ⟨w, p4, s4, e4, -, -, -⟩ := among_ok (seed := s3) (l := [q, -1]) hb (show 0 ≤ p3 by omega) (by omega) (by simp)
          have hg : getI ys 0 = some ys[0] := (getI_nat ys 0).trans (List.getElem?_eq_getElem hyl)
          rw [cond_true, e4, bindO_some', hg, bindO_some', bindO_some']
          exact ⟨xs, _, _, rfl, by omega, by rw [List.length_set]; omega⟩
      · exact ⟨[], ys, _, rfl, by simp, by omega⟩
    · rw [cond_true, guardO_of (lenOk_of (by simp only [List.length_cons, List.length_nil]; omega)), bindO_some', bindO_some']
      exact ⟨xs, _, _, rfl, by omega, by simp only [List.length_append, List.length_cons, List.length_nil]; omega⟩

theorem DrawInterpolate_ok {code : List Int} (hb : Bytes code) : ∃ q xs ys, M_S_DrawInterpolate code = some (q, xs, ys) ∧ xs.length ≤ 6 ∧ ys.length ≤ 7 := by
  unfold M_S_DrawInterpolate
  obtain ⟨q, p, s, e, p1, p2⟩ := field_ok (pos := 0) (seed := 0) hb (by omega) (by omega)
  obtain ⟨xs, ys, c, e', h1, h2⟩ := points_ok (seed := s) (q := q) hb p1 (by omega)
  rw [e, bindO_some']
  dsimp only
  rw [e', bindO_some']
  exact ⟨q, xs, ys, rfl, h1, h2⟩

theorem wf_u8 {code : List Int} (h : WF (.sl (.int .u8)) code) : Bytes code := fun a ha => by
  have h1 : IntKind.u8.min ≤ a ∧ a ≤ IntKind.u8.max := h.2 a ha
  have e1 : IntKind.u8.min = 0 := by decide
  have e2 : IntKind.u8.max = 255 := by decide
  omega

theorem qInts_eq {a : List Int} (h : a.length < 2 ^ 62) : M_L_qInts (a, a) = some true := by
  unfold M_L_qInts
  dsimp only
  rw [bne_self_eq_false, cond_false]
  refine loopO_for (σ := Unit) (fun i _ => (i : Int)) a.length (fun _ _ => some true) (fun _ _ => True) (fun again _ _ => ?_) (fun again i _ hi _ ih => ?_) (by omega) (i := 0) (s := ()) (Nat.zero_le _) trivial
  · rw [lt_no, cond_false]
  · have hg := List.getElem?_eq_getElem hi
    rw [lt_yes hi, cond_true, getI_nat, hg, bindO_some', bindO_some', bne_self_eq_false, cond_false, i64_succ (by omega), bindO_some']
    exact ih () trivial

theorem law_FnInterpolation (x : List Int × List Int) (h : WFI [.data (.sl (.int .u8)), .data (.sl (.int .u8))] x) : M_L_FnInterpolation x = some true := by
  obtain ⟨code, more⟩ := x
  have hb1 : Bytes code := wf_u8 h.1
  have hb2 : Bytes more := wf_u8 h.2
  unfold M_L_FnInterpolation
  dsimp only
  rw [bindO_some']
  cases decide (IntKind.wrap .i64 (((code.length : Nat) : Int) + ((more.length : Nat) : Int)) > 1048576) with
  | true => rfl
  | false =>
    rw [cond_false]
    obtain ⟨q, xs, ys, e1, x1, y1⟩ := DrawInterpolate_ok hb1
    obtain ⟨p, roots, e2, r1⟩ := DrawPolyFromRoots_ok hb2
    rw [e1, bindO_some']
    dsimp only
    rw [I_Interpolate_eq (by omega) (by omega), S_Interpolate_eq (by omega) (by omega), bindO_some', bindO_some', e2, bindO_some']
    dsimp only
    rw [I_PolyFromRoots_eq (by omega), S_PolyFromRoots_eq (by omega), bindO_some', bindO_some']
    have hlen1 : (bif tabB q xs ys then (itL q xs ys, true) else ([], false) : List Int × Bool).1.length ≤ 100 := by
      cases tabB q xs ys
      · simp
      · show (itL q xs ys).length ≤ 100
        rw [itL_len]
        omega
    have hlen2 : (bif rootB p roots then (frN p roots, true) else ([], false) : List Int × Bool).1.length ≤ 100 := by
      cases hr : rootB p roots
      · simp
      · obtain ⟨h1, h2, h3, h4⟩ := rootB_spec hr
        show (frN p roots).length ≤ 100
        have := (frN_ok h1.1 roots).1
        omega
    rw [beq_self_eq_true, Bool.not_true, cond_false, qInts_eq (by omega), bindO_some', Bool.not_true, cond_false, beq_self_eq_true, Bool.not_true, cond_false, qInts_eq (by omega), bindO_some', Bool.not_true, cond_false]
    have htail : (cond (not (bif tabB q xs ys then (itL q xs ys, true) else ([], false) : List Int × Bool).2) (some true) (bindO (M_I_EvalAll (q, (bif tabB q xs ys then (itL q xs ys, true) else ([], false) : List Int × Bool).1, xs)) fun a15 => bindO (M_I_ValueFrom (q, xs, ys, 0)) fun a16 => bindO (M_I_EvalPoly (q, (bif tabB q xs ys then (itL q xs ys, true) else ([], false) : List Int × Bool).1, 0)) fun a17 => bindO (M_I_LagrangeCoefs (q, xs, 0)) fun a18 => bindO (M_I_DotMod (a18.1, ys, q)) fun a19 =>
        cond a15.2 (cond a16.2 (cond a17.2 (cond a18.2 (cond a19.2 (bindO (M_L_qInts (a15.1, ys)) fun a20 => cond a20 (cond (a16.1 == a17.1) (some (a19.1 == a17.1)) (some false)) (some false)) (some false)) (some false)) (some false)) (some false)) (some false))) = some true := by
      cases ht : tabB q xs ys
      · rfl
      · obtain ⟨h1, h2, h3, h4, h5, h6, h7⟩ := tabB_spec ht
        have hq2 := h1.1
        have hp : ptsB q xs = true := by
          simp only [tabB, Bool.and_eq_true] at ht
          exact ht.1
        have hF : isF q = true := by
          simp only [ptsB, Bool.and_eq_true] at hp
          exact hp.2.1.1
        have hys : (xs.map fun x => polyv (itL q xs ys) x % q) = ys := by
          refine List.ext_getElem? fun k => ?_
          by_cases hk : k < xs.length
          · have hg := getD_at (d := (0 : Int)) hk
            have hgy := getD_at (d := (0 : Int)) (l := ys) (i := k) (by omega)
            have hyr := inF_get h6 (i := k) (by omega)
            rw [List.getElem?_map, hg, hgy, Option.map_some, Cg_eq (itL_at h1 h2 h3 h4 (by omega) hk), Int.emod_eq_of_lt hyr.1 hyr.2]
          · rw [List.getElem?_eq_none (by rw [List.length_map]; omega), List.getElem?_eq_none (by omega)]
        show (bindO (M_I_EvalAll (q, itL q xs ys, xs)) fun a15 => bindO (M_I_ValueFrom (q, xs, ys, 0)) fun a16 => bindO (M_I_EvalPoly (q, itL q xs ys, 0)) fun a17 => bindO (M_I_LagrangeCoefs (q, xs, 0)) fun a18 => bindO (M_I_DotMod (a18.1, ys, q)) fun a19 =>
          cond a15.2 (cond a16.2 (cond a17.2 (cond a18.2 (cond a19.2 (bindO (M_L_qInts (a15.1, ys)) fun a20 => cond a20 (cond (a16.1 == a17.1) (some (a19.1 == a17.1)) (some false)) (some false)) (some false)) (some false)) (some false)) (some false)) (some false)) = some true
        rw [EvalAll_eq hF (itL_inF hq2) (by rw [itL_len]; omega) h3 (by omega), bindO_some', hys, ValueFrom_eq ht (by omega), bindO_some', EvalPoly_eq hF (itL_inF hq2) (by rw [itL_len]; omega) (by omega), bindO_some', LagrangeCoefs_eq hp (by omega), bindO_some']
        dsimp only
        rw [DotMod_eq ht, bindO_some']
        simp only [cond_true, qInts_eq (show ys.length < 2 ^ 62 by omega), bindO_some', beq_self_eq_true]
    cases hr : rootB p roots
    · exact htail
    · obtain ⟨h1, h2, h3, h4⟩ := rootB_spec hr
      have hF : isF p = true := by
        simp only [rootB, Bool.and_eq_true] at hr
        exact hr.1.1
      obtain ⟨f1, f2, f3⟩ := frN_ok h1.1 roots
      simp only [cond_true]
      rw [EvalAll_eq hF f2 (by omega) h3 (by omega), bindO_some', DegreeOf_eq (n := roots.length) hF f2 (by omega) f1 (frN_top h1.1 roots), bindO_some']
      dsimp only
      rw [Bool.not_true, cond_false, cond_false, bne_self_eq_false, cond_false]
      have hz : (roots.map fun x => polyv (frN p roots) x % p) = List.replicate roots.length 0 := by
        refine List.ext_getElem? fun k => ?_
        rw [List.getElem?_replicate, List.getElem?_map]
        by_cases hk : k < roots.length
        · rw [if_pos hk, getD_at (d := (0 : Int)) hk, Option.map_some, Cg_eq (f3 (roots.getD k 0)), prodT_zero _ hk, Int.zero_emod]
        · rw [if_neg hk, List.getElem?_eq_none (by omega)]
          rfl
      rw [hz]
      refine loopO_for (σ := Unit) (fun i _ => (i : Int)) roots.length (fun _ _ => some true) (fun _ _ => True) (fun again _ _ => ?_) (fun again i _ hi _ ih => ?_) (by omega) (i := 0) (s := ()) (Nat.zero_le _) trivial
      · rw [List.length_replicate, lt_no, cond_false]
        exact htail
      · rw [List.length_replicate, lt_yes hi, cond_true, getI_nat, List.getElem?_replicate, if_pos hi, bindO_some', bne_self_eq_false, cond_false, i64_succ (by omega), bindO_some']
        exact ih () trivial

end Go.Proofs.Ytgjneigkkgaaiaa.Vd
