/- The law FnExactRunCascade as plain functions on data returns true for all arguments: lemmas. No conditions. -/
import Derived.Test.YtjmpdejigkjaoaaGreatRcaMod2
set_option linter.unusedVariables false
set_option linter.unusedSimpArgs false
set_option linter.unusedSectionVars false
set_option linter.unnecessarySimpa false
namespace Go.Proofs.YtjmpdejigkjaoaaGreat.Vd
open Go.IntWalk

theorem i64_succ {i : Nat} (h : i < 2 ^ 62) : IntKind.wrap .i64 ((i : Int) + 1) = ((i + 1 : Nat) : Int) := by
  rw [i64_in _ (by omega)]
  rfl
theorem lt_yes {i n : Nat} (h : i < n) : decide ((i : Int) < (n : Int)) = true := by simp [h]
theorem lt_no (n : Nat) : decide ((n : Int) < (n : Int)) = false := by simp
def walk {α β : Type} (step : Nat → α → Option β → Option β) (fin : Option β) : Nat → List α → Option β
  | _, [] => fin
  | i, a :: r => step i a (walk step fin (i + 1) r)
theorem loop_walk {α β : Type} {body : (Int → Option β) → Int → Option β} (l : List α) (step : Nat → α → Option β → Option β) (fin : Option β)
    (h : ∀ (again : Int → Option β) (i : Nat) a, l[i]? = some a → i < l.length → body again (i : Int) = step i a (again ((i + 1 : Nat) : Int)))
    (hend : ∀ again : Int → Option β, body again (l.length : Int) = fin) (hl : l.length < 2 ^ 64) : loopO body 0 = walk step fin 0 l := by
  refine (loopO_for (σ := Unit) (fun i _ => (i : Int)) l.length (fun i _ => walk step fin i (l.drop i)) (fun _ _ => True) (fun again _ _ => ?_) (fun again i _ hi _ ih => ?_) hl (i := 0) (s := ()) (Nat.zero_le _) trivial).trans rfl
  · simp [hend, walk]
  · rw [h again i l[i] (List.getElem?_eq_getElem hi) hi, ih () trivial, List.drop_eq_getElem_cons hi, walk]
def walkS {α β σ : Type} (step : Nat → α → σ → (σ → Option β) → Option β) (fin : σ → Option β) : Nat → List α → σ → Option β
  | _, [], s => fin s
  | i, a :: r, s => step i a s (walkS step fin (i + 1) r)
theorem loop_walkI {α β σ τ : Type} {body : (τ → Option β) → τ → Option β} (enc : Int → σ → τ) (l : List α) (step : Nat → α → σ → (σ → Option β) → Option β) (fin : σ → Option β) (Inv : Nat → σ → Prop)
    (hc : ∀ (i : Nat) a s (k k' : σ → Option β), l[i]? = some a → Inv i s → (∀ s', Inv (i + 1) s' → k s' = k' s') → step i a s k = step i a s k')
    (h : ∀ (again : τ → Option β) (i : Nat) a s, l[i]? = some a → i < l.length → Inv i s → body again (enc i s) = step i a s fun s' => again (enc ((i + 1 : Nat) : Int) s'))
    (hend : ∀ (again : τ → Option β) s, Inv l.length s → body again (enc l.length s) = fin s) (hl : l.length < 2 ^ 64) (s : σ) (h0 : Inv 0 s) : loopO body (enc 0 s) = walkS step fin 0 l s := by
  refine (loopO_for (σ := σ) (fun i s => enc (i : Int) s) l.length (fun i s => walkS step fin i (l.drop i) s) Inv (fun again s hs => ?_) (fun again i s hi hs ih => ?_) hl (i := 0) (s := s) (Nat.zero_le _) h0).trans rfl
  · simp [hend _ _ hs, walkS]
  · rw [h again i l[i] s (List.getElem?_eq_getElem hi) hi hs, List.drop_eq_getElem_cons hi, walkS]
    exact hc i l[i] s _ _ (List.getElem?_eq_getElem hi) hs fun s' hs' => ih s' hs'
theorem walk_any {α : Type} (p : α → Bool) : ∀ (l : List α) (i : Nat), walk (fun _ a k => if p a = true then some true else k) (some false) i l = some (l.any p)
  | [], _ => rfl
  | a :: l, i => by
    rw [walk, walk_any p l]
    cases h : p a <;> simp [h]
theorem walk_all {α : Type} (p : α → Bool) : ∀ (l : List α) (i : Nat), walk (fun _ a k => if p a = true then k else some false) (some true) i l = some (l.all p)
  | [], _ => rfl
  | a :: l, i => by
    rw [walk, walk_all p l]
    cases h : p a <;> simp [h]
theorem walk_index {α : Type} (p : α → Bool) : ∀ (l : List α) (i : Nat), ∃ j : Int, walk (fun i a k => if p a = true then some (i : Int) else k) (some (-1)) i l = some j ∧ decide (j ≥ 0) = l.any p
  | [], _ => ⟨-1, rfl, rfl⟩
  | a :: l, i => by
    obtain ⟨j, h1, h2⟩ := walk_index p l (i + 1)
    cases h : p a
    · exact ⟨j, by simp [walk, h, h1], by simp [h, h2]⟩
    · exact ⟨i, by simp [walk, h], by simp [h]⟩
theorem toIntS_eq {x : List Int} (h : x.length ≤ 1048576) : M_L_toIntS x = some x := by
  unfold M_L_toIntS
  have hx : (x.length : Int) ≤ ((lim : Nat) : Int) := by rw [lim_eq]; omega
  rw [guardO_of (by simpa using hx), bindO_some']
  refine (loopO_for (σ := List Int) (fun i s => ((i : Int), s)) x.length (fun i s => some (x.take i ++ x.drop i)) (fun i s => s = x.take i ++ List.replicate (x.length - i) 0) (fun again s hs => ?_) (fun again i s hi hs ih => ?_) (by omega) (i := 0) (s := List.replicate x.length 0) (Nat.zero_le _) (by simp)).trans (by simp)
  · subst hs; simp
  · subst hs
    have h1 : (x.take i ++ List.replicate (x.length - i) (0 : Int))[i]? = some 0 := by
      rw [List.getElem?_append_right (by simp; omega)]
      simp [List.getElem?_replicate]
      omega
    have h2 : (x.take i ++ List.replicate (x.length - i) (0 : Int)).set i x[i] = x.take (i + 1) ++ List.replicate (x.length - (i + 1)) 0 := by
      refine List.ext_getElem? fun j => ?_
      rw [List.getElem?_set]
      by_cases hij : i = j
      · subst hij
        rw [if_pos rfl, if_pos (by simp; omega), List.getElem?_append_left (by simp; omega), List.getElem?_take, if_pos (by omega), List.getElem?_eq_getElem hi]
      · rw [if_neg hij]
        by_cases hj : j < i
        · rw [List.getElem?_append_left (by simp; omega), List.getElem?_append_left (by simp; omega), List.getElem?_take, List.getElem?_take, if_pos hj, if_pos (by omega)]
        · rw [List.getElem?_append_right (by simp; omega), List.getElem?_append_right (by simp; omega)]
          simp only [List.length_take, List.getElem?_replicate]
          rw [Nat.min_eq_left (by omega), Nat.min_eq_left (by omega)]
          by_cases hjx : j < x.length
          · rw [if_pos (by omega), if_pos (by omega)]
          · rw [if_neg (by omega), if_neg (by omega)]
    simp only [getI_nat, List.getElem?_eq_getElem hi, h1, bindO_some', Int.toNat_natCast, h2, i64_succ (show i < 2 ^ 62 by omega)]
    rw [ih _ rfl]
    simp [hi]
theorem eqIntS_eq {a b : List Int} (h : a.length < 2 ^ 62) : M_L_eqIntS (a, b) = some (decide (a = b)) := by
  unfold M_L_eqIntS
  by_cases hl : a.length = b.length
  · have e1 : ((a.length : Int) != (b.length : Int)) = false := by simp [hl]
    dsimp only
    rw [e1]
    simp only [cond_false]
    refine (loopO_for (σ := Unit) (fun i _ => (i : Int)) a.length (fun i _ => some (decide (a.drop i = b.drop i))) (fun _ _ => True) (fun again _ _ => ?_) (fun again i _ hi _ ih => ?_) (by omega) (i := 0) (s := ()) (Nat.zero_le _) trivial).trans (by simp)
    · simp [hl]
    · have hi' : i < b.length := by omega
      simp only [getI_nat, List.getElem?_eq_getElem hi, List.getElem?_eq_getElem hi', bindO_some', i64_succ (show i < 2 ^ 62 by omega), ih () trivial]
      rw [List.drop_eq_getElem_cons hi, List.drop_eq_getElem_cons hi']
      by_cases he : a[i] = b[i] <;> simp [bne_dec, he, hi, -List.getElem_cons_drop]
  · have e1 : ((a.length : Int) != (b.length : Int)) = true := by simp; omega
    dsimp only
    rw [e1]
    simp only [cond_true, Option.some.injEq]
    symm
    simp only [decide_eq_false_iff_not]
    rintro rfl
    exact hl rfl
def marks (n : Nat) (k : Int) : List Int := (List.range n).map fun (i : Nat) => k + (i : Int)
theorem marks_length (n : Nat) (k : Int) : (marks n k).length = n := by simp [marks]
theorem marks_get {n i : Nat} {k : Int} (h : i < n) : (marks n k)[i]? = some (k + i) := by
  simp [marks, h]
theorem markIntS_eq {a : List Int} {k : Int} (h : a.length < 2 ^ 40) (h0 : 0 ≤ k) (h1 : k < 2 ^ 40) : M_L_markIntS (a, k) = some (k + a.length, marks a.length k) := by
  unfold M_L_markIntS
  refine (loopO_for (σ := Int × List Int) (fun i s => (s.1, ((i : Int), s.2))) a.length (fun i s => some (k + a.length, marks a.length k)) (fun i s => s.1 = k + i ∧ s.2 = marks i k ++ a.drop i) (fun again s hs => ?_) (fun again i s hi hs ih => ?_) (by omega) (i := 0) (s := (k, a)) (Nat.zero_le _) (by simp [marks])).trans rfl
  · obtain ⟨s1, s2⟩ := s
    obtain ⟨rfl, rfl⟩ := hs
    simp [marks_length]
  · obtain ⟨s1, s2⟩ := s
    obtain ⟨rfl, rfl⟩ := hs
    have h2 : (marks i k ++ a.drop i)[i]? = some a[i] := by
      rw [List.getElem?_append_right (by simp [marks_length])]
      simp [marks_length, hi]
    have h3 : (marks i k ++ a.drop i).set i (k + i) = marks (i + 1) k ++ a.drop (i + 1) := by
      rw [List.set_append_right _ _ (by simp [marks_length]), marks_length, Nat.sub_self, List.drop_eq_getElem_cons hi, List.set_cons_zero]
      simp [marks, List.range_succ]
    have hlen : (marks i k ++ a.drop i).length = a.length := by simp [marks_length]; omega
    simp only [getI_nat, h2, bindO_some', Int.toNat_natCast, h3, i64_succ (show i < 2 ^ 62 by omega), hlen]
    rw [i64_in _ (by omega)]
    simp only [lt_yes hi, cond_true]
    exact ih (k + i + 1, marks (i + 1) k ++ a.drop (i + 1)) ⟨by simp; omega, rfl⟩
theorem heldIntS_eq {n : Nat} {k : Int} (h : n < 2 ^ 40) (h0 : 0 ≤ k) (h1 : k < 2 ^ 40) : M_L_heldIntS (marks n k, k) = some (k + n) := by
  unfold M_L_heldIntS
  refine (loopO_for (σ := Int) (fun i s => (s, (i : Int))) n (fun i s => some (k + n)) (fun i s => s = k + i) (fun again s hs => ?_) (fun again i s hi hs ih => ?_) (by omega) (i := 0) (s := k) (Nat.zero_le _) (by simp)).trans rfl
  · subst hs; simp [marks_length]
  · subst hs
    simp only [getI_nat, marks_get hi, marks_length, bindO_some', i64_succ (show i < 2 ^ 62 by omega)]
    rw [i64_in _ (by omega)]
    simp only [lt_yes hi, cond_true, bne_self_eq_false, cond_false]
    exact ih (k + i + 1) (by simp; omega)
theorem has_eq {l : List Int} {n : Int} (hl : l.length < 2 ^ 62) : M_S_l1Has (l, n) = some (l.any (· == n)) := by
  unfold M_S_l1Has
  refine (loop_walk l (fun _ a k => if (a == n) = true then some true else k) (some false) (fun again i a ha hi => ?_) (fun again => ?_) (by omega)).trans (walk_any _ l 0)
  · simp only [getI_nat, ha, bindO_some', i64_succ (show i < 2 ^ 62 by omega)]
    cases h : a == n <;> simp [h, hi]
  · simp
theorem index_eq {l : List Int} {n : Int} (hl : l.length < 2 ^ 62) : ∃ j : Int, M_slices_Index_sint_int (l, n) = some j ∧ decide (j ≥ 0) = l.any (· == n) := by
  obtain ⟨j, h1, h2⟩ := walk_index (fun a : Int => a == n) l 0
  refine ⟨j, ?_, h2⟩
  unfold M_slices_Index_sint_int
  refine (loop_walk l (fun i a k => if (a == n) = true then some (i : Int) else k) (some (-1)) (fun again i a ha hi => ?_) (fun again => ?_) (by omega)).trans h1
  · simp only [getI_nat, ha, bindO_some', i64_succ (show i < 2 ^ 62 by omega), lt_yes hi, cond_true]
    rw [show (n == a) = (a == n) from BEq.comm]
    cases h : a == n <;> simp [h]
  · simp
theorem lenOk_of {n : Nat} (h : n ≤ 68719476736) : lenOk n = true := by simp [lenOk, lim_eq, h]
theorem sliceLN_nat {l n : Nat} (h : l ≤ n) : sliceLN (l : Int) n = some (l, n) := by
  unfold sliceLN
  rw [if_pos ⟨by omega, by omega⟩]
  simp
theorem sliceNH_nat {h n : Nat} (hh : h ≤ n) : sliceNH (h : Int) n = some (0, h) := by
  unfold sliceNH
  rw [if_pos ⟨by omega, by omega⟩]
  simp
theorem contains_eq {l : List Int} {n : Int} (hl : l.length < 2 ^ 62) : M_slices_Contains_sint_int (l, n) = some (l.any (· == n)) := by
  obtain ⟨j, h1, h2⟩ := index_eq (n := n) hl
  unfold M_slices_Contains_sint_int
  dsimp only
  rw [h1, bindO_some', h2]
theorem loopO_ind {σ β : Type} {body : (σ → Option β) → σ → Option β} (Q : σ → Option β → Prop) (Inv : σ → Prop) (μ : σ → Nat)
    (step : ∀ (again : σ → Option β) s, Inv s → (∀ s', Inv s' → μ s' < μ s → Q s' (again s')) → Q s (body again s)) {s : σ} (h0 : Inv s) (hm : μ s < 2 ^ 64) : Q s (loopO body s) := by
  rw [loopO_eq]
  have H : ∀ (n : Nat) (s : σ), Inv s → μ s < n → Q s (iter body n s) := by
    intro n
    induction n with
    | zero => intro s _ h; exact absurd h (Nat.not_lt_zero _)
    | succ n ih => intro s hs h; exact step _ s hs fun s' hs' h' => ih s' hs' (by omega)
  exact H many s h0 hm
theorem in_eq (x a b : Int) : M_S_l1In (x, a, b) = some (decide (a ≤ x ∧ x ≤ b)) := by
  by_cases h : a ≤ x <;> by_cases h2 : x ≤ b <;> simp [M_S_l1In, h, h2]
theorem within_eq (x a b : Int) : M_I_within (x, a, b) = some (decide (a ≤ x ∧ x ≤ b)) := by
  by_cases h : a ≤ x <;> by_cases h2 : x ≤ b <;> simp [M_I_within, h, h2]
theorem isModulus_eq (x : Int) : M_I_isModulus x = some (decide (2 ≤ x ∧ x ≤ 2000000000)) := by
  unfold M_I_isModulus
  rw [within_eq]
  rfl
def IsP (n : Int) : Prop := 2 ≤ n ∧ ∀ d, 2 ≤ d → d * d ≤ n → n % d ≠ 0
noncomputable def isP (n : Int) : Bool := @decide (IsP n) (Classical.propDecidable _)
def NoDiv (n s : Int) : Prop := ∀ d, s ≤ d → d * d ≤ n → n % d ≠ 0
noncomputable def noDiv (n s : Int) : Bool := @decide (NoDiv n s) (Classical.propDecidable _)
theorem noDiv_end {n s : Int} (hs : 0 ≤ s) (h : n < s * s) : noDiv n s = true := by
  simp only [noDiv, decide_eq_true_eq]
  intro d hd hdd
  have := Int.mul_le_mul hd hd hs (by omega)
  omega
theorem noDiv_hit {n s : Int} (h : s * s ≤ n) (h2 : n % s = 0) : noDiv n s = false := by
  simp only [noDiv, decide_eq_false_iff_not]
  intro hn
  exact hn s (Int.le_refl _) h h2
theorem noDiv_step {n s : Int} (h2 : s * s ≤ n → n % s ≠ 0) : noDiv n s = noDiv n (s + 1) := by
  simp only [noDiv, decide_eq_decide]
  constructor
  · intro h d hd hdd
    exact h d (by omega) hdd
  · intro h d hd hdd
    by_cases he : d = s
    · subst he
      exact h2 hdd
    · exact h d (by omega) hdd
theorem sq_lt {s : Int} (h0 : 0 ≤ s) (h : s * s ≤ 2000000000) : s ≤ 44721 := by
  refine Int.not_lt.1 fun hlt => ?_
  have := Int.mul_le_mul (show (44722 : Int) ≤ s by omega) (show (44722 : Int) ≤ s by omega) (by omega) h0
  omega
theorem sq_le {s k : Int} (h0 : 0 ≤ s) (h : s ≤ k) : s * s ≤ k * k := Int.mul_le_mul h h h0 (by omega)
theorem nPrime_eq {n : Int} (hn : n ≤ 2000000000) : M_S_nPrime n = some (isP n) := by
  unfold M_S_nPrime
  by_cases h2 : n < 2
  · have : isP n = false := by simp only [isP, decide_eq_false_iff_not]; intro h; have := h.1; omega
    simp [h2, this]
  · have hb : decide (n < 2) = false := by simpa using h2
    rw [hb, cond_false]
    have h1 : isP n = noDiv n 2 := by
      simp only [isP, noDiv, decide_eq_decide]
      exact ⟨fun h => h.2, fun h => ⟨by omega, h⟩⟩
    rw [h1]
    refine loopO_spec (fun s => some (noDiv n s)) (fun s => 2 ≤ s ∧ s ≤ 50000) (fun s => (50000 - s).toNat) (fun again s hs ih => ?_) ⟨by omega, by omega⟩ (by omega)
    obtain ⟨hs1, hs2⟩ := hs
    have hq := sq_le (by omega) hs2
    have hq0 : 0 ≤ s * s := Int.mul_nonneg (by omega) (by omega)
    simp only [bindO_some', i64_in _ (show (-9223372036854775808 : Int) ≤ s * s ∧ s * s ≤ 9223372036854775807 by omega)]
    by_cases hle : s * s ≤ n
    · have := sq_lt (by omega) (show s * s ≤ 2000000000 by omega)
      have hgs : guardO (s != 0) = some () := guardO_of (by simp; omega)
      simp only [hle, decide_true, cond_true, hgs, bindO_some', tmod_nn (show 0 ≤ n by omega)]
      by_cases h0 : n % s = 0
      · simp [h0, noDiv_hit hle h0]
      · have hb : (n % s == 0) = false := by simpa using h0
        have hw := i64_in (s + 1) (by omega)
        have hi := ih (s + 1) ⟨by omega, by omega⟩ (by omega)
        have hn := noDiv_step (n := n) (s := s) (fun _ => h0)
        rw [hb, cond_false, hw, hi, hn]
    · simp [hle, noDiv_end (by omega) (show n < s * s by omega)]
theorem odd_loop {n : Int} (hn : n ≤ 2000000000) (h2 : 2 ≤ n) (hodd : n % 2 = 1 ∨ n = 2) : loopO (fun (again9 : (Int → (Option Bool))) => (fun (s10 : Int) => (bindO (some (IntKind.wrap .i64 (s10 * s10))) (fun (a11 : Int) => (cond (decide (a11 ≤ n)) (bindO (guardO (s10 != (0 : Int))) (fun (a12 : Unit) => (bindO (some (Int.tmod n s10)) (fun (a13 : Int) => (cond (a13 == (0 : Int)) (some false) (bindO (some (IntKind.wrap .i64 (s10 + (2 : Int)))) (fun (a14 : Int) => (again9 a14)))))))) (some true)))))) (3 : Int) = some (noDiv n 3) := by
  refine loopO_spec (fun s => some (noDiv n s)) (fun s => 3 ≤ s ∧ s ≤ 50000 ∧ s % 2 = 1) (fun s => (50000 - s).toNat) (fun again s hs ih => ?_) ⟨by omega, by omega, by omega⟩ (by omega)
  obtain ⟨hs1, hs2, hs3⟩ := hs
  have hq := sq_le (by omega) hs2
  have hq0 : 0 ≤ s * s := Int.mul_nonneg (by omega) (by omega)
  simp only [bindO_some', i64_in _ (show (-9223372036854775808 : Int) ≤ s * s ∧ s * s ≤ 9223372036854775807 by omega)]
  by_cases hle : s * s ≤ n
  · have := sq_lt (by omega) (show s * s ≤ 2000000000 by omega)
    have h9 := sq_le (show (0 : Int) ≤ 3 by omega) hs1
    have hgs : guardO (s != 0) = some () := guardO_of (by simp; omega)
    simp only [hle, decide_true, cond_true, hgs, bindO_some', tmod_nn (show 0 ≤ n by omega)]
    by_cases h0 : n % s = 0
    · simp [h0, noDiv_hit hle h0]
    · have hb : (n % s == 0) = false := by simpa using h0
      have hw := i64_in (s + 2) (by omega)
      have hi := ih (s + 2) ⟨by omega, by omega, by omega⟩ (by omega)
      have hn1 := noDiv_step (n := n) (s := s) (fun _ => h0)
      have hn2 := noDiv_step (n := n) (s := s + 1) (fun h8 h1 => by
        have := Int.emod_emod_of_dvd n (show (2 : Int) ∣ (s + 1) by omega)
        rw [h1] at this
        have h3 : n ≠ 2 := fun h => by subst h; omega
        omega)
      rw [hb, cond_false, hw, hi, hn1, hn2, show s + 1 + 1 = s + 2 by omega]
  · simp [hle, noDiv_end (by omega) (show n < s * s by omega)]
theorem isPrime_eq {n : Int} (hn : n ≤ 2000000000) : M_I_isPrime n = some (isP n) := by
  unfold M_I_isPrime
  rw [isModulus_eq]
  by_cases h2 : 2 ≤ n
  · have h1 : isP n = noDiv n 2 := by
      simp only [isP, noDiv, decide_eq_decide]
      exact ⟨fun h => h.2, fun h => ⟨h2, h⟩⟩
    have hg2 : guardO ((2 : Int) != 0) = some () := rfl
    by_cases ho : n % 2 = 1 ∨ n = 2
    · rw [odd_loop hn h2 ho, hg2]
      simp only [bindO_some', h2, hn, and_self, decide_true, Bool.not_true, cond_false, tmod_nn (show 0 ≤ n by omega), h1]
      rcases ho with ho | rfl
      · have hb : (n % 2 == 0) = false := by simp [ho]
        rw [hb, cond_false, noDiv_step (n := n) (s := 2) (fun _ => by omega)]
        rfl
      · rw [noDiv_end (n := 2) (s := 2) (by omega) (by omega), noDiv_end (n := 2) (s := 3) (by omega) (by omega)]
        rfl
    · have he : n % 2 = 0 := by omega
      have hn2 : n ≠ 2 := fun h => ho (.inr h)
      have hb : (n != 2) = true := by simpa using hn2
      simp only [bindO_some', hg2, h2, hn, and_self, decide_true, Bool.not_true, cond_false, tmod_nn (show 0 ≤ n by omega), he, beq_self_eq_true, cond_true, hb, h1]
      rw [noDiv_hit (by omega) he]
  · have : isP n = false := by simp only [isP, decide_eq_false_iff_not]; intro h; have := h.1; omega
    simp [h2, this]
theorem pow_mod (a m : Int) : ∀ k : Nat, (a % m) ^ k % m = a ^ k % m
  | 0 => by simp
  | k + 1 => by rw [Int.pow_succ, Int.pow_succ, Int.mul_emod, pow_mod a m k, ← Int.mul_emod, Int.mul_emod, Int.emod_emod_of_dvd _ (Int.dvd_refl m), ← Int.mul_emod]
theorem sq_pow (a : Int) (k : Nat) : (a * a) ^ k = a ^ (2 * k) := by
  rw [show a * a = a ^ 2 by rw [Int.pow_succ, Int.pow_succ, Int.pow_zero, Int.one_mul], ← Int.pow_mul]
theorem pow_round {out a m : Int} {e : Int} (he : 0 < e) : ((if e % 2 = 1 then out * a % m else out) * (a * a % m) ^ (e / 2).toNat) % m = (out * a ^ e.toNat) % m := by
  have hk : e.toNat = 2 * (e / 2).toNat + (e % 2).toNat := by omega
  rw [Int.mul_emod, pow_mod, ← Int.mul_emod, sq_pow]
  by_cases h : e % 2 = 1
  · rw [if_pos h, hk, h, Int.pow_add, show (1 : Int).toNat = 1 by rfl, Int.pow_succ, Int.pow_zero, Int.one_mul, Int.mul_emod, Int.emod_emod_of_dvd _ (Int.dvd_refl m), ← Int.mul_emod]
    congr 1
    rw [Int.mul_assoc, Int.mul_comm a]
  · rw [if_neg h, hk, show e % 2 = 0 by omega]
    rfl
theorem mul_in {a b : Int} (ha : 0 ≤ a) (ha2 : a ≤ 3000000000) (hb : 0 ≤ b) (hb2 : b ≤ 3000000000) : 0 ≤ a * b ∧ a * b ≤ 9000000000000000000 :=
  ⟨Int.mul_nonneg ha hb, by have := Int.mul_le_mul ha2 hb2 hb (by omega); omega⟩
theorem nPower_eq {a e m : Int} (ha : 0 ≤ a) (ha2 : a ≤ 3000000000) (he : 0 ≤ e) (he2 : e ≤ 9223372036854775807) (hm : 1 ≤ m) (hm2 : m ≤ 3000000000) : M_S_nPower (a, e, m) = some (a ^ e.toNat % m) := by
  unfold M_S_nPower
  dsimp only
  have hg : guardO (m != 0) = some () := guardO_of (by simp; omega)
  have hg2 : guardO ((2 : Int) != 0) = some () := rfl
  rw [hg, bindO_some', bindO_some', tmod_nn (by omega)]
  have hfin : a ^ e.toNat % m = (1 % m * a ^ e.toNat) % m := by rw [Int.mul_emod, Int.emod_emod_of_dvd _ (Int.dvd_refl m), ← Int.mul_emod, Int.one_mul]
  rw [hfin]
  refine loopO_spec (fun (s : Int × Int × Int) => some ((s.2.2 * s.1 ^ s.2.1.toNat) % m)) (fun s => 0 ≤ s.1 ∧ s.1 ≤ 3000000000 ∧ 0 ≤ s.2.1 ∧ s.2.1 ≤ 9223372036854775807 ∧ 0 ≤ s.2.2 ∧ s.2.2 < m) (fun s => s.2.1.toNat) (fun again s hs ih => ?_)
    (⟨ha, ha2, he, he2, Int.emod_nonneg _ (by omega), Int.emod_lt_of_pos _ (by omega)⟩) (show e.toNat < 2 ^ 64 by omega)
  obtain ⟨a, e, out⟩ := s
  obtain ⟨h1, h2, h3, h4, h5, h6⟩ := hs
  dsimp only at h1 h2 h3 h4 h5 h6 ih ⊢
  have hoa := mul_in h5 (show out ≤ 3000000000 by omega) h1 h2
  have haa := mul_in h1 h2 h1 h2
  by_cases hpos : e > 0
  · have hr := pow_round (out := out) (a := a) (m := m) hpos
    have haam := Int.emod_nonneg (a * a) (show m ≠ 0 by omega)
    have haam2 := Int.emod_lt_of_pos (a * a) (show 0 < m by omega)
    have hoam := Int.emod_nonneg (out * a) (show m ≠ 0 by omega)
    have hoam2 := Int.emod_lt_of_pos (out * a) (show 0 < m by omega)
    simp only [hpos, decide_true, cond_true, hg, hg2, bindO_some', tmod_nn h3, tdiv_nn h3, i64_in _ (show (-9223372036854775808 : Int) ≤ out * a ∧ out * a ≤ 9223372036854775807 by omega), i64_in _ (show (-9223372036854775808 : Int) ≤ a * a ∧ a * a ≤ 9223372036854775807 by omega),
      tmod_nn hoa.1, tmod_nn haa.1, i64_in _ (show (-9223372036854775808 : Int) ≤ e / 2 ∧ e / 2 ≤ 9223372036854775807 by omega)]
    by_cases ho : e % 2 = 1
    · rw [if_pos ho] at hr
      rw [show (e % 2 == 1) = true by simp [ho], cond_true, ih (a * a % m, e / 2, out * a % m) ⟨haam, by dsimp only; omega, by dsimp only; omega, by dsimp only; omega, hoam, hoam2⟩ (by dsimp only; omega)]
      exact congrArg some hr
    · rw [if_neg ho] at hr
      rw [show (e % 2 == 1) = false by simp [ho], cond_false, ih (a * a % m, e / 2, out) ⟨haam, by dsimp only; omega, by dsimp only; omega, by dsimp only; omega, h5, h6⟩ (by dsimp only; omega)]
      exact congrArg some hr
  · have : e = 0 := by omega
    subst this
    simp [Int.emod_eq_of_lt h5 h6]
theorem bits_one {x : Int} (h : 0 ≤ x) : Vd.bits .and .i64 x 1 = x % 2 := by
  obtain ⟨n, rfl⟩ := Int.eq_ofNat_of_zero_le h
  have h1 : (BitVec.ofInt 64 ((n : Nat) : Int) &&& BitVec.ofInt 64 1).toNat = n % 2 := by
    rw [BitVec.toNat_and]
    have e1 : (BitVec.ofInt 64 ((n : Nat) : Int)).toNat = n % 2 ^ 64 := by simp
    have e2 : (BitVec.ofInt 64 1).toNat = 1 := by decide
    rw [e1, e2, Nat.and_one_is_mod]
    omega
  show IntKind.wrap .i64 (((BitVec.ofInt 64 ((n : Nat) : Int) &&& BitVec.ofInt 64 1).toNat : Nat) : Int) = _
  rw [h1, i64_in _ (by omega)]
  omega
theorem shr_one {x : Int} : Vd.shr .i64 x 1 = x / 2 := by
  show x.fdiv (2 ^ (min (1 : Int).toNat 64)) = x / 2
  rw [show ((2 : Int) ^ (min (1 : Int).toNat 64)) = 2 by decide, fdiv_pos (by omega)]
theorem power_eq {a e m : Int} (he : e ≤ 9223372036854775807) : M_I_power (a, e, m) = M_S_nPower (a, e, m) := by
  unfold M_I_power M_S_nPower
  congr 1
  funext _
  congr 1
  funext out
  refine loopO_congr (fun s => s.2.1 ≤ 9223372036854775807) (fun a1 a2 s hs ih => ?_) he
  by_cases hpos : s.2.1 > 0
  · have hg2 : guardO ((2 : Int) != 0) = some () := rfl
    have hg3 : guardO (decide ((0 : Int) ≤ 1)) = some () := rfl
    have hw : ∀ (x : Int) y, a1 (x, s.2.1 / 2, y) = a2 (x, s.2.1 / 2, y) := fun x y => ih _ (by dsimp only; omega)
    simp only [hpos, decide_true, cond_true, hg2, hg3, bindO_some', bits_one (show 0 ≤ s.2.1 by omega), shr_one, tmod_nn (show 0 ≤ s.2.1 by omega), tdiv_nn (show 0 ≤ s.2.1 by omega),
      i64_in _ (show (-9223372036854775808 : Int) ≤ s.2.1 / 2 ∧ s.2.1 / 2 ≤ 9223372036854775807 by omega), hw]
  · simp [hpos]
theorem l1All_eq {l : List Int} {lo hi : Int} (hl : l.length < 2 ^ 62) : M_S_l1All (l, lo, hi) = some (l.all fun n => decide (lo ≤ n ∧ n ≤ hi)) := by
  unfold M_S_l1All
  refine (loop_walk l (fun _ a k => if (decide (lo ≤ a ∧ a ≤ hi)) = true then k else some false) (some true) (fun again i a ha hi' => ?_) (fun again => ?_) (by omega)).trans (walk_all (fun n => decide (lo ≤ n ∧ n ≤ hi)) l 0)
  · simp only [getI_nat, ha, bindO_some', i64_succ (show i < 2 ^ 62 by omega), lt_yes hi', cond_true, in_eq]
    cases decide (lo ≤ a ∧ a ≤ hi) <;> rfl
  · simp
theorem walk_index_mem {α : Type} (p : α → Bool) (f : α → Option Bool) : ∀ (l : List α) (i : Nat), (∀ a ∈ l, f a = some (p a)) →
    ∃ j : Int, walk (fun i a k => bindO (f a) fun b => cond b (some (i : Int)) k) (some (-1)) i l = some j ∧ decide (j ≥ 0) = l.any p
  | [], _, _ => ⟨-1, rfl, rfl⟩
  | a :: l, i, hf => by
    obtain ⟨j, h1, h2⟩ := walk_index_mem p f l (i + 1) fun b hb => hf b (List.mem_cons_of_mem _ hb)
    have ha := hf a (List.mem_cons_self ..)
    cases h : p a
    · exact ⟨j, by simp [walk, ha, h, h1], by simp [h, h2]⟩
    · exact ⟨i, by simp [walk, ha, h], by simp [h]⟩
theorem containsFunc_eq {l : List Int} {f : Int → Option Bool} {p : Int → Bool} (hl : l.length < 2 ^ 62) (hf : ∀ a ∈ l, f a = some (p a)) : M_slices_ContainsFunc_sint_int (l, f) = some (l.any p) := by
  obtain ⟨j, h1, h2⟩ := walk_index_mem p f l 0 hf
  unfold M_slices_ContainsFunc_sint_int
  have : M_slices_IndexFunc_sint_int (l, f) = some j := by
    unfold M_slices_IndexFunc_sint_int
    refine (loop_walk l _ _ (fun again i a ha hi => ?_) (fun again => ?_) (by omega)).trans h1
    · simp only [getI_nat, ha, bindO_some', i64_succ (show i < 2 ^ 62 by omega), lt_yes hi, cond_true]
    · simp
  dsimp only
  rw [this, bindO_some', h2]
theorem areAll_eq {l : List Int} {f : Int → Option Bool} {p : Int → Bool} (hl : l.length < 2 ^ 62) (hf : ∀ a ∈ l, f a = some (p a)) : M_I_areAll (l, f) = some (l.all p) := by
  unfold M_I_areAll
  dsimp only
  rw [containsFunc_eq (p := fun a => !p a) hl fun a ha => by simp [M_I_areAll_1, hf a ha], bindO_some']
  congr 1
  rw [List.any_eq_not_all_not]
  simp
noncomputable def okG (p q g : Int) : Bool := decide (3 ≤ p ∧ p ≤ 2000000000) && (decide (2 ≤ q ∧ q ≤ p - 1) && ((p - 1) % q == 0 && (decide (2 ≤ g ∧ g ≤ p - 1) && (g ^ q.toNat % p == 1 && (isP q && isP p)))))
theorem l2Good_eq (p q g : Int) : M_S_l2Good (p, q, g) = some (okG p q g) := by
  unfold M_S_l2Good okG
  simp only [in_eq, bindO_some']
  by_cases h1 : 3 ≤ p ∧ p ≤ 2000000000
  · rw [i64_in (p - 1) (by omega)]
    simp only [h1, and_self, decide_true, cond_true, Bool.true_and]
    by_cases h2 : 2 ≤ q ∧ q ≤ p - 1
    · have hq : guardO (q != 0) = some () := guardO_of (by simp; omega)
      simp only [h2, and_self, decide_true, cond_true, Bool.true_and, hq, bindO_some', tmod_nn (show 0 ≤ p - 1 by omega)]
      by_cases h3 : (p - 1) % q = 0
      · simp only [h3, beq_self_eq_true, cond_true, Bool.true_and]
        by_cases h4 : 2 ≤ g ∧ g ≤ p - 1
        · simp only [h4, and_self, decide_true, cond_true, Bool.true_and, nPower_eq (show 0 ≤ g by omega) (show g ≤ 3000000000 by omega) (show 0 ≤ q by omega) (show q ≤ 9223372036854775807 by omega) (show 1 ≤ p by omega) (show p ≤ 3000000000 by omega), bindO_some',
            nPrime_eq (show q ≤ 2000000000 by omega), nPrime_eq (show p ≤ 2000000000 by omega)]
          cases (g ^ q.toNat % p == 1) <;> cases isP q <;> cases isP p <;> rfl
        · simp [h4]
      · have hb : ((p - 1) % q == 0) = false := by simpa using h3
        simp [hb]
    · simp [h2]
  · simp [h1]
theorem IsValidGroup_eq (p q g : Int) : M_I_IsValidGroup (p, q, g) = some (okG p q g) := by
  unfold M_I_IsValidGroup okG
  simp only [within_eq, bindO_some']
  by_cases h1 : 3 ≤ p ∧ p ≤ 2000000000
  · rw [i64_in (p - 1) (by omega)]
    simp only [h1, and_self, decide_true, cond_true, Bool.true_and]
    by_cases h2 : 2 ≤ q ∧ q ≤ p - 1
    · have hq : guardO (q != 0) = some () := guardO_of (by simp; omega)
      simp only [h2, and_self, decide_true, cond_true, Bool.true_and, hq, bindO_some', tmod_nn (show 0 ≤ p - 1 by omega)]
      by_cases h3 : (p - 1) % q = 0
      · simp only [h3, beq_self_eq_true, cond_true, Bool.true_and]
        by_cases h4 : 2 ≤ g ∧ g ≤ p - 1
        · simp only [h4, and_self, decide_true, cond_true, Bool.true_and, power_eq (show q ≤ 9223372036854775807 by omega), nPower_eq (show 0 ≤ g by omega) (show g ≤ 3000000000 by omega) (show 0 ≤ q by omega) (show q ≤ 9223372036854775807 by omega) (show 1 ≤ p by omega) (show p ≤ 3000000000 by omega), bindO_some',
            isPrime_eq (show q ≤ 2000000000 by omega), isPrime_eq (show p ≤ 2000000000 by omega)]
          cases (g ^ q.toNat % p == 1) <;> cases isP q <;> cases isP p <;> rfl
        · simp [h4]
      · have hb : ((p - 1) % q == 0) = false := by simpa using h3
        simp [hb]
    · simp [h2]
  · simp [h1]
structure Gr (p q g : Int) : Prop where
  p3 : 3 ≤ p
  pm : p ≤ 2000000000
  q2 : 2 ≤ q
  qp : q ≤ p - 1
  dv : (p - 1) % q = 0
  g2 : 2 ≤ g
  gp : g ≤ p - 1
  gq : g ^ q.toNat % p = 1
  pq : isP q = true
  pp : isP p = true
theorem okG_spec {p q g : Int} (h : okG p q g = true) : Gr p q g := by
  simp only [okG, Bool.and_eq_true, decide_eq_true_eq, beq_iff_eq] at h
  obtain ⟨⟨h1, h2⟩, ⟨h3, h4⟩, h5, ⟨h6, h7⟩, h8, h9, h10⟩ := h
  exact ⟨h1, h2, h3, h4, h5, h6, h7, h8, h9, h10⟩
theorem nMod_eq {a m : Int} (hm : 1 ≤ m) (hm2 : m ≤ 4611686018427387903) : M_S_nMod (a, m) = some (a % m) := by
  unfold M_S_nMod
  have hg : guardO (m != 0) = some () := guardO_of (by simp; omega)
  have h1 := Int.tmod_lt_of_pos a (show 0 < m by omega)
  have h2 : -m < a.tmod m := Int.lt_tmod_of_pos a (by omega)
  simp only [hg, bindO_some', i64_in (a.tmod m + m) (by omega), tmod_nn (show 0 ≤ a.tmod m + m by omega)]
  congr 1
  rw [Int.add_emod_right]
  have h3 := Int.mul_tdiv_add_tmod a m
  have : a % m = (m * a.tdiv m + a.tmod m) % m := by rw [h3]
  rw [this, Int.mul_add_emod_self_left]
theorem mod_eq {x : Int × Int} : M_I_mod x = M_S_nMod x := rfl
theorem gExp_eq {p q g x e : Int} (h : Gr p q g) (hx : 0 ≤ x) (hx2 : x ≤ p) : M_S_gExp ((p, q, g), x, e) = some (x ^ (e % q).toNat % p) := by
  unfold M_S_gExp
  have := h.p3; have := h.pm; have := h.q2; have := h.qp
  have h1 := Int.emod_nonneg e (show q ≠ 0 by omega)
  have h2 := Int.emod_lt_of_pos e (show 0 < q by omega)
  dsimp only
  rw [nMod_eq (by omega) (by omega), bindO_some', nPower_eq hx (by omega) h1 (by omega) (by omega) (by omega), bindO_some']
theorem Group_pow_eq {p q g x e : Int} (h : Gr p q g) (hx : 0 ≤ x) (hx2 : x ≤ p) : M_I_Group_pow ((p, q, g), x, e) = some (x ^ (e % q).toNat % p) := by
  unfold M_I_Group_pow
  have := h.p3; have := h.pm; have := h.q2; have := h.qp
  have h1 := Int.emod_nonneg e (show q ≠ 0 by omega)
  have h2 := Int.emod_lt_of_pos e (show 0 < q by omega)
  dsimp only
  rw [mod_eq, nMod_eq (by omega) (by omega), bindO_some', power_eq (by omega), nPower_eq hx (by omega) h1 (by omega) (by omega) (by omega), bindO_some']
theorem isExp_eq {p q g e : Int} (h : Gr p q g) : M_I_Group_isExp ((p, q, g), e) = some (decide (0 ≤ e ∧ e ≤ q - 1)) := by
  unfold M_I_Group_isExp
  have := h.pm; have := h.q2; have := h.qp
  simp only [bindO_some', i64_in (q - 1) (by omega), within_eq]
theorem gExps_eq {p q g : Int} {l : List Int} (h : Gr p q g) (hl : l.length < 2 ^ 62) : M_S_gExps ((p, q, g), l) = some (l.all fun e => decide (0 ≤ e ∧ e ≤ q - 1)) := by
  unfold M_S_gExps
  have := h.pm; have := h.q2; have := h.qp
  simp only [bindO_some', i64_in (q - 1) (by omega), l1All_eq hl]
def isEl (p q x : Int) : Bool := decide (1 ≤ x ∧ x ≤ p - 1) && x ^ q.toNat % p == 1
theorem has_eq' {p q g x : Int} (h : Gr p q g) : M_I_Group_has ((p, q, g), x) = some (isEl p q x) := by
  unfold M_I_Group_has isEl
  have := h.p3; have := h.pm; have := h.q2; have := h.qp
  simp only [bindO_some', i64_in (p - 1) (by omega), within_eq]
  by_cases hx : 1 ≤ x ∧ x ≤ p - 1
  · simp [hx, power_eq (show q ≤ 9223372036854775807 by omega), nPower_eq (show 0 ≤ x by omega) (show x ≤ 3000000000 by omega) (show 0 ≤ q by omega) (show q ≤ 9223372036854775807 by omega) (show 1 ≤ p by omega) (show p ≤ 3000000000 by omega)]
  · simp [hx]
theorem gIs_eq {p q g : Int} {l : List Int} (h : Gr p q g) (hl : l.length < 2 ^ 62) : M_S_gIs ((p, q, g), l) = some (l.all (isEl p q)) := by
  unfold M_S_gIs
  have := h.p3; have := h.pm; have := h.q2; have := h.qp
  refine (loop_walk l (fun _ a k => if (isEl p q a) = true then k else some false) (some true) (fun again i a ha hi' => ?_) (fun again => ?_) (by omega)).trans (walk_all (isEl p q) l 0)
  · simp only [getI_nat, ha, bindO_some', i64_succ (show i < 2 ^ 62 by omega), lt_yes hi', cond_true, in_eq, i64_in (p - 1) (by omega)]
    by_cases hx : 1 ≤ a ∧ a ≤ p - 1
    · simp only [isEl, hx, and_self, decide_true, Bool.not_true, cond_false, Bool.true_and, nPower_eq (show 0 ≤ a by omega) (show a ≤ 3000000000 by omega) (show 0 ≤ q by omega) (show q ≤ 9223372036854775807 by omega) (show 1 ≤ p by omega) (show p ≤ 3000000000 by omega), bindO_some']
      by_cases h1 : a ^ q.toNat % p = 1 <;> simp [h1, bne_dec]
    · simp [isEl, hx]
  · simp
theorem isEl_range {p q x : Int} (h : isEl p q x = true) : 1 ≤ x ∧ x ≤ p - 1 ∧ x ^ q.toNat % p = 1 := by
  simp only [isEl, Bool.and_eq_true, decide_eq_true_eq, beq_iff_eq] at h
  exact ⟨h.1.1, h.1.2, h.2⟩
def prodM (p : Int) : Int → List Int → Int
  | out, [] => out
  | out, x :: l => prodM p (out * x % p) l
theorem prodM_range {p : Int} (hp : 1 ≤ p) : ∀ (l : List Int) (out : Int), 0 ≤ out → out < p ∨ l ≠ [] → 0 ≤ prodM p out l ∧ (prodM p out l < p)
  | [], out, h, h2 => ⟨h, h2.resolve_right (by simp)⟩
  | x :: l, out, h, _ => prodM_range hp l _ (Int.emod_nonneg _ (by omega)) (.inl (Int.emod_lt_of_pos _ (by omega)))
theorem gMul_loop {p : Int} (hp : 1 ≤ p) (hp2 : p ≤ 3000000000) (l : List Int) (hx : ∀ x ∈ l, 0 ≤ x ∧ x ≤ 3000000000) (hl : l.length < 2 ^ 62) {body : (Int × Int → Option Int) → Int × Int → Option Int} 
    (h : ∀ (again : Int × Int → Option Int) (s : Int × Int), body again s = (cond (decide (s.2 < ((l.length : Nat) : Int))) (bindO (getI l s.2) fun a => bindO (some (IntKind.wrap .i64 (s.1 * a))) fun b => bindO (guardO (p != 0)) fun _ => bindO (some (b.tmod p)) fun c => bindO (some (IntKind.wrap .i64 (s.2 + 1))) fun d => again (c, d)) (some s.1))) :
    loopO body (1, 0) = some (prodM p 1 l) := by
  have hg : guardO (p != 0) = some () := guardO_of (by simp; omega)
  refine (loopO_for (σ := Int) (fun i s => (s, (i : Int))) l.length (fun i s => some (prodM p s (l.drop i))) (fun _ s => 0 ≤ s ∧ s ≤ 3000000000) (fun again s hs => ?_) (fun again i s hi hs ih => ?_) (by omega) (i := 0) (s := 1) (Nat.zero_le _) ⟨by omega, by omega⟩).trans (by simp)
  · rw [h]; simp [prodM]
  · have hm := hx l[i] (List.getElem_mem hi)
    have hb := mul_in hs.1 hs.2 hm.1 hm.2
    have h1 := Int.emod_nonneg (s * l[i]) (show p ≠ 0 by omega)
    have h2 := Int.emod_lt_of_pos (s * l[i]) (show 0 < p by omega)
    rw [h]
    simp only [lt_yes hi, cond_true, getI_nat, List.getElem?_eq_getElem hi, bindO_some', hg, i64_succ (show i < 2 ^ 62 by omega), i64_in (s * l[i]) (by omega), tmod_nn hb.1]
    rw [ih _ ⟨h1, by omega⟩, List.drop_eq_getElem_cons hi, prodM]
theorem gMul_eq {p q g : Int} {l : List Int} (h : Gr p q g) (hx : ∀ x ∈ l, 0 ≤ x ∧ x ≤ 3000000000) (hl : l.length < 2 ^ 62) : M_S_gMul ((p, q, g), l) = some (prodM p 1 l) := by
  unfold M_S_gMul
  have := h.p3; have := h.pm
  exact gMul_loop (by omega) (by omega) l hx hl fun _ _ => rfl
theorem Group_mul_eq {p q g : Int} {l : List Int} (h : Gr p q g) (hx : ∀ x ∈ l, 0 ≤ x ∧ x ≤ 3000000000) (hl : l.length < 2 ^ 62) : M_I_Group_mul ((p, q, g), l) = some (prodM p 1 l) := by
  unfold M_I_Group_mul
  have := h.p3; have := h.pm
  exact gMul_loop (by omega) (by omega) l hx hl fun _ _ => rfl
def hstep (c s k : Int) : Int := (c * s + k + 1) % 2147483647
def absorb (s : Int × Int) (x : Int) : Int × Int :=
  (hstep 48271 (hstep 48271 s.1 (x % 2147483648)) (x / 2147483648), hstep 69621 (hstep 69621 s.2 (x % 2147483648)) (x / 2147483648))
def digest (l : List Int) : Int := ((l.foldl absorb (absorb (1, 2) (l.length : Int))).1) * 2147483648 + (l.foldl absorb (absorb (1, 2) (l.length : Int))).2
def HOk (s : Int × Int) : Prop := 0 ≤ s.1 ∧ s.1 < 2147483648 ∧ 0 ≤ s.2 ∧ s.2 < 2147483648
theorem hstep_range (c s k : Int) : 0 ≤ hstep c s k ∧ hstep c s k < 2147483647 :=
  ⟨Int.emod_nonneg _ (by omega), Int.emod_lt_of_pos _ (by omega)⟩
theorem absorb_ok (s : Int × Int) (x : Int) : HOk (absorb s x) := by
  have h1 := hstep_range 48271 (hstep 48271 s.1 (x % 2147483648)) (x / 2147483648)
  have h2 := hstep_range 69621 (hstep 69621 s.2 (x % 2147483648)) (x / 2147483648)
  exact ⟨h1.1, by show hstep _ _ _ < _; omega, h2.1, by show hstep _ _ _ < _; omega⟩
theorem foldl_ok : ∀ (l : List Int) (s : Int × Int), HOk s → HOk (l.foldl absorb s)
  | [], _, h => h
  | x :: l, s, _ => foldl_ok l _ (absorb_ok s x)
theorem digest_range (l : List Int) : 0 ≤ digest l ∧ digest l ≤ 4611686018427387903 := by
  have h := foldl_ok l _ (absorb_ok (1, 2) (l.length : Int))
  obtain ⟨h1, h2, h3, h4⟩ := h
  unfold digest
  omega
theorem hstep_walk {c s k : Int} (hc : c = 48271 ∨ c = 69621) (hs : 0 ≤ s ∧ s < 2147483648) (hk : 0 ≤ k ∧ k < 2147483648) :
    (IntKind.wrap .i64 (IntKind.wrap .i64 (IntKind.wrap .i64 (c * s) + k) + 1)).tmod 2147483647 = hstep c s k := by
  have h1 : 0 ≤ c * s ∧ c * s ≤ 69621 * 2147483648 := ⟨Int.mul_nonneg (by omega) hs.1, Int.mul_le_mul (by omega) (by omega) hs.1 (by omega)⟩
  rw [i64_in (c * s) (by omega), i64_in (c * s + k) (by omega), i64_in (c * s + k + 1) (by omega), tmod_nn (by omega)]
  rfl
theorem absorb_eq {s : Int × Int} {x : Int} (hs : HOk s) (h0 : 0 ≤ x) (h1 : x ≤ 4611686018427387903) : M_S_l3State_absorb (s, x) = some (absorb s x) := by
  unfold M_S_l3State_absorb
  obtain ⟨h2, h3, h4, h5⟩ := hs
  have hg : guardO ((2147483648 : Int) != 0) = some () := rfl
  have hg2 : guardO ((2147483647 : Int) != 0) = some () := rfl
  dsimp only
  rw [hg]
  simp only [bindO_some', tmod_nn h0, tdiv_nn h0]
  rw [i64_in (x / 2147483648) (by omega)]
  have hb : 0 ≤ x % 2147483648 ∧ x % 2147483648 < 2147483648 := by omega
  have ha : 0 ≤ x / 2147483648 ∧ x / 2147483648 < 2147483648 := by omega
  have hm : ∀ k ∈ [x % 2147483648, x / 2147483648], 0 ≤ k ∧ k < 2147483648 := fun k hk => by
    simp only [List.mem_cons, List.not_mem_nil, or_false] at hk
    rcases hk with rfl | rfl
    · exact hb
    · exact ha
  have hg3 : ∀ (c s k : Int), 0 ≤ hstep c s k ∧ hstep c s k < 2147483648 := fun c s k => by have := hstep_range c s k; omega
  refine (loop_walkI (fun i (s : Int × Int) => (i, (s.1, s.2))) [x % 2147483648, x / 2147483648] (fun _ k s c => c (hstep 48271 s.1 k, hstep 69621 s.2 k)) (fun s => some (s.1, s.2)) (fun _ s => HOk s)
    (fun i a s k k' ha hs hk => hk _ ⟨(hg3 _ _ _).1, (hg3 _ _ _).2, (hg3 _ _ _).1, (hg3 _ _ _).2⟩) (fun again i a t ha hi ht => ?_) (fun again s hs => ?_) (by show (2 : Nat) < 2 ^ 64; omega) (s.1, s.2) ⟨h2, h3, h4, h5⟩).trans rfl
  · have hk := hm a (List.mem_of_getElem? ha)
    have hi2 : i < 2 := hi
    simp only [lt_yes hi, cond_true, getI_nat, ha, hg2, bindO_some', hstep_walk (.inl rfl) ⟨ht.1, ht.2.1⟩ hk, hstep_walk (.inr rfl) ⟨ht.2.2.1, ht.2.2.2⟩ hk, i64_succ (show i < 2 ^ 62 by omega)]
  · simp only [lt_no, cond_false]
theorem hInts_eq {l : List Int} (hl : l.length < 2 ^ 40) (hx : ∀ x ∈ l, 0 ≤ x ∧ x ≤ 4611686018427387903) : M_S_hInts l = some (digest l) := by
  unfold M_S_hInts
  rw [absorb_eq (⟨by omega, by omega, by omega, by omega⟩ : HOk (1, 2)) (by omega) (by omega), bindO_some']
  refine (loopO_for (σ := Int × Int) (fun i s => ((i : Int), (s.1, s.2))) l.length (fun i s => some (((l.drop i).foldl absorb s).1 * 2147483648 + ((l.drop i).foldl absorb s).2)) (fun _ s => HOk s) (fun again s hs => ?_) (fun again i s hi hs ih => ?_) (by omega) (i := 0) (s := absorb (1, 2) (l.length : Int)) (Nat.zero_le _) (absorb_ok _ _)).trans rfl
  · obtain ⟨h1, h2, h3, h4⟩ := hs
    simp only [lt_no, cond_false, List.drop_length, List.foldl_nil, bindO_some']
    rw [i64_in (s.1 * 2147483648) (by omega), i64_in (s.1 * 2147483648 + s.2) (by omega)]
  · have hm := hx l[i] (List.getElem_mem hi)
    simp only [lt_yes hi, cond_true, getI_nat, List.getElem?_eq_getElem hi, bindO_some', absorb_eq (s := (s.1, s.2)) hs hm.1 hm.2, i64_succ (show i < 2 ^ 62 by omega)]
    rw [ih _ (absorb_ok _ _), List.drop_eq_getElem_cons hi, List.foldl_cons]
theorem bits_mask {x : Int} (h : 0 ≤ x) (h2 : x ≤ 9223372036854775807) : Vd.bits .and .i64 x 2147483647 = x % 2147483648 := by
  obtain ⟨n, rfl⟩ := Int.eq_ofNat_of_zero_le h
  have h1 : (BitVec.ofInt 64 ((n : Nat) : Int) &&& BitVec.ofInt 64 2147483647).toNat = n % 2147483648 := by
    rw [BitVec.toNat_and]
    have e1 : (BitVec.ofInt 64 ((n : Nat) : Int)).toNat = n % 2 ^ 64 := by simp
    have e2 : (BitVec.ofInt 64 2147483647).toNat = 2 ^ 31 - 1 := by decide
    rw [e1, e2, Nat.and_two_pow_sub_one_eq_mod]
    omega
  show IntKind.wrap .i64 (((BitVec.ofInt 64 ((n : Nat) : Int) &&& BitVec.ofInt 64 2147483647).toNat : Nat) : Int) = _
  rw [h1, i64_in _ (by omega)]
  omega
theorem shr_31 {x : Int} : Vd.shr .i64 x 31 = x / 2147483648 := by
  show x.fdiv (2 ^ (min (31 : Int).toNat 64)) = _
  rw [show ((2 : Int) ^ (min (31 : Int).toNat 64)) = 2147483648 by decide, fdiv_pos (by omega)]
theorem shl_31 {x : Int} : Vd.shl .i64 x 31 = IntKind.wrap .i64 (x * 2147483648) := by
  show IntKind.wrap .i64 (x * (2 ^ (min (31 : Int).toNat 64))) = _
  rw [show ((2 : Int) ^ (min (31 : Int).toNat 64)) = 2147483648 by decide]
theorem hash_eq {l : List Int} (hl : l.length < 2 ^ 30) (hx : ∀ x ∈ l, 0 ≤ x ∧ x ≤ 4611686018427387903) : M_I_hash l = some (digest l) := by
  unfold M_I_hash
  have hg31 : guardO (decide ((0 : Int) ≤ 31)) = some () := rfl
  have hg2 : guardO ((2147483647 : Int) != 0) = some () := rfl
  rw [guardO_of (lenOk_of (by simp; omega)), bindO_some', bindO_some']
  have hL : ∀ x ∈ ((l.length : Int) :: l), 0 ≤ x ∧ x ≤ 4611686018427387903 := fun x h => by
    rcases List.mem_cons.1 h with rfl | h
    · omega
    · exact hx x h
  have e : [((l.length : Nat) : Int)] ++ l = ((l.length : Int) :: l) := rfl
  rw [e]
  have hlen : ((l.length : Int) :: l).length = l.length + 1 := rfl
  generalize hLL : ((l.length : Int) :: l) = L at hL hlen
  refine (loopO_for (σ := Int × Int) (fun i s => (s.1, (s.2, (i : Int)))) L.length (fun i s => some (((L.drop i).foldl absorb s).1 * 2147483648 + ((L.drop i).foldl absorb s).2)) (fun _ s => HOk s) (fun again s hs => ?_) (fun again i s hi hs ih => ?_) (by omega) (i := 0) (s := (1, 2)) (Nat.zero_le _) ⟨by decide, by decide, by decide, by decide⟩).trans (by rw [← hLL]; rfl)
  · obtain ⟨h1, h2, h3, h4⟩ := hs
    simp only [lt_no, cond_false, List.drop_length, List.foldl_nil, bindO_some', hg31, shl_31]
    rw [i64_in (s.1 * 2147483648) (by omega), i64_in (s.1 * 2147483648 + s.2) (by omega)]
  · have hm := hL L[i] (List.getElem_mem hi)
    obtain ⟨h1, h2, h3, h4⟩ := hs
    have hb : 0 ≤ L[i] % 2147483648 ∧ L[i] % 2147483648 < 2147483648 := by omega
    have ha : 0 ≤ L[i] / 2147483648 ∧ L[i] / 2147483648 < 2147483648 := by omega
    have r1 := hstep_range 48271 s.1 (L[i] % 2147483648)
    have r2 := hstep_range 69621 s.2 (L[i] % 2147483648)
    simp only [lt_yes hi, cond_true, getI_nat, List.getElem?_eq_getElem hi, bindO_some', hg31, hg2, shr_31, bits_mask hm.1 (by omega), hstep_walk (.inl rfl) ⟨h1, h2⟩ hb, hstep_walk (.inr rfl) ⟨h3, h4⟩ hb,
      hstep_walk (.inl rfl) (⟨r1.1, by omega⟩ : 0 ≤ hstep 48271 s.1 (L[i] % 2147483648) ∧ _) ha, hstep_walk (.inr rfl) (⟨r2.1, by omega⟩ : 0 ≤ hstep 69621 s.2 (L[i] % 2147483648) ∧ _) ha, i64_succ (show i < 2 ^ 62 by omega)]
    rw [List.drop_eq_getElem_cons hi, List.foldl_cons, ← ih (absorb s L[i]) (absorb_ok _ _)]
    rfl
def lab (s : ByteArray) (l : List Int) : List Int := (s.size : Int) :: (ofStr s ++ l)
theorem ofStr_length (s : ByteArray) : (ofStr s).length = s.size := by
  unfold ofStr
  rw [List.length_map, Array.length_toList]
  rfl
theorem ofStr_get {s : ByteArray} {i : Nat} (h : i < s.size) : ∃ b : UInt8, s[i]? = some b ∧ (ofStr s)[i]? = some ((b.toNat : Nat) : Int) := by
  refine ⟨s[i], by simp [h], ?_⟩
  have h' : i < s.data.size := h
  simp only [ofStr, List.getElem?_map]
  rw [List.getElem?_eq_getElem (by simpa using h')]
  rfl
theorem ofStr_range {s : ByteArray} {x : Int} (h : x ∈ ofStr s) : 0 ≤ x ∧ x ≤ 255 := by
  simp only [ofStr, List.mem_map] at h
  obtain ⟨b, _, rfl⟩ := h
  have := b.toNat_lt
  omega
theorem label_loop {s : ByteArray} {l : List Int} (hs : s.size < 2 ^ 30) (hl : l.length < 2 ^ 30) : M_S_l3With (s, l) = some (lab s l) := by
  unfold M_S_l3With
  refine (loopO_for (σ := List Int) (fun i a => (a, (i : Int))) s.size (fun i a => some (lab s l)) (fun i a => a = (s.size : Int) :: (ofStr s).take i) (fun again a ha => ?_) (fun again i a hi ha ih => ?_) (by omega) (i := 0) (s := [(s.size : Int)]) (Nat.zero_le _) (by simp)).trans rfl
  · subst ha
    have ht : (ofStr s).take s.size = ofStr s := by rw [← ofStr_length, List.take_length]
    have hlen := ofStr_length s
    simp only [lt_no, cond_false, ht]
    rw [guardO_of (lenOk_of (by simp [hlen]; omega))]
    rfl
  · subst ha
    obtain ⟨b, h1, h2⟩ := ofStr_get hi
    have hb := b.toNat_lt
    have hlen := ofStr_length s
    simp only [lt_yes hi, cond_true, Int.toNat_natCast, h1]
    rw [if_pos (by omega)]
    simp only [bindO_some', i64_in ((b.toNat : Nat) : Int) (by omega), i64_succ (show i < 2 ^ 62 by omega)]
    rw [guardO_of (lenOk_of (by simp; omega)), bindO_some']
    refine ih _ ?_
    rw [List.take_add_one, h2]
    simp
theorem labelled_eq (x : ByteArray × List Int) : M_I_labelled x = M_S_l3With x := rfl
def okD (l : List Int) : Bool := l.all fun n => decide (0 ≤ n ∧ n ≤ 4611686018427387903)
theorem okD_spec {l : List Int} (h : okD l = true) : ∀ x ∈ l, 0 ≤ x ∧ x ≤ 4611686018427387903 := fun x hx => by
  simpa using List.all_eq_true.1 h x hx
theorem lab_range {s : ByteArray} {l : List Int} (hs : s.size < 2 ^ 30) (h : okD l = true) : ∀ x ∈ lab s l, 0 ≤ x ∧ x ≤ 4611686018427387903 := fun x hx => by
  rcases List.mem_cons.1 hx with rfl | hx
  · omega
  · rcases List.mem_append.1 hx with hx | hx
    · have := ofStr_range hx
      omega
    · exact okD_spec h x hx
theorem lab_okD {s : ByteArray} {l : List Int} (hs : s.size < 2 ^ 30) : okD (lab s l) = okD l := by
  have h1 : ∀ x ∈ ofStr s, decide (0 ≤ x ∧ x ≤ 4611686018427387903) = true := fun x hx => by
    have := ofStr_range hx
    simp only [decide_eq_true_eq]
    omega
  unfold okD lab
  rw [List.all_cons, List.all_append, List.all_eq_true.2 h1]
  have : decide (0 ≤ ((s.size : Nat) : Int) ∧ ((s.size : Nat) : Int) ≤ 4611686018427387903) = true := by
    simp only [decide_eq_true_eq]
    omega
  rw [this]
  rfl
def hashL (s : ByteArray) (l : List Int) : Int × Bool := if s.size ≤ 40 ∧ okD l = true ∧ 1 + s.size + l.length ≤ 400 then (digest (lab s l), true) else (0, false)
theorem hLabelled_eq {s : ByteArray} {l : List Int} (hs : s.size < 2 ^ 30) (hl : l.length < 2 ^ 30) (h : okD l = true) : M_S_hLabelled (s, l) = some (digest (lab s l)) := by
  unfold M_S_hLabelled
  have hlen : (lab s l).length < 2 ^ 40 := by simp [lab, ofStr_length]; omega
  simp only [label_loop hs hl, bindO_some', hInts_eq hlen (lab_range hs h)]
theorem areDigests_eq {l : List Int} : M_I_areDigests l = some (decide (l.length ≤ 400) && okD l) := by
  unfold M_I_areDigests
  by_cases h : l.length ≤ 400
  · have e1 : decide (((l.length : Nat) : Int) ≤ 400) = true := by simp; omega
    rw [e1, cond_true, areAll_eq (p := fun n => decide (0 ≤ n ∧ n ≤ 4611686018427387903)) (by omega) fun a _ => by simp [M_I_isDigest, within_eq], bindO_some']
    simp [h, okD]
  · have e1 : decide (((l.length : Nat) : Int) ≤ 400) = false := by simp; omega
    simp [e1, h]
theorem I_HashInts_eq {l : List Int} : M_I_HashInts l = some (if l.length ≤ 400 ∧ okD l = true then (digest l, true) else (0, false)) := by
  unfold M_I_HashInts
  rw [areDigests_eq, bindO_some']
  by_cases h : l.length ≤ 400 ∧ okD l = true
  · rw [if_pos h, hash_eq (by omega) (okD_spec h.2)]
    simp [h.1, h.2]
  · rw [if_neg h]
    have : (decide (l.length ≤ 400) && okD l) = false := by
      rw [Bool.and_eq_false_iff, decide_eq_false_iff_not]
      by_cases h1 : l.length ≤ 400
      · right
        cases h2 : okD l
        · rfl
        · exact absurd ⟨h1, h2⟩ h
      · exact .inl h1
    rw [this]
    rfl
theorem I_HashLabelled_eq {s : ByteArray} {l : List Int} : M_I_HashLabelled (s, l) = some (hashL s l) := by
  unfold M_I_HashLabelled hashL
  by_cases h1 : s.size ≤ 40
  · by_cases h2 : l.length ≤ 400
    · have e1 : decide (((s.size : Nat) : Int) > 40) = false := by simp; omega
      have e2 : decide (((l.length : Nat) : Int) > 400) = false := by simp; omega
      simp only [e1, e2, cond_false]
      rw [labelled_eq, label_loop (by omega) (by omega), bindO_some', I_HashInts_eq, bindO_some', lab_okD (by omega)]
      have e3 : ((lab s l).length ≤ 400 ∧ okD l = true) ↔ (s.size ≤ 40 ∧ okD l = true ∧ 1 + s.size + l.length ≤ 400) := by
        simp only [lab, List.length_cons, List.length_append, ofStr_length]
        constructor
        · rintro ⟨a, b⟩; exact ⟨h1, b, by omega⟩
        · rintro ⟨a, b, c⟩; exact ⟨by omega, b⟩
      simp only [e3]
    · have e1 : decide (((s.size : Nat) : Int) > 40) = false := by simp; omega
      have e2 : decide (((l.length : Nat) : Int) > 400) = true := by simp; omega
      rw [if_neg (fun h => by omega)]
      simp only [e1, e2, cond_false, cond_true]
  · have e1 : decide (((s.size : Nat) : Int) > 40) = true := by simp; omega
    rw [if_neg (fun h => h1 h.1)]
    simp only [e1, cond_true]
theorem pow_range {p x : Int} {k : Nat} (hp : 1 ≤ p) : 0 ≤ x ^ k % p ∧ x ^ k % p < p :=
  ⟨Int.emod_nonneg _ (by omega), Int.emod_lt_of_pos _ (by omega)⟩
def isCi (p q : Int) (c : Int × Int) : Bool := isEl p q c.1 && isEl p q c.2
theorem hasCipher_eq {p q g : Int} {c : Int × Int} (h : Gr p q g) : M_I_Group_hasCipher ((p, q, g), c) = some (isCi p q c) := by
  unfold M_I_Group_hasCipher isCi
  simp only [has_eq' h, bindO_some']
  cases isEl p q c.1 <;> simp
theorem eGood_eq {p q g : Int} {l : List (Int × Int)} (h : Gr p q g) : M_S_eGood ((p, q, g), l) = some (decide (l.length ≤ 24) && l.all (isCi p q)) := by
  unfold M_S_eGood
  by_cases hl : l.length ≤ 24
  · have e1 : decide (((l.length : Nat) : Int) > 24) = false := by simp; omega
    dsimp only
    rw [e1, cond_false]
    simp only [hl, decide_true, Bool.true_and]
    refine (loop_walk l (fun _ a k => if (isCi p q a) = true then k else some false) (some true) (fun again i a ha hi' => ?_) (fun again => ?_) (by omega)).trans (walk_all (isCi p q) l 0)
    · simp only [getI_nat, ha, bindO_some', i64_succ (show i < 2 ^ 62 by omega), lt_yes hi', cond_true, gIs_eq h (show [a.1, a.2].length < 2 ^ 62 by show (2 : Nat) < _; omega)]
      have : [a.1, a.2].all (isEl p q) = isCi p q a := by simp [isCi]
      rw [this]
      cases isCi p q a <;> rfl
    · simp
  · have e1 : decide (((l.length : Nat) : Int) > 24) = true := by simp; omega
    simp [e1, hl]
def over (p q a b : Int) : Int := prodM p 1 [a, b ^ (q - 1).toNat % p]
theorem mul2 {p q g a b : Int} (h : Gr p q g) (ha : 0 ≤ a ∧ a ≤ p) (hb : 0 ≤ b ∧ b ≤ p) : M_S_gMul ((p, q, g), [a, b]) = some (prodM p 1 [a, b]) := by
  have := h.p3; have := h.pm
  refine gMul_eq h (fun x hx => ?_) (by show (2 : Nat) < _; omega)
  simp only [List.mem_cons, List.not_mem_nil, or_false] at hx
  rcases hx with rfl | rfl <;> omega
theorem mul2' {p q g a b : Int} (h : Gr p q g) (ha : 0 ≤ a ∧ a ≤ p) (hb : 0 ≤ b ∧ b ≤ p) : M_I_Group_mul ((p, q, g), [a, b]) = some (prodM p 1 [a, b]) := by
  have := h.p3; have := h.pm
  refine Group_mul_eq h (fun x hx => ?_) (by show (2 : Nat) < _; omega)
  simp only [List.mem_cons, List.not_mem_nil, or_false] at hx
  rcases hx with rfl | rfl <;> omega
theorem prod_range {p : Int} {l : List Int} (hp : 2 ≤ p) : 0 ≤ prodM p 1 l ∧ prodM p 1 l < p := prodM_range (by omega) l 1 (by omega) (.inl (by omega))
theorem toGroup_eq (x : Int × Int × Int) : M_L_toGroup x = some x := rfl
theorem toCipher_eq (x : Int × Int) : M_L_toCipher x = some x := rfl
noncomputable def pdec (p : Prop) : Bool := @decide p (Classical.propDecidable p)
theorem pdec_iff {p : Prop} : pdec p = true ↔ p := by simp [pdec]
theorem pdec_yes {p : Prop} (h : p) : pdec p = true := pdec_iff.2 h
theorem pdec_no {p : Prop} (h : ¬ p) : pdec p = false := by simp [pdec, h]
theorem loop_check {α β : Type} {body : (Int → Option β) → Int → Option β} (l : List α) (G : Nat → Prop) (yes no : Option β)
    (hstep : ∀ (again : Int → Option β) (i : Nat) a, l[i]? = some a → i < l.length → G i → (body again (i : Int) = again ((i + 1 : Nat) : Int) ∧ G (i + 1)) ∨ (body again (i : Int) = no ∧ ¬ G l.length))
    (hend : ∀ again : Int → Option β, body again (l.length : Int) = yes) (h0 : G 0) (hl : l.length < 2 ^ 64) : (G l.length → loopO body 0 = yes) ∧ (¬ G l.length → loopO body 0 = no) := by
  constructor
  · intro hG
    refine (loopO_for (σ := Unit) (fun i _ => (i : Int)) l.length (fun _ _ => yes) (fun i _ => G i) (fun again _ hg => hend again) (fun again i _ hi hg ih => ?_) hl (i := 0) (s := ()) (Nat.zero_le _) h0).trans rfl
    rcases hstep again i l[i] (List.getElem?_eq_getElem hi) hi hg with ⟨h1, h2⟩ | ⟨h1, h2⟩
    · rw [h1]
      exact ih () h2
    · exact absurd hG h2
  · intro hG
    refine (loopO_for (σ := Unit) (fun i _ => (i : Int)) l.length (fun _ _ => no) (fun i _ => G i) (fun again _ hg => absurd hg hG) (fun again i _ hi hg ih => ?_) hl (i := 0) (s := ()) (Nat.zero_le _) h0).trans rfl
    rcases hstep again i l[i] (List.getElem?_eq_getElem hi) hi hg with ⟨h1, h2⟩ | ⟨h1, h2⟩
    · rw [h1]
      exact ih () h2
    · exact h1
theorem check_dec {β : Type} {m : Option β} {G : Prop} {f : Bool → Option β} (h : (G → m = f true) ∧ (¬ G → m = f false)) : m = f (pdec G) := by
  by_cases hg : G
  · rw [h.1 hg, pdec_yes hg]
  · rw [h.2 hg, pdec_no hg]
theorem mem_take_succ {α : Type} {l : List α} {i : Nat} {a : α} (h : l[i]? = some a) : l.take (i + 1) = l.take i ++ [a] := by
  rw [List.take_add_one, h]
  rfl
theorem pairwise_snoc {α : Type} {R : α → α → Prop} {l : List α} {a : α} : (l ++ [a]).Pairwise R ↔ l.Pairwise R ∧ ∀ b ∈ l, R b a := by
  rw [List.pairwise_append]
  constructor
  · rintro ⟨h1, _, h2⟩
    exact ⟨h1, fun b hb => h2 b hb a (by simp)⟩
  · rintro ⟨h1, h2⟩
    exact ⟨h1, by simp, fun b hb c hc => by simp at hc; subst hc; exact h2 b hb⟩
noncomputable def nodupB (l : List Int) : Bool := pdec l.Nodup
theorem areDifferent_eq {l : List Int} (hl : l.length < 2 ^ 62) : M_I_areDifferent l = some (nodupB l) := by
  unfold M_I_areDifferent
  have h := loop_check (β := Bool) l (fun i => (l.take i).Nodup) (some true) (some false) (body := (fun (again0 : (Int → (Option Bool))) => (fun (s1 : Int) => (cond (decide (s1 < (((List.length l) : Nat) : Int))) (bindO (getI l s1) (fun (a2 : Int) => (bindO (sliceNH s1 (List.length l)) (fun (a3 : (Nat × Nat)) => (bindO (M_slices_Contains_sint_int ((List.drop a3.1 (List.take a3.2 l)), a2)) (fun (a4 : Bool) => (cond a4 (some false) (bindO (some (IntKind.wrap .i64 (s1 + (1 : Int)))) (fun (a5 : Int) => (again0 a5)))))))))) (some true)))))
    (fun again i a ha hi' hg => ?_) (fun again => ?_) (by simp) (by omega)
  · rw [List.take_length] at h
    exact check_dec (f := some) h
  · have hlen : (l.take i).length < 2 ^ 62 := by simp; omega
    simp only [lt_yes hi', cond_true, getI_nat, ha, bindO_some', sliceNH_nat (show i ≤ l.length by omega), List.drop_zero, contains_eq hlen, i64_succ (show i < 2 ^ 62 by omega), mem_take_succ ha, List.take_length]
    by_cases hm : a ∈ l.take i
    · right
      have : (l.take i).any (· == a) = true := by simpa using hm
      refine ⟨by rw [this]; rfl, fun hn => ?_⟩
      have h2 : (l.take (i + 1)).Nodup := hn.sublist (List.take_sublist _ _)
      rw [mem_take_succ ha] at h2
      have := (pairwise_snoc.1 h2).2 a hm
      exact this rfl
    · left
      have : (l.take i).any (· == a) = false := by
        cases hc : (l.take i).any (· == a)
        · rfl
        · exact absurd (by simpa using hc) hm
      refine ⟨by rw [this]; rfl, pairwise_snoc.2 ⟨hg, fun b hb hba => hm (by subst hba; exact hb)⟩⟩
  · simp
theorem set_take_succ {α : Type} {x s : List α} {i : Nat} {a : α} (hx : x[i]? = some a) (hs : s.length = x.length) (ht : s.take i = x.take i) : (s.set i a).take (i + 1) = x.take (i + 1) := by
  have hi : i < x.length := (List.getElem?_eq_some_iff.1 hx).1
  rw [List.take_add_one, List.take_add_one, hx, List.take_set, List.getElem?_set_self (by omega), ← ht]
  congr 1
  rw [List.set_eq_of_length_le (by rw [List.length_take]; omega)]
theorem copy_loop {α : Type} (x : List α) (z : α) {body : (Int × List α → Option (List α)) → Int × List α → Option (List α)}
    (h : ∀ (again : Int × List α → Option (List α)) (i : Nat) a (s : List α), x[i]? = some a → i < x.length → s.length = x.length → body again ((i : Int), s) = again (((i + 1 : Nat) : Int), s.set i a))
    (hend : ∀ (again : Int × List α → Option (List α)) (s : List α), s.length = x.length → body again ((x.length : Int), s) = some s) (hl : x.length < 2 ^ 62) : loopO body (0, List.replicate x.length z) = some x := by
  refine (loopO_for (σ := List α) (fun i s => ((i : Int), s)) x.length (fun i s => some x) (fun i s => s.length = x.length ∧ s.take i = x.take i) (fun again s hs => ?_) (fun again i s hi hs ih => ?_) (by omega) (i := 0) (s := List.replicate x.length z) (Nat.zero_le _) (by simp)).trans rfl
  · rw [hend again s hs.1]
    have := hs.2
    rw [List.take_length, ← hs.1, List.take_length] at this
    rw [this]
  · have ha := List.getElem?_eq_getElem hi
    rw [h again i x[i] s ha hi hs.1]
    exact ih _ ⟨by simp [hs.1], set_take_succ ha hs.1 hs.2⟩
theorem eq_loop {α : Type} [DecidableEq α] (a b : List α) (hab : a.length = b.length) {body : (Int → Option Bool) → Int → Option Bool}
    (h : ∀ (again : Int → Option Bool) (i : Nat) x y, a[i]? = some x → b[i]? = some y → i < a.length → body again (i : Int) = if x = y then again ((i + 1 : Nat) : Int) else some false)
    (hend : ∀ (again : Int → Option Bool), body again (a.length : Int) = some true) (hl : a.length < 2 ^ 62) : loopO body 0 = some (decide (a = b)) := by
  refine (loopO_for (σ := Unit) (fun i _ => (i : Int)) a.length (fun i _ => some (decide (a.drop i = b.drop i))) (fun _ _ => True) (fun again _ _ => ?_) (fun again i _ hi _ ih => ?_) (by omega) (i := 0) (s := ()) (Nat.zero_le _) trivial).trans (by simp)
  · rw [hend]; simp [hab]
  · have hi' : i < b.length := by omega
    rw [h again i a[i] b[i] (List.getElem?_eq_getElem hi) (List.getElem?_eq_getElem hi') hi, ih () trivial, List.drop_eq_getElem_cons hi, List.drop_eq_getElem_cons hi']
    by_cases he : a[i] = b[i] <;> simp [he, -List.getElem_cons_drop]
def tot (x : List (List Int)) : Nat := (x.map List.length).sum
theorem szIntS_eq {a : List Int} {left : Int} (h0 : 0 ≤ left) (h1 : left ≤ 1048576) (hl : a.length < 2 ^ 63) : M_L_szIntS (a, left) = some (if left < a.length then -1 else left - a.length) := by
  unfold M_L_szIntS
  simp only [i64_in (left - (a.length : Int)) (by omega), bindO_some']
  by_cases h : left < a.length
  · rw [if_pos h]
    have : left - (a.length : Int) < 0 := by omega
    simp [this]
  · rw [if_neg h]
    have : ¬ left - (a.length : Int) < 0 := by omega
    simp [this]
theorem tot_drop {x : List (List Int)} {i : Nat} (hi : i < x.length) : tot (x.drop i) = x[i].length + tot (x.drop (i + 1)) := by
  rw [List.drop_eq_getElem_cons hi, tot, List.map_cons, List.sum_cons]
  rfl
theorem row_le {x : List (List Int)} {r : List Int} (h : r ∈ x) : r.length ≤ tot x := by
  induction x with
  | nil => cases h
  | cons a x ih =>
    simp only [tot, List.map_cons, List.sum_cons] at ih ⊢
    rcases List.mem_cons.1 h with rfl | h
    · omega
    · have := ih h
      omega
theorem toIntSS_eq {x : List (List Int)} (h : x.length + tot x ≤ 1048576) : M_L_toIntSS x = some x := by
  unfold M_L_toIntSS
  have hx : (x.length : Int) ≤ ((lim : Nat) : Int) := by rw [lim_eq]; omega
  rw [guardO_of (by simpa using hx), bindO_some', Int.toNat_natCast]
  refine copy_loop x [] (fun again i a s ha hi hs => ?_) (fun again s hs => ?_) (by omega)
  · have hm := row_le (List.mem_of_getElem? ha)
    have hsi := List.getElem?_eq_getElem (l := s) (show i < s.length by omega)
    simp only [lt_yes hi, cond_true, getI_nat, ha, hsi, bindO_some', toIntS_eq (show a.length ≤ 1048576 by omega), Int.toNat_natCast, i64_succ (show i < 2 ^ 62 by omega)]
  · simp
theorem eqIntSS_eq {a b : List (List Int)} (h : a.length < 2 ^ 62) (hr : ∀ r ∈ a, r.length < 2 ^ 62) : M_L_eqIntSS (a, b) = some (decide (a = b)) := by
  unfold M_L_eqIntSS
  by_cases hl : a.length = b.length
  · have e1 : ((a.length : Int) != (b.length : Int)) = false := by simp [hl]
    dsimp only
    rw [e1, cond_false]
    refine eq_loop a b hl (fun again i x y hx hy hi => ?_) (fun again => by simp) h
    simp only [lt_yes hi, cond_true, getI_nat, hx, hy, bindO_some', eqIntS_eq (hr x (List.mem_of_getElem? hx)), i64_succ (show i < 2 ^ 62 by omega)]
    by_cases he : x = y <;> simp [he]
  · have e1 : ((a.length : Int) != (b.length : Int)) = true := by simp; omega
    dsimp only
    rw [e1, cond_true]
    congr 1
    symm
    simp only [decide_eq_false_iff_not]
    rintro rfl
    exact hl rfl
theorem all_not_any {α : Type} {p q : α → Bool} {l : List α} (h : ∀ a ∈ l, q a = !p a) : l.all p = !l.any q := by
  induction l with
  | nil => rfl
  | cons a l ih =>
    rw [List.all_cons, List.any_cons, ih fun b hb => h b (List.mem_cons_of_mem _ hb), h a (List.mem_cons_self ..)]
    cases p a <;> simp
theorem wf_ss {x : List (List Int)} (h : WFI [.data (.sl (.sl (.int .i64)))] x) : x.length < 2 ^ 63 ∧ ∀ r ∈ x, r.length < 2 ^ 63 := by
  have h' : x.length ≤ maxLen ∧ ∀ r ∈ x, r.length ≤ maxLen ∧ ∀ n ∈ r, IntKind.min .i64 ≤ n ∧ n ≤ IntKind.max .i64 := h
  have hm : maxLen < 2 ^ 63 := by decide
  exact ⟨by omega, fun r hr => by have := (h'.2 r hr).1; omega⟩
theorem has_contains {l : List Int} (hl : l.length < 2 ^ 62) (p : Nat × Nat) (a : Int) : M_S_l1Has (List.drop p.1 (List.take p.2 l), a) = M_slices_Contains_sint_int (List.drop p.1 (List.take p.2 l), a) := by
  have : (List.drop p.1 (List.take p.2 l)).length < 2 ^ 62 := by simp; omega
  rw [contains_eq this, has_eq this]
theorem vDifferent_eq {l : List Int} (hl : l.length < 2 ^ 62) : M_S_vDifferent l = some (nodupB l) := by
  rw [← areDifferent_eq hl]
  unfold M_S_vDifferent M_I_areDifferent
  simp only [has_contains hl]
theorem append_loop {α β : Type} (y : List α) (fin : List α → Option β) {body : (List α × Int → Option β) → List α × Int → Option β}
    (h : ∀ (again : List α × Int → Option β) (i : Nat) a (s : List α), y[i]? = some a → i < y.length → s.length = i → body again (s, (i : Int)) = again (s ++ [a], ((i + 1 : Nat) : Int)))
    (hend : ∀ (again : List α × Int → Option β) (s : List α), s.length = y.length → body again (s, (y.length : Int)) = fin s) (hl : y.length < 2 ^ 62) : loopO body ([], 0) = fin y := by
  refine (loopO_for (σ := List α) (fun i s => (s, (i : Int))) y.length (fun i s => fin y) (fun i s => s = y.take i) (fun again s hs => ?_) (fun again i s hi hs ih => ?_) (by omega) (i := 0) (s := []) (Nat.zero_le _) (by simp)).trans rfl
  · subst hs
    rw [List.take_length]
    exact hend again y rfl
  · subst hs
    have ha := List.getElem?_eq_getElem hi
    rw [h again i y[i] _ ha hi (by simp; omega)]
    refine ih _ ?_
    rw [List.take_add_one, ha]
    rfl
noncomputable def okP (p : List Int) : Bool := decide (p.length ≤ 24) && ((p.all fun n => decide (0 ≤ n ∧ n ≤ (p.length : Int) - 1)) && nodupB p)
theorem mGood_eq {p : List Int} (hp : p.length < 2 ^ 62) : M_S_mGood p = some (okP p) := by
  unfold M_S_mGood okP
  have e : decide (((p.length : Nat) : Int) ≤ 24) = decide (p.length ≤ 24) := by rw [decide_eq_decide]; omega
  rw [e, i64_in ((p.length : Int) - 1) (by omega), bindO_some', l1All_eq hp, bindO_some', vDifferent_eq hp, bindO_some']
  cases decide (p.length ≤ 24)
  · rfl
  · cases (p.all fun n => decide (0 ≤ n ∧ n ≤ (p.length : Int) - 1)) <;> rfl
theorem own_eq {l : List Int} (hl : l.length ≤ 1048576) : M_S_l1Own l = some l := by
  unfold M_S_l1Own
  rw [guardO_of (lenOk_of (by simp; omega))]
  rfl
theorem clone_eq {l : List Int} (hl : l.length ≤ 1048576) : M_slices_Clone_sint_int l = some l := by
  unfold M_slices_Clone_sint_int
  rw [guardO_of (lenOk_of (by simp; omega))]
  simp only [bindO_some', List.nil_append, Bool.not_true, cond_false]
  cases l with
  | nil => simp [ambO]
  | cons a l => rfl
def pw (p q x e : Int) : Int := x ^ (e % q).toNat % p
theorem pw_range {p q x e : Int} (hp : 1 ≤ p) : 0 ≤ pw p q x e ∧ pw p q x e < p := pow_range hp
theorem gExp_pw {p q g x e : Int} (h : Gr p q g) (hx : 0 ≤ x) (hx2 : x ≤ p) : M_S_gExp ((p, q, g), x, e) = some (pw p q x e) := gExp_eq h hx hx2
theorem pow_pw {p q g x e : Int} (h : Gr p q g) (hx : 0 ≤ x) (hx2 : x ≤ p) : M_I_Group_pow ((p, q, g), x, e) = some (pw p q x e) := Group_pow_eq h hx hx2
def inv (p q x : Int) : Int := x ^ (q - 1).toNat % p
theorem containsFuncC_eq {l : List (Int × Int)} {f : Int × Int → Option Bool} {p : Int × Int → Bool} (hl : l.length < 2 ^ 62) (hf : ∀ a ∈ l, f a = some (p a)) : M_slices_ContainsFunc_sI_Cipher_I_Cipher (l, f) = some (l.any p) := by
  obtain ⟨j, h1, h2⟩ := walk_index_mem p f l 0 hf
  unfold M_slices_ContainsFunc_sI_Cipher_I_Cipher
  have : M_slices_IndexFunc_sI_Cipher_I_Cipher (l, f) = some j := by
    unfold M_slices_IndexFunc_sI_Cipher_I_Cipher
    refine (loop_walk l _ _ (fun again i a ha hi => ?_) (fun again => ?_) (by omega)).trans h1
    · simp only [getI_nat, ha, bindO_some', i64_succ (show i < 2 ^ 62 by omega), lt_yes hi, cond_true]
    · simp
  dsimp only
  rw [this, bindO_some', h2]
theorem hasCiphers_eq {p q g : Int} {l : List (Int × Int)} (h : Gr p q g) (hl : l.length < 2 ^ 62) : M_I_Group_hasCiphers ((p, q, g), l) = some (decide (l.length ≤ 24) && l.all (isCi p q)) := by
  unfold M_I_Group_hasCiphers
  have e : decide (((l.length : Nat) : Int) ≤ 24) = decide (l.length ≤ 24) := by rw [decide_eq_decide]; omega
  dsimp only
  rw [e, containsFuncC_eq (p := fun c => !isCi p q c) hl fun a _ => ?_, bindO_some', all_not_any fun _ _ => rfl]
  · cases decide (l.length ≤ 24) <;> rfl
  · unfold M_I_Group_hasCiphers_1
    dsimp only
    rw [hasCipher_eq h]
    rfl
theorem areExps_eq {p q g : Int} {l : List Int} (h : Gr p q g) (hl : l.length < 2 ^ 62) : M_I_Group_areExps ((p, q, g), l) = some (l.all fun e => decide (0 ≤ e ∧ e ≤ q - 1)) := by
  unfold M_I_Group_areExps
  dsimp only
  rw [areAll_eq (p := fun e => decide (0 ≤ e ∧ e ≤ q - 1)) hl fun a _ => by rw [isExp_eq h]; rfl]
  rfl
theorem szCipherS_eq {a : List (Int × Int)} {left : Int} (h0 : 0 ≤ left) (h1 : left ≤ 1048576) (hl : a.length < 2 ^ 63) : M_L_szCipherS (a, left) = some (if left < a.length then -1 else left - a.length) := by
  unfold M_L_szCipherS
  simp only [i64_in (left - (a.length : Int)) (by omega), bindO_some']
  by_cases h : left < a.length
  · rw [if_pos h]
    have : left - (a.length : Int) < 0 := by omega
    simp [this]
  · rw [if_neg h]
    have : ¬ left - (a.length : Int) < 0 := by omega
    simp [this]
theorem toCipherS_eq {x : List (Int × Int)} (h : x.length ≤ 1048576) : M_L_toCipherS x = some x := by
  unfold M_L_toCipherS
  have hx : (x.length : Int) ≤ ((lim : Nat) : Int) := by rw [lim_eq]; omega
  rw [guardO_of (by simpa using hx), bindO_some', Int.toNat_natCast]
  refine copy_loop x (0, 0) (fun again i a s ha hi hs => ?_) (fun again s hs => ?_) (by omega)
  · have hsi := List.getElem?_eq_getElem (l := s) (show i < s.length by omega)
    simp only [lt_yes hi, cond_true, getI_nat, ha, hsi, bindO_some', toCipher_eq, Int.toNat_natCast, i64_succ (show i < 2 ^ 62 by omega)]
  · simp
theorem eqCipher_eq (a b : Int × Int) : M_L_eqCipher (a, b) = some (decide (a = b)) := by
  obtain ⟨a1, a2⟩ := a
  obtain ⟨b1, b2⟩ := b
  unfold M_L_eqCipher
  by_cases h1 : a1 = b1 <;> by_cases h2 : a2 = b2 <;> simp [h1, h2, bne_dec]
theorem eqCipherS_eq {a b : List (Int × Int)} (h : a.length < 2 ^ 62) : M_L_eqCipherS (a, b) = some (decide (a = b)) := by
  unfold M_L_eqCipherS
  by_cases hl : a.length = b.length
  · have e1 : ((a.length : Int) != (b.length : Int)) = false := by simp [hl]
    dsimp only
    rw [e1, cond_false]
    refine eq_loop a b hl (fun again i x y hx hy hi => ?_) (fun again => by simp) h
    simp only [lt_yes hi, cond_true, getI_nat, hx, hy, bindO_some', eqCipher_eq, i64_succ (show i < 2 ^ 62 by omega)]
    by_cases he : x = y <;> simp [he]
  · have e1 : ((a.length : Int) != (b.length : Int)) = true := by simp; omega
    dsimp only
    rw [e1, cond_true]
    congr 1
    symm
    simp only [decide_eq_false_iff_not]
    rintro rfl
    exact hl rfl
def marksC (n : Nat) (k : Int) : List (Int × Int) := (List.range n).map fun (i : Nat) => (k + 2 * (i : Int), k + 2 * (i : Int) + 1)
theorem marksC_length (n : Nat) (k : Int) : (marksC n k).length = n := by simp [marksC]
theorem marksC_get {n i : Nat} {k : Int} (h : i < n) : (marksC n k)[i]? = some (k + 2 * (i : Int), k + 2 * (i : Int) + 1) := by
  simp [marksC, h]
theorem markCipherS_eq {a : List (Int × Int)} {k : Int} (h : a.length < 2 ^ 40) (h0 : 0 ≤ k) (h1 : k < 2 ^ 40) : M_L_markCipherS (a, k) = some (k + 2 * a.length, marksC a.length k) := by
  unfold M_L_markCipherS
  refine (loopO_for (σ := Int × List (Int × Int)) (fun i s => (s.1, ((i : Int), s.2))) a.length (fun i s => some (k + 2 * a.length, marksC a.length k)) (fun i s => s.1 = k + 2 * i ∧ s.2 = marksC i k ++ a.drop i) (fun again s hs => ?_) (fun again i s hi hs ih => ?_) (by omega) (i := 0) (s := (k, a)) (Nat.zero_le _) (by simp [marksC])).trans rfl
  · obtain ⟨s1, s2⟩ := s
    obtain ⟨rfl, rfl⟩ := hs
    simp [marksC_length]
  · obtain ⟨s1, s2⟩ := s
    obtain ⟨rfl, rfl⟩ := hs
    have h2 : (marksC i k ++ a.drop i)[i]? = some a[i] := by
      rw [List.getElem?_append_right (by simp [marksC_length])]
      simp [marksC_length, hi]
    have hlen : (marksC i k ++ a.drop i).length = a.length := by simp [marksC_length]; omega
    have h3 : ((marksC i k ++ a.drop i).set i (k + 2 * (i : Int), a[i].2))[i]? = some (k + 2 * (i : Int), a[i].2) := List.getElem?_set_self (by omega)
    have h4 : ((marksC i k ++ a.drop i).set i (k + 2 * (i : Int), a[i].2)).set i (k + 2 * (i : Int), k + 2 * (i : Int) + 1) = marksC (i + 1) k ++ a.drop (i + 1) := by
      rw [List.set_set, List.set_append_right _ _ (by simp [marksC_length]), marksC_length, Nat.sub_self, List.drop_eq_getElem_cons hi, List.set_cons_zero]
      simp [marksC, List.range_succ]
    simp only [getI_nat, h2, bindO_some', Int.toNat_natCast, i64_succ (show i < 2 ^ 62 by omega), hlen, lt_yes hi, cond_true, h3]
    rw [i64_in (k + 2 * (i : Int) + 1) (by omega), i64_in (k + 2 * (i : Int) + 1 + 1) (by omega), h4]
    exact ih (k + 2 * (i : Int) + 1 + 1, marksC (i + 1) k ++ a.drop (i + 1)) ⟨by simp; omega, rfl⟩
theorem heldCipherS_eq {n : Nat} {k : Int} (h : n < 2 ^ 40) (h0 : 0 ≤ k) (h1 : k < 2 ^ 40) : M_L_heldCipherS (marksC n k, k) = some (k + 2 * n) := by
  unfold M_L_heldCipherS
  refine (loopO_for (σ := Int) (fun i s => (s, (i : Int))) n (fun i s => some (k + 2 * n)) (fun i s => s = k + 2 * i) (fun again s hs => ?_) (fun again i s hi hs ih => ?_) (by omega) (i := 0) (s := k) (Nat.zero_le _) (by simp)).trans rfl
  · subst hs; simp [marksC_length]
  · subst hs
    simp only [getI_nat, marksC_get hi, marksC_length, bindO_some', i64_succ (show i < 2 ^ 62 by omega), lt_yes hi, cond_true, bne_self_eq_false, cond_false]
    rw [i64_in (k + 2 * (i : Int) + 1) (by omega), i64_in (k + 2 * (i : Int) + 1 + 1) (by omega)]
    simp only [bne_self_eq_false, cond_false]
    exact ih (k + 2 * (i : Int) + 1 + 1) (by simp; omega)
def encC (p q g key m r : Int) : Int × Int := (pw p q g r, prodM p 1 [m, pw p q key r])
theorem eEnc_eq {p q g key m r : Int} (h : Gr p q g) (hk : 0 ≤ key ∧ key ≤ p) (hm : 0 ≤ m ∧ m ≤ p) : M_S_eEnc ((p, q, g), key, m, r) = some (encC p q g key m r) := by
  unfold M_S_eEnc encC
  have := h.p3; have := h.g2; have := h.gp
  have r1 := pw_range (q := q) (x := key) (e := r) (show 1 ≤ p by omega)
  simp only [gExp_pw h (show 0 ≤ g by omega) (show g ≤ p by omega), gExp_pw h hk.1 hk.2, bindO_some', mul2 h hm (⟨r1.1, by omega⟩ : 0 ≤ pw p q key r ∧ _ ≤ p)]
theorem encrypt_eq {p q g key m r : Int} (h : Gr p q g) (hk : 0 ≤ key ∧ key ≤ p) (hm : 0 ≤ m ∧ m ≤ p) : M_I_Group_encrypt ((p, q, g), key, m, r) = some (encC p q g key m r) := by
  unfold M_I_Group_encrypt encC
  have := h.p3; have := h.g2; have := h.gp
  have r1 := pw_range (q := q) (x := key) (e := r) (show 1 ≤ p by omega)
  simp only [pow_pw h (show 0 ≤ g by omega) (show g ≤ p by omega), pow_pw h hk.1 hk.2, bindO_some', mul2' h hm (⟨r1.1, by omega⟩ : 0 ≤ pw p q key r ∧ _ ≤ p)]
def small (q : Int) (l : List Int) (i : Nat) : Int := 1 + digest (lab (bytesOf [115, 109, 97, 108, 108]) (l ++ [(i : Int)])) % (if 65535 < q - 1 then 65535 else q - 1)
theorem okD_snoc {l : List Int} (h : okD l = true) {i : Nat} (hi : i < 1000) : okD (l ++ [(i : Int)]) = true := by
  unfold okD at h ⊢
  rw [List.all_append, h]
  simp
  omega
def chal (p q g : Int) (s : ByteArray) (l : List Int) : Int := digest (lab s ([p, q, g] ++ l)) % q
theorem chal_range {p q g : Int} (h : Gr p q g) (s : ByteArray) (l : List Int) : 0 ≤ chal p q g s l ∧ chal p q g s l ≤ q - 1 := by
  have := h.q2
  have e1 := Int.emod_nonneg (digest (lab s ([p, q, g] ++ l))) (show q ≠ 0 by omega)
  have e2 := Int.emod_lt_of_pos (digest (lab s ([p, q, g] ++ l))) (show 0 < q by omega)
  unfold chal
  omega
theorem okD_gr {p q g : Int} (h : Gr p q g) {l : List Int} (hl : okD l = true) : okD ([p, q, g] ++ l) = true := by
  have := h.p3; have := h.pm; have := h.q2; have := h.qp; have := h.g2; have := h.gp
  unfold okD at hl ⊢
  rw [List.all_append, hl]
  simp
  omega
theorem hChallenge_eq {p q g : Int} {s : ByteArray} {l : List Int} (h : Gr p q g) (hs : s.size < 2 ^ 30) (hl : okD l = true) (hn : l.length < 2 ^ 20) : M_S_hChallenge ((p, q, g), s, l) = some (chal p q g s l) := by
  unfold M_S_hChallenge
  have := h.q2
  have hr := digest_range (lab s ([p, q, g] ++ l))
  dsimp only
  rw [guardO_of (lenOk_of (by simp; omega)), bindO_some', bindO_some', hLabelled_eq hs (by simp; omega) (okD_gr h hl), bindO_some', guardO_of (by simp; omega), bindO_some', bindO_some', tmod_nn hr.1]
  rfl
theorem challenge_eq {p q g : Int} {s : ByteArray} {l : List Int} (h : Gr p q g) (hs : s.size ≤ 40) (hl : okD l = true) (hn : s.size + l.length ≤ 396) : M_I_Group_challenge ((p, q, g), s, l) = some (chal p q g s l, true) := by
  unfold M_I_Group_challenge
  have := h.q2
  have hr := digest_range (lab s ([p, q, g] ++ l))
  dsimp only
  rw [guardO_of (lenOk_of (by simp; omega)), bindO_some', bindO_some', I_HashLabelled_eq, hashL, if_pos ⟨hs, okD_gr h hl, by simp; omega⟩, bindO_some']
  simp only [Bool.not_true, cond_false]
  rw [guardO_of (by simp; omega), bindO_some', bindO_some', tmod_nn hr.1]
  rfl
theorem exp_eq {p q g n : Int} (h : Gr p q g) : M_I_Group_exp ((p, q, g), n) = some (n % q) := by
  have := h.q2; have := h.qp; have := h.pm
  unfold M_I_Group_exp
  dsimp only
  rw [mod_eq, nMod_eq (by omega) (by omega)]
  rfl
abbrev Pf := List Int × List Int × List Int
def Pf.small (a : Pf) (n : Nat) : Prop := a.1.length ≤ n ∧ a.2.1.length ≤ n ∧ a.2.2.length ≤ n
theorem eqProof_eq {a b : Pf} (h : a.small (2 ^ 40)) : M_L_eqProof (a, b) = some (decide (a = b)) := by
  obtain ⟨a1, a2, a3⟩ := a
  obtain ⟨b1, b2, b3⟩ := b
  obtain ⟨h1, h2, h3⟩ := h
  dsimp only at h1 h2 h3
  unfold M_L_eqProof
  dsimp only
  rw [eqIntS_eq (by omega), bindO_some', eqIntS_eq (by omega), eqIntS_eq (by omega)]
  by_cases e1 : a1 = b1 <;> by_cases e2 : a2 = b2 <;> by_cases e3 : a3 = b3 <;> simp [e1, e2, e3]
theorem isP_spec {n : Int} (h : isP n = true) : IsP n := by
  unfold isP at h
  exact @of_decide_eq_true _ (Classical.propDecidable _) h
theorem pow_ne {p x : Int} (hp : IsP p) (h0 : 1 ≤ x) (h1 : x < p) (k : Nat) : x ^ k % p ≠ 0 := by
  obtain ⟨h2, hd⟩ := hp
  obtain ⟨P, rfl⟩ := Int.eq_ofNat_of_zero_le (show 0 ≤ p by omega)
  obtain ⟨X, rfl⟩ := Int.eq_ofNat_of_zero_le (show 0 ≤ x by omega)
  have hc : Nat.Coprime P X := by
    have g1 := Nat.gcd_dvd_left P X
    have g2 := Nat.gcd_dvd_right P X
    have g3 : P.gcd X ≤ X := Nat.le_of_dvd (by omega) g2
    have g4 : 0 < P.gcd X := Nat.gcd_pos_of_pos_left _ (by omega)
    by_cases hg : P.gcd X = 1
    · exact hg
    · exfalso
      obtain ⟨c, hc⟩ := g1
      generalize hG : P.gcd X = d at *
      have hc2 : 2 ≤ c := by
        rcases Nat.lt_or_ge c 2 with h | h
        · have : c = 0 ∨ c = 1 := by omega
          rcases this with rfl | rfl
          · rw [Nat.mul_zero] at hc; omega
          · rw [Nat.mul_one] at hc; omega
        · exact h
      rcases Nat.le_total d c with h | h
      · refine hd (d : Int) (by omega) ?_ ?_
        · have := Nat.mul_le_mul_left d h
          exact_mod_cast (by omega : d * d ≤ P)
        · exact_mod_cast (by rw [hc]; exact Nat.mul_mod_right d c : P % d = 0)
      · refine hd (c : Int) (by omega) ?_ ?_
        · have := Nat.mul_le_mul_right c h
          exact_mod_cast (by omega : c * c ≤ P)
        · exact_mod_cast (by rw [hc]; exact Nat.mul_mod_left d c : P % c = 0)
  intro he
  have he' : X ^ k % P = 0 := by exact_mod_cast he
  have := Nat.Coprime.eq_one_of_dvd (Nat.Coprime.pow_right k hc) (Nat.dvd_of_mod_eq_zero he')
  omega
def derX (p q g : Int) (s : ByteArray) (k c : Int) : Int := (1 + digest (lab s [p, q, g, k, c]) % (p - 1)) ^ ((p - 1) / q).toNat % p
def derL (p q g : Int) (s : ByteArray) (k : Int) : List Int := (List.range 1000).map fun c : Nat => derX p q g s k (c : Int)
def derv (p q g : Int) (s : ByteArray) (k : Int) : Option Int := (derL p q g s k).find? (· != 1)
theorem derL_len (p q g : Int) (s : ByteArray) (k : Int) : (derL p q g s k).length = 1000 := by simp [derL]
theorem derL_get {p q g : Int} {s : ByteArray} {k a : Int} {i : Nat} (h : (derL p q g s k)[i]? = some a) : a = derX p q g s k (i : Int) ∧ i < 1000 := by
  simp only [derL, List.getElem?_map, Option.map_eq_some_iff] at h
  obtain ⟨c, h1, h2⟩ := h
  have := (List.getElem?_eq_some_iff.1 h1)
  obtain ⟨h3, h4⟩ := this
  simp only [List.getElem_range] at h4
  simp only [List.length_range] at h3
  subst h4
  exact ⟨h2.symm, h3⟩
theorem walk_first {α : Type} (f : Int → Option α) (fin : Option α) : ∀ (l : List Int) (i : Nat), walk (fun _ a k => bif a != 1 then f a else k) fin i l = match l.find? (· != 1) with | some a => f a | none => fin
  | [], _ => rfl
  | a :: l, i => by
    rw [walk, List.find?_cons]
    cases a != 1
    · exact walk_first f fin l (i + 1)
    · rfl
theorem der_step {p q g : Int} (h : Gr p q g) (d : Int) (hd : 0 ≤ d) :
    (p - 1 ≠ 0) ∧ IntKind.wrap .i64 (p - 1) = p - 1 ∧ d.tmod (p - 1) = d % (p - 1) ∧ 0 ≤ d % (p - 1) ∧ d % (p - 1) ≤ p - 2 ∧ (p - 1).tdiv q = (p - 1) / q ∧ 0 ≤ (p - 1) / q ∧ (p - 1) / q ≤ p - 1 := by
  have := h.p3; have := h.pm; have := h.q2
  have e1 := Int.emod_nonneg d (show p - 1 ≠ 0 by omega)
  have e2 := Int.emod_lt_of_pos d (show 0 < p - 1 by omega)
  exact ⟨by omega, i64_in _ (by omega), tmod_nn hd, e1, by omega, tdiv_nn (by omega), Int.ediv_nonneg (by omega) (by omega), Int.ediv_le_self _ (by omega)⟩
theorem okD5 {p q g k c : Int} (h : Gr p q g) (hk : 0 ≤ k ∧ k ≤ 4611686018427387903) (hc : 0 ≤ c ∧ c ≤ 1000) : okD [p, q, g, k, c] = true := by
  have := h.p3; have := h.pm; have := h.q2; have := h.qp; have := h.g2; have := h.gp
  simp [okD]
  omega
theorem hDerived_eq {p q g : Int} {s : ByteArray} {k : Int} (h : Gr p q g) (hs : s.size ≤ 40) (hk : 0 ≤ k ∧ k ≤ 4611686018427387903) : M_S_hDerived ((p, q, g), s, k) = some ((derv p q g s k).getD 0) := by
  unfold M_S_hDerived
  dsimp only
  have h3 := h.p3; have hpm := h.pm; have hq2 := h.q2
  have hl := derL_len p q g s k
  refine (loop_walk (derL p q g s k) (fun _ a k => bif a != 1 then some a else k) (some 0) (fun again i a ha hi => ?_) (fun again => ?_) (by omega)).trans ?_
  · obtain ⟨rfl, hi2⟩ := derL_get ha
    have hr := digest_range (lab s [p, q, g, k, (i : Int)])
    obtain ⟨d1, d2, d3, d4, d5, d6, d7, d8⟩ := der_step h _ hr.1
    have e0 : decide ((i : Int) < 1000) = true := by simp; omega
    have hL := hLabelled_eq (s := s) (l := [p, q, g, k, (i : Int)]) (by omega) (by show (5 : Nat) < _; omega) (okD5 h hk (by omega))
    have hg1 : guardO (p - 1 != 0) = some () := guardO_of (by simp; omega)
    have hg2 : guardO (q != 0) = some () := guardO_of (by simp; omega)
    have hP := nPower_eq (a := 1 + digest (lab s [p, q, g, k, (i : Int)]) % (p - 1)) (e := (p - 1) / q) (m := p) (by omega) (by omega) (by omega) (by omega) (by omega) (by omega)
    simp only [e0, cond_true, hL, bindO_some', d2, hg1, d3, i64_in (1 + digest (lab s [p, q, g, k, (i : Int)]) % (p - 1)) (by omega), hg2, d6, i64_in ((p - 1) / q) (by omega), hP, i64_succ (show i < 2 ^ 62 by omega)]
    rfl
  · rw [hl]
    rfl
  · rw [walk_first]
    unfold derv
    cases (derL p q g s k).find? (· != 1) <;> rfl
theorem derive_eq {p q g : Int} {s : ByteArray} {k : Int} (h : Gr p q g) (hs : s.size ≤ 40) (hk : 0 ≤ k ∧ k ≤ 4611686018427387903) : M_I_Group_derive ((p, q, g), s, k) = some ((derv p q g s k).getD 0, (derv p q g s k).isSome) := by
  unfold M_I_Group_derive
  dsimp only
  have h3 := h.p3; have hpm := h.pm; have hq2 := h.q2
  have hl := derL_len p q g s k
  refine (loop_walk (derL p q g s k) (fun _ a k => bif a != 1 then some (a, true) else k) (some (0, false)) (fun again i a ha hi => ?_) (fun again => ?_) (by omega)).trans ?_
  · obtain ⟨rfl, hi2⟩ := derL_get ha
    have hr := digest_range (lab s [p, q, g, k, (i : Int)])
    obtain ⟨d1, d2, d3, d4, d5, d6, d7, d8⟩ := der_step h _ hr.1
    have e0 : decide ((i : Int) < 1000) = true := by simp; omega
    have hL : M_I_HashLabelled (s, [p, q, g, k, (i : Int)]) = some (digest (lab s [p, q, g, k, (i : Int)]), true) := by
      rw [I_HashLabelled_eq, hashL, if_pos ⟨hs, okD5 h hk (by omega), by show 1 + s.size + 5 ≤ _; omega⟩]
    have hg1 : guardO (p - 1 != 0) = some () := guardO_of (by simp; omega)
    have hg2 : guardO (q != 0) = some () := guardO_of (by simp; omega)
    have hP := nPower_eq (a := 1 + digest (lab s [p, q, g, k, (i : Int)]) % (p - 1)) (e := (p - 1) / q) (m := p) (by omega) (by omega) (by omega) (by omega) (by omega) (by omega)
    simp only [e0, cond_true, hL, bindO_some', Bool.not_true, cond_false, d2, hg1, d3, i64_in (1 + digest (lab s [p, q, g, k, (i : Int)]) % (p - 1)) (by omega), hg2, d6, i64_in ((p - 1) / q) (by omega), power_eq (show (p - 1) / q ≤ 9223372036854775807 by omega), hP, i64_succ (show i < 2 ^ 62 by omega)]
    rfl
  · rw [hl]
    rfl
  · rw [walk_first (fun a => some (a, true))]
    unfold derv
    cases (derL p q g s k).find? (· != 1) <;> rfl
theorem derv_range {p q g : Int} {s : ByteArray} {k a : Int} (h : Gr p q g) (hd : derv p q g s k = some a) : 1 ≤ a ∧ a < p := by
  have h3 := h.p3
  have hm := List.mem_of_find?_eq_some hd
  obtain ⟨i, hi⟩ := List.mem_iff_getElem?.1 hm
  obtain ⟨rfl, _⟩ := derL_get hi
  have hr := digest_range (lab s [p, q, g, k, (i : Int)])
  obtain ⟨d1, d2, d3, d4, d5, d6, d7, d8⟩ := der_step h _ hr.1
  unfold derX
  have e1 := Int.emod_nonneg ((1 + digest (lab s [p, q, g, k, (i : Int)]) % (p - 1)) ^ ((p - 1) / q).toNat) (show p ≠ 0 by omega)
  have e2 := Int.emod_lt_of_pos ((1 + digest (lab s [p, q, g, k, (i : Int)]) % (p - 1)) ^ ((p - 1) / q).toNat) (show 0 < p by omega)
  have e3 := pow_ne (isP_spec h.pp) (show 1 ≤ 1 + digest (lab s [p, q, g, k, (i : Int)]) % (p - 1) by omega) (by omega) ((p - 1) / q).toNat
  omega
def sH : ByteArray := bytesOf [104]
def sHs : ByteArray := bytesOf [104, 115]
theorem yPoints_eq {l : List Int} (hl : l.length < 2 ^ 62) : M_S_yPoints l = some (nodupB l) := vDifferent_eq hl
def cm (p q g b m r : Int) : Int := prodM p 1 [pw p q g m, pw p q b r]
theorem vC_eq {p q g b m r : Int} (h : Gr p q g) (hb : 0 ≤ b ∧ b ≤ p) : M_S_vC ((p, q, g), b, m, r) = some (cm p q g b m r) := by
  unfold M_S_vC cm
  have := h.p3; have := h.g2; have := h.gp
  have r1 := pw_range (q := q) (x := g) (e := m) (show 1 ≤ p by omega)
  have r2 := pw_range (q := q) (x := b) (e := r) (show 1 ≤ p by omega)
  simp only [gExp_pw h (show 0 ≤ g by omega) (show g ≤ p by omega), gExp_pw h hb.1 hb.2, bindO_some', mul2 h (show 0 ≤ pw p q g m ∧ pw p q g m ≤ p by omega) (show 0 ≤ pw p q b r ∧ pw p q b r ≤ p by omega)]
theorem commit_eq {p q g b m r : Int} {hs : List Int} (h : Gr p q g) (hb : 0 ≤ b ∧ b ≤ p) : M_I_Group_commit ((p, q, g), (b, hs), m, r) = some (cm p q g b m r) := by
  unfold M_I_Group_commit cm
  have := h.p3; have := h.g2; have := h.gp
  have r1 := pw_range (q := q) (x := g) (e := m) (show 1 ≤ p by omega)
  have r2 := pw_range (q := q) (x := b) (e := r) (show 1 ≤ p by omega)
  simp only [pow_pw h (show 0 ≤ g by omega) (show g ≤ p by omega), pow_pw h hb.1 hb.2, bindO_some', mul2' h (show 0 ≤ pw p q g m ∧ pw p q g m ≤ p by omega) (show 0 ≤ pw p q b r ∧ pw p q b r ≤ p by omega)]
theorem mPerm_eq {pm : List Int} (hp : pm.length < 2 ^ 62) : M_S_mPerm (pm, ((pm.length : Nat) : Int)) = some ((pm.all fun n => decide (0 ≤ n ∧ n ≤ (pm.length : Int) - 1)) && nodupB pm) := by
  have e1 : (((pm.length : Nat) : Int) == ((pm.length : Nat) : Int)) = true := by simp
  unfold M_S_mPerm
  dsimp only
  rw [e1, cond_true, i64_in _ (by omega), bindO_some', l1All_eq hp, bindO_some', yPoints_eq hp]
  cases (pm.all fun n => decide (0 ≤ n ∧ n ≤ (pm.length : Int) - 1)) <;> rfl
theorem isPermN_eq {pm : List Int} (hp : pm.length ≤ 24) : M_I_IsPermutation pm = some ((pm.all fun n => decide (0 ≤ n ∧ n ≤ (pm.length : Int) - 1)) && nodupB pm) := by
  unfold M_I_IsPermutation
  have e2 : decide (((pm.length : Nat) : Int) ≤ 24) = true := by simp; omega
  rw [e2, cond_true, areAll_eq (p := fun n => decide (0 ≤ n ∧ n ≤ (pm.length : Int) - 1)) (by omega) fun a _ => ?_, bindO_some', areDifferent_eq (by omega)]
  · cases (pm.all fun n => decide (0 ≤ n ∧ n ≤ (pm.length : Int) - 1)) <;> rfl
  · unfold M_I_IsPermutation_1
    dsimp only
    rw [i64_in _ (by omega), bindO_some', within_eq]
    rfl
def places (p q g b : Int) (pm rs : List Int) : List Int := (pm.zip rs).map fun c => cm p q g b (c.1 + 1) c.2
theorem places_len {p q g b : Int} {pm rs : List Int} (hlen : rs.length = pm.length) : (places p q g b pm rs).length = pm.length := by simp [places, hlen]
theorem places_get {p q g b : Int} {pm rs : List Int} (hpa : ∀ c ∈ pm, 0 ≤ c ∧ c ≤ (pm.length : Int)) {i : Nat} {a : Int} (ha : (places p q g b pm rs)[i]? = some a) : ∃ c e, pm[i]? = some c ∧ rs[i]? = some e ∧ (0 ≤ c ∧ c ≤ (pm.length : Int)) ∧ a = cm p q g b (c + 1) e := by
  simp only [places, List.getElem?_map, Option.map_eq_some_iff] at ha
  obtain ⟨⟨c, e⟩, h1, h2⟩ := ha
  rw [List.getElem?_zip_eq_some] at h1
  exact ⟨c, e, h1.1, h1.2, hpa c (List.mem_of_getElem? h1.1), h2.symm⟩
theorem vPlaces_eq {p q g b : Int} {pm rs : List Int} (h : Gr p q g) (hb : 0 ≤ b ∧ b ≤ p) (hn : pm.length ≤ 24) (hlen : rs.length = pm.length) (hpa : ∀ c ∈ pm, 0 ≤ c ∧ c ≤ (pm.length : Int)) : M_S_vPlaces ((p, q, g), b, pm, rs) = some (places p q g b pm rs) := by
  unfold M_S_vPlaces
  dsimp only
  have hzl := places_len (p := p) (q := q) (g := g) (b := b) hlen
  rw [← hzl]
  refine append_loop (places p q g b pm rs) (fun t => some t) (fun again i a t ha hi ht => ?_) (fun again t ht => ?_) (by omega)
  case refine_2 => simp only [lt_no, cond_false]
  obtain ⟨c, e, h1, h2, h3, rfl⟩ := places_get hpa ha
  simp only [lt_yes hi, cond_true, getI_nat, h1, h2, bindO_some', i64_in (c + 1) (by omega), vC_eq h hb]
  rw [hzl] at hi
  rw [guardO_of (lenOk_of (by simp; omega)), bindO_some', i64_succ (by omega)]
theorem placeCommits_eq {p q g b : Int} {pm rs : List Int} (h : Gr p q g) (hb : 0 ≤ b ∧ b ≤ p) (hn : pm.length ≤ 24) (hlen : rs.length = pm.length) (hpa : ∀ c ∈ pm, 0 ≤ c ∧ c ≤ (pm.length : Int)) : M_I_Group_placeCommits ((p, q, g), (b, []), pm, rs) = some (places p q g b pm rs) := by
  unfold M_I_Group_placeCommits
  dsimp only
  have hzl := places_len (p := p) (q := q) (g := g) (b := b) hlen
  rw [← hzl]
  refine append_loop (places p q g b pm rs) (fun t => some t) (fun again i a t ha hi ht => ?_) (fun again t ht => ?_) (by omega)
  case refine_2 => simp only [lt_no, cond_false]
  obtain ⟨c, e, h1, h2, h3, rfl⟩ := places_get hpa ha
  simp only [lt_yes hi, cond_true, getI_nat, h1, h2, bindO_some', i64_in (c + 1) (by omega), commit_eq h hb]
  rw [hzl] at hi
  rw [guardO_of (lenOk_of (by simp; omega)), bindO_some', i64_succ (by omega)]
theorem szIntSS_eq' {x : List (List Int)} {left : Int} (hL0 : 0 ≤ left) (hL1 : left ≤ 1048576) (hx : x.length < 2 ^ 63) (hr : ∀ r ∈ x, r.length < 2 ^ 63) : ∃ k, M_L_szIntSS (x, left) = some k ∧ k ≤ left ∧ (0 ≤ k → ((x.length + tot x : Nat) : Int) ≤ left) := by
  unfold M_L_szIntSS
  simp only [i64_in (left - (x.length : Int)) (by omega), bindO_some']
  by_cases h : left - (x.length : Int) < 0
  · exact ⟨-1, by simp [h], by omega, by omega⟩
  · simp only [h, decide_false, cond_false]
    refine loopO_ind (fun (s : Int × Int) (y : Option Int) => ∃ k, y = some k ∧ k ≤ left ∧ (0 ≤ k → ((x.length + tot x : Nat) : Int) ≤ left)) (fun s => 0 ≤ s.1 ∧ s.1 ≤ left ∧ 0 ≤ s.2 ∧ s.2 ≤ x.length ∧ (tot x : Int) = tot (x.drop s.2.toNat) + (left - x.length - s.1)) (fun s => (x.length - s.2).toNat) (fun (again : Int × Int → Option Int) s hs ih => ?_)
      ⟨by dsimp only; omega, by dsimp only; omega, Int.le_refl _, by dsimp only; omega, by simp⟩ (by dsimp only; omega)
    obtain ⟨lf, j⟩ := s
    obtain ⟨h1, h2, h3, h4, h6⟩ := hs
    dsimp only at h1 h2 h3 h4 h6 ih ⊢
    obtain ⟨i, rfl⟩ := Int.eq_ofNat_of_zero_le h3
    rw [Int.toNat_natCast] at h6
    by_cases hi : i < x.length
    · have hm := hr x[i] (List.getElem_mem hi)
      simp only [lt_yes hi, cond_true, getI_nat, List.getElem?_eq_getElem hi, bindO_some', szIntS_eq h1 (Int.le_trans h2 hL1) hm, i64_succ (show i < 2 ^ 62 by omega)]
      by_cases hlt : lf < x[i].length
      · rw [if_pos hlt]
        exact ⟨-1, rfl, by omega, by omega⟩
      · rw [if_neg hlt]
        have h5 : ¬ lf - (x[i].length : Int) < 0 := by omega
        simp only [h5, decide_false, cond_false]
        have h7 := tot_drop hi
        exact ih (lf - (x[i].length : Int), ((i + 1 : Nat) : Int)) ⟨by dsimp only; omega, by dsimp only; omega, by dsimp only; omega, by dsimp only; omega, by dsimp only; rw [Int.toNat_natCast]; omega⟩ (by dsimp only; omega)
    · have : i = x.length := by omega
      subst this
      refine ⟨lf, by simp, h2, fun _ => ?_⟩
      simp [tot] at h6 ⊢
      omega
def gpf (p q : Int) (l es : List Int) : Int := (l.zip es).foldl (fun o c => o * pw p q c.1 c.2 % p) 1
def gpStep (p q : Int) (_ : Nat) (a : Int × Int) (s : Int) (k : Int → Option Int) : Option Int := k (s * pw p q a.1 a.2 % p)
theorem gpWalk (p q : Int) : ∀ (z : List (Int × Int)) (i : Nat) (s : Int), walkS (gpStep p q) some i z s = some (z.foldl (fun o c => o * pw p q c.1 c.2 % p) s)
  | [], _, _ => rfl
  | a :: z, i, s => by
    rw [walkS, gpStep, gpWalk p q z (i + 1), List.foldl_cons]
theorem foldl_range {p q : Int} (hp : 2 ≤ p) : ∀ (z : List (Int × Int)) (s : Int), 0 ≤ s ∧ s < p → 0 ≤ z.foldl (fun o c => o * pw p q c.1 c.2 % p) s ∧ z.foldl (fun o c => o * pw p q c.1 c.2 % p) s < p
  | [], _, h => h
  | a :: z, s, _ => by
    rw [List.foldl_cons]
    exact foldl_range hp z _ ⟨Int.emod_nonneg _ (by omega), Int.emod_lt_of_pos _ (by omega)⟩
theorem gpf_range {p q : Int} (hp : 2 ≤ p) (l es : List Int) : 0 ≤ gpf p q l es ∧ gpf p q l es < p := foldl_range hp _ 1 (by omega)
theorem zip_get {l es : List Int} {i : Nat} {a : Int × Int} (ha : (l.zip es)[i]? = some a) : l[i]? = some a.1 ∧ es[i]? = some a.2 := by
  obtain ⟨c, e⟩ := a
  rw [List.getElem?_zip_eq_some] at ha
  exact ha
theorem zip_len {α β : Type} {l : List α} {es : List β} (h : es.length = l.length) : (l.zip es).length = l.length := by simp [h]
theorem gProd_eq {p q g : Int} {l es : List Int} (h : Gr p q g) (hl : es.length = l.length) (hx : ∀ x ∈ l, 0 ≤ x ∧ x ≤ p) (hn : l.length < 2 ^ 60) : M_S_gProd ((p, q, g), l, es) = some (gpf p q l es) := by
  unfold M_S_gProd
  dsimp only
  have h3 := h.p3; have hpm := h.pm
  have hz := zip_len hl
  have hg0 : guardO (p != 0) = some () := guardO_of (by simp; omega)
  refine (loop_walkI (fun i (s : Int) => (s, i)) (l.zip es) (gpStep p q) some (fun _ s => 0 ≤ s ∧ s < p) (fun i a s k k' ha hi hk => ?_) (fun again i a s ha hi hs => ?_) (fun again s hs => ?_) (by omega) 1 (by omega)).trans (gpWalk p q _ 0 1)
  · exact hk _ ⟨Int.emod_nonneg _ (by omega), Int.emod_lt_of_pos _ (by omega)⟩
  · obtain ⟨h1, h2⟩ := zip_get ha
    have hxa := hx a.1 (List.mem_of_getElem? h1)
    have r := pw_range (q := q) (x := a.1) (e := a.2) (show 1 ≤ p by omega)
    have e3 : 0 ≤ s * pw p q a.1 a.2 := Int.mul_nonneg hs.1 r.1
    have e4 : s * pw p q a.1 a.2 ≤ 2000000000 * 2000000000 := Int.mul_le_mul (by omega) (by omega) r.1 (by omega)
    simp only [lt_yes (show i < l.length by omega), cond_true, getI_nat, h1, h2, bindO_some', gExp_pw h hxa.1 hxa.2, i64_in (s * pw p q a.1 a.2) (by omega), hg0, tmod_nn e3, i64_succ (show i < 2 ^ 62 by omega)]
    rfl
  · rw [hz]
    simp only [lt_no, cond_false]
theorem mul_out {p s b : Int} (hs : 0 ≤ s ∧ s < p) : prodM p 1 [s, b] = s * b % p := by
  simp only [prodM]
  rw [Int.one_mul, Int.emod_eq_of_lt hs.1 hs.2]
theorem powers_eq {p q g : Int} {l es : List Int} (h : Gr p q g) (hl : es.length = l.length) (hx : ∀ x ∈ l, 0 ≤ x ∧ x ≤ p) (hn : l.length < 2 ^ 60) : M_I_Group_powers ((p, q, g), l, es) = some (gpf p q l es) := by
  unfold M_I_Group_powers
  dsimp only
  have h3 := h.p3; have hpm := h.pm
  have hz := zip_len hl
  refine (loop_walkI (fun i (s : Int) => (s, i)) (l.zip es) (gpStep p q) some (fun _ s => 0 ≤ s ∧ s < p) (fun i a s k k' ha hi hk => ?_) (fun again i a s ha hi hs => ?_) (fun again s hs => ?_) (by omega) 1 (by omega)).trans (gpWalk p q _ 0 1)
  · exact hk _ ⟨Int.emod_nonneg _ (by omega), Int.emod_lt_of_pos _ (by omega)⟩
  · obtain ⟨h1, h2⟩ := zip_get ha
    have hxa := hx a.1 (List.mem_of_getElem? h1)
    have r := pw_range (q := q) (x := a.1) (e := a.2) (show 1 ≤ p by omega)
    simp only [lt_yes (show i < l.length by omega), cond_true, getI_nat, h1, h2, bindO_some', pow_pw h hxa.1 hxa.2, mul2' h (show 0 ≤ s ∧ s ≤ p by omega) (show 0 ≤ pw p q a.1 a.2 ∧ pw p q a.1 a.2 ≤ p by omega), mul_out hs, i64_succ (show i < 2 ^ 62 by omega)]
    rfl
  · rw [hz]
    simp only [lt_no, cond_false]
def lens (x : List (List Int)) : Nat := (x.map List.length).sum
theorem lens_flat (x : List (List Int)) : x.flatten.length = lens x := by simp [lens, List.length_flatten]
theorem lens_take_le (x : List (List Int)) (i : Nat) : lens (x.take i) ≤ lens x := by
  have h : lens x = lens (x.take i ++ x.drop i) := by rw [List.take_append_drop]
  rw [h]
  simp only [lens, List.map_append, List.sum_append]
  exact Nat.le_add_right _ _
theorem lens_take_succ {x : List (List Int)} {i : Nat} {a : List Int} (h : x[i]? = some a) : lens (x.take (i + 1)) = lens (x.take i) + a.length := by
  rw [List.take_add_one, h]
  simp [lens]
theorem flat_take_succ {x : List (List Int)} {i : Nat} {a : List Int} (h : x[i]? = some a) : (x.take (i + 1)).flatten = (x.take i).flatten ++ a := by
  rw [List.take_add_one, h]
  simp
theorem concat_eq {x : List (List Int)} (hx : x.length < 2 ^ 30) (ht : lens x ≤ 1073741824) : M_slices_Concat_sint_int x = some x.flatten := by
  unfold M_slices_Concat_sint_int
  refine (loopO_for (σ := Int) (fun i s => (s, (i : Int))) x.length (fun i s => some x.flatten) (fun i s => s = (lens (x.take i) : Int)) (fun again s hs => ?_) (fun again i s hi hs ih => ?_) (by omega) (i := 0) (s := 0) (Nat.zero_le _) (by simp [lens])).trans rfl
  · rw [List.take_length] at hs
    subst hs
    simp only [lt_no, cond_false]
    have hgrow : M_slices_Grow_sint_int ([], (lens x : Int)) = some [] := by
      unfold M_slices_Grow_sint_int
      dsimp only
      rw [if_pos]
      simp only [List.length_nil]
      omega
    rw [hgrow, bindO_some']
    refine (loopO_for (σ := List Int) (fun i s => (s, (i : Int))) x.length (fun i s => some x.flatten) (fun i s => s = (x.take i).flatten) (fun again s hs => ?_) (fun again i s hi hs ih => ?_) (by omega) (i := 0) (s := []) (Nat.zero_le _) (by simp)).trans rfl
    · subst hs
      simp only [lt_no, cond_false, List.take_length]
    · subst hs
      have ha := List.getElem?_eq_getElem hi
      have h1 : (x.take i).flatten.length + x[i].length ≤ 68719476736 := by
        have := lens_take_succ ha
        have := lens_take_le x (i + 1)
        rw [lens_flat]
        omega
      simp only [lt_yes hi, cond_true, getI_nat, ha, bindO_some', guardO_of (lenOk_of h1), i64_succ (show i < 2 ^ 62 by omega)]
      exact ih _ (flat_take_succ ha).symm
  · subst hs
    have ha := List.getElem?_eq_getElem hi
    have h1 := lens_take_succ ha
    have h2 := lens_take_le x (i + 1)
    have h3 : ((lens (x.take i) : Int) + (x[i].length : Int)) = ((lens (x.take (i + 1)) : Nat) : Int) := by omega
    simp only [lt_yes hi, cond_true, getI_nat, ha, bindO_some', h3, i64_in ((lens (x.take (i + 1)) : Nat) : Int) (by omega), i64_succ (show i < 2 ^ 62 by omega)]
    rw [show decide (((lens (x.take (i + 1)) : Nat) : Int) < 0) = false from decide_eq_false (by omega)]
    exact ih _ rfl
theorem concat3_eq {a b c : List Int} (h : a.length + b.length + c.length ≤ 1073741824) : M_slices_Concat_sint_int [a, b, c] = some (a ++ (b ++ c)) := by
  rw [concat_eq (by simp) (by simp only [lens, List.map_cons, List.map_nil, List.sum_cons, List.sum_nil]; omega)]
  simp
theorem isEl_in {p q x : Int} (hx : isEl p q x = true) : 0 ≤ x ∧ x ≤ p := by
  have := isEl_range hx
  omega
theorem range_loop {n : Nat} (c : Nat → Bool) {body : (Int → Option Bool) → Int → Option Bool} (hn : n < 2 ^ 62)
    (h : ∀ (again : Int → Option Bool) (i : Nat), i < n → body again (i : Int) = bif c i then again ((i + 1 : Nat) : Int) else some false)
    (hend : ∀ again : Int → Option Bool, body again (n : Int) = some true) : loopO body 0 = some ((List.range n).all c) := by
  have hlen : (List.range n).length = n := List.length_range
  refine (loop_walk (List.range n) (fun _ a k => if c a = true then k else some false) (some true) (fun again i a ha hi => ?_) (fun again => ?_) (by omega)).trans (walk_all c _ 0)
  · rw [hlen] at hi
    rw [List.getElem?_range hi] at ha
    cases ha
    rw [h again i hi]
    cases c i <;> rfl
  · rw [hlen]
    exact hend again
theorem getD_at {α : Type} {l : List α} {i : Nat} {d : α} (h : i < l.length) : l[i]? = some (l.getD i d) := by
  rw [List.getElem?_eq_getElem h, List.getD_eq_getElem?_getD, List.getElem?_eq_getElem h]
  rfl
theorem okD_append {a b : List Int} : okD (a ++ b) = (okD a && okD b) := by simp [okD]
theorem isEl_of {p q g t : Int} (h : Gr p q g) (ht : t ^ q.toNat % p = 1) : isEl p q (t % p) = true := by
  have h3 := h.p3; have h2 := h.q2
  have e1 : (t % p) ^ q.toNat % p = 1 := by rw [pow_mod, ht]
  have e2 := Int.emod_nonneg t (show p ≠ 0 by omega)
  have e3 := Int.emod_lt_of_pos t (show 0 < p by omega)
  have e4 : t % p ≠ 0 := by
    intro h0
    rw [h0, Int.zero_pow (show q.toNat ≠ 0 by omega)] at e1
    simp at e1
  unfold isEl
  rw [e1]
  simp only [BEq.rfl, Bool.and_true, decide_eq_true_eq]
  omega
theorem pow_one_mod {p t : Int} {k n : Nat} (hp : 3 ≤ p) (h : t ^ n % p = 1) : (t ^ k) ^ n % p = 1 := by
  rw [← Int.pow_mul, Nat.mul_comm, Int.pow_mul, ← pow_mod, h, Int.one_pow]
  exact Int.emod_eq_of_lt (by omega) (by omega)
theorem isEl_pow {p q g x : Int} (h : Gr p q g) (hx : isEl p q x = true) (k : Nat) : isEl p q (x ^ k % p) = true := isEl_of h (pow_one_mod h.p3 (isEl_range hx).2.2)
theorem isEl_pw {p q g x e : Int} (h : Gr p q g) (hx : isEl p q x = true) : isEl p q (pw p q x e) = true := isEl_pow h hx _
theorem isEl_mulm {p q g a b : Int} (h : Gr p q g) (ha : isEl p q a = true) (hb : isEl p q b = true) : isEl p q (a * b % p) = true := by
  refine isEl_of h ?_
  have h3 := h.p3
  rw [Int.mul_pow, Int.mul_emod, (isEl_range ha).2.2, (isEl_range hb).2.2]
  exact Int.emod_eq_of_lt (by omega) (by omega)
theorem isEl_mul {p q g a b : Int} (h : Gr p q g) (ha : isEl p q a = true) (hb : isEl p q b = true) : isEl p q (prodM p 1 [a, b]) = true := by
  have h1 := isEl_range ha
  rw [mul_out (by omega)]
  exact isEl_mulm h ha hb
theorem isEl_g {p q g : Int} (h : Gr p q g) : isEl p q g = true := by
  have := h.g2; have := h.gp
  unfold isEl
  rw [h.gq]
  simp only [BEq.rfl, Bool.and_true, decide_eq_true_eq]
  omega
theorem eKey_eq {p q g k : Int} : M_S_eKey ((p, q, g), k) = some (okG p q g && isEl p q k) := by
  unfold M_S_eKey
  dsimp only
  rw [l2Good_eq, bindO_some']
  cases hok : okG p q g
  · rfl
  rw [cond_true, gIs_eq (okG_spec hok) (by simp), bindO_some']
  simp
theorem mul_one {p x : Int} (hp : 2 ≤ p) (hx : 0 ≤ x ∧ x < p) : prodM p 1 [1, x] = x := by
  rw [mul_out (by omega), Int.one_mul, Int.emod_eq_of_lt hx.1 hx.2]
def mulC (p : Int) (a b : Int × Int) : Int × Int := (prodM p 1 [a.1, b.1], prodM p 1 [a.2, b.2])
theorem eMul_eq {p q g : Int} {l : List (Int × Int)} (h : Gr p q g) (hl : l.length < 2 ^ 60) (hx : ∀ c ∈ l, (0 ≤ c.1 ∧ c.1 ≤ p) ∧ 0 ≤ c.2 ∧ c.2 ≤ p) : M_S_eMul ((p, q, g), l) = some (l.foldl (mulC p) (1, 1)) := by
  have h3 := h.p3
  unfold M_S_eMul
  dsimp only
  refine (loopO_for (σ := Int × Int) (fun i s => ((i : Int), s)) l.length (fun i s => some ((l.drop i).foldl (mulC p) s)) (fun _ s => (0 ≤ s.1 ∧ s.1 < p) ∧ 0 ≤ s.2 ∧ s.2 < p) (fun again s hs => ?_) (fun again i s hi hs ih => ?_) (by omega) (i := 0) (s := (1, 1)) (Nat.zero_le _) ⟨⟨by omega, by omega⟩, by omega, by omega⟩).trans ?_
  · simp only [lt_no, cond_false, List.drop_length, List.foldl_nil]
  · have ha := List.getElem?_eq_getElem hi
    obtain ⟨x1, x2⟩ := hx _ (List.getElem_mem hi)
    simp only [lt_yes hi, cond_true, getI_nat, ha, bindO_some', mul2 h (show 0 ≤ s.1 ∧ s.1 ≤ p by omega) x1, mul2 h (show 0 ≤ s.2 ∧ s.2 ≤ p by omega) x2, i64_succ (show i < 2 ^ 62 by omega)]
    rw [List.drop_eq_getElem_cons hi, List.foldl_cons]
    exact ih (mulC p s l[i]) ⟨prod_range (by omega), prod_range (by omega)⟩
  · rfl
theorem mulTwo_eq {p q g : Int} {a b : Int × Int} (h : Gr p q g) (ha : (0 ≤ a.1 ∧ a.1 ≤ p) ∧ 0 ≤ a.2 ∧ a.2 ≤ p) (hb : (0 ≤ b.1 ∧ b.1 ≤ p) ∧ 0 ≤ b.2 ∧ b.2 ≤ p) : M_I_Group_mulTwo ((p, q, g), a, b) = some (mulC p a b) := by
  unfold M_I_Group_mulTwo
  dsimp only
  rw [mul2' h ha.1 hb.1, bindO_some', mul2' h ha.2 hb.2, bindO_some']
  rfl
theorem isCi_in {p q : Int} {c : Int × Int} (h : isCi p q c = true) : (0 ≤ c.1 ∧ c.1 ≤ p) ∧ 0 ≤ c.2 ∧ c.2 ≤ p := by
  simp only [isCi, Bool.and_eq_true] at h
  exact ⟨isEl_in h.1, isEl_in h.2⟩
theorem isCi_lt {p q : Int} {c : Int × Int} (h : isCi p q c = true) : (0 ≤ c.1 ∧ c.1 < p) ∧ 0 ≤ c.2 ∧ c.2 < p := by
  simp only [isCi, Bool.and_eq_true] at h
  have := isEl_range h.1; have := isEl_range h.2
  omega
def reC (p q g key r : Int) : Int × Int := (pw p q g r, pw p q key r)
theorem encC_one {p q g key r : Int} (h : Gr p q g) : encC p q g key 1 r = reC p q g key r := by
  have h3 := h.p3
  unfold encC reC
  rw [mul_one (by omega) (pw_range (by omega))]
theorem reC_in {p q g key r : Int} (h : Gr p q g) : (0 ≤ (reC p q g key r).1 ∧ (reC p q g key r).1 ≤ p) ∧ 0 ≤ (reC p q g key r).2 ∧ (reC p q g key r).2 ≤ p := by
  have h3 := h.p3
  have r1 := pw_range (q := q) (x := g) (e := r) (show 1 ≤ p by omega)
  have r2 := pw_range (q := q) (x := key) (e := r) (show 1 ≤ p by omega)
  exact ⟨⟨r1.1, by show pw p q g r ≤ p; omega⟩, r2.1, by show pw p q key r ≤ p; omega⟩
theorem eRe_eq {p q g key r : Int} {c : Int × Int} (h : Gr p q g) (hk : isEl p q key = true) (hc : isCi p q c = true) : M_S_eRe ((p, q, g), key, c, r) = some (mulC p c (reC p q g key r)) := by
  have h3 := h.p3
  have hl := isCi_lt hc
  unfold M_S_eRe
  dsimp only
  rw [eEnc_eq h (isEl_in hk) (by omega), bindO_some', encC_one h, eMul_eq h (by simp) (fun x hx => ?_), bindO_some']
  · simp only [List.foldl_cons, List.foldl_nil]
    rw [show mulC p (1, 1) (c.1, c.2) = c from Prod.ext (mul_one (by omega) hl.1) (mul_one (by omega) hl.2)]
  · simp only [List.mem_cons, List.not_mem_nil, or_false] at hx
    rcases hx with rfl | rfl
    · exact isCi_in hc
    · exact reC_in h
theorem reencrypt_eq {p q g key r : Int} {c : Int × Int} (h : Gr p q g) (hk : isEl p q key = true) (hc : isCi p q c = true) : M_I_Group_reencrypt ((p, q, g), key, c, r) = some (mulC p c (reC p q g key r)) := by
  have h3 := h.p3
  unfold M_I_Group_reencrypt
  dsimp only
  rw [encrypt_eq h (isEl_in hk) (by omega), bindO_some', encC_one h]
  rw [show M_I_Group_mulTwo ((p, q, g), (c.1, c.2), (reC p q g key r).1, (reC p q g key r).2) = _ from mulTwo_eq h (isCi_in hc) (reC_in h), bindO_some']
theorem isCi_mulC {p q g : Int} {a b : Int × Int} (h : Gr p q g) (ha : isCi p q a = true) (hb : isCi p q b = true) : isCi p q (mulC p a b) = true := by
  simp only [isCi, Bool.and_eq_true] at ha hb ⊢
  exact ⟨isEl_mul h ha.1 hb.1, isEl_mul h ha.2 hb.2⟩
theorem isCi_reC {p q g key r : Int} (h : Gr p q g) (hk : isEl p q key = true) : isCi p q (reC p q g key r) = true := by
  simp only [isCi, Bool.and_eq_true]
  exact ⟨isEl_pw h (isEl_g h), isEl_pw h hk⟩
def iterN {σ : Type} (f : Nat → σ → σ) (s0 : σ) : Nat → σ
  | 0 => s0
  | n + 1 => f n (iterN f s0 n)
theorem iterN_inv {σ : Type} {f : Nat → σ → σ} {s0 : σ} {Inv : Nat → σ → Prop} (h0 : Inv 0 s0) : ∀ n, (∀ i s, i < n → Inv i s → Inv (i + 1) (f i s)) → Inv n (iterN f s0 n)
  | 0, _ => h0
  | n + 1, h => h n _ (by omega) (iterN_inv h0 n fun i s hi => h i s (by omega))
theorem iter_loop {σ τ β : Type} (f : Nat → σ → σ) (s0 : σ) (n : Nat) (enc : Int → σ → τ) (fin : σ → Option β) (Inv : Nat → σ → Prop) {body : (τ → Option β) → τ → Option β} (hn : n < 2 ^ 62) (h0 : Inv 0 s0) (hs : ∀ i s, i < n → Inv i s → Inv (i + 1) (f i s))
    (h : ∀ (again : τ → Option β) (i : Nat) s, i < n → Inv i s → body again (enc (i : Int) s) = again (enc ((i + 1 : Nat) : Int) (f i s))) (hend : ∀ (again : τ → Option β) s, Inv n s → body again (enc (n : Int) s) = fin s) : loopO body (enc 0 s0) = fin (iterN f s0 n) := by
  refine (loopO_for (σ := σ) (fun i s => enc (i : Int) s) n (fun _ _ => fin (iterN f s0 n)) (fun i s => s = iterN f s0 i ∧ Inv i s) (fun again s hs => ?_) (fun again i s hi hv ih => ?_) (by omega) (i := 0) (s := s0) (Nat.zero_le _) ⟨rfl, h0⟩).trans rfl
  · obtain ⟨rfl, h2⟩ := hs
    exact hend again _ h2
  · obtain ⟨rfl, h2⟩ := hv
    rw [h again i _ hi h2]
    exact ih _ ⟨rfl, hs i _ hi h2⟩
abbrev El := Int × Int × Int × Int
def e0 : El := (0, 0, 0, 0)
theorem sliceLH_nat {l h n : Nat} (h1 : l ≤ h) (h2 : h ≤ n) : sliceLH (l : Int) (h : Int) n = some (l, h) := by
  unfold sliceLH
  rw [if_pos ⟨by omega, by omega, by omega⟩]
  simp
def sumN : Nat → (Nat → Int) → Int
  | 0, _ => 0
  | n + 1, g => sumN n g + g n
def rowN (n : Nat) (f : Nat → Int) : List Int := (List.range n).map f
theorem rowN_get {n : Nat} {f : Nat → Int} {j : Nat} (h : j < n) : (rowN n f)[j]? = some (f j) := by
  rw [rowN, List.getElem?_map, List.getElem?_range h]
  rfl
theorem rowN_len (n : Nat) (f : Nat → Int) : (rowN n f).length = n := by simp [rowN]
theorem rowN_zero (n : Nat) : rowN n (fun _ => 0) = List.replicate n 0 := by
  refine List.ext_getElem? fun j => ?_
  rw [List.getElem?_replicate]
  split
  · rename_i h
    exact rowN_get h
  · rw [List.getElem?_eq_none (by rw [rowN_len]; omega)]
def msk : List (List Int) → Int → List (List Int)
  | [], _ => []
  | r :: x, k => marks r.length k :: msk x (k + r.length)
theorem msk_len : ∀ (x : List (List Int)) (k : Int), (msk x k).length = x.length
  | [], _ => rfl
  | r :: x, k => by rw [msk, List.length_cons, List.length_cons, msk_len x]
theorem tot_take_succ {x : List (List Int)} {i : Nat} {a : List Int} (h : x[i]? = some a) : tot (x.take (i + 1)) = tot (x.take i) + a.length := by
  rw [List.take_add_one, h]
  simp [tot]
theorem msk_get : ∀ (x : List (List Int)) (k : Int) (i : Nat) (a : List Int), x[i]? = some a → (msk x k)[i]? = some (marks a.length (k + tot (x.take i)))
  | [], _, _, _, h => by simp at h
  | r :: x, k, 0, a, h => by
    simp at h
    subst h
    simp [msk, tot]
  | r :: x, k, i + 1, a, h => by
    simp only [List.getElem?_cons_succ] at h
    rw [msk, List.getElem?_cons_succ, msk_get x (k + r.length) i a h, List.take_succ_cons]
    congr 2
    simp only [tot, List.map_cons, List.sum_cons]
    omega
theorem tot_take_le (x : List (List Int)) (i : Nat) : tot (x.take i) ≤ tot x := by
  have h : tot x = tot (x.take i ++ x.drop i) := by rw [List.take_append_drop]
  rw [h]
  simp only [tot, List.map_append, List.sum_append]
  exact Nat.le_add_right _ _
theorem markIntSS_eq {x : List (List Int)} {k : Int} (hx : x.length < 2 ^ 30) (ht : tot x < 2 ^ 30) (h0 : 0 ≤ k) (h1 : k < 2 ^ 38) : M_L_markIntSS (x, k) = some (k + tot x, msk x k) := by
  unfold M_L_markIntSS
  dsimp only
  have hml := msk_len x k
  rw [show (k, (0 : Int), x) = (k + (tot (x.take 0) : Int), ((0 : Nat) : Int), x) from by simp [tot]]
  refine (loopO_for (σ := List (List Int)) (fun i s => (k + tot (x.take i), (i : Int), s)) x.length (fun _ _ => some (k + tot x, msk x k)) (fun i s => s.length = x.length ∧ s.take i = (msk x k).take i ∧ ∀ j, i ≤ j → s[j]? = x[j]?) (fun again s hs => ?_) (fun again i s hi hs ih => ?_) (by omega) (i := 0) (s := x) (Nat.zero_le _) ⟨rfl, by simp, fun _ _ => rfl⟩).trans ?_
  · obtain ⟨s1, s2, s3⟩ := hs
    dsimp only
    rw [s1, lt_no, cond_false, List.take_length]
    rw [← s1, List.take_length, s1, ← hml, List.take_length] at s2
    rw [s2]
  · obtain ⟨s1, s2, s3⟩ := hs
    have ha := List.getElem?_eq_getElem hi
    have hs := s3 i (Nat.le_refl _)
    rw [ha] at hs
    have e := tot_take_succ ha
    have e2 := tot_take_le x (i + 1)
    have hm := msk_get x k i _ ha
    generalize x[i] = a at ha hs e hm
    have hw := ih (List.modify s i fun _ => marks a.length (k + tot (x.take i))) ⟨by simpa using s1, ?_, fun j hj => ?_⟩
    · simp only [s1, lt_yes hi, cond_true, getI_nat, hs, bindO_some', markIntS_eq (a := a) (k := k + tot (x.take i)) (by omega) (by omega) (by omega), i64_succ (show i < 2 ^ 62 by omega), Int.toNat_natCast]
      rw [← hw]
      congr 2
      omega
    · refine List.ext_getElem? fun j => ?_
      rw [List.getElem?_take, List.getElem?_take, List.getElem?_modify]
      by_cases hj : j < i + 1
      · rw [if_pos hj, if_pos hj]
        by_cases hji : i = j
        · subst hji
          simp [hs, hm]
        · simp only [if_neg hji]
          have : s[j]? = (msk x k)[j]? := by
            have := congrArg (fun l => l[j]?) s2
            simp only [List.getElem?_take] at this
            rwa [if_pos (by omega), if_pos (by omega)] at this
          rw [this]
          simp
      · rw [if_neg hj, if_neg hj]
    · rw [List.getElem?_modify, s3 j (by omega)]
      simp [show i ≠ j by omega]
  · rfl
theorem rowN_set {n a : Nat} {f : Nat → Int} {v : Int} : (rowN n f).set a v = rowN n fun k => if k = a then v else f k := by
  refine List.ext_getElem? fun t => ?_
  by_cases ht : t < n
  · rw [rowN_get ht, List.getElem?_set]
    by_cases hat : a = t
    · subst hat
      rw [if_pos rfl, if_pos (by rw [rowN_len]; exact ht), if_pos rfl]
    · rw [if_neg hat, rowN_get ht, if_neg (fun h => hat h.symm)]
  · rw [List.getElem?_eq_none (by rw [List.length_set, rowN_len]; omega), List.getElem?_eq_none (by rw [rowN_len]; omega)]
theorem prime_one {q d : Int} (hq : IsP q) (h1 : 1 ≤ d) (h2 : d < q) (h3 : d ∣ q) : d = 1 := by
  obtain ⟨hq2, hd⟩ := hq
  obtain ⟨c, hc⟩ := h3
  have hc1 : 2 ≤ c := by
    rcases Int.lt_or_le c 2 with h | h
    · rcases Int.lt_or_le c 1 with h' | h'
      · have : d * c ≤ d * 0 := Int.mul_le_mul_of_nonneg_left (by omega) (by omega)
        rw [Int.mul_zero] at this
        omega
      · obtain rfl : c = 1 := by omega
        rw [Int.mul_one] at hc
        omega
    · exact h
  by_cases hd1 : d = 1
  · exact hd1
  · exfalso
    rcases Int.le_total d c with h | h
    · refine hd d (by omega) ?_ (by rw [hc]; exact Int.mul_emod_right d c)
      rw [hc]
      exact Int.mul_le_mul_of_nonneg_left h (by omega)
    · refine hd c hc1 ?_ (by rw [hc]; exact Int.mul_emod_left d c)
      rw [hc]
      exact Int.mul_le_mul_of_nonneg_right h (by omega)
def EuOK (q a : Int) (s : Int × Int × Int × Int) : Prop :=
  (0 ≤ s.2.1 ∧ s.2.1 < s.1 ∧ s.1 ≤ q) ∧ ((s.2.2.1 ≤ 0 ∧ 0 ≤ s.2.2.2 ∧ s.1 * s.2.2.2 - s.2.1 * s.2.2.1 = q) ∨ (0 ≤ s.2.2.1 ∧ s.2.2.2 ≤ 0 ∧ s.2.1 * s.2.2.1 - s.1 * s.2.2.2 = q)) ∧
  (∃ u, s.1 = a * s.2.2.1 + q * u) ∧ (∃ v, s.2.1 = a * s.2.2.2 + q * v) ∧ ∀ d, d ∣ s.1 → d ∣ s.2.1 → d ∣ a ∧ d ∣ q
theorem eu_bound {r n y x q : Int} (hr : 1 ≤ r) (hn : 1 ≤ n) (hy : 0 ≤ y) (hx : 0 ≤ x) (h : r * y + n * x = q) : y ≤ q ∧ x ≤ q ∧ r * y ≤ q ∧ n * x ≤ q := by
  have h1 : 1 * y ≤ r * y := Int.mul_le_mul_of_nonneg_right hr hy
  have h2 : 1 * x ≤ n * x := Int.mul_le_mul_of_nonneg_right hn hx
  have h3 : 0 ≤ r * y := Int.mul_nonneg (by omega) hy
  have h4 : 0 ≤ n * x := Int.mul_nonneg (by omega) hx
  omega
theorem eu_step {q a : Int} {s : Int × Int × Int × Int} (h : EuOK q a s) (hn : s.2.1 ≠ 0) (hq : q ≤ 2000000000) :
    EuOK q a (s.2.1, s.1 - s.1 / s.2.1 * s.2.1, s.2.2.2, s.2.2.1 - s.1 / s.2.1 * s.2.2.2) ∧ s.1 - s.1 / s.2.1 * s.2.1 = s.1 % s.2.1 ∧ (0 ≤ s.1 / s.2.1 ∧ s.1 / s.2.1 ≤ q) ∧ (0 ≤ s.1 / s.2.1 * s.2.1 ∧ s.1 / s.2.1 * s.2.1 ≤ q) ∧
      (-q ≤ s.1 / s.2.1 * s.2.2.2 ∧ s.1 / s.2.1 * s.2.2.2 ≤ q) ∧ -q ≤ s.2.2.1 ∧ s.2.2.1 ≤ q := by
  obtain ⟨r, n, x, y⟩ := s
  obtain ⟨⟨g1, g2, g3⟩, g4, ⟨u, g5⟩, ⟨v, g6⟩, g7⟩ := h
  dsimp only at *
  have hn1 : 1 ≤ n := by omega
  have e1 : r - r / n * n = r % n := by have := Int.emod_def r n; rw [Int.mul_comm] at this; omega
  have e2 := Int.emod_nonneg r hn
  have e3 := Int.emod_lt_of_pos r (show 0 < n by omega)
  have t0 : 0 ≤ r / n := Int.ediv_nonneg (by omega) (by omega)
  have t1 : r / n ≤ r := Int.ediv_le_self _ (by omega)
  generalize ht : r / n = t at *
  have t2 : t * n ≤ r := by omega
  have t3 : 0 ≤ t * n := Int.mul_nonneg t0 (by omega)
  have inv : (y ≤ 0 ∧ 0 ≤ x - t * y ∧ n * (x - t * y) - (r - t * n) * y = q) ∨ (0 ≤ y ∧ x - t * y ≤ 0 ∧ (r - t * n) * y - n * (x - t * y) = q) := by
    rcases g4 with ⟨a1, a2, a3⟩ | ⟨a1, a2, a3⟩
    · right
      have : 0 ≤ t * y := Int.mul_nonneg t0 a2
      refine ⟨a2, by omega, ?_⟩
      rw [← a3]
      grind
    · left
      have : 0 ≤ t * (-y) := Int.mul_nonneg t0 (by omega)
      rw [Int.mul_neg] at this
      refine ⟨a2, by omega, ?_⟩
      rw [← a3]
      grind
  have bnd : (-q ≤ t * y ∧ t * y ≤ q) ∧ -q ≤ x ∧ x ≤ q := by
    rcases g4 with ⟨a1, a2, a3⟩ | ⟨a1, a2, a3⟩
    · have h1 := eu_bound (r := r) (n := n) (y := y) (x := -x) (q := q) (by omega) hn1 a2 (by omega) (by rw [Int.mul_neg]; omega)
      have h2 : t * y ≤ r * y := Int.mul_le_mul_of_nonneg_right t1 a2
      have h3 : 0 ≤ t * y := Int.mul_nonneg t0 a2
      omega
    · have h1 := eu_bound (r := r) (n := n) (y := -y) (x := x) (q := q) (by omega) hn1 (by omega) a1 (by rw [Int.mul_neg]; omega)
      have h2 : t * (-y) ≤ r * (-y) := Int.mul_le_mul_of_nonneg_right t1 (by omega)
      have h3 : 0 ≤ t * (-y) := Int.mul_nonneg t0 (by omega)
      rw [Int.mul_neg] at h2 h3
      omega
  refine ⟨⟨⟨by dsimp only; omega, by dsimp only; omega, by dsimp only; omega⟩, inv, ⟨v, g6⟩, ⟨u - t * v, by dsimp only; rw [g5, g6]; grind⟩, fun d d1 d2 => ?_⟩, e1, ⟨t0, by omega⟩, ⟨t3, by omega⟩, bnd.1, bnd.2⟩
  have : r = (r - t * n) + t * n := by omega
  exact g7 d (by rw [this]; exact Int.dvd_add d2 (Int.dvd_mul_of_dvd_right d1)) d1
theorem euclid_loop {β : Type} {q a : Int} (hq : IsP q) (hq2 : q ≤ 2000000000) (ha : 1 ≤ a ∧ a < q) (fin : Int → Int → Option β) {body : (Int × Int × Int × Int → Option β) → Int × Int × Int × Int → Option β}
    (hb : ∀ again s, body again s = cond (s.2.1 != 0) (bindO (guardO (s.2.1 != 0)) fun _ => bindO (some (IntKind.wrap .i64 (Int.tdiv s.1 s.2.1))) fun a3 => bindO (some (IntKind.wrap .i64 (a3 * s.2.1))) fun a4 => bindO (some (IntKind.wrap .i64 (s.1 - a4))) fun a5 => bindO (some (IntKind.wrap .i64 (a3 * s.2.2.2))) fun a6 => bindO (some (IntKind.wrap .i64 (s.2.2.1 - a6))) fun a7 => again (s.2.1, a5, s.2.2.2, a7)) (fin s.1 s.2.2.1))
    {s0 : Int × Int × Int × Int} (h0 : EuOK q a s0 ∨ s0 = (a, q, 1, 0)) : ∃ x, loopO body s0 = fin 1 x ∧ a * x % q = 1 := by
  refine loopO_ind (fun (_ : Int × Int × Int × Int) (y : Option β) => ∃ x, y = fin 1 x ∧ a * x % q = 1) (fun s => EuOK q a s ∨ s = (a, q, 1, 0)) (fun s => s.2.1.toNat) (fun again s hs ih => ?_) h0 ?_
  · rw [hb]
    rcases hs with hs | rfl
    · by_cases hn : s.2.1 = 0
      · obtain ⟨⟨g1, g2, g3⟩, g4, ⟨u, g5⟩, ⟨v, g6⟩, g7⟩ := hs
        rw [show (s.2.1 != 0) = false from by simpa using hn, cond_false]
        obtain ⟨d1, d2⟩ := g7 s.1 (Int.dvd_refl _) (by rw [hn]; exact Int.dvd_zero _)
        have h1 : s.1 ≤ a := Int.le_of_dvd (by omega) d1
        have h2 : s.1 = 1 := prime_one hq (by omega) (by omega) d2
        refine ⟨s.2.2.1, by rw [h2], ?_⟩
        have h3 : a * s.2.2.1 = 1 + q * (-u) := by rw [h2] at g5; rw [Int.mul_neg]; omega
        rw [h3, Int.add_mul_emod_self_left]
        exact Int.emod_eq_of_lt (by omega) (by omega)
      · obtain ⟨k1, k2, k3, k4, k5, k6⟩ := eu_step hs hn hq2
        have hr := hs.1
        rw [show (s.2.1 != 0) = true from bne_iff_ne.2 hn, cond_true, guardO_of rfl, bindO_some', tdiv_nn (by omega), i64_in _ (by omega), bindO_some', i64_in _ (by omega), bindO_some', i64_in _ (by omega), bindO_some', i64_in _ (by omega), bindO_some', i64_in _ (by omega), bindO_some']
        refine ih _ (.inl k1) ?_
        dsimp only
        rw [k2]
        have := Int.emod_lt_of_pos s.1 (show 0 < s.2.1 by omega)
        have := Int.emod_nonneg s.1 hn
        omega
    · have e1 : a.tdiv q = 0 := by rw [tdiv_nn (by omega)]; exact Int.ediv_eq_zero_of_lt (by omega) ha.2
      dsimp only
      rw [show (q != 0) = true from bne_iff_ne.2 (by omega), cond_true, guardO_of rfl, bindO_some', e1, i64_in 0 (by omega), bindO_some', Int.zero_mul, i64_in 0 (by omega), bindO_some', Int.sub_zero, i64_in a (by omega), bindO_some', Int.zero_mul, i64_in 0 (by omega), bindO_some', Int.sub_zero, i64_in 1 (by omega), bindO_some']
      refine ih _ (.inl ⟨⟨by dsimp only; omega, by dsimp only; omega, by dsimp only; omega⟩, .inl ⟨by dsimp only; omega, by dsimp only; omega, by dsimp only; omega⟩, ⟨1, by dsimp only; omega⟩, ⟨0, by dsimp only; omega⟩, fun d d1 d2 => ⟨d2, d1⟩⟩) ?_
      dsimp only
      omega
  · rcases h0 with h0 | rfl
    · have := h0.1
      omega
    · dsimp only
      omega
theorem inv_both {q a : Int} (hq : IsP q) (hq2 : q ≤ 2000000000) (ha : 1 ≤ a ∧ a < q) : ∃ b, (0 ≤ b ∧ b < q) ∧ a * b % q = 1 ∧ M_I_inverse (a, q) = some b ∧ M_S_nInverse (a, q) = some (b, true) := by
  have hq1 := hq.1
  obtain ⟨x, x1, x2⟩ := euclid_loop hq hq2 ha (fun r x => cond (r != 1) (some 0) (bindO (M_I_mod (x, q)) fun a8 => some a8)) (s0 := (q, a, 0, 1)) (fun _ _ => rfl) (.inl ⟨⟨by dsimp only; omega, by dsimp only; omega, by dsimp only; omega⟩, .inl ⟨by dsimp only; omega, by dsimp only; omega, by dsimp only; omega⟩, ⟨1, by dsimp only; omega⟩, ⟨0, by dsimp only; omega⟩, fun d d1 d2 => ⟨d2, d1⟩⟩)
  obtain ⟨y, y1, y2⟩ := euclid_loop hq hq2 ha (fun r x => bindO (M_S_nMod (x, q)) fun a9 => some (a9, (r == (1 : Int)))) (s0 := (a, q, 1, 0)) (fun _ _ => rfl) (.inr rfl)
  have hx := Int.emod_nonneg x (show q ≠ 0 by omega)
  have hx' := Int.emod_lt_of_pos x (show 0 < q by omega)
  have heq : x % q = y % q := by
    have e1 : x % q = x * (a * y) % q := by rw [Int.mul_emod x (a * y), y2, Int.mul_one, Int.emod_emod_of_dvd _ (Int.dvd_refl q)]
    have e2 : y % q = y * (a * x) % q := by rw [Int.mul_emod y (a * x), x2, Int.mul_one, Int.emod_emod_of_dvd _ (Int.dvd_refl q)]
    rw [e1, e2]
    congr 1
    grind
  refine ⟨x % q, ⟨hx, hx'⟩, by rw [← x2]; rw [Int.mul_emod, Int.emod_emod_of_dvd _ (Int.dvd_refl q), ← Int.mul_emod], ?_, ?_⟩
  · unfold M_I_inverse
    dsimp only
    refine x1.trans ?_
    rw [mod_eq, nMod_eq (by omega) (by omega), bindO_some']
    rfl
  · unfold M_S_nInverse
    dsimp only
    rw [nMod_eq (by omega) (by omega), Int.emod_eq_of_lt (by omega) ha.2, bindO_some']
    refine y1.trans ?_
    rw [nMod_eq (by omega) (by omega), bindO_some', heq]
    rfl
theorem mul_ne {q a b : Int} (hq : IsP q) (hq2 : q ≤ 2000000000) (ha : a % q ≠ 0) (hb : b % q ≠ 0) : a * b % q ≠ 0 := by
  have hq1 := hq.1
  have h1 := Int.emod_nonneg a (show q ≠ 0 by omega)
  have h2 := Int.emod_lt_of_pos a (show 0 < q by omega)
  obtain ⟨c, c1, c2, _, _⟩ := inv_both hq hq2 (a := a % q) (by omega)
  intro h0
  apply hb
  have e : b % q = b * (a % q * c) % q := by rw [Int.mul_emod b, c2, Int.mul_one, Int.emod_emod_of_dvd _ (Int.dvd_refl q)]
  rw [e, show b * (a % q * c) = c * (a % q * b) by grind, Int.mul_emod, show a % q * b % q = a * b % q from by rw [Int.mul_emod, Int.emod_emod_of_dvd _ (Int.dvd_refl q), ← Int.mul_emod], h0, Int.mul_zero]
  rfl
def Cg (q a b : Int) : Prop := ∃ u, a = b + q * u
theorem Cg_refl {q : Int} (a : Int) : Cg q a a := ⟨0, by omega⟩
theorem Cg_mod {q : Int} (a : Int) : Cg q (a % q) a := ⟨-(a / q), by have := Int.emod_def a q; rw [Int.mul_neg]; omega⟩
theorem Cg_trans {q a b c : Int} (h1 : Cg q a b) (h2 : Cg q b c) : Cg q a c := by
  obtain ⟨u, h1⟩ := h1
  obtain ⟨v, h2⟩ := h2
  exact ⟨u + v, by rw [h1, h2]; grind⟩
theorem Cg_add {q a b c d : Int} (h1 : Cg q a b) (h2 : Cg q c d) : Cg q (a + c) (b + d) := by
  obtain ⟨u, h1⟩ := h1
  obtain ⟨v, h2⟩ := h2
  exact ⟨u + v, by rw [h1, h2]; grind⟩
theorem Cg_mul {q a b c d : Int} (h1 : Cg q a b) (h2 : Cg q c d) : Cg q (a * c) (b * d) := by
  obtain ⟨u, h1⟩ := h1
  obtain ⟨v, h2⟩ := h2
  exact ⟨b * v + u * d + q * u * v, by rw [h1, h2]; grind⟩
theorem Cg_eq {q a b : Int} (h : Cg q a b) : a % q = b % q := by
  obtain ⟨u, h⟩ := h
  rw [h, Int.add_mul_emod_self_left]
def inF (q : Int) (f : List Int) : Prop := ∀ a ∈ f, 0 ≤ a ∧ a < q
theorem inF_get {q : Int} {f : List Int} (h : inF q f) {i : Nat} (hi : i < f.length) : 0 ≤ f.getD i 0 ∧ f.getD i 0 < q := h _ (List.mem_of_getElem? (getD_at hi))
theorem prod_small {q a b : Int} (hq : q ≤ 2000000000) (ha : 0 ≤ a ∧ a < q) (hb : 0 ≤ b ∧ b < q) : 0 ≤ a * b ∧ a * b ≤ 4000000000000000000 := by
  refine ⟨Int.mul_nonneg ha.1 hb.1, ?_⟩
  have : a * b ≤ 2000000000 * 2000000000 := Int.mul_le_mul (by omega) (by omega) hb.1 (by omega)
  omega
def prodL : List Int → Int
  | [] => 1
  | a :: l => a * prodL l
theorem prodL_perm {l1 l2 : List Int} (h : l1.Perm l2) : prodL l1 = prodL l2 := by
  induction h with
  | nil => rfl
  | cons x _ ih => simp only [prodL, ih]
  | swap x y l => simp only [prodL]; grind
  | trans _ _ h1 h2 => exact h1.trans h2
def units (p : Int) : List Int := (List.range (p - 1).toNat).map fun i : Nat => (i : Int) + 1
theorem units_len {p : Int} : (units p).length = (p - 1).toNat := by simp [units]
theorem mem_units {p a : Int} : a ∈ units p ↔ 1 ≤ a ∧ a < p := by
  simp only [units, List.mem_map, List.mem_range]
  constructor
  · rintro ⟨i, h1, h2⟩; omega
  · intro h
    exact ⟨(a - 1).toNat, by omega, by omega⟩
theorem units_nodup {p : Int} : (units p).Nodup := by
  unfold units List.Nodup
  rw [List.pairwise_map]
  exact List.Pairwise.imp (fun h => by omega) (List.nodup_range (n := (p - 1).toNat))
theorem prodL_map (p a : Int) : ∀ l : List Int, Cg p (prodL (l.map fun i => a * i % p)) (a ^ l.length * prodL l)
  | [] => by simp only [List.map_nil, prodL, List.length_nil, Int.pow_zero, Int.one_mul]; exact Cg_refl _
  | b :: l => by
    have ih := prodL_map p a l
    simp only [List.map_cons, prodL, List.length_cons]
    refine Cg_trans (Cg_mul (Cg_mod _) ih) ?_
    have : a * b * (a ^ l.length * prodL l) = a ^ (l.length + 1) * (b * prodL l) := by rw [Int.pow_succ]; grind
    rw [this]
    exact Cg_refl _
theorem prodL_ne {p : Int} (hp : IsP p) (hp2 : p ≤ 2000000000) : ∀ l : List Int, (∀ a ∈ l, 1 ≤ a ∧ a < p) → prodL l % p ≠ 0
  | [], _ => by
    have := hp.1
    show (1 : Int) % p ≠ 0
    rw [Int.emod_eq_of_lt (by omega) (by omega)]
    omega
  | b :: l, h => by
    have hb := h b (by simp)
    exact mul_ne hp hp2 (by rw [Int.emod_eq_of_lt (by omega) (by omega)]; omega) (prodL_ne hp hp2 l fun a ha => h a (by simp [ha]))
theorem fermat {p a : Int} (hp : IsP p) (hp2 : p ≤ 2000000000) (ha : 1 ≤ a ∧ a < p) : a ^ (p - 1).toNat % p = 1 := by
  have h2 := hp.1
  obtain ⟨b, hb, hab, -, -⟩ := inv_both hp hp2 ha
  have hmod : ∀ x : Int, 1 ≤ x ∧ x < p → x % p = x := fun x hx => Int.emod_eq_of_lt (by omega) (by omega)
  have hne : ∀ x y : Int, x % p ≠ 0 → y % p ≠ 0 → 1 ≤ x * y % p ∧ x * y % p < p := fun x y hx hy => by
    have h1 := mul_ne hp hp2 hx hy
    have h3 := Int.emod_nonneg (x * y) (show p ≠ 0 by omega)
    have h4 := Int.emod_lt_of_pos (x * y) (show 0 < p by omega)
    omega
  have hb0 : b % p ≠ 0 := fun h0 => by
    have : a * b % p = 0 := by rw [Int.mul_emod, h0, Int.mul_zero, Int.zero_emod]
    omega
  have hane : a % p ≠ 0 := by rw [hmod a ha]; omega
  have back : ∀ x : Int, 1 ≤ x ∧ x < p → a * (b * x % p) % p = x := fun x hx => by
    rw [Int.mul_emod, Int.emod_emod_of_dvd _ (Int.dvd_refl p), ← Int.mul_emod, ← Int.mul_assoc, Int.mul_emod, hab, Int.one_mul, Int.emod_emod_of_dvd _ (Int.dvd_refl p), hmod x hx]
  have back2 : ∀ x : Int, 1 ≤ x ∧ x < p → b * (a * x % p) % p = x := fun x hx => by
    rw [Int.mul_emod, Int.emod_emod_of_dvd _ (Int.dvd_refl p), ← Int.mul_emod, ← Int.mul_assoc, Int.mul_emod, Int.mul_comm b a, hab, Int.one_mul, Int.emod_emod_of_dvd _ (Int.dvd_refl p), hmod x hx]
  have hperm : ((units p).map fun i => a * i % p).Perm (units p) := by
    refine (List.perm_ext_iff_of_nodup ?_ units_nodup).2 fun x => ?_
    · unfold List.Nodup
      rw [List.pairwise_map]
      refine List.Pairwise.imp_of_mem (fun {x y} hx hy hxy he => hxy ?_) (units_nodup (p := p))
      rw [← back2 x (mem_units.1 hx), ← back2 y (mem_units.1 hy), he]
    · rw [List.mem_map, mem_units]
      constructor
      · rintro ⟨i, hi, rfl⟩
        have hi := mem_units.1 hi
        exact hne a i hane (by rw [hmod i hi]; omega)
      · intro hx
        exact ⟨b * x % p, mem_units.2 (hne b x hb0 (by rw [hmod x hx]; omega)), back x hx⟩
  have h3 := Cg_eq (prodL_map p a (units p))
  rw [prodL_perm hperm, units_len] at h3
  have h4 := prodL_ne hp hp2 (units p) fun x hx => mem_units.1 hx
  by_cases h5 : (a ^ (p - 1).toNat - 1) % p = 0
  · have : a ^ (p - 1).toNat % p = 1 % p := Cg_eq ⟨(a ^ (p - 1).toNat - 1) / p, by
      have := Int.mul_ediv_add_emod (a ^ (p - 1).toNat - 1) p
      omega⟩
    rw [this, Int.emod_eq_of_lt (by omega) (by omega)]
  · exfalso
    refine mul_ne hp hp2 h5 h4 ?_
    rw [Int.sub_mul, Int.one_mul]
    exact Int.emod_eq_emod_iff_emod_sub_eq_zero.1 h3.symm
theorem toNat_of {a b : Int} (ha : 0 ≤ a) (hb : 0 ≤ b) : (a.toNat * b.toNat : Nat) = (a * b).toNat := (Int.toNat_mul ha hb).symm
theorem derX_el {p q g : Int} (h : Gr p q g) (s : ByteArray) (k c : Int) : derX p q g s k c ^ q.toNat % p = 1 := by
  have hp := isP_spec h.pp
  have h3 := h.p3
  have hq := h.q2
  have hd := Int.emod_nonneg (digest (lab s [p, q, g, k, c])) (show p - 1 ≠ 0 by omega)
  have hd2 := Int.emod_lt_of_pos (digest (lab s [p, q, g, k, c])) (show 0 < p - 1 by omega)
  unfold derX
  rw [pow_mod, ← Int.pow_mul]
  have hdv := Int.mul_ediv_add_emod (p - 1) q
  rw [h.dv, Int.add_zero] at hdv
  have : ((p - 1) / q).toNat * q.toNat = (p - 1).toNat := by
    have hn : 0 ≤ (p - 1) / q := Int.ediv_nonneg (by omega) (by omega)
    rw [toNat_of hn (by omega), Int.mul_comm, hdv]
  rw [this]
  exact fermat hp h.pm (by omega)
theorem derv_el {p q g : Int} {s : ByteArray} {k a : Int} (h : Gr p q g) (hd : derv p q g s k = some a) : isEl p q a = true := by
  have hr := derv_range h hd
  obtain ⟨i, hi⟩ := List.mem_iff_getElem?.1 (List.mem_of_find?_eq_some hd)
  obtain ⟨h1, h2⟩ := derL_get hi
  unfold isEl
  rw [h1, derX_el h, ← h1]
  simp only [beq_self_eq_true, Bool.and_true, decide_eq_true_eq]
  omega
def flatC (l : List (Int × Int)) : List Int := l.flatMap fun c => [c.1, c.2]
theorem pairs_len (l : List (Int × Int)) : (flatC l).length = 2 * l.length := by
  induction l with
  | nil => rfl
  | cons a l ih => simp only [flatC, List.flatMap_cons, List.length_append, List.length_cons, List.length_nil] at ih ⊢; omega
theorem pairs_take {l : List (Int × Int)} {i : Nat} {a : Int × Int} (h : l[i]? = some a) : flatC (l.take (i + 1)) = flatC (l.take i) ++ [a.1, a.2] := by
  simp only [flatC]
  rw [List.take_add_one, h, List.flatMap_append]
  rfl
theorem pairs_append (a b : List (Int × Int)) : flatC (a ++ b) = flatC a ++ flatC b := by simp [flatC]
theorem pairs_loop {β : Type} (l : List (Int × Int)) (s0 : List Int) (fin : List Int → Option β) {body : (List Int × Int → Option β) → List Int × Int → Option β}
    (h : ∀ (again : List Int × Int → Option β) (i : Nat) (a : Int × Int) (s : List Int), l[i]? = some a → i < l.length → s.length ≤ s0.length + 2 * l.length → body again (s, (i : Int)) = again (s ++ [a.1, a.2], ((i + 1 : Nat) : Int)))
    (hend : ∀ (again : List Int × Int → Option β), body again (s0 ++ flatC l, (l.length : Int)) = fin (s0 ++ flatC l)) (hl : l.length < 2 ^ 62) : loopO body (s0, 0) = fin (s0 ++ flatC l) := by
  refine (loopO_for (σ := List Int) (fun i s => (s, (i : Int))) l.length (fun i s => fin (s0 ++ flatC l)) (fun i s => s = s0 ++ flatC (l.take i)) (fun again s hs => ?_) (fun again i s hi hs ih => ?_) (by omega) (i := 0) (s := s0) (Nat.zero_le _) (by simp [flatC])).trans rfl
  · subst hs
    rw [List.take_length]
    exact hend again
  · subst hs
    have ha := List.getElem?_eq_getElem hi
    rw [h again i l[i] _ ha hi (by rw [List.length_append, pairs_len, List.length_take]; omega)]
    exact ih _ (by rw [pairs_take ha, List.append_assoc])
def mixL (key : Int) (ins outs : List (Int × Int)) (more : List Int) : List Int := ([key] ++ flatC ins) ++ flatC outs ++ more
theorem mixL_len {key : Int} {ins outs : List (Int × Int)} {more : List Int} : (mixL key ins outs more).length = 1 + 2 * ins.length + 2 * outs.length + more.length := by
  simp only [mixL, List.length_append, pairs_len, List.length_cons, List.length_nil]
theorem mListed_eq {key : Int} {ins outs : List (Int × Int)} {more : List Int} (hi : ins.length ≤ 1048576) (ho : outs.length ≤ 1048576) (hm : more.length ≤ 1048576) :
    M_S_mListed (key, ins, outs, more) = some (mixL key ins outs more) := by
  unfold M_S_mListed
  dsimp only
  refine (pairs_loop ins [key] (fun s => some (s ++ flatC outs ++ more)) (fun again i a s ha hi' hs => ?_) (fun again => ?_) (by omega)).trans rfl
  · have hs' : s.length ≤ 1 + 2 * ins.length := hs
    simp only [lt_yes hi', cond_true, getI_nat, ha, bindO_some', guardO_of (lenOk_of (show s.length + [a.1, a.2].length ≤ 68719476736 by simp only [List.length_cons, List.length_nil]; omega)), i64_succ (show i < 2 ^ 62 by omega)]
  · dsimp only
    rw [lt_no, cond_false]
    refine pairs_loop outs ([key] ++ flatC ins) (fun s => some (s ++ more)) (fun again i a s ha hi' hs => ?_) (fun again => ?_) (by omega)
    · have hs' : s.length ≤ 1 + 2 * ins.length + 2 * outs.length := by rw [List.length_append, pairs_len] at hs; exact hs
      simp only [lt_yes hi', cond_true, getI_nat, ha, bindO_some', guardO_of (lenOk_of (show s.length + [a.1, a.2].length ≤ 68719476736 by simp only [List.length_cons, List.length_nil]; omega)), i64_succ (show i < 2 ^ 62 by omega)]
    · have hn : ([key] ++ flatC ins ++ flatC outs).length + more.length ≤ 68719476736 := by
        simp only [List.length_append, pairs_len, List.length_cons, List.length_nil]; omega
      dsimp only
      rw [lt_no, cond_false, guardO_of (lenOk_of hn), bindO_some', bindO_some']
theorem cloneC_eq {l : List (Int × Int)} (hl : l.length ≤ 1048576) : M_slices_Clone_sI_Cipher_I_Cipher l = some l := by
  unfold M_slices_Clone_sI_Cipher_I_Cipher
  rw [guardO_of (lenOk_of (by simp; omega))]
  simp only [bindO_some', List.nil_append, Bool.not_true, cond_false]
  cases l with
  | nil => simp [ambO]
  | cons a l => rfl
theorem mixList_eq {key : Int} {ins outs : List (Int × Int)} {more : List Int} (hi : ins.length ≤ 1048576) (ho : outs.length ≤ 1048576) (hm : more.length ≤ 1048576) :
    M_I_mixList (key, ins, outs, more) = some (mixL key ins outs more) := by
  unfold M_I_mixList
  dsimp only
  rw [cloneC_eq hi, bindO_some', guardO_of (lenOk_of (show ins.length + outs.length ≤ 68719476736 by omega)), bindO_some', bindO_some']
  refine (pairs_loop (ins ++ outs) [key] (fun s => some (s ++ more)) (fun again i a s ha hi' hs => ?_) (fun again => ?_) (by rw [List.length_append]; omega)).trans (by rw [pairs_append, ← List.append_assoc]; rfl)
  · have hs' : s.length ≤ 1 + 2 * (ins.length + outs.length) := by rw [List.length_append] at hs; exact hs
    rw [List.length_append] at hi'
    simp only [lt_yes (show i < (ins ++ outs).length by rw [List.length_append]; omega), cond_true, getI_nat, ha, bindO_some', guardO_of (lenOk_of (show s.length + [a.1, a.2].length ≤ 68719476736 by simp only [List.length_cons, List.length_nil]; omega)), i64_succ (show i < 2 ^ 62 by omega)]
  · have hn : ([key] ++ flatC (ins ++ outs)).length + more.length ≤ 68719476736 := by
      simp only [List.length_append, pairs_len, List.length_cons, List.length_nil]; omega
    dsimp only
    rw [lt_no, cond_false, guardO_of (lenOk_of hn), bindO_some', bindO_some']
theorem sides_both {l : List (Int × Int)} (hl : l.length ≤ 1048576) : M_S_mSides l = some (l.map (·.1), l.map (·.2)) ∧ M_I_sides l = some (l.map (·.1), l.map (·.2)) := by
  refine ⟨?_, ?_⟩
  all_goals
    first | unfold M_S_mSides | unfold M_I_sides
    refine (loopO_for (σ := List Int × List Int) (fun i s => (s.1, s.2, (i : Int))) l.length (fun i s => some (l.map (·.1), l.map (·.2))) (fun i s => s = ((l.take i).map (·.1), (l.take i).map (·.2))) (fun again s hs => ?_) (fun again i s hi hs ih => ?_) (by omega) (i := 0) (s := ([], [])) (Nat.zero_le _) (by simp)).trans rfl
    · subst hs
      dsimp only
      rw [lt_no, cond_false, List.take_length]
    · subst hs
      have ha := List.getElem?_eq_getElem hi
      have e1 : ((l.take i).map (·.1)).length + [l[i].1].length ≤ 68719476736 := by simp; omega
      have e2 : ((l.take i).map (·.2)).length + [l[i].2].length ≤ 68719476736 := by simp; omega
      simp only [lt_yes hi, cond_true, getI_nat, ha, bindO_some', guardO_of (lenOk_of e1), guardO_of (lenOk_of e2), i64_succ (show i < 2 ^ 62 by omega)]
      exact ih (_, _) (by rw [List.take_add_one, ha, Option.toList_some, List.map_append, List.map_append]; rfl)
theorem sides1 {l : List (Int × Int)} (hl : l.length ≤ 1048576) : M_S_mSides l = some (l.map (·.1), l.map (·.2)) := (sides_both hl).1
theorem sides2 {l : List (Int × Int)} (hl : l.length ≤ 1048576) : M_I_sides l = some (l.map (·.1), l.map (·.2)) := (sides_both hl).2
def chals (p q g : Int) (s : ByteArray) (l : List Int) (n : Nat) : List Int := (List.range n).map fun i : Nat => chal p q g s (l ++ [(i : Int)])
theorem chals_len {p q g : Int} {s : ByteArray} {l : List Int} {n : Nat} : (chals p q g s l n).length = n := by simp [chals]
theorem chals_range {p q g : Int} (h : Gr p q g) {s : ByteArray} {l : List Int} {n : Nat} : ∀ e ∈ chals p q g s l n, 0 ≤ e ∧ e ≤ q - 1 := fun e he => by
  simp only [chals, List.mem_map] at he
  obtain ⟨i, -, rfl⟩ := he
  exact chal_range h _ _
theorem chals_take {p q g : Int} {s : ByteArray} {l : List Int} {n : Nat} : chals p q g s l (n + 1) = chals p q g s l n ++ [chal p q g s (l ++ [(n : Int)])] := by simp [chals, List.range_succ]
theorem hChallenges_eq {p q g : Int} {s : ByteArray} {l : List Int} {n : Nat} (h : Gr p q g) (hs : s.size < 2 ^ 30) (hl : okD l = true) (hn : l.length ≤ 400) (hk : n ≤ 100) :
    M_S_hChallenges ((p, q, g), s, l, (n : Int)) = some (chals p q g s l n) := by
  unfold M_S_hChallenges
  dsimp only
  refine (loopO_for (σ := List Int) (fun i s => (s, (i : Int))) n (fun i _ => some (chals p q g s l n)) (fun i o => o = chals p q g s l i) (fun again o ho => ?_) (fun again i o hi ho ih => ?_) (by omega) (i := 0) (s := []) (Nat.zero_le _) rfl).trans rfl
  · subst ho
    dsimp only
    rw [lt_no, cond_false]
  · subst ho
    have e1 : l.length + [(i : Int)].length ≤ 68719476736 := by simp only [List.length_cons, List.length_nil]; omega
    have e2 : (chals p q g s l i).length + [chal p q g s (l ++ [(i : Int)])].length ≤ 68719476736 := by rw [chals_len]; simp only [List.length_cons, List.length_nil]; omega
    simp only [lt_yes hi, cond_true, own_eq (show l.length ≤ 1048576 by omega), bindO_some', guardO_of (lenOk_of e1), hChallenge_eq h hs (okD_snoc hl (show i < 1000 by omega)) (show (l ++ [(i : Int)]).length < 2 ^ 20 by rw [List.length_append]; simp only [List.length_cons, List.length_nil]; omega), guardO_of (lenOk_of e2), i64_succ (show i < 2 ^ 62 by omega)]
    exact ih _ chals_take.symm
theorem challenges_eq {p q g : Int} {s : ByteArray} {l : List Int} {n : Nat} (h : Gr p q g) (hs : s.size ≤ 40) (hl : okD l = true) (hn : s.size + l.length ≤ 395) (hk : n ≤ 100) (hk1 : 1 ≤ n) :
    M_I_Group_challenges ((p, q, g), s, l, (n : Int)) = some (chals p q g s l n, true) := by
  unfold M_I_Group_challenges
  dsimp only
  have hm : (if (n : Int) < 1 then (1 : Int) else (n : Int)) = (n : Int) := if_neg (by omega)
  rw [hm]
  refine (loopO_for (σ := List Int) (fun i s => (s, (i : Int))) n (fun i _ => some (chals p q g s l n, true)) (fun i o => o = chals p q g s l i) (fun again o ho => ?_) (fun again i o hi ho ih => ?_) (by omega) (i := 0) (s := []) (Nat.zero_le _) rfl).trans rfl
  · subst ho
    dsimp only
    rw [lt_no, cond_false, chals_len, sliceNH_nat (Nat.le_refl n), bindO_some']
    dsimp only
    rw [List.take_of_length_le (by rw [chals_len]; exact Nat.le_refl n)]
  · subst ho
    have e1 : l.length + [(i : Int)].length ≤ 68719476736 := by simp only [List.length_cons, List.length_nil]; omega
    have e2 : (chals p q g s l i).length + [chal p q g s (l ++ [(i : Int)])].length ≤ 68719476736 := by rw [chals_len]; simp only [List.length_cons, List.length_nil]; omega
    simp only [lt_yes hi, cond_true, clone_eq (show l.length ≤ 1048576 by omega), bindO_some', guardO_of (lenOk_of e1), challenge_eq h hs (okD_snoc hl (show i < 1000 by omega)) (show s.size + (l ++ [(i : Int)]).length ≤ 396 by rw [List.length_append]; simp only [List.length_cons, List.length_nil]; omega), Bool.not_true, cond_false, guardO_of (lenOk_of e2), i64_succ (show i < 2 ^ 62 by omega)]
    exact ih _ chals_take.symm
def hsB (p q g : Int) (n : Nat) : Bool := (List.range n).all fun k : Nat => (derv p q g sHs (k : Int)).isSome
def hsL (p q g : Int) (n : Nat) : List Int := (List.range n).map fun k : Nat => (derv p q g sHs (k : Int)).getD 0
def basesN (p q g : Int) (n : Nat) : (Int × List Int) × Bool :=
  bif (derv p q g sH 0).isSome && hsB p q g n then (((derv p q g sH 0).getD 0, hsL p q g n), true) else ((0, []), false)
theorem hsB_succ {p q g : Int} {n : Nat} : hsB p q g (n + 1) = (hsB p q g n && (derv p q g sHs (n : Int)).isSome) := by simp [hsB, List.range_succ]
theorem hsL_succ {p q g : Int} {n : Nat} : hsL p q g (n + 1) = hsL p q g n ++ [(derv p q g sHs (n : Int)).getD 0] := by simp [hsL, List.range_succ]
theorem hsL_len {p q g : Int} {n : Nat} : (hsL p q g n).length = n := by simp [hsL]
theorem hsB_at {p q g : Int} {n k : Nat} (h : hsB p q g n = true) (hk : k < n) : (derv p q g sHs (k : Int)).isSome = true := List.all_eq_true.1 h k (List.mem_range.2 hk)
theorem hsL_el {p q g : Int} (h : Gr p q g) {n : Nat} (hB : hsB p q g n = true) : (hsL p q g n).all (isEl p q) = true := by
  refine List.all_eq_true.2 fun x hx => ?_
  simp only [hsL, List.mem_map, List.mem_range] at hx
  obtain ⟨k, hk, rfl⟩ := hx
  have h1 := hsB_at hB hk
  cases hd : derv p q g sHs (k : Int) with
  | none => rw [hd] at h1; exact absurd h1 (by simp)
  | some a => exact derv_el h hd
theorem DeriveElement_h {p q g : Int} (h : Gr p q g) (hok : okG p q g = true) : M_S_DeriveElement ((p, q, g), sH, 0) = some ((derv p q g sH 0).getD 0, (derv p q g sH 0).isSome) := by
  unfold M_S_DeriveElement M_S_l3Digest
  dsimp only
  have hd := hDerived_eq (s := sH) (k := 0) h (by show (1 : Nat) ≤ _; omega) (by omega)
  have hz : decide ((sH.size : Int) > 40) = false := rfl
  have t2 : decide ((0 : Int) ≤ 0 ∧ (0 : Int) ≤ 4611686018427387903) = true := rfl
  rw [l2Good_eq, hok]
  simp only [bindO_some', Bool.not_true, cond_false, in_eq, hz, hd, t2]
  cases hd : derv p q g sH 0 with
  | none => rfl
  | some a =>
    have ha := derv_range h hd
    have : decide (a > 0) = true := by simp; omega
    simp only [Option.getD_some, this]
    rfl
theorem DeriveElements_hs {p q g : Int} (h : Gr p q g) (hok : okG p q g = true) {n : Nat} (hn : n ≤ 24) : M_S_DeriveElements ((p, q, g), sHs, (n : Int)) = some (bif hsB p q g n then (hsL p q g n, true) else ([], false)) := by
  unfold M_S_DeriveElements
  dsimp only
  have hz : decide ((sHs.size : Int) > 40) = false := rfl
  have t3 : decide ((0 : Int) ≤ (n : Int) ∧ (n : Int) ≤ 100) = true := by simp; omega
  rw [l2Good_eq, hok]
  simp only [bindO_some', Bool.not_true, cond_false, in_eq, hz, t3]
  refine (loopO_for (σ := List Int) (fun i s => (s, (i : Int))) n (fun i _ => some (bif hsB p q g n then (hsL p q g n, true) else ([], false))) (fun i s => s = hsL p q g i ∧ hsB p q g i = true) (fun again s hs => ?_) (fun again i s hi hs ih => ?_) (by omega) (i := 0) (s := []) (Nat.zero_le _) ⟨rfl, rfl⟩).trans rfl
  · obtain ⟨rfl, hb⟩ := hs
    dsimp only
    rw [lt_no, cond_false, hb, cond_true]
  · obtain ⟨rfl, hb⟩ := hs
    have hd := hDerived_eq (s := sHs) (k := (i : Int)) h (by show (2 : Nat) ≤ _; omega) (by omega)
    dsimp only
    rw [lt_yes hi, cond_true, hd, bindO_some']
    cases hd : derv p q g sHs (i : Int) with
    | none =>
      have : hsB p q g n = false := by
        cases hB : hsB p q g n with
        | false => rfl
        | true =>
          have := hsB_at hB hi
          rw [hd] at this
          exact absurd this (by simp)
      rw [this]
      rfl
    | some a =>
      have ha := derv_range h hd
      have e0 : (a == 0) = false := by simp; omega
      have e2 : (hsL p q g i).length + [a].length ≤ 68719476736 := by rw [hsL_len]; simp only [List.length_cons, List.length_nil]; omega
      simp only [Option.getD_some, e0, cond_false, guardO_of (lenOk_of e2), bindO_some', i64_succ (show i < 2 ^ 62 by omega)]
      exact ih _ ⟨by rw [hsL_succ, hd]; rfl, by rw [hsB_succ, hb, hd]; rfl⟩
theorem S_BasesOf_eq {p q g : Int} (h : Gr p q g) (hok : okG p q g = true) {n : Nat} (hn : n ≤ 24) : M_S_BasesOf ((p, q, g), (n : Int)) = some (basesN p q g n) := by
  unfold M_S_BasesOf
  dsimp only
  have t1 : decide ((0 : Int) ≤ (n : Int) ∧ (n : Int) ≤ 24) = true := by simp; omega
  rw [l2Good_eq, hok, in_eq, t1]
  simp only [bindO_some', Bool.not_true, cond_false]
  rw [show M_S_DeriveElement ((p, q, g), bytesOf [104], 0) = _ from DeriveElement_h h hok, bindO_some']
  rw [show M_S_DeriveElements ((p, q, g), bytesOf [104, 115], (n : Int)) = _ from DeriveElements_hs h hok hn, bindO_some']
  unfold basesN
  generalize (derv p q g sH 0).isSome = o1
  generalize (derv p q g sH 0).getD 0 = o2
  generalize hsL p q g n = o3
  generalize hsB p q g n = o4
  cases o1 <;> cases o4 <;> rfl
theorem I_basesOf_eq {p q g : Int} (h : Gr p q g) {n : Nat} (hn : n ≤ 24) : M_I_Group_basesOf ((p, q, g), (n : Int)) = some (basesN p q g n) := by
  unfold M_I_Group_basesOf
  dsimp only
  rw [show M_I_Group_derive ((p, q, g), bytesOf [104], 0) = _ from derive_eq (s := sH) (k := 0) h (by show (1 : Nat) ≤ _; omega) (by omega), bindO_some']
  generalize hso : (derv p q g sH 0).isSome = o1
  generalize hgo : (derv p q g sH 0).getD 0 = o2
  dsimp only
  have hbn : basesN p q g n = bif o1 && hsB p q g n then ((o2, hsL p q g n), true) else ((0, []), false) := by
    unfold basesN
    rw [hso, hgo]
  rw [hbn]
  clear hbn hso hgo
  refine (loopO_for (σ := Bool × List Int) (fun i s => (s.1, (i : Int), o2, s.2)) n (fun i _ => some (bif o1 && hsB p q g n then ((o2, hsL p q g n), true) else ((0, []), false))) (fun i s => s = (hsB p q g i, hsL p q g i)) (fun again s hs => ?_) (fun again i s hi hs ih => ?_) (by omega) (i := 0) (s := (true, [])) (Nat.zero_le _) rfl).trans rfl
  · subst hs
    dsimp only
    rw [lt_no, cond_false]
    generalize hsL p q g n = o3
    generalize hsB p q g n = o4
    cases o1 <;> cases o4 <;> rfl
  · subst hs
    have hd := derive_eq (s := sHs) (k := (i : Int)) h (by show (2 : Nat) ≤ _; omega) (by omega)
    have e2 : (hsL p q g i).length + [(derv p q g sHs (i : Int)).getD 0].length ≤ 68719476736 := by rw [hsL_len]; simp only [List.length_cons, List.length_nil]; omega
    dsimp only
    rw [lt_yes hi, cond_true, show M_I_Group_derive ((p, q, g), bytesOf [104, 115], (i : Int)) = _ from hd, bindO_some']
    simp only [guardO_of (lenOk_of e2), bindO_some', i64_succ (show i < 2 ^ 62 by omega)]
    have he := ih (hsB p q g (i + 1), hsL p q g (i + 1)) rfl
    rw [hsB_succ, hsL_succ] at he
    revert he
    clear e2 hd ih
    generalize hd1 : (derv p q g sHs (i : Int)).getD 0 = d1
    generalize hd2 : (derv p q g sHs (i : Int)).isSome = d2
    clear hd1 hd2
    intro he
    cases hB : hsB p q g i
    · rw [hB, Bool.false_and] at he
      exact he
    · rw [hB, Bool.true_and] at he
      exact he
theorem bases_ok {p q g : Int} (h : Gr p q g) {n : Nat} (hb : (basesN p q g n).2 = true) : isEl p q (basesN p q g n).1.1 = true ∧ (basesN p q g n).1.2.all (isEl p q) = true ∧ (basesN p q g n).1.2.length = n ∧ (basesN p q g 0) = (((basesN p q g n).1.1, []), true) := by
  have key : ∀ (o1 o4 : Bool) (d : Int) (l : List Int), ((bif o1 && o4 then ((d, l), true) else ((0, []), false)) : (Int × List Int) × Bool).2 = true → o1 = true ∧ o4 = true := by
    intro o1 o4 d l
    cases o1 <;> cases o4 <;> simp
  unfold basesN at hb
  obtain ⟨hc, hB⟩ := key _ _ _ _ hb
  unfold basesN
  rw [hc, hB, show hsB p q g 0 = true from by simp [hsB], show hsL p q g 0 = [] from by simp [hsL]]
  refine ⟨?_, hsL_el h hB, hsL_len, ?_⟩
  rotate_left
  · generalize (derv p q g sH 0).getD 0 = o
    rfl
  cases hd : derv p q g sH 0 with
  | none => rw [hd] at hc; exact absurd hc (by simp)
  | some a => exact derv_el h hd
def lCol : ByteArray := bytesOf [109, 105, 120, 32, 99, 111, 108, 117, 109, 110, 115]
def lMix : ByteArray := bytesOf [109, 105, 120, 32, 112, 114, 111, 111, 102]
theorem cond_and (b c : Bool) : (bif b then some c else some false) = some (b && c) := by cases b <;> rfl
def mZ (p q g key : Int) (ins outs : List (Int × Int)) (cols chain cs : List Int) : Int := chal p q g lMix (mixL key ins outs cols ++ (chain ++ cs))
theorem okD_pairs {p q g : Int} (h : Gr p q g) {l : List (Int × Int)} (hl : l.all (isCi p q) = true) : okD (flatC l) = true := by
  have := h.pm
  induction l with
  | nil => rfl
  | cons a l ih =>
    simp only [List.all_cons, Bool.and_eq_true] at hl
    have h1 := isCi_in hl.1
    have h2 := ih hl.2
    rw [show flatC (a :: l) = [a.1, a.2] ++ flatC l from rfl, okD_append, h2, Bool.and_true]
    simp only [okD, List.all_cons, List.all_nil, Bool.and_true, Bool.and_eq_true, decide_eq_true_eq]
    omega
theorem okD_mixL {p q g key : Int} (h : Gr p q g) {ins outs : List (Int × Int)} {more : List Int} (hk : isEl p q key = true) (hi : ins.all (isCi p q) = true) (ho : outs.all (isCi p q) = true) (hm : okD more = true) : okD (mixL key ins outs more) = true := by
  have := h.pm
  have hk := isEl_in hk
  unfold mixL
  rw [okD_append, okD_append, okD_append, okD_pairs h hi, okD_pairs h ho, hm]
  simp only [okD, List.all_cons, List.all_nil, Bool.and_true, decide_eq_true_eq]
  omega
theorem comp_in {p q : Int} {l : List (Int × Int)} (hl : l.all (isCi p q) = true) : (∀ x ∈ l.map (·.1), 0 ≤ x ∧ x ≤ p) ∧ ∀ x ∈ l.map (·.2), 0 ≤ x ∧ x ≤ p := by
  refine ⟨fun x hx => ?_, fun x hx => ?_⟩
  all_goals
    obtain ⟨c, hc, rfl⟩ := List.mem_map.1 hx
    have := isCi_in (List.all_eq_true.1 hl c hc)
    first | exact this.1 | exact this.2
theorem neg_in {q a : Int} (hq : q ≤ 2000000000) (ha : 0 ≤ a ∧ a ≤ q - 1) : IntKind.wrap .i64 (0 - a) = -a := by
  rw [i64_in (0 - a) (by omega), Int.zero_sub]
theorem mChallenge_eq {p q g key : Int} {ins outs : List (Int × Int)} {cols chain : List Int} {pf : Pf} (h : Gr p q g) (hk : isEl p q key = true) (hi : ins.all (isCi p q) = true) (ho : outs.all (isCi p q) = true)
    (hn : ins.length ≤ 12) (hn2 : outs.length ≤ 24) (hc : okD cols = true) (hc2 : okD chain = true) (hc3 : okD pf.1 = true) (l1 : cols.length ≤ 24) (l2 : chain.length ≤ 24) (l3 : pf.1.length ≤ 24) :
    M_S_mChallenge ((p, q, g), key, ins, outs, cols, chain, pf) = some (mZ p q g key ins outs cols chain pf.1) := by
  unfold M_S_mChallenge
  dsimp only
  have hl := mixL_len (key := key) (ins := ins) (outs := outs) (more := cols)
  rw [mListed_eq (by omega) (by omega) (by omega), bindO_some', guardO_of (lenOk_of (show (mixL key ins outs cols).length + chain.length ≤ 68719476736 by omega)), bindO_some', bindO_some', guardO_of (lenOk_of (show (mixL key ins outs cols ++ chain).length + pf.1.length ≤ 68719476736 by rw [List.length_append]; omega)), bindO_some', bindO_some']
  rw [show M_S_hChallenge ((p, q, g), bytesOf [109, 105, 120, 32, 112, 114, 111, 111, 102], mixL key ins outs cols ++ chain ++ pf.1) = _ from hChallenge_eq (s := lMix) h (by decide) (by rw [okD_append, okD_append, okD_mixL h hk hi ho hc, hc2, hc3]; rfl) (by rw [List.length_append, List.length_append]; omega), bindO_some', List.append_assoc]
  rfl
theorem mChallenges_eq {p q g key : Int} {ins outs : List (Int × Int)} {cols : List Int} (h : Gr p q g) (hk : isEl p q key = true) (hi : ins.all (isCi p q) = true) (ho : outs.all (isCi p q) = true)
    (hn : ins.length ≤ 12) (hn2 : outs.length ≤ 24) (hc : okD cols = true) (l1 : cols.length ≤ 24) :
    M_S_mChallenges ((p, q, g), key, ins, outs, cols) = some (chals p q g lCol (mixL key ins outs cols) ins.length) := by
  unfold M_S_mChallenges
  dsimp only
  have hl := mixL_len (key := key) (ins := ins) (outs := outs) (more := cols)
  rw [mListed_eq (by omega) (by omega) (by omega), bindO_some']
  rw [show M_S_hChallenges ((p, q, g), bytesOf [109, 105, 120, 32, 99, 111, 108, 117, 109, 110, 115], mixL key ins outs cols, ((ins.length : Nat) : Int)) = _ from hChallenges_eq (s := lCol) h (by decide) (okD_mixL h hk hi ho hc) (by omega) (by omega), bindO_some']
def lMx : ByteArray := bytesOf [109, 105, 120, 32, 120]
def lMy : ByteArray := bytesOf [109, 105, 120, 32, 121]
def lMzz : ByteArray := bytesOf [109, 105, 120, 32, 122]
def lMe : ByteArray := bytesOf [109, 105, 120, 32, 101, 110, 100]
abbrev Pp := List Int × List Int × List Int × Pf
def Pp.small (P : Pp) (n : Nat) : Prop := P.1.length ≤ n ∧ P.2.1.length ≤ n ∧ P.2.2.1.length ≤ n ∧ P.2.2.2.small n
theorem take_eq {l : List Int} {n : Nat} (hn : n ≤ l.length) : M_I_taker_take (l, (n : Int)) = some (l.take n, l.drop n) := by
  unfold M_I_taker_take
  dsimp only
  rw [sliceNH_nat hn, bindO_some', sliceLN_nat hn, bindO_some']
  dsimp only
  rw [List.drop_zero, List.take_length]
theorem takeOne_eq {l : List Int} (hn : 1 ≤ l.length) : M_I_taker_one l = some (l.getD 0 0, l.drop 1) := by
  unfold M_I_taker_one
  rw [show M_I_taker_take (l, 1) = _ from take_eq (n := 1) hn, bindO_some']
  cases l with
  | nil => simp at hn
  | cons a l => rfl
def pLst (key : Int) (ins outs : List (Int × Int)) (P : Pp) : List Int := mixL key ins outs P.1 ++ P.2.1
def pY (p q g key : Int) (ins outs : List (Int × Int)) (P : Pp) : Int := chal p q g lMy (pLst key ins outs P)
def pZ (p q g key : Int) (ins outs : List (Int × Int)) (P : Pp) : Int := chal p q g lMzz (pLst key ins outs P)
def pT (p q g key : Int) (ins outs : List (Int × Int)) (P : Pp) : Int := chal p q g lMe (pLst key ins outs P ++ (P.2.2.1 ++ P.2.2.2.1))
theorem vPoints_eq {p q g key : Int} {ins outs : List (Int × Int)} {P : Pp} (h : Gr p q g) (hL : okD (pLst key ins outs P) = true) (hi : ins.length ≤ 12) (ho : outs.length ≤ 24) (h1 : P.1.length ≤ 24) (h2 : P.2.1.length ≤ 24) :
    M_S_vPoints ((p, q, g), key, ins, outs, P.1, P.2.1) = some (pY p q g key ins outs P, pZ p q g key ins outs P) := by
  unfold M_S_vPoints
  dsimp only
  have hl := mixL_len (key := key) (ins := ins) (outs := outs) (more := P.1)
  have hn : (mixL key ins outs P.1 ++ P.2.1).length < 2 ^ 20 := by rw [List.length_append]; omega
  rw [mListed_eq (by omega) (by omega) (by omega), bindO_some', guardO_of (lenOk_of (show (mixL key ins outs P.1).length + P.2.1.length ≤ 68719476736 by omega)), bindO_some', bindO_some']
  rw [show M_S_hChallenge ((p, q, g), bytesOf [109, 105, 120, 32, 121], mixL key ins outs P.1 ++ P.2.1) = _ from hChallenge_eq (s := lMy) h (by decide) hL hn, bindO_some']
  rw [show M_S_hChallenge ((p, q, g), bytesOf [109, 105, 120, 32, 122], mixL key ins outs P.1 ++ P.2.1) = _ from hChallenge_eq (s := lMzz) h (by decide) hL hn, bindO_some']
  rfl
theorem vEnd_eq {p q g key : Int} {ins outs : List (Int × Int)} {P : Pp} (h : Gr p q g) (hL : okD (pLst key ins outs P) = true) (hc : okD P.2.2.1 = true) (hm : okD P.2.2.2.1 = true) (hi : ins.length ≤ 12) (ho : outs.length ≤ 24) (h1 : P.1.length ≤ 24) (h2 : P.2.1.length ≤ 24) (h3 : P.2.2.1.length ≤ 24) (h4 : P.2.2.2.1.length ≤ 80) :
    M_S_vEnd ((p, q, g), key, ins, outs, P) = some (pT p q g key ins outs P) := by
  unfold M_S_vEnd
  dsimp only
  have hl := mixL_len (key := key) (ins := ins) (outs := outs) (more := P.1)
  rw [mListed_eq (by omega) (by omega) (by omega), bindO_some', guardO_of (lenOk_of (show (mixL key ins outs P.1).length + P.2.1.length ≤ 68719476736 by omega)), bindO_some', bindO_some',
    guardO_of (lenOk_of (show (mixL key ins outs P.1 ++ P.2.1).length + P.2.2.1.length ≤ 68719476736 by rw [List.length_append]; omega)), bindO_some', bindO_some',
    guardO_of (lenOk_of (show (mixL key ins outs P.1 ++ P.2.1 ++ P.2.2.1).length + P.2.2.2.1.length ≤ 68719476736 by rw [List.length_append, List.length_append]; omega)), bindO_some', bindO_some', List.append_assoc (mixL key ins outs P.1 ++ P.2.1)]
  rw [show M_S_hChallenge ((p, q, g), bytesOf [109, 105, 120, 32, 101, 110, 100], mixL key ins outs P.1 ++ P.2.1 ++ (P.2.2.1 ++ P.2.2.2.1)) = _ from hChallenge_eq (s := lMe) h (by decide) (by rw [okD_append, okD_append (a := P.2.2.1), hc, hm, show okD (mixL key ins outs P.1 ++ P.2.1) = true from hL]; rfl) (by rw [List.length_append, List.length_append, List.length_append]; omega), bindO_some']
  rfl
theorem points_eq {p q g : Int} {l : List Int} (h : Gr p q g) (hl : okD l = true) (hn : l.length ≤ 300) : M_I_Group_points ((p, q, g), l) = some (chal p q g lMy l, chal p q g lMzz l, true) := by
  unfold M_I_Group_points
  dsimp only
  rw [show M_I_Group_challenge ((p, q, g), bytesOf [109, 105, 120, 32, 121], l) = _ from challenge_eq (s := lMy) h (by decide) hl (show 5 + _ ≤ 396 by omega), bindO_some']
  rw [show M_I_Group_challenge ((p, q, g), bytesOf [109, 105, 120, 32, 122], l) = _ from challenge_eq (s := lMzz) h (by decide) hl (show 5 + _ ≤ 396 by omega), bindO_some']
  rfl
abbrev Mp := List Int × List Int × Pf
abbrev Stg := Int × List (Int × Int) × Mp × Pp
noncomputable def mixB (p q g key : Int) (l : List (Int × Int)) : Bool := okG p q g && (isEl p q key && (decide (1 ≤ l.length ∧ l.length ≤ 12) && l.all (isCi p q)))
noncomputable def rdB (p q g key : Int) (l : List (Int × Int)) : Bool := mixB p q g key l && (basesN p q g l.length).2
theorem in12 (n : Nat) : decide ((1 : Int) ≤ (n : Int) ∧ (n : Int) ≤ 12) = decide (1 ≤ n ∧ n ≤ 12) := decide_eq_decide.2 (by omega)
theorem mList_eq {p q g key : Int} {l : List (Int × Int)} : M_S_mList ((p, q, g), key, l) = some (mixB p q g key l) := by
  unfold M_S_mList mixB
  dsimp only
  rw [eKey_eq, bindO_some']
  cases hok : okG p q g with
  | false => rfl
  | true =>
  have h := okG_spec hok
  cases isEl p q key with
  | false => rfl
  | true =>
  rw [Bool.true_and, cond_true, in_eq, bindO_some', in12, eGood_eq h, bindO_some', cond_and, Bool.true_and, Bool.true_and]
  by_cases hn : 1 ≤ l.length ∧ l.length ≤ 12
  · rw [decide_eq_true hn, decide_eq_true (show l.length ≤ 24 by omega), Bool.true_and, Bool.true_and]
  · rw [decide_eq_false hn, Bool.false_and, Bool.false_and]
theorem areMixed_eq {p q g : Int} {l : List (Int × Int)} (h : Gr p q g) (hl : l.length ≤ 1048576) : M_I_Group_areMixed ((p, q, g), l) = some (decide (1 ≤ l.length ∧ l.length ≤ 12) && l.all (isCi p q)) := by
  unfold M_I_Group_areMixed
  dsimp only
  rw [within_eq, bindO_some', in12, hasCiphers_eq h (by omega), bindO_some', cond_and]
  by_cases hn : 1 ≤ l.length ∧ l.length ≤ 12
  · rw [decide_eq_true hn, decide_eq_true (show l.length ≤ 24 by omega), Bool.true_and, Bool.true_and]
  · rw [decide_eq_false hn, Bool.false_and, Bool.false_and]
theorem mixB_spec {p q g key : Int} {l : List (Int × Int)} (hm : mixB p q g key l = true) : okG p q g = true ∧ isEl p q key = true ∧ (1 ≤ l.length ∧ l.length ≤ 12) ∧ l.all (isCi p q) = true := by
  simp only [mixB, Bool.and_eq_true, decide_eq_true_eq] at hm
  exact hm
theorem mixBases_eq {p q g key : Int} {l : List (Int × Int)} (hl : l.length ≤ 1048576) : M_I_mixBases ((p, q, g), key, l) = some (bif mixB p q g key l then basesN p q g l.length else ((0, []), false)) := by
  unfold M_I_mixBases mixB
  dsimp only
  rw [IsValidGroup_eq, bindO_some']
  cases hok : okG p q g with
  | false => rfl
  | true =>
  have h := okG_spec hok
  rw [has_eq' h, bindO_some', Bool.not_true, cond_false, Bool.true_and]
  cases isEl p q key with
  | false => rfl
  | true =>
  rw [areMixed_eq h hl, bindO_some', Bool.not_true, cond_false, Bool.true_and]
  cases hc : (decide (1 ≤ l.length ∧ l.length ≤ 12) && l.all (isCi p q)) with
  | false => rfl
  | true =>
  simp only [Bool.and_eq_true, decide_eq_true_eq] at hc
  rw [I_basesOf_eq h (by omega), bindO_some', Bool.not_true, cond_false, cond_true]
theorem xReady_eq {p q g key : Int} {l : List (Int × Int)} : M_S_xReady ((p, q, g), key, l) = some (rdB p q g key l) := by
  unfold M_S_xReady rdB
  dsimp only
  rw [mList_eq, bindO_some']
  cases hm : mixB p q g key l with
  | false => rfl
  | true =>
  obtain ⟨hok, -, hn, -⟩ := mixB_spec hm
  rw [Bool.not_true, cond_false, S_BasesOf_eq (okG_spec hok) hok (by omega), bindO_some', Bool.true_and]
theorem polyBases_eq {p q g key : Int} {l : List (Int × Int)} (hl : l.length ≤ 1048576) : M_I_polyBases ((p, q, g), key, l) = some (bif rdB p q g key l then (((basesN p q g l.length).1.1, []), true) else ((0, []), false)) := by
  unfold M_I_polyBases rdB
  dsimp only
  rw [mixBases_eq hl, bindO_some']
  cases hm : mixB p q g key l with
  | false => rfl
  | true =>
  obtain ⟨hok, -, hn, -⟩ := mixB_spec hm
  have h := okG_spec hok
  rw [cond_true, Bool.true_and]
  cases hb : (basesN p q g l.length).2 with
  | false => rfl
  | true =>
  rw [Bool.not_true, cond_false, cond_true, show M_I_Group_basesOf ((p, q, g), 0) = _ from I_basesOf_eq (n := 0) h (by omega), bindO_some', (bases_ok h hb).2.2.2]
def Mp.small (a : Mp) (n : Nat) : Prop := a.1.length ≤ n ∧ a.2.1.length ≤ n ∧ a.2.2.small n
def Stg.small (s : Stg) : Prop := s.2.1.length ≤ 1048576 ∧ Mp.small s.2.2.1 1048576 ∧ Pp.small s.2.2.2 1048576
theorem eqStage_eq {s : Stg} (h : s.small) : M_L_eqStage (s, s) = some true := by
  obtain ⟨h1, ⟨h2, h3, h4⟩, h5, h6, h7, h8⟩ := h
  have p1 := eqProof_eq (a := s.2.2.1.2.2) (b := s.2.2.1.2.2) ⟨by have := h4.1; omega, by have := h4.2.1; omega, by have := h4.2.2; omega⟩
  have p2 := eqProof_eq (a := s.2.2.2.2.2.2) (b := s.2.2.2.2.2.2) ⟨by have := h8.1; omega, by have := h8.2.1; omega, by have := h8.2.2; omega⟩
  unfold M_L_eqStage M_L_eqMatrixProof M_L_eqPolyProof
  dsimp only
  rw [eqCipherS_eq (by omega), eqIntS_eq (by omega), eqIntS_eq (by omega), eqIntS_eq (by omega), eqIntS_eq (by omega), eqIntS_eq (by omega)]
  rw [show M_L_eqProof ((s.2.2.1.2.2.1, s.2.2.1.2.2.2.1, s.2.2.1.2.2.2.2), s.2.2.1.2.2.1, s.2.2.1.2.2.2.1, s.2.2.1.2.2.2.2) = _ from p1, show M_L_eqProof ((s.2.2.2.2.2.2.1, s.2.2.2.2.2.2.2.1, s.2.2.2.2.2.2.2.2), s.2.2.2.2.2.2.1, s.2.2.2.2.2.2.2.1, s.2.2.2.2.2.2.2.2) = _ from p2]
  simp
theorem eqStageS_eq {a : List Stg} (h : a.length < 2 ^ 62) (hr : ∀ r ∈ a, Stg.small r) : M_L_eqStageS (a, a) = some true := by
  unfold M_L_eqStageS
  have e1 : ((a.length : Int) != (a.length : Int)) = false := by simp
  dsimp only
  rw [e1, cond_false]
  refine (range_loop (n := a.length) (fun _ => true) h (fun again i hi => ?_) (fun again => ?_)).trans (by simp)
  · have hx := List.getElem?_eq_getElem hi
    rw [lt_yes hi, cond_true, getI_nat, hx, bindO_some', bindO_some']
    rw [show M_L_eqStage ((a[i].1, a[i].2.1, (a[i].2.2.1.1, a[i].2.2.1.2.1, a[i].2.2.1.2.2.1, a[i].2.2.1.2.2.2.1, a[i].2.2.1.2.2.2.2), a[i].2.2.2.1, a[i].2.2.2.2.1, a[i].2.2.2.2.2.1, a[i].2.2.2.2.2.2.1, a[i].2.2.2.2.2.2.2.1, a[i].2.2.2.2.2.2.2.2), a[i].1, a[i].2.1, (a[i].2.2.1.1, a[i].2.2.1.2.1, a[i].2.2.1.2.2.1, a[i].2.2.1.2.2.2.1, a[i].2.2.1.2.2.2.2), a[i].2.2.2.1, a[i].2.2.2.2.1, a[i].2.2.2.2.2.1, a[i].2.2.2.2.2.2.1, a[i].2.2.2.2.2.2.2.1, a[i].2.2.2.2.2.2.2.2) = some true from eqStage_eq (hr a[i] (List.getElem_mem hi)), bindO_some', Bool.not_true, cond_false, i64_succ (show i < 2 ^ 62 by omega), bindO_some', cond_true]
  · rw [lt_no, cond_false]
theorem gt6 (n : Nat) : decide (((n : Nat) : Int) > 6) = !decide (n ≤ 6) := by
  by_cases h : n ≤ 6
  · rw [decide_eq_true h, decide_eq_false (by omega)]
    rfl
  · rw [decide_eq_false h, decide_eq_true (by omega)]
    rfl
theorem dotG {q : Int} {a b : List Int} (hq : 2 ≤ q ∧ q ≤ 2000000000) (ha : inF q a) (hb : inF q b) (hl : b.length = a.length) (hn : a.length ≤ 1000) : M_I_dot (a, b, q) = some (sumN a.length (fun i => a.getD i 0 * b.getD i 0) % q) := by
  have hg0 : guardO (q != 0) = some () := guardO_of (bne_iff_ne.2 (by omega))
  unfold M_I_dot
  dsimp only
  refine (iter_loop (fun i (s : Int) => (s + a.getD i 0 * b.getD i 0 % q) % q) 0 a.length (fun i s => (s, i)) (fun s => some s) (fun i s => s = sumN i (fun i => a.getD i 0 * b.getD i 0) % q) (by omega) (by simp [sumN]) (fun i s hi hv => ?_) (fun again i s hi hv => ?_) (fun again s hv => ?_)).trans ?_
  · subst hv
    exact Cg_eq (Cg_add (Cg_mod _) (Cg_mod _))
  · have hs : 0 ≤ s ∧ s < q := by
      subst hv
      exact ⟨Int.emod_nonneg _ (by omega), Int.emod_lt_of_pos _ (by omega)⟩
    have har := inF_get ha hi
    have hbr := inF_get hb (i := i) (by omega)
    have hp := prod_small hq.2 har hbr
    have r1 := Int.emod_nonneg (a.getD i 0 * b.getD i 0) (show q ≠ 0 by omega)
    have r2 := Int.emod_lt_of_pos (a.getD i 0 * b.getD i 0) (show 0 < q by omega)
    simp only [lt_yes hi, cond_true, getI_nat, getD_at (d := (0 : Int)) hi, getD_at (d := (0 : Int)) (l := b) (i := i) (by omega), bindO_some', hg0, i64_in (a.getD i 0 * b.getD i 0) (by omega), tmod_nn hp.1, i64_in (s + a.getD i 0 * b.getD i 0 % q) (by omega), tmod_nn (show 0 ≤ s + a.getD i 0 * b.getD i 0 % q by omega), i64_succ (show i < 2 ^ 62 by omega)]
  · simp only [lt_no, cond_false]
  · refine congrArg some ?_
    exact iterN_inv (f := fun i (s : Int) => (s + a.getD i 0 * b.getD i 0 % q) % q) (s0 := 0) (Inv := fun i s => s = sumN i (fun i => a.getD i 0 * b.getD i 0) % q) (by simp [sumN]) a.length fun i s hi hv => by
      subst hv
      exact Cg_eq (Cg_add (Cg_mod _) (Cg_mod _))
theorem loopO_to {τ β : Type} {body : (τ → Option β) → τ → Option β} (enc : Nat → τ) (N : Nat) (r : Option β) (hN : N < 2 ^ 62)
    (hend : ∀ again : τ → Option β, body again (enc N) = r) (hin : ∀ (again : τ → Option β) (i : Nat), i < N → again (enc (i + 1)) = r → body again (enc i) = r) : loopO body (enc 0) = r :=
  loopO_for (body := body) (σ := Unit) (fun i _ => enc i) N (fun _ _ => r) (fun _ _ => True) (fun again _ _ => hend again) (fun again i _ hi _ ih => hin again i hi (ih () trivial)) (by omega) (i := 0) (s := ()) (Nat.zero_le _) trivial
theorem grow_loop {β τ : Type} {n : Nat} (f : Nat → Int) (l0 : List Int) (enc : Nat → List Int → τ) (r : Option β) {body : (τ → Option β) → τ → Option β} (hn : n < 2 ^ 62)
    (h : ∀ (again : τ → Option β) (i : Nat) (l : List Int), i < n → l.length = l0.length + i → body again (enc i l) = again (enc (i + 1) (l ++ [f i])))
    (hend : ∀ again : τ → Option β, body again (enc n (l0 ++ (List.range n).map f)) = r) : loopO body (enc 0 l0) = r := by
  have hr : ∀ i, ((List.range i).map f).length = i := fun i => by simp
  have e := loopO_for (body := body) (σ := Unit) (fun i _ => enc i (l0 ++ (List.range i).map f)) n (fun _ _ => r) (fun _ _ => True) (fun again _ _ => hend again) (fun again i _ hi _ ih => by
    rw [h again i _ hi (by rw [List.length_append, hr])]
    have := ih () trivial
    rw [List.range_succ, List.map_append, ← List.append_assoc] at this
    exact this) (by omega) (i := 0) (s := ()) (Nat.zero_le _) trivial
  simpa using e
def inB (p : Int) (l : List Int) : Prop := ∀ x ∈ l, 0 ≤ x ∧ x < p
theorem inB_okD {p q g : Int} (h : Gr p q g) {l : List Int} (hl : inB p l) : okD l = true := by
  have := h.pm
  refine List.all_eq_true.2 fun x hx => ?_
  have := hl x hx
  simp only [decide_eq_true_eq]
  omega
theorem inB_map {p : Int} {n : Nat} {f : Nat → Int} (hf : ∀ i, i < n → 0 ≤ f i ∧ f i < p) : inB p ((List.range n).map f) := fun x hx => by
  obtain ⟨i, hi, rfl⟩ := List.mem_map.1 hx
  exact hf i (List.mem_range.1 hi)
theorem inB_append {p : Int} {a b : List Int} (ha : inB p a) (hb : inB p b) : inB p (a ++ b) := fun x hx => (List.mem_append.1 hx).elim (ha x) (hb x)
theorem prod2_in {p a b : Int} (hp : 2 ≤ p) : 0 ≤ prodM p 1 [a, b] ∧ prodM p 1 [a, b] < p := prodM_range (by omega) _ 1 (by omega) (.inr (by simp))
def mixO (p q g key : Int) (ins : List (Int × Int)) (pm rs : List Int) : List (Int × Int) := (List.range pm.length).map fun i => mulC p (ins.getD (pm.getD i 0).toNat (0, 0)) (reC p q g key (rs.getD i 0))
theorem mixO_len {p q g key : Int} {ins : List (Int × Int)} {pm rs : List Int} : (mixO p q g key ins pm rs).length = pm.length := by simp [mixO]
def permB (n : Nat) (pm : List Int) : Prop := pm.length = n ∧ ∀ i, i < n → 0 ≤ pm.getD i 0 ∧ pm.getD i 0 < n
theorem permB_at {n : Nat} {pm : List Int} (h : permB n pm) {i : Nat} (hi : i < n) : pm[i]? = some (pm.getD i 0) := getD_at (by rw [h.1]; exact hi)
theorem permB_get {α : Type} {n : Nat} {pm : List Int} (h : permB n pm) {i : Nat} (hi : i < n) {l : List α} (hl : l.length = n) (d : α) : getI l (pm.getD i 0) = some (l.getD (pm.getD i 0).toNat d) := by
  have := h.2 i hi
  obtain ⟨k, hk⟩ : ∃ k : Nat, pm.getD i 0 = (k : Int) := ⟨(pm.getD i 0).toNat, by omega⟩
  rw [hk, getI_nat, Int.toNat_natCast]
  exact getD_at (by omega)
theorem mixO_ci {p q g key : Int} {ins : List (Int × Int)} {pm rs : List Int} (h : Gr p q g) (hk : isEl p q key = true) (hi : ins.all (isCi p q) = true) (hp : permB ins.length pm) : (mixO p q g key ins pm rs).all (isCi p q) = true := by
  refine List.all_eq_true.2 fun c hc => ?_
  obtain ⟨i, hi2, rfl⟩ := List.mem_map.1 hc
  have hi3 := List.mem_range.1 hi2
  rw [hp.1] at hi3
  have h2 := hp.2 i hi3
  refine isCi_mulC h (List.all_eq_true.1 hi _ (List.mem_of_getElem? (getD_at (d := ((0 : Int), (0 : Int))) (i := (pm.getD i 0).toNat) (by omega)))) (isCi_reC h hk)
theorem mix_both {p q g key : Int} {ins : List (Int × Int)} {pm rs : List Int} (h : Gr p q g) (hk : isEl p q key = true) (hi : ins.all (isCi p q) = true) (hp : permB ins.length pm) (hr : rs.length = ins.length) (hn : ins.length ≤ 24) :
    M_S_mMix ((p, q, g), key, ins, pm, rs) = some (mixO p q g key ins pm rs) ∧ M_I_Group_mix ((p, q, g), key, ins, pm, rs) = some (mixO p q g key ins pm rs) := by
  have hstep : ∀ i, i < ins.length → isCi p q (ins.getD (pm.getD i 0).toNat (0, 0)) = true := fun i hi3 => by
    have h2 := hp.2 i hi3
    exact List.all_eq_true.1 hi _ (List.mem_of_getElem? (getD_at (d := ((0 : Int), (0 : Int))) (i := (pm.getD i 0).toNat) (by omega)))
  have hpl := hp.1
  constructor
  · unfold M_S_mMix
    dsimp only
    refine append_loop (mixO p q g key ins pm rs) some (fun again i a s ha hi2 hs => ?_) (fun again s hs => ?_) (by rw [mixO_len]; omega)
    · rw [mixO_len, hpl] at hi2
      unfold mixO at ha
      rw [List.getElem?_map, List.getElem?_range (by omega)] at ha
      cases ha
      rw [hpl]
      dsimp only
      rw [lt_yes hi2, cond_true, getI_nat, permB_at hp hi2, bindO_some', permB_get hp hi2 rfl (0, 0), bindO_some', getI_nat, getD_at (d := (0 : Int)) (l := rs) (i := i) (by omega), bindO_some', show M_S_eRe ((p, q, g), key, ((ins.getD (pm.getD i 0).toNat (0, 0)).1, (ins.getD (pm.getD i 0).toNat (0, 0)).2), rs.getD i 0) = _ from eRe_eq h hk (hstep i hi2), bindO_some',
        guardO_of (lenOk_of (by simp only [List.length_cons, List.length_nil]; omega)), bindO_some', bindO_some', i64_succ (by omega), bindO_some']
    · rw [mixO_len, lt_no, cond_false]
  · unfold M_I_Group_mix
    dsimp only
    refine append_loop (mixO p q g key ins pm rs) some (fun again i a s ha hi2 hs => ?_) (fun again s hs => ?_) (by rw [mixO_len]; omega)
    · rw [mixO_len, hpl] at hi2
      unfold mixO at ha
      rw [List.getElem?_map, List.getElem?_range (by omega)] at ha
      cases ha
      rw [hpl]
      dsimp only
      rw [lt_yes hi2, cond_true, getI_nat, permB_at hp hi2, bindO_some', permB_get hp hi2 rfl (0, 0), bindO_some', getI_nat, getD_at (d := (0 : Int)) (l := rs) (i := i) (by omega), bindO_some', show M_I_Group_reencrypt ((p, q, g), key, ((ins.getD (pm.getD i 0).toNat (0, 0)).1, (ins.getD (pm.getD i 0).toNat (0, 0)).2), rs.getD i 0) = _ from reencrypt_eq h hk (hstep i hi2), bindO_some',
        guardO_of (lenOk_of (by simp only [List.length_cons, List.length_nil]; omega)), bindO_some', bindO_some', i64_succ (by omega), bindO_some']
    · rw [mixO_len, lt_no, cond_false]
def colS (p q g : Int) (Hs pm ss : List Int) (i : Nat) (C : Nat → Int) : Nat → Int := fun k => if k = (pm.getD i 0).toNat then prodM p 1 [pw p q g (ss.getD (pm.getD i 0).toNat 0), Hs.getD i 0] else C k
def colN (p q g : Int) (Hs pm ss : List Int) : List Int := rowN pm.length (iterN (colS p q g Hs pm ss) (fun _ => 0) pm.length)
theorem colN_len {p q g : Int} {Hs pm ss : List Int} : (colN p q g Hs pm ss).length = pm.length := rowN_len ..
theorem colN_in {p q g : Int} {Hs pm ss : List Int} (hp : 2 ≤ p) : inB p (colN p q g Hs pm ss) := by
  refine inB_map fun i hi => ?_
  refine iterN_inv (f := colS p q g Hs pm ss) (s0 := fun _ => 0) (Inv := fun _ (C : Nat → Int) => ∀ t, 0 ≤ C t ∧ C t < p) (fun t => ⟨Int.le_refl 0, show (0 : Int) < p by omega⟩) pm.length (fun i C _ hv t => ?_) i
  unfold colS
  by_cases e : t = (pm.getD i 0).toNat
  · rw [if_pos e]
    exact prod2_in hp
  · rw [if_neg e]
    exact hv t
theorem columns_both {p q g H : Int} {Hs pm ss : List Int} {n : Nat} (h : Gr p q g) (hH : ∀ x ∈ Hs, 0 ≤ x ∧ x ≤ p) (hp : permB n pm) (hHl : Hs.length = n) (hs : ss.length = n) (hn : n ≤ 24) :
    M_S_mColumns ((p, q, g), (H, Hs), pm, ss) = some (colN p q g Hs pm ss) ∧ M_I_Group_columnCommits ((p, q, g), (H, Hs), pm, ss) = some (colN p q g Hs pm ss) := by
  have hp3 := h.p3
  have hg := isEl_in (isEl_g h)
  have hpl := hp.1
  have hlim : ((n : Nat) : Int) ≤ ((lim : Nat) : Int) := by rw [lim_eq]; omega
  have hset : ∀ (i : Nat) (C : Nat → Int), i < n → ∀ v, (rowN n C).set (pm.getD i 0).toNat v = rowN n fun k => if k = (pm.getD i 0).toNat then v else C k := fun i C _ v => rowN_set
  constructor
  · unfold M_S_mColumns
    dsimp only
    rw [hpl, guardO_of (by simpa using hlim), bindO_some', Int.toNat_natCast, ← rowN_zero]
    unfold colN
    rw [hpl]
    refine iter_loop (colS p q g Hs pm ss) (fun _ => 0) n (fun i C => (i, rowN n C)) (fun C => some (rowN n C)) (fun _ _ => True) (by omega) trivial (fun _ _ _ _ => trivial) (fun again i C hi _ => ?_) (fun again C _ => ?_)
    · have h2 := hp.2 i hi
      have hHi := getD_at (d := (0 : Int)) (l := Hs) (i := i) (by omega)
      have hHr := hH _ (List.mem_of_getElem? hHi)
      have r1 := pw_range (q := q) (x := g) (e := ss.getD (pm.getD i 0).toNat 0) (show 1 ≤ p by omega)
      have hrow : getI (rowN n C) (pm.getD i 0) = some (C (pm.getD i 0).toNat) := by
        obtain ⟨k, hk⟩ : ∃ k : Nat, pm.getD i 0 = (k : Int) := ⟨(pm.getD i 0).toNat, by omega⟩
        rw [hk, getI_nat, Int.toNat_natCast]
        exact rowN_get (by omega)
      dsimp only
      rw [lt_yes hi, cond_true, getI_nat, permB_at hp hi, bindO_some', permB_get hp hi hs 0, bindO_some', gExp_pw h hg.1 hg.2, bindO_some', getI_nat, hHi, bindO_some', mul2 h ⟨r1.1, by omega⟩ hHr, bindO_some', hrow, bindO_some', bindO_some', hset i C hi, i64_succ (by omega), bindO_some']
      rfl
    · dsimp only
      rw [lt_no, cond_false]
  · unfold M_I_Group_columnCommits
    dsimp only
    rw [hpl, guardO_of (by simpa using hlim), bindO_some', Int.toNat_natCast, ← rowN_zero]
    unfold colN
    rw [hpl]
    refine iter_loop (colS p q g Hs pm ss) (fun _ => 0) n (fun i C => (i, rowN n C)) (fun C => some (rowN n C)) (fun _ _ => True) (by omega) trivial (fun _ _ _ _ => trivial) (fun again i C hi _ => ?_) (fun again C _ => ?_)
    · have h2 := hp.2 i hi
      have hHi := getD_at (d := (0 : Int)) (l := Hs) (i := i) (by omega)
      have hHr := hH _ (List.mem_of_getElem? hHi)
      have r1 := pw_range (q := q) (x := g) (e := ss.getD (pm.getD i 0).toNat 0) (show 1 ≤ p by omega)
      have hrow : getI (rowN n C) (pm.getD i 0) = some (C (pm.getD i 0).toNat) := by
        obtain ⟨k, hk⟩ : ∃ k : Nat, pm.getD i 0 = (k : Int) := ⟨(pm.getD i 0).toNat, by omega⟩
        rw [hk, getI_nat, Int.toNat_natCast]
        exact rowN_get (by omega)
      dsimp only
      rw [lt_yes hi, cond_true, getI_nat, permB_at hp hi, bindO_some', permB_get hp hi hs 0, bindO_some', pow_pw h hg.1 hg.2, bindO_some', getI_nat, hHi, bindO_some', mul2' h ⟨r1.1, by omega⟩ hHr, bindO_some', hrow, bindO_some', bindO_some', hset i C hi, i64_succ (by omega), bindO_some']
      rfl
    · dsimp only
      rw [lt_no, cond_false]
def chS (p q g : Int) (es ts : List Int) (i : Nat) (s : Int × List Int) : Int × List Int := (prodM p 1 [pw p q g (ts.getD i 0), pw p q s.1 (es.getD i 0)], s.2 ++ [prodM p 1 [pw p q g (ts.getD i 0), pw p q s.1 (es.getD i 0)]])
def chN (p q g H : Int) (es ts : List Int) : List Int := (iterN (chS p q g es ts) (H, []) es.length).2
theorem chN_inv {p q g H : Int} {es ts : List Int} (hp : 2 ≤ p) (hH : 0 ≤ H ∧ H ≤ p) (n : Nat) : (iterN (chS p q g es ts) (H, []) n).2.length = n ∧ inB p (iterN (chS p q g es ts) (H, []) n).2 ∧ (0 ≤ (iterN (chS p q g es ts) (H, []) n).1 ∧ (iterN (chS p q g es ts) (H, []) n).1 ≤ p) :=
  iterN_inv (f := chS p q g es ts) (s0 := (H, [])) (Inv := fun k s => s.2.length = k ∧ inB p s.2 ∧ (0 ≤ s.1 ∧ s.1 ≤ p)) ⟨rfl, show inB p [] from fun x hx => absurd hx List.not_mem_nil, hH⟩ n fun i s _ hv => by
    have := prod2_in (a := pw p q g (ts.getD i 0)) (b := pw p q s.1 (es.getD i 0)) hp
    refine ⟨by simp [chS, hv.1], inB_append hv.2.1 fun x hx => ?_, by show 0 ≤ prodM p 1 [_, _] ∧ prodM p 1 [_, _] ≤ p; omega⟩
    have e : x = prodM p 1 [pw p q g (ts.getD i 0), pw p q s.1 (es.getD i 0)] := by simpa using hx
    rw [e]
    exact this
theorem chain_both {p q g H : Int} {Hs es ts : List Int} (h : Gr p q g) (hH : 0 ≤ H ∧ H ≤ p) (hl : ts.length = es.length) (hn : es.length ≤ 24) :
    M_S_mChain ((p, q, g), (H, Hs), es, ts) = some (chN p q g H es ts) ∧ M_I_Group_chain ((p, q, g), H, es, ts) = some (chN p q g H es ts) := by
  have hp3 := h.p3
  have hg := isEl_in (isEl_g h)
  constructor
  · unfold M_S_mChain
    dsimp only
    refine iter_loop (chS p q g es ts) (H, []) es.length (fun i s => (s.2, s.1, i)) (fun s => some s.2) (fun k s => s = iterN (chS p q g es ts) (H, []) k) (by omega) rfl (fun i s _ hv => by rw [hv]; rfl) (fun again i s hi hv => ?_) (fun again s hv => ?_)
    · have hin := chN_inv (es := es) (ts := ts) (q := q) (g := g) (show 2 ≤ p by omega) hH i
      rw [← hv] at hin
      have r1 := pw_range (q := q) (x := g) (e := ts.getD i 0) (show 1 ≤ p by omega)
      have r2 := pw_range (q := q) (x := s.1) (e := es.getD i 0) (show 1 ≤ p by omega)
      dsimp only
      rw [lt_yes hi, cond_true, getI_nat, getD_at (d := (0 : Int)) hi, bindO_some', getI_nat, getD_at (d := (0 : Int)) (l := ts) (i := i) (by omega), bindO_some', gExp_pw h hg.1 hg.2, bindO_some', gExp_pw h hin.2.2.1 hin.2.2.2, bindO_some', mul2 h ⟨r1.1, by omega⟩ ⟨r2.1, by omega⟩, bindO_some',
        guardO_of (lenOk_of (by rw [hin.1]; simp only [List.length_cons, List.length_nil]; omega)), bindO_some', bindO_some', i64_succ (by omega), bindO_some']
      rfl
    · dsimp only
      rw [lt_no, cond_false]
  · unfold M_I_Group_chain
    dsimp only
    refine iter_loop (chS p q g es ts) (H, []) es.length (fun i s => (s.1, s.2, i)) (fun s => some s.2) (fun k s => s = iterN (chS p q g es ts) (H, []) k) (by omega) rfl (fun i s _ hv => by rw [hv]; rfl) (fun again i s hi hv => ?_) (fun again s hv => ?_)
    · have hin := chN_inv (es := es) (ts := ts) (q := q) (g := g) (show 2 ≤ p by omega) hH i
      rw [← hv] at hin
      have r1 := pw_range (q := q) (x := g) (e := ts.getD i 0) (show 1 ≤ p by omega)
      have r2 := pw_range (q := q) (x := s.1) (e := es.getD i 0) (show 1 ≤ p by omega)
      dsimp only
      rw [lt_yes hi, cond_true, getI_nat, getD_at (d := (0 : Int)) hi, bindO_some', getI_nat, getD_at (d := (0 : Int)) (l := ts) (i := i) (by omega), bindO_some', pow_pw h hg.1 hg.2, bindO_some', pow_pw h hin.2.2.1 hin.2.2.2, bindO_some', mul2' h ⟨r1.1, by omega⟩ ⟨r2.1, by omega⟩, bindO_some',
        guardO_of (lenOk_of (by rw [hin.1]; simp only [List.length_cons, List.length_nil]; omega)), bindO_some', bindO_some', i64_succ (by omega), bindO_some']
      rfl
    · dsimp only
      rw [lt_no, cond_false]
def sumQ (q : Int) (l : List Int) : Int := iterN (fun i s => (s + l.getD i 0) % q) 0 l.length
theorem sumQ_in {q : Int} (hq : 2 ≤ q) (l : List Int) (n : Nat) : 0 ≤ iterN (fun i s => (s + l.getD i 0) % q) 0 n ∧ iterN (fun i s => (s + l.getD i 0) % q) 0 n < q :=
  iterN_inv (Inv := fun _ s => 0 ≤ s ∧ s < q) (by omega) n fun i s _ _ => ⟨Int.emod_nonneg _ (by omega), Int.emod_lt_of_pos _ (by omega)⟩
theorem sum_both {q : Int} {l : List Int} (hq : 2 ≤ q ∧ q ≤ 2000000000) (hl : inF q l) (hn : l.length ≤ 1000) : M_S_nSum (l, q) = some (sumQ q l) ∧ M_I_sum (l, q) = some (sumQ q l) := by
  have hg0 : guardO (q != 0) = some () := guardO_of (bne_iff_ne.2 (by omega))
  constructor
  · unfold M_S_nSum
    dsimp only
    refine iter_loop (fun i s => (s + l.getD i 0) % q) 0 l.length (fun i s => (s, i)) (fun s => some s) (fun _ s => 0 ≤ s ∧ s < q) (by omega) (by omega) (fun i s _ _ => ⟨Int.emod_nonneg _ (by omega), Int.emod_lt_of_pos _ (by omega)⟩) (fun again i s hi hv => ?_) (fun again s hv => ?_)
    · have hr := inF_get hl hi
      dsimp only
      rw [lt_yes hi, cond_true, getI_nat, getD_at (d := (0 : Int)) hi, bindO_some', i64_in _ (by omega), bindO_some', hg0, bindO_some', bindO_some', tmod_nn (by omega), i64_succ (by omega), bindO_some']
    · dsimp only
      rw [lt_no, cond_false]
  · unfold M_I_sum
    dsimp only
    refine iter_loop (fun i s => (s + l.getD i 0) % q) 0 l.length (fun i s => (s, i)) (fun s => some s) (fun _ s => 0 ≤ s ∧ s < q) (by omega) (by omega) (fun i s _ _ => ⟨Int.emod_nonneg _ (by omega), Int.emod_lt_of_pos _ (by omega)⟩) (fun again i s hi hv => ?_) (fun again s hv => ?_)
    · have hr := inF_get hl hi
      dsimp only
      rw [lt_yes hi, cond_true, getI_nat, getD_at (d := (0 : Int)) hi, bindO_some', i64_in _ (by omega), bindO_some', hg0, bindO_some', bindO_some', tmod_nn (by omega), i64_succ (by omega), bindO_some']
    · dsimp only
      rw [lt_no, cond_false]
def dotQ (q : Int) (a b : List Int) : Int := sumN a.length (fun i => a.getD i 0 * b.getD i 0) % q
theorem dotQ_in {q : Int} (hq : 2 ≤ q) (a b : List Int) : 0 ≤ dotQ q a b ∧ dotQ q a b < q := ⟨Int.emod_nonneg _ (by omega), Int.emod_lt_of_pos _ (by omega)⟩
theorem nDotG {q : Int} {a b : List Int} (hq : 2 ≤ q ∧ q ≤ 2000000000) (ha : inF q a) (hb : inF q b) (hl : b.length = a.length) (hn : a.length ≤ 1000) : M_S_nDot (a, b, q) = some (dotQ q a b) := by
  have hg0 : guardO (q != 0) = some () := guardO_of (bne_iff_ne.2 (by omega))
  unfold M_S_nDot dotQ
  dsimp only
  refine (iter_loop (fun i (s : Int) => (s + a.getD i 0 * b.getD i 0) % q) 0 a.length (fun i s => (s, i)) (fun s => some s) (fun i s => s = sumN i (fun i => a.getD i 0 * b.getD i 0) % q) (by omega) (by simp [sumN]) (fun i s hi hv => ?_) (fun again i s hi hv => ?_) (fun again s hv => ?_)).trans ?_
  · subst hv
    exact Cg_eq (Cg_add (Cg_mod _) (Cg_refl _))
  · have hs : 0 ≤ s ∧ s < q := by
      subst hv
      exact ⟨Int.emod_nonneg _ (by omega), Int.emod_lt_of_pos _ (by omega)⟩
    have har := inF_get ha hi
    have hbr := inF_get hb (i := i) (by omega)
    have hp := prod_small hq.2 har hbr
    dsimp only
    rw [lt_yes hi, cond_true, getI_nat, getD_at (d := (0 : Int)) hi, bindO_some', getI_nat, getD_at (d := (0 : Int)) (l := b) (i := i) (by omega), bindO_some', i64_in _ (by omega), bindO_some', i64_in _ (by omega), bindO_some', hg0, bindO_some', bindO_some', tmod_nn (by omega), i64_succ (by omega), bindO_some']
  · dsimp only
    rw [lt_no, cond_false]
  · refine congrArg some ?_
    exact iterN_inv (f := fun i (s : Int) => (s + a.getD i 0 * b.getD i 0) % q) (s0 := 0) (Inv := fun i s => s = sumN i (fun i => a.getD i 0 * b.getD i 0) % q) (by simp [sumN]) a.length fun i s hi hv => by
      subst hv
      exact Cg_eq (Cg_add (Cg_mod _) (Cg_refl _))
theorem dot_both {q : Int} {a b : List Int} (hq : 2 ≤ q ∧ q ≤ 2000000000) (ha : inF q a) (hb : inF q b) (hl : b.length = a.length) (hn : a.length ≤ 1000) : M_S_nDot (a, b, q) = some (dotQ q a b) ∧ M_I_dot (a, b, q) = some (dotQ q a b) := ⟨nDotG hq ha hb hl hn, dotG hq ha hb hl hn⟩
def atL (l pm : List Int) : List Int := (List.range pm.length).map fun i => l.getD (pm.getD i 0).toNat 0
theorem atL_len {l pm : List Int} : (atL l pm).length = pm.length := by simp [atL]
theorem atL_inF {q : Int} {l pm : List Int} (hp : permB l.length pm) (hl : inF q l) : inF q (atL l pm) := fun x hx => by
  obtain ⟨i, hi, rfl⟩ := List.mem_map.1 hx
  have hi := List.mem_range.1 hi
  rw [hp.1] at hi
  have := hp.2 i hi
  exact inF_get hl (by omega)
theorem atL_get {l pm : List Int} {i : Nat} (hi : i < pm.length) : (atL l pm)[i]? = some (l.getD (pm.getD i 0).toNat 0) := by
  unfold atL
  rw [List.getElem?_map, List.getElem?_range hi]
  rfl
theorem atL_getD {l pm : List Int} {i : Nat} (hi : i < pm.length) : (atL l pm).getD i 0 = l.getD (pm.getD i 0).toNat 0 := by
  rw [List.getD_eq_getElem?_getD, atL_get hi, Option.getD_some]
theorem atL_eq {l pm : List Int} (hp : permB l.length pm) (hn : l.length ≤ 100) : M_I_at (l, pm) = some (atL l pm) := by
  have hpl := hp.1
  unfold M_I_at
  dsimp only
  refine append_loop (atL l pm) some (fun again i a s ha hi hs => ?_) (fun again s hs => ?_) (by rw [atL_len]; omega)
  · rw [atL_len] at hi
    rw [atL_get hi] at ha
    cases ha
    rw [lt_yes hi, cond_true, getI_nat, permB_at hp (by omega), bindO_some', permB_get hp (by omega) rfl 0, bindO_some', guardO_of (lenOk_of (by simp only [List.length_cons, List.length_nil]; omega)), bindO_some', bindO_some', i64_succ (by omega), bindO_some']
  · rw [atL_len, lt_no, cond_false]
structure MixIn (p q key H : Int) (Hs : List Int) (ins : List (Int × Int)) (pm rs : List Int) : Prop where
  n1 : 1 ≤ ins.length
  n2 : ins.length ≤ 12
  ki : isEl p q key = true
  hi : isEl p q H = true
  hs : Hs.all (isEl p q) = true
  hl : Hs.length = ins.length
  ii : ins.all (isCi p q) = true
  pm : permB ins.length pm
  rl : rs.length = ins.length
  ri : inF q rs
def mpE (p q g key : Int) (Hs : List Int) (ins : List (Int × Int)) (pm rs s : List Int) : List Int := chals p q g lCol (mixL key ins (mixO p q g key ins pm rs) (colN p q g Hs pm s)) ins.length
def mpY (q : Int) (own t : List Int) (n : Nat) : Int := iterN (fun i y => (t.getD i 0 + own.getD i 0 * y) % q) 0 n
def mpC (p q g key H : Int) (Hs : List Int) (out : List (Int × Int)) (chain w x : List Int) (a b d f : Int) (n : Nat) : List Int :=
  [pw p q g a, prodM p 1 [pw p q g b, gpf p q Hs x], pw p q g d, prodM p 1 [pw p q g (-f), gpf p q (out.map (·.1)) x], prodM p 1 [pw p q key (-f), gpf p q (out.map (·.2)) x]] ++
    (List.range n).map fun i => prodM p 1 [pw p q g (w.getD i 0), pw p q ((H :: chain).getD i 0) (x.getD i 0)]
def mpR (q z : Int) (s e own rs t w x : List Int) (a b d f y : Int) (n : Nat) : List Int :=
  ([(a + z * sumQ q s) % q, (b + z * dotQ q s e) % q, (d + z * y) % q, (f + z * dotQ q rs own) % q] ++ (List.range n).map fun i => (w.getD i 0 + z * t.getD i 0) % q) ++ (List.range n).map fun i => (x.getD i 0 + z * own.getD i 0) % q
def mPf (p q g key H : Int) (Hs : List Int) (ins : List (Int × Int)) (pm rs s t w x : List Int) (a b d f : Int) : Mp :=
  let out := mixO p q g key ins pm rs
  let cols := colN p q g Hs pm s
  let e := mpE p q g key Hs ins pm rs s
  let own := atL e pm
  let chain := chN p q g H own t
  let cs := mpC p q g key H Hs out chain w x a b d f ins.length
  let z := mZ p q g key ins out cols chain cs
  (cols, chain, (cs, [z], mpR q z s e own rs t w x a b d f (mpY q own t ins.length) ins.length))
theorem inF_chals {p q g : Int} (h : Gr p q g) {s : ByteArray} {l : List Int} {n : Nat} : inF q (chals p q g s l n) := fun e he => by
  have := chals_range h e he
  omega
theorem mpY_in {q : Int} (hq : 2 ≤ q) (own t : List Int) (n : Nat) : 0 ≤ mpY q own t n ∧ mpY q own t n < q :=
  iterN_inv (Inv := fun _ s => 0 ≤ s ∧ s < q) (by omega) n fun i s _ _ => ⟨Int.emod_nonneg _ (by omega), Int.emod_lt_of_pos _ (by omega)⟩
theorem mpC_len {p q g key H : Int} {Hs : List Int} {out : List (Int × Int)} {chain w x : List Int} {a b d f : Int} {n : Nat} : (mpC p q g key H Hs out chain w x a b d f n).length = 5 + n := by
  simp [mpC]
  omega
theorem mpC_in {p q g key H : Int} (hp : 2 ≤ p) {Hs : List Int} {out : List (Int × Int)} {chain w x : List Int} {a b d f : Int} {n : Nat} : inB p (mpC p q g key H Hs out chain w x a b d f n) := by
  refine inB_append (fun y hy => ?_) (inB_map fun i _ => prod2_in hp)
  simp only [List.mem_cons, List.not_mem_nil, or_false] at hy
  rcases hy with rfl | rfl | rfl | rfl | rfl
  · exact pw_range (by omega)
  · exact prod2_in hp
  · exact pw_range (by omega)
  · exact prod2_in hp
  · exact prod2_in hp
theorem getI_mid {u v : List Int} {a : Int} {n : Nat} (h : u.length = n) : getI (u ++ a :: v) (n : Int) = some a := by
  rw [getI_nat, List.getElem?_append_right (by omega), h, Nat.sub_self]
  rfl
theorem take_mid {u v : List Int} {n : Nat} (h : u.length = n) : (u ++ v).take n = u := by rw [← h, List.take_left']; rfl
theorem drop_mid {u v : List Int} {n : Nat} (h : u.length = n) : (u ++ v).drop n = v := by rw [← h, List.drop_left']; rfl
theorem cut_mid {u v w : List Int} {n m : Nat} (h : u.length = n) (h2 : n + v.length = m) : ((u ++ (v ++ w)).take m).drop n = v := by
  rw [← List.append_assoc, take_mid (u := u ++ v) (by rw [List.length_append]; omega), drop_mid h]
theorem mprod {q z b : Int} (hq : q ≤ 2000000000) (hz : 0 ≤ z ∧ z ≤ q - 1) (hb : 0 ≤ b ∧ b < q) : IntKind.wrap .i64 (z * b) = z * b ∧ 0 ≤ z * b ∧ z * b ≤ 4000000000000000000 := by
  have hp := prod_small hq (a := z) (b := b) (by omega) hb
  exact ⟨i64_in _ (by omega), hp⟩
set_option maxHeartbeats 2000000 in
theorem mProve_eq {p q g key H : Int} {Hs : List Int} {ins : List (Int × Int)} {pm rs s t w x : List Int} {a b d f : Int} (h : Gr p q g) (hM : MixIn p q key H Hs ins pm rs)
    (ls : s.length = ins.length) (lt : t.length = ins.length) (lw : w.length = ins.length) (lx : x.length = ins.length) (is_ : inF q s) (it : inF q t) (iw : inF q w) (ix : inF q x) (ia : 0 ≤ a ∧ a < q) (ib : 0 ≤ b ∧ b < q) (id_ : 0 ≤ d ∧ d < q) (if_ : 0 ≤ f ∧ f < q) :
    M_S_mProve ((p, q, g), key, (H, Hs), ins, pm, rs, s ++ (t ++ (a :: b :: d :: f :: (w ++ x)))) = some (mPf p q g key H Hs ins pm rs s t w x a b d f) := by
  have h3 := h.p3; have hpm := h.pm; have hq2 := h.q2; have hqp := h.qp
  have hqm : q ≤ 2000000000 := by omega
  have hg := isEl_in (isEl_g h)
  have hg0 : guardO (q != 0) = some () := guardO_of (bne_iff_ne.2 (by omega))
  obtain ⟨n1, n2, ki, hHi, hHs, hHl, hii, hp, hrl, hri⟩ := hM
  have hkey := isEl_in ki
  have hHr := isEl_in hHi
  have hHs' : ∀ y ∈ Hs, 0 ≤ y ∧ y ≤ p := fun y hy => isEl_in (List.all_eq_true.1 hHs y hy)
  obtain ⟨n, hn⟩ : ∃ n, n = ins.length := ⟨_, rfl⟩
  have hci := mixO_ci (rs := rs) h ki hii hp
  have holen : (mixO p q g key ins pm rs).length = n := by rw [mixO_len, hp.1, hn]
  obtain ⟨hc1, hc2⟩ := comp_in hci
  unfold M_S_mProve
  dsimp only
  have clen : (s ++ (t ++ (a :: b :: d :: f :: (w ++ x)))).length = 4 * n + 4 := by
    simp only [List.length_append, List.length_cons]
    omega
  have e2 : s ++ (t ++ (a :: b :: d :: f :: (w ++ x))) = (s ++ t) ++ (a :: (b :: d :: f :: (w ++ x))) := by simp
  have e3 : s ++ (t ++ (a :: b :: d :: f :: (w ++ x))) = (s ++ t ++ [a]) ++ (b :: (d :: f :: (w ++ x))) := by simp
  have e4 : s ++ (t ++ (a :: b :: d :: f :: (w ++ x))) = (s ++ t ++ [a, b]) ++ (d :: (f :: (w ++ x))) := by simp
  have e5 : s ++ (t ++ (a :: b :: d :: f :: (w ++ x))) = (s ++ t ++ [a, b, d]) ++ (f :: (w ++ x)) := by simp
  have e6 : s ++ (t ++ (a :: b :: d :: f :: (w ++ x))) = (s ++ t ++ [a, b, d, f]) ++ (w ++ x) := by simp
  have e7 : s ++ (t ++ (a :: b :: d :: f :: (w ++ x))) = (s ++ t ++ [a, b, d, f] ++ w) ++ x := by simp
  have g1 : getI (s ++ (t ++ (a :: b :: d :: f :: (w ++ x)))) ((2 * n : Nat) : Int) = some a := by rw [e2]; exact getI_mid (by simp; omega)
  have g2 : getI (s ++ (t ++ (a :: b :: d :: f :: (w ++ x)))) ((2 * n + 1 : Nat) : Int) = some b := by rw [e3]; exact getI_mid (by simp; omega)
  have g3 : getI (s ++ (t ++ (a :: b :: d :: f :: (w ++ x)))) ((2 * n + 2 : Nat) : Int) = some d := by rw [e4]; exact getI_mid (by simp; omega)
  have g4 : getI (s ++ (t ++ (a :: b :: d :: f :: (w ++ x)))) ((2 * n + 3 : Nat) : Int) = some f := by rw [e5]; exact getI_mid (by simp; omega)
  have t1 : (s ++ (t ++ (a :: b :: d :: f :: (w ++ x)))).take n = s := take_mid (by omega)
  have t2 : ((s ++ (t ++ (a :: b :: d :: f :: (w ++ x)))).take (2 * n)).drop n = t := cut_mid (by omega) (by omega)
  have t3 : ((s ++ (t ++ (a :: b :: d :: f :: (w ++ x)))).take (3 * n + 4)).drop (2 * n + 4) = w := by rw [e6]; exact cut_mid (by simp; omega) (by omega)
  have t4 : (s ++ (t ++ (a :: b :: d :: f :: (w ++ x)))).drop (3 * n + 4) = x := by rw [e7]; exact drop_mid (by simp; omega)
  generalize hco : s ++ (t ++ (a :: b :: d :: f :: (w ++ x))) = co at clen g1 g2 g3 g4 t1 t2 t3 t4 ⊢
  have w2 : IntKind.wrap .i64 ((2 : Int) * (ins.length : Int)) = ((2 * n : Nat) : Int) := by rw [i64_in _ (by omega)]; omega
  have w3 : IntKind.wrap .i64 ((3 : Int) * (ins.length : Int)) = ((3 * n : Nat) : Int) := by rw [i64_in _ (by omega)]; omega
  have wa : ∀ (m k : Nat), m ≤ 1000 → k ≤ 10 → IntKind.wrap .i64 (((m : Nat) : Int) + (k : Int)) = ((m + k : Nat) : Int) := fun m k _ _ => by rw [i64_in _ (by omega)]; omega
  have w21 : IntKind.wrap .i64 (((2 * n : Nat) : Int) + 1) = ((2 * n + 1 : Nat) : Int) := wa (2 * n) 1 (by omega) (by omega)
  have w22 : IntKind.wrap .i64 (((2 * n : Nat) : Int) + 2) = ((2 * n + 2 : Nat) : Int) := wa (2 * n) 2 (by omega) (by omega)
  have w23 : IntKind.wrap .i64 (((2 * n : Nat) : Int) + 3) = ((2 * n + 3 : Nat) : Int) := wa (2 * n) 3 (by omega) (by omega)
  have w24 : IntKind.wrap .i64 (((2 * n : Nat) : Int) + 4) = ((2 * n + 4 : Nat) : Int) := wa (2 * n) 4 (by omega) (by omega)
  have w34 : IntKind.wrap .i64 (((3 * n : Nat) : Int) + 4) = ((3 * n + 4 : Nat) : Int) := wa (3 * n) 4 (by omega) (by omega)
  rw [show M_S_mMix ((p, q, g), key, ins, pm, rs) = _ from (mix_both h ki hii hp hrl (by omega)).1, bindO_some', sliceNH_nat (by omega), bindO_some', w2, bindO_some', ← hn,
    show sliceLH (n : Int) ((2 * n : Nat) : Int) co.length = some (n, 2 * n) from sliceLH_nat (by omega) (by omega), bindO_some', bindO_some', g1, bindO_some', bindO_some', w21, bindO_some', g2, bindO_some', bindO_some', w22, bindO_some', g3, bindO_some', bindO_some', w23, bindO_some', g4, bindO_some', bindO_some', w24, bindO_some', hn, w3, ← hn, bindO_some', w34, bindO_some',
    show sliceLH ((2 * n + 4 : Nat) : Int) ((3 * n + 4 : Nat) : Int) co.length = some (2 * n + 4, 3 * n + 4) from sliceLH_nat (by omega) (by omega), bindO_some', bindO_some', w34, bindO_some', sliceLN_nat (by omega), bindO_some']
  dsimp only
  rw [List.drop_zero, t1, t2, t3, show co.take co.length = co from List.take_length, t4]
  have hcolI := colN_in (q := q) (g := g) (Hs := Hs) (pm := pm) (ss := s) (show 2 ≤ p by omega)
  have hcolL : (colN p q g Hs pm s).length = n := by rw [colN_len, hp.1, hn]
  rw [show M_S_mColumns ((p, q, g), (H, Hs), pm, s) = _ from (columns_both h hHs' hp hHl ls (by omega)).1, bindO_some',
    show M_S_mChallenges ((p, q, g), key, ins, mixO p q g key ins pm rs, colN p q g Hs pm s) = _ from mChallenges_eq h ki hii hci (by omega) (by omega) (inB_okD h hcolI) (by omega), bindO_some']
  unfold mPf mpE
  dsimp only
  have heL : (chals p q g lCol (mixL key ins (mixO p q g key ins pm rs) (colN p q g Hs pm s)) ins.length).length = n := by rw [chals_len, hn]
  have heI : inF q (chals p q g lCol (mixL key ins (mixO p q g key ins pm rs) (colN p q g Hs pm s)) ins.length) := inF_chals h
  generalize chals p q g lCol (mixL key ins (mixO p q g key ins pm rs) (colN p q g Hs pm s)) ins.length = e at heL heI ⊢
  have hpe : permB e.length pm := by rw [heL, hn]; exact hp
  have hown := atL_inF hpe heI
  have hownL : (atL e pm).length = n := by rw [atL_len, hp.1, hn]
  have hpl : pm.length = n := by rw [hp.1, hn]
  refine loopO_to (fun i => ((atL e pm).take i, mpY q (atL e pm) t i, (i : Int))) n _ (by omega) (fun again => ?_) (fun again i hi ih => ?_)
  rotate_left
  · dsimp only
    have oi := atL_get (l := e) (pm := pm) (i := i) (by omega)
    have oi2 := atL_getD (l := e) (pm := pm) (i := i) (by omega)
    have hoi := inF_get hown (i := i) (by omega)
    rw [oi2] at hoi
    have hti := inF_get it (i := i) (by omega)
    have hy := mpY_in hq2 (atL e pm) t i
    have hpr := prod_small hqm hoi hy
    have hge : getI e (pm.getD i 0) = some (e.getD (pm.getD i 0).toNat 0) := permB_get hpe (by omega) rfl 0
    rw [hpl, lt_yes hi, cond_true, getI_nat, permB_at hp (by omega), bindO_some', hge, bindO_some', guardO_of (lenOk_of (by rw [List.length_take]; simp only [List.length_cons, List.length_nil]; omega)), bindO_some', bindO_some', getI_nat, getD_at (d := (0 : Int)) (l := t) (i := i) (by omega), bindO_some', bindO_some', i64_in _ (by omega), bindO_some', i64_in _ (by omega), bindO_some', hg0, bindO_some', bindO_some', tmod_nn (by omega), i64_succ (by omega), bindO_some']
    refine Eq.trans ?_ ih
    rw [List.take_add_one, oi]
    unfold mpY
    show again (_, _, _) = again (_, (t.getD i 0 + (atL e pm).getD i 0 * _) % q, _)
    rw [oi2]
    rfl
  dsimp only
  have hch := chN_inv (q := q) (g := g) (es := atL e pm) (ts := t) (show 2 ≤ p by omega) hHr (atL e pm).length
  obtain ⟨k1, k2, -⟩ := hch
  have k1 : (chN p q g H (atL e pm) t).length = n := by show (iterN (chS p q g (atL e pm) t) (H, []) (atL e pm).length).2.length = n; omega
  have k2 : inB p (chN p q g H (atL e pm) t) := k2
  have hPt : (atL e pm).take n = atL e pm := List.take_of_length_le (by omega)
  rw [hpl, lt_no, cond_false, hPt, show M_S_mChain ((p, q, g), (H, Hs), atL e pm, t) = _ from (chain_both h hHr (by omega) (by omega)).1, bindO_some']
  generalize chN p q g H (atL e pm) t = chain at k1 k2 ⊢
  have ra := pw_range (q := q) (x := g) (e := b) (show 1 ≤ p by omega)
  have rb := gpf_range (q := q) (show 2 ≤ p by omega) Hs x
  have rf := pw_range (q := q) (x := g) (e := -f) (show 1 ≤ p by omega)
  have rk := pw_range (q := q) (x := key) (e := -f) (show 1 ≤ p by omega)
  have r1 := gpf_range (q := q) (show 2 ≤ p by omega) ((mixO p q g key ins pm rs).map (·.1)) x
  have r2 := gpf_range (q := q) (show 2 ≤ p by omega) ((mixO p q g key ins pm rs).map (·.2)) x
  rw [sides1 (by omega), bindO_some', gExp_pw h hg.1 hg.2, bindO_some', gExp_pw h hg.1 hg.2, bindO_some', gProd_eq h (by omega) hHs' (by omega), bindO_some', mul2 h ⟨ra.1, by omega⟩ ⟨rb.1, by omega⟩, bindO_some', gExp_pw h hg.1 hg.2, bindO_some', neg_in hqm ⟨if_.1, by omega⟩, bindO_some', gExp_pw h hg.1 hg.2, bindO_some']
  dsimp only
  rw [gProd_eq h (by rw [List.length_map]; omega) hc1 (by rw [List.length_map]; omega), bindO_some', mul2 h ⟨rf.1, by omega⟩ ⟨r1.1, by omega⟩, bindO_some', bindO_some', gExp_pw h hkey.1 hkey.2, bindO_some', gProd_eq h (by rw [List.length_map]; omega) hc2 (by rw [List.length_map]; omega), bindO_some', mul2 h ⟨rk.1, by omega⟩ ⟨r2.1, by omega⟩, bindO_some']
  refine grow_loop (fun i => prodM p 1 [pw p q g (w.getD i 0), pw p q ((H :: chain).getD i 0) (x.getD i 0)]) [pw p q g a, prodM p 1 [pw p q g b, gpf p q Hs x], pw p q g d, prodM p 1 [pw p q g (-f), gpf p q ((mixO p q g key ins pm rs).map (·.1)) x], prodM p 1 [pw p q key (-f), gpf p q ((mixO p q g key ins pm rs).map (·.2)) x]]
    (fun i l => ((H :: chain).getD i 0, (i : Int), colN p q g Hs pm s, chain, l, [], [])) _ (n := n) (by omega) (fun again i l hi hl => ?_) (fun again => ?_)
  · have hci2 : 0 ≤ (H :: chain).getD i 0 ∧ (H :: chain).getD i 0 ≤ p := by
      cases i with
      | zero => exact hHr
      | succ i =>
        have := k2 _ (List.mem_of_getElem? (getD_at (d := (0 : Int)) (l := chain) (i := i) (by omega)))
        rw [List.getD_cons_succ]
        omega
    have q1 := pw_range (q := q) (x := g) (e := w.getD i 0) (show 1 ≤ p by omega)
    have q2 := pw_range (q := q) (x := (H :: chain).getD i 0) (e := x.getD i 0) (show 1 ≤ p by omega)
    simp only [List.length_cons, List.length_nil] at hl
    dsimp only
    rw [lt_yes hi, cond_true, getI_nat, getD_at (d := (0 : Int)) (l := w) (i := i) (by omega), bindO_some', gExp_pw h hg.1 hg.2, bindO_some', getI_nat, getD_at (d := (0 : Int)) (l := x) (i := i) (by omega), bindO_some', gExp_pw h hci2.1 hci2.2, bindO_some', mul2 h ⟨q1.1, by omega⟩ ⟨q2.1, by omega⟩, bindO_some', guardO_of (lenOk_of (by simp only [List.length_cons, List.length_nil]; omega)), bindO_some', bindO_some', getI_nat, getD_at (d := (0 : Int)) (l := chain) (i := i) (by omega), bindO_some', i64_succ (by omega), bindO_some', List.getD_cons_succ]
  dsimp only
  have hcI := mpC_in (q := q) (g := g) (key := key) (H := H) (show 2 ≤ p by omega) (Hs := Hs) (out := mixO p q g key ins pm rs) (chain := chain) (w := w) (x := x) (a := a) (b := b) (d := d) (f := f) (n := n)
  have hcL := mpC_len (p := p) (q := q) (g := g) (key := key) (H := H) (Hs := Hs) (out := mixO p q g key ins pm rs) (chain := chain) (w := w) (x := x) (a := a) (b := b) (d := d) (f := f) (n := n)
  unfold mpC at hcI hcL ⊢
  rw [← hn]
  generalize [pw p q g a, prodM p 1 [pw p q g b, gpf p q Hs x], pw p q g d, prodM p 1 [pw p q g (-f), gpf p q ((mixO p q g key ins pm rs).map (·.1)) x], prodM p 1 [pw p q key (-f), gpf p q ((mixO p q g key ins pm rs).map (·.2)) x]] ++ (List.range n).map (fun i => prodM p 1 [pw p q g (w.getD i 0), pw p q ((H :: chain).getD i 0) (x.getD i 0)]) = cs at hcI hcL ⊢
  rw [lt_no, cond_false, show M_S_mChallenge ((p, q, g), key, ins, mixO p q g key ins pm rs, colN p q g Hs pm s, chain, cs, [], []) = _ from mChallenge_eq (pf := (cs, [], [])) h ki hii hci (by omega) (by omega) (inB_okD h hcolI) (inB_okD h k2) (inB_okD h hcI) (by omega) (by omega) (show cs.length ≤ 24 by omega), bindO_some']
  have hz : 0 ≤ mZ p q g key ins (mixO p q g key ins pm rs) (colN p q g Hs pm s) chain cs ∧ mZ p q g key ins (mixO p q g key ins pm rs) (colN p q g Hs pm s) chain cs ≤ q - 1 := chal_range h _ _
  generalize mZ p q g key ins (mixO p q g key ins pm rs) (colN p q g Hs pm s) chain cs = z at hz ⊢
  have s1 := sumQ_in hq2 s s.length
  have s2 := dotQ_in hq2 s e
  have s3 := mpY_in hq2 (atL e pm) t n
  have s4 := dotQ_in hq2 rs (atL e pm)
  obtain ⟨m1, m1', m1''⟩ := mprod hqm hz (show 0 ≤ sumQ q s ∧ sumQ q s < q from s1)
  obtain ⟨m2, m2', m2''⟩ := mprod hqm hz s2
  obtain ⟨m3, m3', m3''⟩ := mprod hqm hz s3
  obtain ⟨m4, m4', m4''⟩ := mprod hqm hz s4
  rw [(sum_both ⟨hq2, hqm⟩ is_ (by omega)).1, bindO_some', m1, bindO_some', i64_in (a + _) (by omega), bindO_some', hg0, bindO_some', bindO_some', tmod_nn (by omega), (dot_both ⟨hq2, hqm⟩ is_ heI (by omega) (by omega)).1, bindO_some', m2, bindO_some', i64_in (b + _) (by omega), bindO_some', bindO_some', bindO_some', tmod_nn (by omega), m3, bindO_some', i64_in (d + _) (by omega), bindO_some', bindO_some', bindO_some', tmod_nn (by omega), (dot_both ⟨hq2, hqm⟩ hri hown (by omega) (by omega)).1, bindO_some', m4, bindO_some', i64_in (f + _) (by omega), bindO_some', bindO_some', bindO_some', tmod_nn (by omega)]
  unfold mpR
  refine grow_loop (fun i => (w.getD i 0 + z * t.getD i 0) % q) [(a + z * sumQ q s) % q, (b + z * dotQ q s e) % q, (d + z * mpY q (atL e pm) t n) % q, (f + z * dotQ q rs (atL e pm)) % q] (fun i l => ((i : Int), colN p q g Hs pm s, chain, cs, [z], l)) _ (n := n) (by omega) (fun again i l hi hl => ?_) (fun again => ?_)
  · have q1 := inF_get iw (i := i) (by omega)
    have q2 := inF_get it (i := i) (by omega)
    obtain ⟨m5, m5', m5''⟩ := mprod hqm hz q2
    simp only [List.length_cons, List.length_nil] at hl
    dsimp only
    rw [lt_yes hi, cond_true, getI_nat, getD_at (d := (0 : Int)) (l := w) (i := i) (by omega), bindO_some', getI_nat, getD_at (d := (0 : Int)) (l := t) (i := i) (by omega), bindO_some', m5, bindO_some', i64_in _ (by omega), bindO_some', bindO_some', bindO_some', tmod_nn (by omega), guardO_of (lenOk_of (by simp only [List.length_cons, List.length_nil]; omega)), bindO_some', bindO_some', i64_succ (by omega), bindO_some']
  dsimp only
  rw [lt_no, cond_false]
  refine grow_loop (fun i => (x.getD i 0 + z * (atL e pm).getD i 0) % q) ([(a + z * sumQ q s) % q, (b + z * dotQ q s e) % q, (d + z * mpY q (atL e pm) t n) % q, (f + z * dotQ q rs (atL e pm)) % q] ++ (List.range n).map (fun i => (w.getD i 0 + z * t.getD i 0) % q)) (fun i l => ((i : Int), colN p q g Hs pm s, chain, cs, [z], l)) _ (n := n) (by omega) (fun again i l hi hl => ?_) (fun again => ?_)
  · have q1 := inF_get ix (i := i) (by omega)
    have q2 := inF_get hown (i := i) (by omega)
    obtain ⟨m5, m5', m5''⟩ := mprod hqm hz q2
    simp only [List.length_append, List.length_map, List.length_range, List.length_cons, List.length_nil] at hl
    dsimp only
    rw [lt_yes hi, cond_true, getI_nat, getD_at (d := (0 : Int)) (l := x) (i := i) (by omega), bindO_some', getI_nat, getD_at (d := (0 : Int)) (l := atL e pm) (i := i) (by omega), bindO_some', m5, bindO_some', i64_in _ (by omega), bindO_some', bindO_some', bindO_some', tmod_nn (by omega), guardO_of (lenOk_of (by simp only [List.length_cons, List.length_nil]; omega)), bindO_some', bindO_some', i64_succ (by omega), bindO_some']
  dsimp only
  rw [lt_no, cond_false]
theorem take_app {u v : List Int} {n : Nat} (h : u.length = n) : M_I_taker_take (u ++ v, (n : Int)) = some (u, v) := by
  rw [take_eq (by rw [List.length_append]; omega), take_mid h, drop_mid h]
theorem take_all {u : List Int} {n : Nat} (h : u.length = n) : M_I_taker_take (u, (n : Int)) = some (u, []) := by
  have := take_app (u := u) (v := []) h
  rwa [List.append_nil] at this
theorem one_cons {u : List Int} {a : Int} : M_I_taker_one (a :: u) = some (a, u) := takeOne_eq (by simp)
set_option maxHeartbeats 2000000 in
theorem proveMatrix_eq {p q g key H : Int} {Hs : List Int} {ins : List (Int × Int)} {pm rs s t w x : List Int} {a b d f : Int} (h : Gr p q g) (hM : MixIn p q key H Hs ins pm rs)
    (ls : s.length = ins.length) (lt : t.length = ins.length) (lw : w.length = ins.length) (lx : x.length = ins.length) (is_ : inF q s) (it : inF q t) (iw : inF q w) (ix : inF q x) (ia : 0 ≤ a ∧ a < q) (ib : 0 ≤ b ∧ b < q) (id_ : 0 ≤ d ∧ d < q) (if_ : 0 ≤ f ∧ f < q) :
    M_I_Group_proveMatrix ((p, q, g), (H, Hs), key, ins, pm, rs, s ++ (t ++ (a :: b :: d :: f :: (w ++ x)))) = some (mPf p q g key H Hs ins pm rs s t w x a b d f, true) := by
  have h3 := h.p3; have hpm := h.pm; have hq2 := h.q2; have hqp := h.qp
  have hqm : q ≤ 2000000000 := by omega
  have hg := isEl_in (isEl_g h)
  obtain ⟨n1, n2, ki, hHi, hHs, hHl, hii, hp, hrl, hri⟩ := hM
  have hkey := isEl_in ki
  have hHr := isEl_in hHi
  have hHs' : ∀ y ∈ Hs, 0 ≤ y ∧ y ≤ p := fun y hy => isEl_in (List.all_eq_true.1 hHs y hy)
  obtain ⟨n, hn⟩ : ∃ n, n = ins.length := ⟨_, rfl⟩
  have hci := mixO_ci (rs := rs) h ki hii hp
  have holen : (mixO p q g key ins pm rs).length = n := by rw [mixO_len, hp.1, hn]
  obtain ⟨hc1, hc2⟩ := comp_in hci
  have hcolI := colN_in (q := q) (g := g) (Hs := Hs) (pm := pm) (ss := s) (show 2 ≤ p by omega)
  have hcolL : (colN p q g Hs pm s).length = n := by rw [colN_len, hp.1, hn]
  have okL := okD_mixL h ki hii hci (inB_okD h hcolI)
  have hL := mixL_len (key := key) (ins := ins) (outs := mixO p q g key ins pm rs) (more := colN p q g Hs pm s)
  unfold M_I_Group_proveMatrix
  dsimp only
  rw [take_app ls, bindO_some']
  dsimp only
  rw [take_app lt, bindO_some']
  dsimp only
  rw [one_cons, bindO_some']
  dsimp only
  rw [one_cons, bindO_some']
  dsimp only
  rw [one_cons, bindO_some']
  dsimp only
  rw [one_cons, bindO_some']
  dsimp only
  rw [take_app lw, bindO_some']
  dsimp only
  rw [take_all lx, bindO_some']
  dsimp only
  rw [show M_I_Group_mix ((p, q, g), key, ins, pm, rs) = _ from (mix_both h ki hii hp hrl (by omega)).2, bindO_some', show M_I_Group_columnCommits ((p, q, g), (H, Hs), pm, s) = _ from (columns_both h hHs' hp hHl ls (by omega)).2, bindO_some',
    mixList_eq (by omega) (by omega) (by omega), bindO_some', show M_I_Group_challenges ((p, q, g), bytesOf [109, 105, 120, 32, 99, 111, 108, 117, 109, 110, 115], mixL key ins (mixO p q g key ins pm rs) (colN p q g Hs pm s), ((ins.length : Nat) : Int)) = _ from challenges_eq (s := lCol) h (by decide) okL (show 11 + _ ≤ 395 by omega) (by omega) n1, bindO_some']
  unfold mPf mpE
  dsimp only
  rw [Bool.not_true, cond_false]
  have heL : (chals p q g lCol (mixL key ins (mixO p q g key ins pm rs) (colN p q g Hs pm s)) ins.length).length = n := by rw [chals_len, hn]
  have heI : inF q (chals p q g lCol (mixL key ins (mixO p q g key ins pm rs) (colN p q g Hs pm s)) ins.length) := inF_chals h
  generalize chals p q g lCol (mixL key ins (mixO p q g key ins pm rs) (colN p q g Hs pm s)) ins.length = e at heL heI ⊢
  have hpe : permB e.length pm := by rw [heL, hn]; exact hp
  have hown := atL_inF hpe heI
  have hownL : (atL e pm).length = n := by rw [atL_len, hp.1, hn]
  have hch := chN_inv (q := q) (g := g) (es := atL e pm) (ts := t) (show 2 ≤ p by omega) hHr (atL e pm).length
  obtain ⟨k1, k2, -⟩ := hch
  have k1 : (chN p q g H (atL e pm) t).length = n := by show (iterN (chS p q g (atL e pm) t) (H, []) (atL e pm).length).2.length = n; omega
  have k2 : inB p (chN p q g H (atL e pm) t) := k2
  rw [show M_I_at (e, pm) = _ from atL_eq hpe (by omega), bindO_some', show M_I_Group_chain ((p, q, g), H, atL e pm, t) = _ from (chain_both (Hs := Hs) h hHr (by omega) (by omega)).2, bindO_some', ← hn]
  generalize chN p q g H (atL e pm) t = chain at k1 k2 ⊢
  refine loopO_to (fun i => (mpY q (atL e pm) t i, (i : Int))) n _ (by omega) (fun again => ?_) (fun again i hi ih => ?_)
  rotate_left
  · dsimp only
    have hoi := inF_get hown (i := i) (by omega)
    have hti := inF_get it (i := i) (by omega)
    have hy := mpY_in hq2 (atL e pm) t i
    have hpr := prod_small hqm hoi hy
    rw [lt_yes hi, cond_true, getI_nat, getD_at (d := (0 : Int)) (l := t) (i := i) (by omega), bindO_some', getI_nat, getD_at (d := (0 : Int)) (l := atL e pm) (i := i) (by omega), bindO_some', i64_in _ (by omega), bindO_some', i64_in _ (by omega), bindO_some', exp_eq h, bindO_some', i64_succ (by omega), bindO_some']
    exact ih
  dsimp only
  have ra := pw_range (q := q) (x := g) (e := b) (show 1 ≤ p by omega)
  have rb := gpf_range (q := q) (show 2 ≤ p by omega) Hs x
  have rf := pw_range (q := q) (x := g) (e := -f) (show 1 ≤ p by omega)
  have rk := pw_range (q := q) (x := key) (e := -f) (show 1 ≤ p by omega)
  have r1 := gpf_range (q := q) (show 2 ≤ p by omega) ((mixO p q g key ins pm rs).map (·.1)) x
  have r2 := gpf_range (q := q) (show 2 ≤ p by omega) ((mixO p q g key ins pm rs).map (·.2)) x
  rw [lt_no, cond_false, sides2 (by omega), bindO_some', pow_pw h hg.1 hg.2, bindO_some', pow_pw h hg.1 hg.2, bindO_some', powers_eq h (by omega) hHs' (by omega), bindO_some', mul2' h ⟨ra.1, by omega⟩ ⟨rb.1, by omega⟩, bindO_some', pow_pw h hg.1 hg.2, bindO_some', neg_in hqm ⟨if_.1, by omega⟩, bindO_some', pow_pw h hg.1 hg.2, bindO_some']
  dsimp only
  rw [powers_eq h (by rw [List.length_map]; omega) hc1 (by rw [List.length_map]; omega), bindO_some', mul2' h ⟨rf.1, by omega⟩ ⟨r1.1, by omega⟩, bindO_some', bindO_some', pow_pw h hkey.1 hkey.2, bindO_some', powers_eq h (by rw [List.length_map]; omega) hc2 (by rw [List.length_map]; omega), bindO_some', mul2' h ⟨rk.1, by omega⟩ ⟨r2.1, by omega⟩, bindO_some', guardO_of (lenOk_of (by simp only [List.length_cons, List.length_nil]; omega)), bindO_some', bindO_some', show [H] ++ chain = H :: chain from rfl]
  refine grow_loop (fun i => prodM p 1 [pw p q g (w.getD i 0), pw p q ((H :: chain).getD i 0) (x.getD i 0)]) [pw p q g a, prodM p 1 [pw p q g b, gpf p q Hs x], pw p q g d, prodM p 1 [pw p q g (-f), gpf p q ((mixO p q g key ins pm rs).map (·.1)) x], prodM p 1 [pw p q key (-f), gpf p q ((mixO p q g key ins pm rs).map (·.2)) x]]
    (fun i l => ((i : Int), colN p q g Hs pm s, chain, l, [], [])) _ (n := n) (by omega) (fun again i l hi hl => ?_) (fun again => ?_)
  · have hci2 : 0 ≤ (H :: chain).getD i 0 ∧ (H :: chain).getD i 0 ≤ p := by
      cases i with
      | zero => exact hHr
      | succ i =>
        have := k2 _ (List.mem_of_getElem? (getD_at (d := (0 : Int)) (l := chain) (i := i) (by omega)))
        rw [List.getD_cons_succ]
        omega
    have q1 := pw_range (q := q) (x := g) (e := w.getD i 0) (show 1 ≤ p by omega)
    have q2 := pw_range (q := q) (x := (H :: chain).getD i 0) (e := x.getD i 0) (show 1 ≤ p by omega)
    simp only [List.length_cons, List.length_nil] at hl
    dsimp only
    rw [lt_yes hi, cond_true, getI_nat, getD_at (d := (0 : Int)) (l := w) (i := i) (by omega), bindO_some', pow_pw h hg.1 hg.2, bindO_some', getI_nat, getD_at (d := (0 : Int)) (l := H :: chain) (i := i) (by simp only [List.length_cons]; omega), bindO_some', getI_nat, getD_at (d := (0 : Int)) (l := x) (i := i) (by omega), bindO_some', pow_pw h hci2.1 hci2.2, bindO_some', mul2' h ⟨q1.1, by omega⟩ ⟨q2.1, by omega⟩, bindO_some', guardO_of (lenOk_of (by simp only [List.length_cons, List.length_nil]; omega)), bindO_some', bindO_some', i64_succ (by omega), bindO_some']
  dsimp only
  have hcI := mpC_in (q := q) (g := g) (key := key) (H := H) (show 2 ≤ p by omega) (Hs := Hs) (out := mixO p q g key ins pm rs) (chain := chain) (w := w) (x := x) (a := a) (b := b) (d := d) (f := f) (n := n)
  have hcL := mpC_len (p := p) (q := q) (g := g) (key := key) (H := H) (Hs := Hs) (out := mixO p q g key ins pm rs) (chain := chain) (w := w) (x := x) (a := a) (b := b) (d := d) (f := f) (n := n)
  unfold mpC at hcI hcL ⊢
  generalize [pw p q g a, prodM p 1 [pw p q g b, gpf p q Hs x], pw p q g d, prodM p 1 [pw p q g (-f), gpf p q ((mixO p q g key ins pm rs).map (·.1)) x], prodM p 1 [pw p q key (-f), gpf p q ((mixO p q g key ins pm rs).map (·.2)) x]] ++ (List.range n).map (fun i => prodM p 1 [pw p q g (w.getD i 0), pw p q ((H :: chain).getD i 0) (x.getD i 0)]) = cs at hcI hcL ⊢
  rw [lt_no, cond_false, concat3_eq (by omega), bindO_some', show M_I_Group_challenge ((p, q, g), bytesOf [109, 105, 120, 32, 112, 114, 111, 111, 102], mixL key ins (mixO p q g key ins pm rs) (colN p q g Hs pm s) ++ (chain ++ cs)) = _ from challenge_eq (s := lMix) h (by decide) (by rw [okD_append, okD_append, okL, inB_okD h k2, inB_okD h hcI]; rfl) (show 9 + _ ≤ 396 by rw [List.length_append, List.length_append]; omega), bindO_some']
  dsimp only
  rw [Bool.not_true, cond_false, show chal p q g lMix (mixL key ins (mixO p q g key ins pm rs) (colN p q g Hs pm s) ++ (chain ++ cs)) = mZ p q g key ins (mixO p q g key ins pm rs) (colN p q g Hs pm s) chain cs from rfl]
  have hz : 0 ≤ mZ p q g key ins (mixO p q g key ins pm rs) (colN p q g Hs pm s) chain cs ∧ mZ p q g key ins (mixO p q g key ins pm rs) (colN p q g Hs pm s) chain cs ≤ q - 1 := chal_range h _ _
  generalize mZ p q g key ins (mixO p q g key ins pm rs) (colN p q g Hs pm s) chain cs = z at hz ⊢
  have s1 := sumQ_in hq2 s s.length
  have s2 := dotQ_in hq2 s e
  have s3 := mpY_in hq2 (atL e pm) t n
  have s4 := dotQ_in hq2 rs (atL e pm)
  obtain ⟨m1, m1', m1''⟩ := mprod hqm hz (show 0 ≤ sumQ q s ∧ sumQ q s < q from s1)
  obtain ⟨m2, m2', m2''⟩ := mprod hqm hz s2
  obtain ⟨m3, m3', m3''⟩ := mprod hqm hz s3
  obtain ⟨m4, m4', m4''⟩ := mprod hqm hz s4
  rw [(sum_both ⟨hq2, hqm⟩ is_ (by omega)).2, bindO_some', m1, bindO_some', i64_in (a + _) (by omega), bindO_some', exp_eq h, bindO_some', (dot_both ⟨hq2, hqm⟩ is_ heI (by omega) (by omega)).2, bindO_some', m2, bindO_some', i64_in (b + _) (by omega), bindO_some', exp_eq h, bindO_some', m3, bindO_some', i64_in (d + _) (by omega), bindO_some', exp_eq h, bindO_some', (dot_both ⟨hq2, hqm⟩ hri hown (by omega) (by omega)).2, bindO_some', m4, bindO_some', i64_in (f + _) (by omega), bindO_some', exp_eq h, bindO_some']
  unfold mpR
  refine grow_loop (fun i => (w.getD i 0 + z * t.getD i 0) % q) [(a + z * sumQ q s) % q, (b + z * dotQ q s e) % q, (d + z * mpY q (atL e pm) t n) % q, (f + z * dotQ q rs (atL e pm)) % q] (fun i l => ((i : Int), colN p q g Hs pm s, chain, cs, [z], l)) _ (n := n) (by omega) (fun again i l hi hl => ?_) (fun again => ?_)
  · have q1 := inF_get iw (i := i) (by omega)
    have q2 := inF_get it (i := i) (by omega)
    obtain ⟨m5, m5', m5''⟩ := mprod hqm hz q2
    simp only [List.length_cons, List.length_nil] at hl
    dsimp only
    rw [lt_yes hi, cond_true, getI_nat, getD_at (d := (0 : Int)) (l := w) (i := i) (by omega), bindO_some', getI_nat, getD_at (d := (0 : Int)) (l := t) (i := i) (by omega), bindO_some', m5, bindO_some', i64_in _ (by omega), bindO_some', exp_eq h, bindO_some', guardO_of (lenOk_of (by simp only [List.length_cons, List.length_nil]; omega)), bindO_some', bindO_some', i64_succ (by omega), bindO_some']
  dsimp only
  rw [lt_no, cond_false]
  refine grow_loop (fun i => (x.getD i 0 + z * (atL e pm).getD i 0) % q) ([(a + z * sumQ q s) % q, (b + z * dotQ q s e) % q, (d + z * mpY q (atL e pm) t n) % q, (f + z * dotQ q rs (atL e pm)) % q] ++ (List.range n).map (fun i => (w.getD i 0 + z * t.getD i 0) % q)) (fun i l => ((i : Int), colN p q g Hs pm s, chain, cs, [z], l)) _ (n := n) (by omega) (fun again i l hi hl => ?_) (fun again => ?_)
  · have q1 := inF_get ix (i := i) (by omega)
    have q2 := inF_get hown (i := i) (by omega)
    obtain ⟨m5, m5', m5''⟩ := mprod hqm hz q2
    simp only [List.length_append, List.length_map, List.length_range, List.length_cons, List.length_nil] at hl
    dsimp only
    rw [lt_yes hi, cond_true, getI_nat, getD_at (d := (0 : Int)) (l := x) (i := i) (by omega), bindO_some', getI_nat, getD_at (d := (0 : Int)) (l := atL e pm) (i := i) (by omega), bindO_some', m5, bindO_some', i64_in _ (by omega), bindO_some', exp_eq h, bindO_some', guardO_of (lenOk_of (by simp only [List.length_cons, List.length_nil]; omega)), bindO_some', bindO_some', i64_succ (by omega), bindO_some']
  dsimp only
  rw [lt_no, cond_false]
abbrev rgs (f : Nat → Int) (n : Nat) : List Int := (List.range n).map f
theorem grow_loopR {β τ : Type} {n : Nat} (f : Nat → Int) (l0 : List Int) (enc : Nat → List Int → τ) (r : Option β) {body : (τ → Option β) → τ → Option β} (hn : n < 2 ^ 62)
    (h : ∀ (again : τ → Option β) (i : Nat) (l : List Int), i < n → l.length = l0.length + i → body again (enc i l) = again (enc (i + 1) (l ++ [f i])))
    (hend : ∀ again : τ → Option β, body again (enc n (l0 ++ rgs f n)) = r) : loopO body (enc 0 l0) = r := grow_loop f l0 enc r hn h hend
theorem rgs_len (f : Nat → Int) (n : Nat) : (rgs f n).length = n := by simp [rgs]
theorem rgs_succ (f : Nat → Int) (n : Nat) : rgs f (n + 1) = rgs f n ++ [f n] := by simp [rgs, List.range_succ]
theorem rgs_get {f : Nat → Int} {n i : Nat} (h : i < n) : (rgs f n)[i]? = some (f i) := by simp [rgs, List.getElem?_range h]
theorem rgs_getD {f : Nat → Int} {n i : Nat} (h : i < n) : (rgs f n).getD i 0 = f i := by rw [List.getD_eq_getElem?_getD, rgs_get h, Option.getD_some]
theorem rgs_inF {q : Int} {f : Nat → Int} {n : Nat} (hf : ∀ i, i < n → 0 ≤ f i ∧ f i < q) : inF q (rgs f n) := inB_map hf
def ppE (q x0 : Int) (pm : List Int) (i : Nat) : Int := x0 ^ (pm.getD i 0 + 1).toNat % q
def ppU (q y z : Int) (pm e : List Int) (i : Nat) : Int := (y * (pm.getD i 0 + 1) + e.getD i 0 - z) % q
def ppP (q : Int) (U : Nat → Int) (i : Nat) : Int := iterN (fun i s => s * U i % q) 1 i
def ppD (q : Int) (c : List Int) (U : Nat → Int) (i : Nat) : Int := (c.getD i 0 - (0 :: c).getD i 0 * U i) % q
def ppC (p q g key H : Int) (out : List (Int × Int)) (ch w v s k l : List Int) (gg f : Int) (n : Nat) : List Int :=
  (((rgs (fun i => cm p q g H (w.getD i 0) (v.getD i 0)) n ++ rgs (fun i => prodM p 1 [pw p q ((g :: ch).getD i 0) (w.getD i 0), pw p q H (s.getD i 0)]) n) ++ [pw p q H gg]) ++ rgs (fun i => cm p q g H (k.getD i 0) (l.getD i 0)) n) ++
    [prodM p 1 [pw p q g (-f), gpf p q (out.map (·.1)) k], prodM p 1 [pw p q key (-f), gpf p q (out.map (·.2)) k]]
def ppR (q y t : Int) (U : Nat → Int) (rs e a b c w v s k l : List Int) (gg f : Int) (n : Nat) : List Int :=
  (((((rgs (fun i => (w.getD i 0 + t * U i) % q) n ++ rgs (fun i => (v.getD i 0 + t * ((y * a.getD i 0 + b.getD i 0) % q)) % q) n) ++ rgs (fun i => (s.getD i 0 + t * ppD q c U i) % q) n) ++ [(gg + t * c.getD (n - 1) 0) % q]) ++ rgs (fun i => (k.getD i 0 + t * e.getD i 0) % q) n) ++ rgs (fun i => (l.getD i 0 + t * b.getD i 0) % q) n) ++ [(f + t * dotQ q rs e) % q]
def ppf (p q g key H : Int) (ins : List (Int × Int)) (pm rs a b c w v s k l : List Int) (gg f : Int) : Pp :=
  let n := ins.length
  let out := mixO p q g key ins pm rs
  let pl := places p q g H pm a
  let e := rgs (ppE q (chal p q g lMx (mixL key ins out pl)) pm) n
  let pw_ := rgs (fun i => cm p q g H (e.getD i 0) (b.getD i 0)) n
  let y := chal p q g lMy (mixL key ins out pl ++ pw_)
  let z := chal p q g lMzz (mixL key ins out pl ++ pw_)
  let U := ppU q y z pm e
  let ch := rgs (fun i => cm p q g H (ppP q U (i + 1)) (c.getD i 0)) n
  let cs := ppC p q g key H out ch w v s k l gg f n
  let t := chal p q g lMe ((mixL key ins out pl ++ pw_) ++ (ch ++ cs))
  (pl, pw_, ch, (cs, [t], ppR q y t U rs e a b c w v s k l gg f n))
theorem cm_in {p q g b m r : Int} (hp : 2 ≤ p) : 0 ≤ cm p q g b m r ∧ cm p q g b m r < p := prod2_in hp
theorem places_in {p q g b : Int} (hp : 2 ≤ p) {pm rs : List Int} : inB p (places p q g b pm rs) := fun x hx => by
  obtain ⟨c, _, rfl⟩ := List.mem_map.1 hx
  exact cm_in hp
theorem emod_in {q : Int} (hq : 2 ≤ q) (a : Int) : 0 ≤ a % q ∧ a % q < q := ⟨Int.emod_nonneg _ (by omega), Int.emod_lt_of_pos _ (by omega)⟩
theorem ppP_in {q : Int} (hq : 2 ≤ q) (U : Nat → Int) (i : Nat) : 0 ≤ ppP q U i ∧ ppP q U i < q :=
  iterN_inv (f := fun i s => s * U i % q) (s0 := 1) (Inv := fun _ s => 0 ≤ s ∧ s < q) (by omega) i fun i s _ _ => emod_in hq _
theorem vPowers_eq {p q g x0 : Int} {pm : List Int} {n : Nat} (h : Gr p q g) (hp : permB n pm) (hn : n ≤ 24) (hx : 0 ≤ x0 ∧ x0 ≤ q - 1) : M_S_vPowers ((p, q, g), pm, x0) = some (rgs (ppE q x0 pm) n) := by
  have hq2 := h.q2; have hpm := h.pm; have hqp := h.qp
  have hpl := hp.1
  unfold M_S_vPowers
  dsimp only
  refine append_loop (rgs (ppE q x0 pm) n) some (fun again i a s ha hi hs => ?_) (fun again s hs => ?_) (by rw [rgs_len]; omega)
  · rw [rgs_len] at hi
    rw [rgs_get hi] at ha
    cases ha
    have h2 := hp.2 i hi
    have e2 : ∀ z : Int, s.length + [z].length ≤ 68719476736 := fun z => by simp only [List.length_cons, List.length_nil]; omega
    rw [hpl, lt_yes hi, cond_true, getI_nat, permB_at hp hi, bindO_some', i64_in _ (by omega), bindO_some', nPower_eq hx.1 (by omega) (by omega) (by omega) (by omega) (by omega), bindO_some', guardO_of (lenOk_of (e2 _)), bindO_some', bindO_some', i64_succ (by omega), bindO_some']
    rfl
  · rw [rgs_len, hpl, lt_no, cond_false]
theorem ppE_in {q x0 : Int} {pm : List Int} (hq : 2 ≤ q) (i : Nat) : 0 ≤ ppE q x0 pm i ∧ ppE q x0 pm i < q := emod_in hq _
theorem bind_to {α β : Type} {m : Option α} {v : α} {f : α → Option β} {r : Option β} (h : m = some v) (h2 : f v = r) : bindO m f = r := by
  rw [h]
  exact h2
theorem yes_to {β : Type} {c : Bool} {a b r : Option β} (h : c = true) (h2 : a = r) : cond c a b = r := by
  rw [h]
  exact h2
theorem no_to {β : Type} {c : Bool} {a b r : Option β} (h : c = false) (h2 : b = r) : cond c a b = r := by
  rw [h]
  exact h2
theorem snoc_ok {l : List Int} {m : Nat} {z : Int} (h : l.length = m) (hm : m ≤ 1000) : guardO (lenOk (l.length + [z].length)) = some () :=
  guardO_of (lenOk_of (by rw [h]; simp only [List.length_cons, List.length_nil]; omega))
theorem app_ok {l r : List Int} {m k : Nat} (h : l.length = m) (hr : r.length = k) (hm : m ≤ 1000) (hk : k ≤ 1000) : guardO (lenOk (l.length + r.length)) = some () :=
  guardO_of (lenOk_of (by rw [h, hr]; omega))
theorem at_get {l : List Int} {n i : Nat} (h : l.length = n) (hi : i < n) : getI l (i : Int) = some (l.getD i 0) := by
  rw [getI_nat]
  exact getD_at (by omega)
theorem inF_at {q : Int} {l : List Int} {n i : Nat} (hI : inF q l) (h : l.length = n) (hi : i < n) : 0 ≤ l.getD i 0 ∧ l.getD i 0 < q := inF_get hI (by omega)
theorem succ_ok {i n : Nat} (hi : i < n) (hn : n ≤ 24) : IntKind.wrap .i64 ((i : Int) + 1) = ((i + 1 : Nat) : Int) := i64_succ (by omega)
theorem add_ok {q a b : Int} (hq : q ≤ 2000000000) (ha : 0 ≤ a ∧ a < q) (hb : 0 ≤ b) (hb2 : b ≤ 4000000000000000000) : IntKind.wrap .i64 (a + b) = a + b := i64_in _ (by omega)
theorem add_ok' {q a b : Int} (hq : q ≤ 2000000000) (ha : 0 ≤ a ∧ a < q) (hb : 0 ≤ b) (hb2 : b ≤ 4000000000000000000) : IntKind.wrap .i64 (b + a) = b + a := i64_in _ (by omega)
theorem add_nn {q a b : Int} (ha : 0 ≤ a ∧ a < q) (hb : 0 ≤ b) : 0 ≤ a + b := by omega
theorem add_nn' {q a b : Int} (ha : 0 ≤ a ∧ a < q) (hb : 0 ≤ b) : 0 ≤ b + a := by omega
theorem sub_ok {q a b : Int} (hq : q ≤ 2000000000) (ha : 0 ≤ a ∧ a < q) (hb : 0 ≤ b) (hb2 : b ≤ 4000000000000000000) : IntKind.wrap .i64 (a - b) = a - b := i64_in _ (by omega)
theorem three_ok {q a b c : Int} (hq : q ≤ 2000000000) (ha : 0 ≤ a ∧ a < q) (hc : 0 ≤ c ∧ c ≤ q - 1) (hb : 0 ≤ b) (hb2 : b ≤ 4000000000000000000) : IntKind.wrap .i64 (b + a - c) = b + a - c := i64_in _ (by omega)
theorem mul_ok {q a b : Int} (hq : q ≤ 2000000000) (ha : 0 ≤ a ∧ a < q) (hb : 0 ≤ b ∧ b < q) : IntKind.wrap .i64 (a * b) = a * b := by
  have := prod_small hq ha hb
  exact i64_in _ (by omega)
theorem perm_ok {n : Nat} {pm : List Int} (h : permB n pm) (hn : n ≤ 24) {i : Nat} (hi : i < n) : IntKind.wrap .i64 (pm.getD i 0 + 1) = pm.getD i 0 + 1 ∧ 0 ≤ pm.getD i 0 + 1 ∧ pm.getD i 0 + 1 ≤ 25 := by
  have := h.2 i hi
  exact ⟨i64_in _ (by omega), by omega, by omega⟩
theorem lt_of_le' {q z : Int} (h : 0 ≤ z ∧ z ≤ q - 1) : 0 ≤ z ∧ z < q := by omega
theorem in_le {p z : Int} (h : 0 ≤ z ∧ z < p) : 0 ≤ z ∧ z ≤ p := by omega
theorem cons_in {p x0 : Int} {ch : List Int} {n i : Nat} (hx : 0 ≤ x0 ∧ x0 ≤ p) (hch : inB p ch) (hl : ch.length = n) (hi : i < n) : 0 ≤ (x0 :: ch).getD i 0 ∧ (x0 :: ch).getD i 0 ≤ p := by
  cases i with
  | zero => exact hx
  | succ i =>
    have := hch _ (List.mem_of_getElem? (getD_at (d := (0 : Int)) (l := ch) (i := i) (by omega)))
    rw [List.getD_cons_succ]
    omega
theorem consF_in {q : Int} {c : List Int} {n i : Nat} (hq : 2 ≤ q) (hc : inF q c) (hl : c.length = n) (hi : i < n) : 0 ≤ (0 :: c).getD i 0 ∧ (0 :: c).getD i 0 < q := by
  cases i with
  | zero => show (0 : Int) ≤ 0 ∧ (0 : Int) < q; omega
  | succ i =>
    rw [List.getD_cons_succ]
    exact inF_get hc (by omega)
structure Cut (n : Nat) (co a b c w v s k l : List Int) (gg f : Int) : Prop where
  len : co.length = 8 * n + 2
  g1 : getI co ((6 * n : Nat) : Int) = some gg
  g2 : getI co ((8 * n + 1 : Nat) : Int) = some f
  t1 : co.take n = a
  t2 : (co.take (2 * n)).drop n = b
  t3 : (co.take (3 * n)).drop (2 * n) = c
  t4 : (co.take (4 * n)).drop (3 * n) = w
  t5 : (co.take (5 * n)).drop (4 * n) = v
  t6 : (co.take (6 * n)).drop (5 * n) = s
  t7 : (co.take (7 * n + 1)).drop (6 * n + 1) = k
  t8 : (co.take (8 * n + 1)).drop (7 * n + 1) = l
theorem cut_of {n : Nat} {a b c w v s k l : List Int} {gg f : Int} (la : a.length = n) (lb : b.length = n) (lc : c.length = n) (lw : w.length = n) (lv : v.length = n) (ls : s.length = n) (lk : k.length = n) (ll : l.length = n) :
    Cut n (a ++ (b ++ (c ++ (w ++ (v ++ (s ++ (gg :: (k ++ (l ++ [f]))))))))) a b c w v s k l gg f := by
  have e3 : a ++ (b ++ (c ++ (w ++ (v ++ (s ++ (gg :: (k ++ (l ++ [f])))))))) = (a ++ b) ++ (c ++ (w ++ (v ++ (s ++ (gg :: (k ++ (l ++ [f]))))))) := by simp
  have e4 : a ++ (b ++ (c ++ (w ++ (v ++ (s ++ (gg :: (k ++ (l ++ [f])))))))) = (a ++ b ++ c) ++ (w ++ (v ++ (s ++ (gg :: (k ++ (l ++ [f])))))) := by simp
  have e5 : a ++ (b ++ (c ++ (w ++ (v ++ (s ++ (gg :: (k ++ (l ++ [f])))))))) = (a ++ b ++ c ++ w) ++ (v ++ (s ++ (gg :: (k ++ (l ++ [f]))))) := by simp
  have e6 : a ++ (b ++ (c ++ (w ++ (v ++ (s ++ (gg :: (k ++ (l ++ [f])))))))) = (a ++ b ++ c ++ w ++ v) ++ (s ++ (gg :: (k ++ (l ++ [f])))) := by simp
  have e7 : a ++ (b ++ (c ++ (w ++ (v ++ (s ++ (gg :: (k ++ (l ++ [f])))))))) = (a ++ b ++ c ++ w ++ v ++ s) ++ (gg :: (k ++ (l ++ [f]))) := by simp
  have e8 : a ++ (b ++ (c ++ (w ++ (v ++ (s ++ (gg :: (k ++ (l ++ [f])))))))) = (a ++ b ++ c ++ w ++ v ++ s ++ [gg]) ++ (k ++ (l ++ [f])) := by simp
  have e9 : a ++ (b ++ (c ++ (w ++ (v ++ (s ++ (gg :: (k ++ (l ++ [f])))))))) = (a ++ b ++ c ++ w ++ v ++ s ++ [gg] ++ k) ++ (l ++ [f]) := by simp
  have e10 : a ++ (b ++ (c ++ (w ++ (v ++ (s ++ (gg :: (k ++ (l ++ [f])))))))) = (a ++ b ++ c ++ w ++ v ++ s ++ [gg] ++ k ++ l) ++ (f :: []) := by simp
  refine ⟨?_, ?_, ?_, ?_, ?_, ?_, ?_, ?_, ?_, ?_, ?_⟩
  · simp only [List.length_append, List.length_cons, List.length_nil]
    omega
  · rw [e7]; exact getI_mid (by simp only [List.length_append]; omega)
  · rw [e10]; exact getI_mid (by simp only [List.length_append, List.length_cons, List.length_nil]; omega)
  · exact take_mid la
  · exact cut_mid la (by omega)
  · rw [e3]; exact cut_mid (by simp only [List.length_append]; omega) (by omega)
  · rw [e4]; exact cut_mid (by simp only [List.length_append]; omega) (by omega)
  · rw [e5]; exact cut_mid (by simp only [List.length_append]; omega) (by omega)
  · rw [e6]; exact cut_mid (by simp only [List.length_append]; omega) (by omega)
  · rw [e8]; exact cut_mid (by simp only [List.length_append, List.length_cons, List.length_nil]; omega) (by omega)
  · rw [e9]; exact cut_mid (by simp only [List.length_append, List.length_cons, List.length_nil]; omega) (by omega)
theorem wm_ok (m n : Nat) (hm : m ≤ 10) (hn : n ≤ 24) : IntKind.wrap .i64 (((m : Nat) : Int) * (n : Int)) = ((m * n : Nat) : Int) := by
  have : (m : Int) * (n : Int) ≤ 10 * 24 := Int.mul_le_mul (by omega) (by omega) (by omega) (by omega)
  have h0 : 0 ≤ (m : Int) * (n : Int) := Int.mul_nonneg (by omega) (by omega)
  rw [i64_in _ (by omega), Int.natCast_mul]
theorem wi_ok (m : Nat) (hm : m ≤ 1000) : IntKind.wrap .i64 (((m : Nat) : Int) + 1) = ((m + 1 : Nat) : Int) := i64_succ (by omega)
theorem snoc_lt {l l0 : List Int} {m n i : Nat} {z : Int} (h : l.length = l0.length + i) (h0 : l0.length = m) (hi : i < n) (hb : m + n ≤ 1000) : guardO (lenOk (l.length + [z].length)) = some () :=
  snoc_ok (m := m + i) (by rw [h, h0]) (by omega)
theorem cut_sl {n : Nat} {co : List Int} (h : co.length = 8 * n + 2) : sliceNH (n : Int) co.length = some (0, n) ∧ sliceLH (n : Int) ((2 * n : Nat) : Int) co.length = some (n, 2 * n) ∧ sliceLH ((2 * n : Nat) : Int) ((3 * n : Nat) : Int) co.length = some (2 * n, 3 * n) ∧
    sliceLH ((3 * n : Nat) : Int) ((4 * n : Nat) : Int) co.length = some (3 * n, 4 * n) ∧ sliceLH ((4 * n : Nat) : Int) ((5 * n : Nat) : Int) co.length = some (4 * n, 5 * n) ∧ sliceLH ((5 * n : Nat) : Int) ((6 * n : Nat) : Int) co.length = some (5 * n, 6 * n) ∧
    sliceLH ((6 * n + 1 : Nat) : Int) ((7 * n + 1 : Nat) : Int) co.length = some (6 * n + 1, 7 * n + 1) ∧ sliceLH ((7 * n + 1 : Nat) : Int) ((8 * n + 1 : Nat) : Int) co.length = some (7 * n + 1, 8 * n + 1) := by
  rw [h]
  exact ⟨sliceNH_nat (by omega), sliceLH_nat (by omega) (by omega), sliceLH_nat (by omega) (by omega), sliceLH_nat (by omega) (by omega), sliceLH_nat (by omega) (by omega), sliceLH_nat (by omega) (by omega), sliceLH_nat (by omega) (by omega), sliceLH_nat (by omega) (by omega)⟩
structure NB (n : Nat) : Prop where
  n24 : n ≤ 24
  n1000 : n ≤ 1000
  n1m : n ≤ 1048576
  n30 : n < 2 ^ 30
  n60 : n < 2 ^ 60
  n62 : n < 2 ^ 62
  n80 : 3 * n + 3 ≤ 80
  b0 : 0 + n ≤ 1000
  b1 : n + n ≤ 1000
  b2 : n + n + n ≤ 1000
  b3 : n + n + 1 + n ≤ 1000
  b4 : n + n + n + 1 + n ≤ 1000
  b5 : n + n + n + 1 + n + n ≤ 1000
  l1 : n - 1 < n
  w1 : IntKind.wrap .i64 ((n : Int) - 1) = ((n - 1 : Nat) : Int)
  w61 : IntKind.wrap .i64 (((6 * n : Nat) : Int) + 1) = ((6 * n + 1 : Nat) : Int)
  w71 : IntKind.wrap .i64 (((7 * n : Nat) : Int) + 1) = ((7 * n + 1 : Nat) : Int)
  w81 : IntKind.wrap .i64 (((8 * n : Nat) : Int) + 1) = ((8 * n + 1 : Nat) : Int)
theorem NB_of {n : Nat} (h1 : 1 ≤ n) (h2 : n ≤ 12) : NB n := by
  refine ⟨by omega, by omega, by omega, by omega, by omega, by omega, by omega, by omega, by omega, by omega, by omega, by omega, by omega, by omega, ?_, wi_ok _ (by omega), wi_ok _ (by omega), wi_ok _ (by omega)⟩
  rw [i64_in _ (by omega)]
  omega
structure QB (p q g : Int) : Prop where
  p1 : 1 ≤ p
  p2 : 2 ≤ p
  q1 : 1 ≤ q
  q2 : 2 ≤ q
  qm : q ≤ 2000000000
  qb : q ≤ 4611686018427387903
  g0 : guardO (q != 0) = some ()
theorem QB_of {p q g : Int} (h : Gr p q g) : QB p q g := by
  have h3 := h.p3; have hpm := h.pm; have hq2 := h.q2; have hqp := h.qp
  exact ⟨by omega, by omega, by omega, by omega, by omega, by omega, guardO_of (bne_iff_ne.2 (by omega))⟩
theorem le_of_eq' {a b c : Nat} (h : a = b) (h2 : b ≤ c) : a ≤ c := h ▸ h2
theorem lt_of_eq' {a b c : Nat} (h : a = b) (h2 : b < c) : a < c := h ▸ h2
theorem mixL_short {key : Int} {ins outs : List (Int × Int)} {more : List Int} {n m : Nat} (hi : ins.length = n) (ho : outs.length = n) (hm : more.length = m) (hn : n ≤ 12) (hb : m ≤ 50) : (mixL key ins outs more).length ≤ 99 := by
  rw [mixL_len, hi, ho, hm]
  omega
theorem neg_f {q f : Int} (hq : q ≤ 2000000000) (hf : 0 ≤ f ∧ f < q) : IntKind.wrap .i64 (0 - f) = -f := neg_in hq (by omega)
theorem permB_mem {n : Nat} {pm : List Int} (h : permB n pm) : ∀ c ∈ pm, 0 ≤ c ∧ c ≤ (pm.length : Int) := fun c hc => by
  obtain ⟨i, hi, rfl⟩ := List.getElem_of_mem hc
  rw [h.1] at hi
  have h2 := h.2 i hi
  have := permB_at h hi
  rw [List.getElem?_eq_getElem (by rw [h.1]; exact hi)] at this
  have := Option.some.inj this
  rw [this, h.1]
  omega
theorem mixL_app {key : Int} {ins outs : List (Int × Int)} {a b : List Int} : mixL key ins outs (a ++ b) = mixL key ins outs a ++ b := by
  simp [mixL]
theorem ppU_cg {q y z : Int} {pm e : List Int} {i : Nat} : (y * ((pm.getD i 0 + 1) % q) + e.getD i 0 - z) % q = ppU q y z pm e i := by
  unfold ppU
  have h1 : Cg q (y * ((pm.getD i 0 + 1) % q)) (y * (pm.getD i 0 + 1)) := Cg_mul (Cg_refl _) (Cg_mod _)
  have h2 : Cg q (e.getD i 0 - z) (e.getD i 0 - z) := Cg_refl _
  have := Cg_eq (Cg_add h1 h2)
  rwa [← Int.add_sub_assoc, ← Int.add_sub_assoc] at this
theorem ppC_ok {p q g key H : Int} (hp : 2 ≤ p) {out : List (Int × Int)} {ch w v s k l : List Int} {gg f : Int} {n : Nat} : inB p (ppC p q g key H out ch w v s k l gg f n) ∧ (ppC p q g key H out ch w v s k l gg f n).length = 3 * n + 3 := by
  unfold ppC
  refine ⟨inB_append (inB_append (inB_append (inB_append (inB_map fun i _ => cm_in (by omega)) (inB_map fun i _ => prod2_in (by omega))) fun x hx => ?_) (inB_map fun i _ => cm_in (by omega))) fun x hx => ?_, ?_⟩
  · have e : x = pw p q H gg := by simpa using hx
    rw [e]
    exact pw_range (by omega)
  · simp only [List.mem_cons, List.not_mem_nil, or_false] at hx
    rcases hx with rfl | rfl
    · exact prod2_in (by omega)
    · exact prod2_in (by omega)
  · simp only [List.length_append, rgs_len, List.length_cons, List.length_nil]
    omega
theorem len_two {a b : List Int} {m k : Nat} (ha : a.length = m) (hb : b.length = k) : (a ++ b).length = m + k := by rw [List.length_append, ha, hb]
end Go.Proofs.YtjmpdejigkjaoaaGreat.Vd
