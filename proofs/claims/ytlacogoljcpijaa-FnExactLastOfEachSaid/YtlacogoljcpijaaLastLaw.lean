/- The law FnExactLastOfEach as plain functions on data returns true for all arguments. No conditions. -/
import Derived.Test.YtlacogoljcpijaaLastMod
set_option linter.unusedVariables false
set_option linter.unusedSimpArgs false
set_option linter.unusedSectionVars false
set_option linter.unnecessarySimpa false
namespace Go.Proofs.Ytlacogoljcpijaa.Vd
open Go.IntWalk

theorem i64_succ {i : Nat} (h : i < 2 ^ 62) : IntKind.wrap .i64 ((i : Int) + 1) = ((i + 1 : Nat) : Int) := by
  rw [i64_in _ (by omega)]
  rfl

theorem lt_yes {i n : Nat} (h : i < n) : decide ((i : Int) < (n : Int)) = true := by simp [h]

def walk {α β : Type} (step : Nat → α → Option β → Option β) (fin : Option β) : Nat → List α → Option β
  | _, [] => fin
  | i, a :: r => step i a (walk step fin (i + 1) r)

theorem loop_walk {α β : Type} {body : (Int → Option β) → Int → Option β} (l : List α) (step : Nat → α → Option β → Option β) (fin : Option β)
    (h : ∀ (again : Int → Option β) (i : Nat) a, l[i]? = some a → i < l.length → body again (i : Int) = step i a (again ((i + 1 : Nat) : Int)))
    (hend : ∀ again : Int → Option β, body again (l.length : Int) = fin) (hl : l.length < 2 ^ 64) : loopO body 0 = walk step fin 0 l := by
  refine (loopO_for (σ := Unit) (fun i _ => (i : Int)) l.length (fun i _ => walk step fin i (l.drop i)) (fun _ _ => True) (fun again _ _ => ?_) (fun again i _ hi _ ih => ?_) hl (i := 0) (s := ()) (Nat.zero_le _) trivial).trans rfl
  · simp [hend, walk]
  · rw [h again i l[i] (List.getElem?_eq_getElem hi) hi, ih () trivial, List.drop_eq_getElem_cons hi, walk]

/-- A walk over a list by its numbers, with a state (before the number). -/

def walkS {α β σ : Type} (step : Nat → α → σ → (σ → Option β) → Option β) (fin : σ → Option β) : Nat → List α → σ → Option β
  | _, [], s => fin s
  | i, a :: r, s => step i a s (walkS step fin (i + 1) r)

theorem loop_walkI {α β σ τ : Type} {body : (τ → Option β) → τ → Option β} (enc : Int → σ → τ) (l : List α) (step : Nat → α → σ → (σ → Option β) → Option β) (fin : σ → Option β) (Inv : Nat → σ → Prop)
    (hc : ∀ (i : Nat) a s (k k' : σ → Option β), l[i]? = some a → Inv i s → (∀ s', Inv (i + 1) s' → k s' = k' s') → step i a s k = step i a s k')
    (h : ∀ (again : τ → Option β) (i : Nat) a s, l[i]? = some a → i < l.length → Inv i s → body again (enc i s) = step i a s fun s' => again (enc ((i + 1 : Nat) : Int) s'))
    (hend : ∀ (again : τ → Option β) s, Inv l.length s → body again (enc l.length s) = fin s) (hl : l.length < 2 ^ 64) (s : σ) (h0 : Inv 0 s) : loopO body (enc 0 s) = walkS step fin 0 l s := by
  refine (loopO_for (σ := σ) (fun i s => enc (i : Int) s) l.length (fun i s => walkS step fin i (l.drop i) s) Inv (fun again s hs => ?_) (fun again i s hi hs ih => ?_) hl (i := 0) (s := s) (Nat.zero_le _) h0).trans rfl
  · simp [hend _ _ hs, walkS]
  · rw [h again i l[i] s (List.getElem?_eq_getElem hi) hi hs, List.drop_eq_getElem_cons hi, walkS]
    exact hc i l[i] s _ _ (List.getElem?_eq_getElem hi) hs fun s' hs' => ih s' hs'

theorem walk_any {α : Type} (p : α → Bool) : ∀ (l : List α) (i : Nat), walk (fun _ a k => if p a = true then some true else k) (some false) i l = some (l.any p)
  | [], _ => rfl
  | a :: l, i => by
    rw [walk, walk_any p l]
    cases h : p a <;> simp [h]

theorem walk_index {α : Type} (p : α → Bool) : ∀ (l : List α) (i : Nat), ∃ j : Int, walk (fun i a k => if p a = true then some (i : Int) else k) (some (-1)) i l = some j ∧ decide (j ≥ 0) = l.any p
  | [], _ => ⟨-1, rfl, rfl⟩
  | a :: l, i => by
    obtain ⟨j, h1, h2⟩ := walk_index p l (i + 1)
    cases h : p a
    · exact ⟨j, by simp [walk, h, h1], by simp [h, h2]⟩
    · exact ⟨i, by simp [walk, h], by simp [h]⟩

theorem toIntS_eq {x : List Int} (h : x.length ≤ 1048576) : M_L_toIntS x = some x := by
  unfold M_L_toIntS
  have hx : (x.length : Int) ≤ ((lim : Nat) : Int) := by rw [lim_eq]; omega
  rw [guardO_of (by simpa using hx), bindO_some']
  refine (loopO_for (σ := List Int) (fun i s => ((i : Int), s)) x.length (fun i s => some (x.take i ++ x.drop i)) (fun i s => s = x.take i ++ List.replicate (x.length - i) 0) (fun again s hs => ?_) (fun again i s hi hs ih => ?_) (by omega) (i := 0) (s := List.replicate x.length 0) (Nat.zero_le _) (by simp)).trans (by simp)
  · subst hs; simp
  · subst hs
    have h1 : (x.take i ++ List.replicate (x.length - i) (0 : Int))[i]? = some 0 := by
      rw [List.getElem?_append_right (by simp; omega)]
      simp [List.getElem?_replicate]
      omega
    have h2 : (x.take i ++ List.replicate (x.length - i) (0 : Int)).set i x[i] = x.take (i + 1) ++ List.replicate (x.length - (i + 1)) 0 := by
      refine List.ext_getElem? fun j => ?_
      rw [List.getElem?_set]
      by_cases hij : i = j
      · subst hij
        rw [if_pos rfl, if_pos (by simp; omega), List.getElem?_append_left (by simp; omega), List.getElem?_take, if_pos (by omega), List.getElem?_eq_getElem hi]
      · rw [if_neg hij]
        by_cases hj : j < i
        · rw [List.getElem?_append_left (by simp; omega), List.getElem?_append_left (by simp; omega), List.getElem?_take, List.getElem?_take, if_pos hj, if_pos (by omega)]
        · rw [List.getElem?_append_right (by simp; omega), List.getElem?_append_right (by simp; omega)]
          simp only [List.length_take, List.getElem?_replicate]
          rw [Nat.min_eq_left (by omega), Nat.min_eq_left (by omega)]
          by_cases hjx : j < x.length
          · rw [if_pos (by omega), if_pos (by omega)]
          · rw [if_neg (by omega), if_neg (by omega)]
    simp only [getI_nat, List.getElem?_eq_getElem hi, h1, bindO_some', Int.toNat_natCast, h2, i64_succ (show i < 2 ^ 62 by omega)]
    rw [ih _ rfl]
    simp [hi]

theorem eqIntS_eq {a b : List Int} (h : a.length < 2 ^ 62) : M_L_eqIntS (a, b) = some (decide (a = b)) := by
  unfold M_L_eqIntS
  by_cases hl : a.length = b.length
  · have e1 : ((a.length : Int) != (b.length : Int)) = false := by simp [hl]
    dsimp only
    rw [e1]
    simp only [cond_false]
    refine (loopO_for (σ := Unit) (fun i _ => (i : Int)) a.length (fun i _ => some (decide (a.drop i = b.drop i))) (fun _ _ => True) (fun again _ _ => ?_) (fun again i _ hi _ ih => ?_) (by omega) (i := 0) (s := ()) (Nat.zero_le _) trivial).trans (by simp)
    · simp [hl]
    · have hi' : i < b.length := by omega
      simp only [getI_nat, List.getElem?_eq_getElem hi, List.getElem?_eq_getElem hi', bindO_some', i64_succ (show i < 2 ^ 62 by omega), ih () trivial]
      rw [List.drop_eq_getElem_cons hi, List.drop_eq_getElem_cons hi']
      by_cases he : a[i] = b[i] <;> simp [bne_dec, he, hi, -List.getElem_cons_drop]
  · have e1 : ((a.length : Int) != (b.length : Int)) = true := by simp; omega
    dsimp only
    rw [e1]
    simp only [cond_true, Option.some.injEq]
    symm
    simp only [decide_eq_false_iff_not]
    rintro rfl
    exact hl rfl

def marks (n : Nat) (k : Int) : List Int := (List.range n).map fun (i : Nat) => k + (i : Int)

theorem marks_length (n : Nat) (k : Int) : (marks n k).length = n := by simp [marks]

theorem marks_get {n i : Nat} {k : Int} (h : i < n) : (marks n k)[i]? = some (k + i) := by
  simp [marks, h]

theorem markIntS_eq {a : List Int} {k : Int} (h : a.length < 2 ^ 40) (h0 : 0 ≤ k) (h1 : k < 2 ^ 40) : M_L_markIntS (a, k) = some (k + a.length, marks a.length k) := by
  unfold M_L_markIntS
  refine (loopO_for (σ := Int × List Int) (fun i s => (s.1, ((i : Int), s.2))) a.length (fun i s => some (k + a.length, marks a.length k)) (fun i s => s.1 = k + i ∧ s.2 = marks i k ++ a.drop i) (fun again s hs => ?_) (fun again i s hi hs ih => ?_) (by omega) (i := 0) (s := (k, a)) (Nat.zero_le _) (by simp [marks])).trans rfl
  · obtain ⟨s1, s2⟩ := s
    obtain ⟨rfl, rfl⟩ := hs
    simp [marks_length]
  · obtain ⟨s1, s2⟩ := s
    obtain ⟨rfl, rfl⟩ := hs
    have h2 : (marks i k ++ a.drop i)[i]? = some a[i] := by
      rw [List.getElem?_append_right (by simp [marks_length])]
      simp [marks_length, hi]
    have h3 : (marks i k ++ a.drop i).set i (k + i) = marks (i + 1) k ++ a.drop (i + 1) := by
      rw [List.set_append_right _ _ (by simp [marks_length]), marks_length, Nat.sub_self, List.drop_eq_getElem_cons hi, List.set_cons_zero]
      simp [marks, List.range_succ]
    have hlen : (marks i k ++ a.drop i).length = a.length := by simp [marks_length]; omega
    simp only [getI_nat, h2, bindO_some', Int.toNat_natCast, h3, i64_succ (show i < 2 ^ 62 by omega), hlen]
    rw [i64_in _ (by omega)]
    simp only [lt_yes hi, cond_true]
    exact ih (k + i + 1, marks (i + 1) k ++ a.drop (i + 1)) ⟨by simp; omega, rfl⟩

theorem heldIntS_eq {n : Nat} {k : Int} (h : n < 2 ^ 40) (h0 : 0 ≤ k) (h1 : k < 2 ^ 40) : M_L_heldIntS (marks n k, k) = some (k + n) := by
  unfold M_L_heldIntS
  refine (loopO_for (σ := Int) (fun i s => (s, (i : Int))) n (fun i s => some (k + n)) (fun i s => s = k + i) (fun again s hs => ?_) (fun again i s hi hs ih => ?_) (by omega) (i := 0) (s := k) (Nat.zero_le _) (by simp)).trans rfl
  · subst hs; simp [marks_length]
  · subst hs
    simp only [getI_nat, marks_get hi, marks_length, bindO_some', i64_succ (show i < 2 ^ 62 by omega)]
    rw [i64_in _ (by omega)]
    simp only [lt_yes hi, cond_true, bne_self_eq_false, cond_false]
    exact ih (k + i + 1) (by simp; omega)

theorem has_eq {l : List Int} {n : Int} (hl : l.length < 2 ^ 62) : M_S_l1Has (l, n) = some (l.any (· == n)) := by
  unfold M_S_l1Has
  refine (loop_walk l (fun _ a k => if (a == n) = true then some true else k) (some false) (fun again i a ha hi => ?_) (fun again => ?_) (by omega)).trans (walk_any _ l 0)
  · simp only [getI_nat, ha, bindO_some', i64_succ (show i < 2 ^ 62 by omega)]
    cases h : a == n <;> simp [h, hi]
  · simp

theorem index_eq {l : List Int} {n : Int} (hl : l.length < 2 ^ 62) : ∃ j : Int, M_slices_Index_sint_int (l, n) = some j ∧ decide (j ≥ 0) = l.any (· == n) := by
  obtain ⟨j, h1, h2⟩ := walk_index (fun a : Int => a == n) l 0
  refine ⟨j, ?_, h2⟩
  unfold M_slices_Index_sint_int
  refine (loop_walk l (fun i a k => if (a == n) = true then some (i : Int) else k) (some (-1)) (fun again i a ha hi => ?_) (fun again => ?_) (by omega)).trans h1
  · simp only [getI_nat, ha, bindO_some', i64_succ (show i < 2 ^ 62 by omega), lt_yes hi, cond_true]
    rw [show (n == a) = (a == n) from BEq.comm]
    cases h : a == n <;> simp [h]
  · simp

theorem one_nn (n : Nat) : ((1 : Int) + (n : Int) < 0) = False := by
  simp only [eq_iff_iff, iff_false]
  omega

theorem lenOk_of {n : Nat} (h : n ≤ 68719476736) : lenOk n = true := by simp [lenOk, lim_eq, h]

theorem sliceLN_nat {l n : Nat} (h : l ≤ n) : sliceLN (l : Int) n = some (l, n) := by
  unfold sliceLN
  rw [if_pos ⟨by omega, by omega⟩]
  simp

theorem contains_eq {l : List Int} {n : Int} (hl : l.length < 2 ^ 62) : M_slices_Contains_sint_int (l, n) = some (l.any (· == n)) := by
  obtain ⟨j, h1, h2⟩ := index_eq (n := n) hl
  unfold M_slices_Contains_sint_int
  dsimp only
  rw [h1, bindO_some', h2]

theorem lastOf_some (x : List Int) : ∀ (l : List Int) (i : Nat) (s : List Int), ∃ r : List Int, walkS (fun (i : Nat) (a : Int) (s : List Int) (k : List Int → Option (List Int × Bool)) => if ((x.drop (i + 1)).any (· == a)) = true then k s else k (s ++ [(i : Int)])) (fun s => some (s, true)) i l s = some (r, true) ∧ r.length ≤ s.length + l.length
  | [], i, s => ⟨s, rfl, by simp⟩
  | a :: l, i, s => by
    rw [walkS]
    split
    · obtain ⟨r, h1, h2⟩ := lastOf_some x l (i + 1) s
      exact ⟨r, h1, by simp; omega⟩
    · obtain ⟨r, h1, h2⟩ := lastOf_some x l (i + 1) (s ++ [(i : Int)])
      exact ⟨r, h1, by simp at h2 ⊢; omega⟩

theorem S_LastOfEach_some {x : List Int} (h : x.length ≤ 24) : ∃ r : List Int, M_S_LastOfEach x = some (r, true) ∧ r.length ≤ x.length := by
  obtain ⟨r, h1, h2⟩ := lastOf_some x x 0 []
  refine ⟨r, ?_, by simpa using h2⟩
  unfold M_S_LastOfEach
  have h24 : decide (((x.length : Nat) : Int) > 24) = false := by simp; omega
  rw [h24, cond_false]
  refine (loop_walkI (fun i (s : List Int) => (s, i)) x _ _ (fun i s => s.length ≤ i) (fun i a s k k' _ hs hk => ?_) (fun again i a s ha hi hs => ?_) (fun again s hs => ?_) (by omega) [] (by simp)).trans h1
  · split
    · exact hk _ (by omega)
    · exact hk _ (by simp; omega)
  · dsimp only
    have hd : (x.drop (i + 1)).length < 2 ^ 62 := by simp; omega
    simp only [lt_yes hi, cond_true, getI_nat, ha, bindO_some', i64_succ (show i < 2 ^ 62 by omega), sliceLN_nat (show i + 1 ≤ x.length by omega), has_eq hd, List.take_length]
    rw [guardO_of (lenOk_of (by simp; omega)), bindO_some']
    cases List.any (x.drop (i + 1)) (fun y => y == a) <;> rfl
  · simp

theorem I_LastOfEach_eq (x : List Int) : M_I_LastOfEach x = M_S_LastOfEach x := by
  unfold M_I_LastOfEach M_S_LastOfEach
  by_cases h : x.length ≤ 24
  · congr 1
    refine loopO_congr (fun _ => True) (fun a1 a2 s _ ih => ?_) trivial
    have : a1 = a2 := funext fun s' => ih s' trivial
    subst this
    have e : ∀ (p : Nat × Nat) (a : Int), M_slices_Contains_sint_int (List.drop p.1 (List.take p.2 x), a) = M_S_l1Has (List.drop p.1 (List.take p.2 x), a) := fun p a => by
      have : (List.drop p.1 (List.take p.2 x)).length < 2 ^ 62 := by simp; omega
      rw [contains_eq this, has_eq this]
    simp only [e]
  · have h24 : decide (((x.length : Nat) : Int) > 24) = true := by simp; omega
    simp only [h24, cond_true]

theorem law_FnExactLastOfEach (x : List Int) : M_L_FnExactLastOfEach x = some true := by
  unfold M_L_FnExactLastOfEach
  by_cases hl : x.length ≤ 1048576
  · have e0 : decide (((x.length : Nat) : Int) > 1048576) = false := by simp; omega
    rw [e0, cond_false]
    simp only [I_LastOfEach_eq, toIntS_eq hl, bindO_some']
    have : ∃ r b, M_S_LastOfEach x = some (r, b) ∧ r.length ≤ 24 := by
      by_cases h : x.length ≤ 24
      · obtain ⟨r, h1, h2⟩ := S_LastOfEach_some h
        exact ⟨r, true, h1, by omega⟩
      · refine ⟨[], false, ?_, by simp⟩
        unfold M_S_LastOfEach
        have h24 : decide (((x.length : Nat) : Int) > 24) = true := by simp; omega
        rw [h24, cond_true]
    obtain ⟨r, b, h1, h2⟩ := this
    have hr : r.length < 2 ^ 40 := by omega
    have hx : x.length < 2 ^ 40 := by omega
    simp [h1, eqIntS_eq (show r.length < 2 ^ 62 by omega), eqIntS_eq (show x.length < 2 ^ 62 by omega), markIntS_eq hr, markIntS_eq hx, heldIntS_eq hr, one_nn]
  · have e0 : decide (((x.length : Nat) : Int) > 1048576) = true := by simp; omega
    rw [e0, cond_true]

end Go.Proofs.Ytlacogoljcpijaa.Vd
