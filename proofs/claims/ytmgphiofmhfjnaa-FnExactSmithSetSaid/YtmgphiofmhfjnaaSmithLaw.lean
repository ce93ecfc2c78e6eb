/- The law FnExactSmithSet as plain functions on data returns true for all arguments. No conditions. -/
import Derived.Test.YtmgphiofmhfjnaaSmithMod
set_option linter.unusedVariables false
set_option linter.unusedSimpArgs false
set_option linter.unusedSectionVars false
set_option linter.unnecessarySimpa false
namespace Go.Proofs.Ytmgphiofmhfjnaa.Vd
open Go.IntWalk

theorem i64_succ {i : Nat} (h : i < 2 ^ 62) : IntKind.wrap .i64 ((i : Int) + 1) = ((i + 1 : Nat) : Int) := by
  rw [i64_in _ (by omega)]
  rfl

theorem lt_yes {i n : Nat} (h : i < n) : decide ((i : Int) < (n : Int)) = true := by simp [h]

/-- A walk over a list by its numbers, with no other state. -/
def walk {α β : Type} (step : Nat → α → Option β → Option β) (fin : Option β) : Nat → List α → Option β
  | _, [] => fin
  | i, a :: r => step i a (walk step fin (i + 1) r)

theorem loop_walk {α β : Type} {body : (Int → Option β) → Int → Option β} (l : List α) (step : Nat → α → Option β → Option β) (fin : Option β)
    (h : ∀ (again : Int → Option β) (i : Nat) a, l[i]? = some a → i < l.length → body again (i : Int) = step i a (again ((i + 1 : Nat) : Int)))
    (hend : ∀ again : Int → Option β, body again (l.length : Int) = fin) (hl : l.length < 2 ^ 64) : loopO body 0 = walk step fin 0 l := by
  refine (loopO_for (σ := Unit) (fun i _ => (i : Int)) l.length (fun i _ => walk step fin i (l.drop i)) (fun _ _ => True) (fun again _ _ => ?_) (fun again i _ hi _ ih => ?_) hl (i := 0) (s := ()) (Nat.zero_le _) trivial).trans rfl
  · simp [hend, walk]
  · rw [h again i l[i] (List.getElem?_eq_getElem hi) hi, ih () trivial, List.drop_eq_getElem_cons hi, walk]

theorem walk_all {α : Type} (p : α → Bool) : ∀ (l : List α) (i : Nat), walk (fun _ a k => if p a = true then k else some false) (some true) i l = some (l.all p)
  | [], _ => rfl
  | a :: l, i => by
    rw [walk, walk_all p l]
    cases h : p a <;> simp [h]

theorem toIntS_eq {x : List Int} (h : x.length ≤ 1048576) : M_L_toIntS x = some x := by
  unfold M_L_toIntS
  have hx : (x.length : Int) ≤ ((lim : Nat) : Int) := by rw [lim_eq]; omega
  rw [guardO_of (by simpa using hx), bindO_some']
  refine (loopO_for (σ := List Int) (fun i s => ((i : Int), s)) x.length (fun i s => some (x.take i ++ x.drop i)) (fun i s => s = x.take i ++ List.replicate (x.length - i) 0) (fun again s hs => ?_) (fun again i s hi hs ih => ?_) (by omega) (i := 0) (s := List.replicate x.length 0) (Nat.zero_le _) (by simp)).trans (by simp)
  · subst hs; simp
  · subst hs
    have h1 : (x.take i ++ List.replicate (x.length - i) (0 : Int))[i]? = some 0 := by
      rw [List.getElem?_append_right (by simp; omega)]
      simp [List.getElem?_replicate]
      omega
    have h2 : (x.take i ++ List.replicate (x.length - i) (0 : Int)).set i x[i] = x.take (i + 1) ++ List.replicate (x.length - (i + 1)) 0 := by
      refine List.ext_getElem? fun j => ?_
      rw [List.getElem?_set]
      by_cases hij : i = j
      · subst hij
        rw [if_pos rfl, if_pos (by simp; omega), List.getElem?_append_left (by simp; omega), List.getElem?_take, if_pos (by omega), List.getElem?_eq_getElem hi]
      · rw [if_neg hij]
        by_cases hj : j < i
        · rw [List.getElem?_append_left (by simp; omega), List.getElem?_append_left (by simp; omega), List.getElem?_take, List.getElem?_take, if_pos hj, if_pos (by omega)]
        · rw [List.getElem?_append_right (by simp; omega), List.getElem?_append_right (by simp; omega)]
          simp only [List.length_take, List.getElem?_replicate]
          rw [Nat.min_eq_left (by omega), Nat.min_eq_left (by omega)]
          by_cases hjx : j < x.length
          · rw [if_pos (by omega), if_pos (by omega)]
          · rw [if_neg (by omega), if_neg (by omega)]
    simp only [getI_nat, List.getElem?_eq_getElem hi, h1, bindO_some', Int.toNat_natCast, h2, i64_succ (show i < 2 ^ 62 by omega)]
    rw [ih _ rfl]
    simp [hi]

theorem eqIntS_eq {a b : List Int} (h : a.length < 2 ^ 62) : M_L_eqIntS (a, b) = some (decide (a = b)) := by
  unfold M_L_eqIntS
  by_cases hl : a.length = b.length
  · have e1 : ((a.length : Int) != (b.length : Int)) = false := by simp [hl]
    dsimp only
    rw [e1]
    simp only [cond_false]
    refine (loopO_for (σ := Unit) (fun i _ => (i : Int)) a.length (fun i _ => some (decide (a.drop i = b.drop i))) (fun _ _ => True) (fun again _ _ => ?_) (fun again i _ hi _ ih => ?_) (by omega) (i := 0) (s := ()) (Nat.zero_le _) trivial).trans (by simp)
    · simp [hl]
    · have hi' : i < b.length := by omega
      simp only [getI_nat, List.getElem?_eq_getElem hi, List.getElem?_eq_getElem hi', bindO_some', i64_succ (show i < 2 ^ 62 by omega), ih () trivial]
      rw [List.drop_eq_getElem_cons hi, List.drop_eq_getElem_cons hi']
      by_cases he : a[i] = b[i] <;> simp [bne_dec, he, hi, -List.getElem_cons_drop]
  · have e1 : ((a.length : Int) != (b.length : Int)) = true := by simp; omega
    dsimp only
    rw [e1]
    simp only [cond_true, Option.some.injEq]
    symm
    simp only [decide_eq_false_iff_not]
    rintro rfl
    exact hl rfl

def marks (n : Nat) (k : Int) : List Int := (List.range n).map fun (i : Nat) => k + (i : Int)

theorem marks_length (n : Nat) (k : Int) : (marks n k).length = n := by simp [marks]

theorem marks_get {n i : Nat} {k : Int} (h : i < n) : (marks n k)[i]? = some (k + i) := by
  simp [marks, h]

theorem markIntS_eq {a : List Int} {k : Int} (h : a.length < 2 ^ 40) (h0 : 0 ≤ k) (h1 : k < 2 ^ 40) : M_L_markIntS (a, k) = some (k + a.length, marks a.length k) := by
  unfold M_L_markIntS
  refine (loopO_for (σ := Int × List Int) (fun i s => (s.1, ((i : Int), s.2))) a.length (fun i s => some (k + a.length, marks a.length k)) (fun i s => s.1 = k + i ∧ s.2 = marks i k ++ a.drop i) (fun again s hs => ?_) (fun again i s hi hs ih => ?_) (by omega) (i := 0) (s := (k, a)) (Nat.zero_le _) (by simp [marks])).trans rfl
  · obtain ⟨s1, s2⟩ := s
    obtain ⟨rfl, rfl⟩ := hs
    simp [marks_length]
  · obtain ⟨s1, s2⟩ := s
    obtain ⟨rfl, rfl⟩ := hs
    have h2 : (marks i k ++ a.drop i)[i]? = some a[i] := by
      rw [List.getElem?_append_right (by simp [marks_length])]
      simp [marks_length, hi]
    have h3 : (marks i k ++ a.drop i).set i (k + i) = marks (i + 1) k ++ a.drop (i + 1) := by
      rw [List.set_append_right _ _ (by simp [marks_length]), marks_length, Nat.sub_self, List.drop_eq_getElem_cons hi, List.set_cons_zero]
      simp [marks, List.range_succ]
    have hlen : (marks i k ++ a.drop i).length = a.length := by simp [marks_length]; omega
    simp only [getI_nat, h2, bindO_some', Int.toNat_natCast, h3, i64_succ (show i < 2 ^ 62 by omega), hlen]
    rw [i64_in _ (by omega)]
    simp only [lt_yes hi, cond_true]
    exact ih (k + i + 1, marks (i + 1) k ++ a.drop (i + 1)) ⟨by simp; omega, rfl⟩

theorem heldIntS_eq {n : Nat} {k : Int} (h : n < 2 ^ 40) (h0 : 0 ≤ k) (h1 : k < 2 ^ 40) : M_L_heldIntS (marks n k, k) = some (k + n) := by
  unfold M_L_heldIntS
  refine (loopO_for (σ := Int) (fun i s => (s, (i : Int))) n (fun i s => some (k + n)) (fun i s => s = k + i) (fun again s hs => ?_) (fun again i s hi hs ih => ?_) (by omega) (i := 0) (s := k) (Nat.zero_le _) (by simp)).trans rfl
  · subst hs; simp [marks_length]
  · subst hs
    simp only [getI_nat, marks_get hi, marks_length, bindO_some', i64_succ (show i < 2 ^ 62 by omega)]
    rw [i64_in _ (by omega)]
    simp only [lt_yes hi, cond_true, bne_self_eq_false, cond_false]
    exact ih (k + i + 1) (by simp; omega)

theorem one_nn (n : Nat) : ((1 : Int) + (n : Int) < 0) = False := by
  simp only [eq_iff_iff, iff_false]
  omega

theorem lenOk_of {n : Nat} (h : n ≤ 68719476736) : lenOk n = true := by simp [lenOk, lim_eq, h]

/-- A loop whose states go down: a property of its answer. -/
theorem loopO_ind {σ β : Type} {body : (σ → Option β) → σ → Option β} (Q : σ → Option β → Prop) (Inv : σ → Prop) (μ : σ → Nat)
    (step : ∀ (again : σ → Option β) s, Inv s → (∀ s', Inv s' → μ s' < μ s → Q s' (again s')) → Q s (body again s)) {s : σ} (h0 : Inv s) (hm : μ s < 2 ^ 64) : Q s (loopO body s) := by
  rw [loopO_eq]
  have H : ∀ (n : Nat) (s : σ), Inv s → μ s < n → Q s (iter body n s) := by
    intro n
    induction n with
    | zero => intro s _ h; exact absurd h (Nat.not_lt_zero _)
    | succ n ih => intro s hs h; exact step _ s hs fun s' hs' h' => ih s' hs' (by omega)
  exact H many s h0 hm

/-- Two loops of the same steps have the same answer. -/
theorem loopO_eqv {σ τ β : Type} {b1 : (σ → Option β) → σ → Option β} {b2 : (τ → Option β) → τ → Option β} {s : σ} {t : τ} (R : σ → τ → Prop) (h0 : R s t)
    (step : ∀ (a1 : σ → Option β) (a2 : τ → Option β) s t, R s t → (∀ s' t', R s' t' → a1 s' = a2 t') → b1 a1 s = b2 a2 t) : loopO b1 s = loopO b2 t :=
  loopO_rel R (fun y z => y = z) rfl step h0

theorem in_eq (x a b : Int) : M_S_l1In (x, a, b) = some (decide (a ≤ x ∧ x ≤ b)) := by
  by_cases h : a ≤ x <;> by_cases h2 : x ≤ b <;> simp [M_S_l1In, h, h2]

theorem within_eq (x a b : Int) : M_I_within (x, a, b) = some (decide (a ≤ x ∧ x ≤ b)) := by
  by_cases h : a ≤ x <;> by_cases h2 : x ≤ b <;> simp [M_I_within, h, h2]

theorem l1All_eq {l : List Int} {lo hi : Int} (hl : l.length < 2 ^ 62) : M_S_l1All (l, lo, hi) = some (l.all fun n => decide (lo ≤ n ∧ n ≤ hi)) := by
  unfold M_S_l1All
  refine (loop_walk l (fun _ a k => if (decide (lo ≤ a ∧ a ≤ hi)) = true then k else some false) (some true) (fun again i a ha hi' => ?_) (fun again => ?_) (by omega)).trans (walk_all (fun n => decide (lo ≤ n ∧ n ≤ hi)) l 0)
  · simp only [getI_nat, ha, bindO_some', i64_succ (show i < 2 ^ 62 by omega), lt_yes hi', cond_true, in_eq]
    cases decide (lo ≤ a ∧ a ≤ hi) <;> rfl
  · simp

theorem walk_index_mem {α : Type} (p : α → Bool) (f : α → Option Bool) : ∀ (l : List α) (i : Nat), (∀ a ∈ l, f a = some (p a)) →
    ∃ j : Int, walk (fun i a k => bindO (f a) fun b => cond b (some (i : Int)) k) (some (-1)) i l = some j ∧ decide (j ≥ 0) = l.any p
  | [], _, _ => ⟨-1, rfl, rfl⟩
  | a :: l, i, hf => by
    obtain ⟨j, h1, h2⟩ := walk_index_mem p f l (i + 1) fun b hb => hf b (List.mem_cons_of_mem _ hb)
    have ha := hf a (List.mem_cons_self ..)
    cases h : p a
    · exact ⟨j, by simp [walk, ha, h, h1], by simp [h, h2]⟩
    · exact ⟨i, by simp [walk, ha, h], by simp [h]⟩

theorem containsFunc_eq {l : List Int} {f : Int → Option Bool} {p : Int → Bool} (hl : l.length < 2 ^ 62) (hf : ∀ a ∈ l, f a = some (p a)) : M_slices_ContainsFunc_sint_int (l, f) = some (l.any p) := by
  obtain ⟨j, h1, h2⟩ := walk_index_mem p f l 0 hf
  unfold M_slices_ContainsFunc_sint_int
  have : M_slices_IndexFunc_sint_int (l, f) = some j := by
    unfold M_slices_IndexFunc_sint_int
    refine (loop_walk l _ _ (fun again i a ha hi => ?_) (fun again => ?_) (by omega)).trans h1
    · simp only [getI_nat, ha, bindO_some', i64_succ (show i < 2 ^ 62 by omega), lt_yes hi, cond_true]
    · simp
  dsimp only
  rw [this, bindO_some', h2]

theorem areAll_eq {l : List Int} {f : Int → Option Bool} {p : Int → Bool} (hl : l.length < 2 ^ 62) (hf : ∀ a ∈ l, f a = some (p a)) : M_I_areAll (l, f) = some (l.all p) := by
  unfold M_I_areAll
  dsimp only
  rw [containsFunc_eq (p := fun a => !p a) hl fun a ha => by simp [M_I_areAll_1, hf a ha], bindO_some']
  congr 1
  rw [List.any_eq_not_all_not]
  simp

/-- A product of residues. -/
def prodM (p : Int) : Int → List Int → Int
  | out, [] => out
  | out, x :: l => prodM p (out * x % p) l

/-- a over b. -/
def over (p q a b : Int) : Int := prodM p 1 [a, b ^ (q - 1).toNat % p]

theorem areCounts_eq (l : List Int) (hl : l.length < 2 ^ 62) : M_I_areCounts l = some (decide (1 ≤ l.length ∧ l.length ≤ 8) && l.all fun n => decide (0 ≤ n ∧ n ≤ 1000000)) := by
  unfold M_I_areCounts
  have e : decide (1 ≤ ((l.length : Nat) : Int) ∧ ((l.length : Nat) : Int) ≤ 8) = decide (1 ≤ l.length ∧ l.length ≤ 8) := by
    rw [decide_eq_decide]; omega
  rw [within_eq, bindO_some', areAll_eq (p := fun n => decide (0 ≤ n ∧ n ≤ 1000000)) hl fun a _ => by simp [M_I_areCounts_1, within_eq], e]
  cases decide (1 ≤ l.length ∧ l.length ≤ 8) <;> rfl

theorem set_take_succ {α : Type} {x s : List α} {i : Nat} {a : α} (hx : x[i]? = some a) (hs : s.length = x.length) (ht : s.take i = x.take i) : (s.set i a).take (i + 1) = x.take (i + 1) := by
  have hi : i < x.length := (List.getElem?_eq_some_iff.1 hx).1
  rw [List.take_add_one, List.take_add_one, hx, List.take_set, List.getElem?_set_self (by omega), ← ht]
  congr 1
  rw [List.set_eq_of_length_le (by rw [List.length_take]; omega)]

/-- A list is written anew, element by element. -/
theorem copy_loop {α : Type} (x : List α) (z : α) {body : (Int × List α → Option (List α)) → Int × List α → Option (List α)}
    (h : ∀ (again : Int × List α → Option (List α)) (i : Nat) a (s : List α), x[i]? = some a → i < x.length → s.length = x.length → body again ((i : Int), s) = again (((i + 1 : Nat) : Int), s.set i a))
    (hend : ∀ (again : Int × List α → Option (List α)) (s : List α), s.length = x.length → body again ((x.length : Int), s) = some s) (hl : x.length < 2 ^ 62) : loopO body (0, List.replicate x.length z) = some x := by
  refine (loopO_for (σ := List α) (fun i s => ((i : Int), s)) x.length (fun i s => some x) (fun i s => s.length = x.length ∧ s.take i = x.take i) (fun again s hs => ?_) (fun again i s hi hs ih => ?_) (by omega) (i := 0) (s := List.replicate x.length z) (Nat.zero_le _) (by simp)).trans rfl
  · rw [hend again s hs.1]
    have := hs.2
    rw [List.take_length, ← hs.1, List.take_length] at this
    rw [this]
  · have ha := List.getElem?_eq_getElem hi
    rw [h again i x[i] s ha hi hs.1]
    exact ih _ ⟨by simp [hs.1], set_take_succ ha hs.1 hs.2⟩

/-- Two lists are compared, element by element. -/
theorem eq_loop {α : Type} [DecidableEq α] (a b : List α) (hab : a.length = b.length) {body : (Int → Option Bool) → Int → Option Bool}
    (h : ∀ (again : Int → Option Bool) (i : Nat) x y, a[i]? = some x → b[i]? = some y → i < a.length → body again (i : Int) = if x = y then again ((i + 1 : Nat) : Int) else some false)
    (hend : ∀ (again : Int → Option Bool), body again (a.length : Int) = some true) (hl : a.length < 2 ^ 62) : loopO body 0 = some (decide (a = b)) := by
  refine (loopO_for (σ := Unit) (fun i _ => (i : Int)) a.length (fun i _ => some (decide (a.drop i = b.drop i))) (fun _ _ => True) (fun again _ _ => ?_) (fun again i _ hi _ ih => ?_) (by omega) (i := 0) (s := ()) (Nat.zero_le _) trivial).trans (by simp)
  · rw [hend]; simp [hab]
  · have hi' : i < b.length := by omega
    rw [h again i a[i] b[i] (List.getElem?_eq_getElem hi) (List.getElem?_eq_getElem hi') hi, ih () trivial, List.drop_eq_getElem_cons hi, List.drop_eq_getElem_cons hi']
    by_cases he : a[i] = b[i] <;> simp [he, -List.getElem_cons_drop]

def tot (x : List (List Int)) : Nat := (x.map List.length).sum

theorem szIntS_eq {a : List Int} {left : Int} (h0 : 0 ≤ left) (h1 : left ≤ 1048576) (hl : a.length < 2 ^ 63) : M_L_szIntS (a, left) = some (if left < a.length then -1 else left - a.length) := by
  unfold M_L_szIntS
  simp only [i64_in (left - (a.length : Int)) (by omega), bindO_some']
  by_cases h : left < a.length
  · rw [if_pos h]
    have : left - (a.length : Int) < 0 := by omega
    simp [this]
  · rw [if_neg h]
    have : ¬ left - (a.length : Int) < 0 := by omega
    simp [this]

theorem tot_drop {x : List (List Int)} {i : Nat} (hi : i < x.length) : tot (x.drop i) = x[i].length + tot (x.drop (i + 1)) := by
  rw [List.drop_eq_getElem_cons hi, tot, List.map_cons, List.sum_cons]
  rfl

theorem szIntSS_eq {x : List (List Int)} (hx : x.length < 2 ^ 63) (hr : ∀ r ∈ x, r.length < 2 ^ 63) : ∃ k, M_L_szIntSS (x, 1048576) = some k ∧ (0 ≤ k → x.length + tot x ≤ 1048576) := by
  unfold M_L_szIntSS
  simp only [i64_in (1048576 - (x.length : Int)) (by omega), bindO_some']
  by_cases h : 1048576 - (x.length : Int) < 0
  · exact ⟨-1, by simp [h], by omega⟩
  · simp only [h, decide_false, cond_false]
    refine loopO_ind (fun (s : Int × Int) (y : Option Int) => ∃ k, y = some k ∧ (0 ≤ k → x.length + tot x ≤ 1048576)) (fun s => 0 ≤ s.1 ∧ s.1 ≤ 1048576 ∧ 0 ≤ s.2 ∧ s.2 ≤ x.length ∧ (tot x : Int) = tot (x.drop s.2.toNat) + (1048576 - x.length - s.1)) (fun s => (x.length - s.2).toNat) (fun (again : Int × Int → Option Int) s hs ih => ?_)
      ⟨by dsimp only; omega, by dsimp only; omega, Int.le_refl _, by dsimp only; omega, by simp⟩ (by dsimp only; omega)
    obtain ⟨left, j⟩ := s
    obtain ⟨h1, h2, h3, h4, h6⟩ := hs
    dsimp only at h1 h2 h3 h4 h6 ih ⊢
    obtain ⟨i, rfl⟩ := Int.eq_ofNat_of_zero_le h3
    rw [Int.toNat_natCast] at h6
    by_cases hi : i < x.length
    · have hm := hr x[i] (List.getElem_mem hi)
      simp only [lt_yes hi, cond_true, getI_nat, List.getElem?_eq_getElem hi, bindO_some', szIntS_eq h1 h2 hm, i64_succ (show i < 2 ^ 62 by omega)]
      by_cases hlt : left < x[i].length
      · rw [if_pos hlt]
        exact ⟨-1, rfl, by omega⟩
      · rw [if_neg hlt]
        have h5 : ¬ left - (x[i].length : Int) < 0 := by omega
        simp only [h5, decide_false, cond_false]
        have h7 := tot_drop hi
        exact ih (left - (x[i].length : Int), ((i + 1 : Nat) : Int)) ⟨by dsimp only; omega, by dsimp only; omega, by dsimp only; omega, by dsimp only; omega, by dsimp only; rw [Int.toNat_natCast]; omega⟩ (by dsimp only; omega)
    · have : i = x.length := by omega
      subst this
      refine ⟨left, by simp, fun _ => ?_⟩
      simp [tot] at h6 ⊢
      omega

theorem row_le {x : List (List Int)} {r : List Int} (h : r ∈ x) : r.length ≤ tot x := by
  induction x with
  | nil => cases h
  | cons a x ih =>
    simp only [tot, List.map_cons, List.sum_cons] at ih ⊢
    rcases List.mem_cons.1 h with rfl | h
    · omega
    · have := ih h
      omega

theorem toIntSS_eq {x : List (List Int)} (h : x.length + tot x ≤ 1048576) : M_L_toIntSS x = some x := by
  unfold M_L_toIntSS
  have hx : (x.length : Int) ≤ ((lim : Nat) : Int) := by rw [lim_eq]; omega
  rw [guardO_of (by simpa using hx), bindO_some', Int.toNat_natCast]
  refine copy_loop x [] (fun again i a s ha hi hs => ?_) (fun again s hs => ?_) (by omega)
  · have hm := row_le (List.mem_of_getElem? ha)
    have hsi := List.getElem?_eq_getElem (l := s) (show i < s.length by omega)
    simp only [lt_yes hi, cond_true, getI_nat, ha, hsi, bindO_some', toIntS_eq (show a.length ≤ 1048576 by omega), Int.toNat_natCast, i64_succ (show i < 2 ^ 62 by omega)]
  · simp

theorem eqIntSS_eq {a b : List (List Int)} (h : a.length < 2 ^ 62) (hr : ∀ r ∈ a, r.length < 2 ^ 62) : M_L_eqIntSS (a, b) = some (decide (a = b)) := by
  unfold M_L_eqIntSS
  by_cases hl : a.length = b.length
  · have e1 : ((a.length : Int) != (b.length : Int)) = false := by simp [hl]
    dsimp only
    rw [e1, cond_false]
    refine eq_loop a b hl (fun again i x y hx hy hi => ?_) (fun again => by simp) h
    simp only [lt_yes hi, cond_true, getI_nat, hx, hy, bindO_some', eqIntS_eq (hr x (List.mem_of_getElem? hx)), i64_succ (show i < 2 ^ 62 by omega)]
    by_cases he : x = y <;> simp [he]
  · have e1 : ((a.length : Int) != (b.length : Int)) = true := by simp; omega
    dsimp only
    rw [e1, cond_true]
    congr 1
    symm
    simp only [decide_eq_false_iff_not]
    rintro rfl
    exact hl rfl

theorem containsFuncS_eq {l : List (List Int)} {f : List Int → Option Bool} {p : List Int → Bool} (hl : l.length < 2 ^ 62) (hf : ∀ a ∈ l, f a = some (p a)) : M_slices_ContainsFunc_ssint_sint (l, f) = some (l.any p) := by
  obtain ⟨j, h1, h2⟩ := walk_index_mem p f l 0 hf
  unfold M_slices_ContainsFunc_ssint_sint
  have : M_slices_IndexFunc_ssint_sint (l, f) = some j := by
    unfold M_slices_IndexFunc_ssint_sint
    refine (loop_walk l _ _ (fun again i a ha hi => ?_) (fun again => ?_) (by omega)).trans h1
    · simp only [getI_nat, ha, bindO_some', i64_succ (show i < 2 ^ 62 by omega), lt_yes hi, cond_true]
    · simp
  dsimp only
  rw [this, bindO_some', h2]

theorem all_not_any {α : Type} {p q : α → Bool} {l : List α} (h : ∀ a ∈ l, q a = !p a) : l.all p = !l.any q := by
  induction l with
  | nil => rfl
  | cons a l ih =>
    rw [List.all_cons, List.any_cons, ih fun b hb => h b (List.mem_cons_of_mem _ hb), h a (List.mem_cons_self ..)]
    cases p a <;> simp

/-- A square of counts. -/
def okM (m : List (List Int)) : Bool := decide (1 ≤ m.length ∧ m.length ≤ 8) && m.all fun r => (r.length == m.length) && r.all fun n => decide (0 ≤ n ∧ n ≤ 1000000)

theorem Nat.beq_eq_decide_eq' (a b : Nat) : (a == b) = decide (a = b) := rfl

theorem tMatrix_eq {m : List (List Int)} (hr : ∀ r ∈ m, r.length < 2 ^ 62) : M_S_tMatrix m = some (okM m) := by
  unfold M_S_tMatrix okM
  have e : decide (1 ≤ ((m.length : Nat) : Int) ∧ ((m.length : Nat) : Int) ≤ 8) = decide (1 ≤ m.length ∧ m.length ≤ 8) := by
    rw [decide_eq_decide]; omega
  rw [in_eq, bindO_some', e]
  by_cases h : 1 ≤ m.length ∧ m.length ≤ 8
  · simp only [h, and_self, decide_true, Bool.not_true, cond_false, Bool.true_and]
    refine (loop_walk m (fun _ r k => if ((r.length == m.length) && r.all fun n => decide (0 ≤ n ∧ n ≤ 1000000)) = true then k else some false) (some true) (fun again i a ha hi' => ?_) (fun again => ?_) (by omega)).trans (walk_all _ m 0)
    · have hb : (((a.length : Nat) : Int) != ((m.length : Nat) : Int)) = !(a.length == m.length) := by
        rw [bne_dec, Nat.beq_eq_decide_eq', ← decide_not, decide_eq_decide]
        omega
      simp only [getI_nat, ha, bindO_some', i64_succ (show i < 2 ^ 62 by omega), lt_yes hi', cond_true, hb, l1All_eq (hr a (List.mem_of_getElem? ha))]
      cases a.length == m.length
      · rfl
      · cases (a.all fun n => decide (0 ≤ n ∧ n ≤ 1000000)) <;> rfl
    · simp
  · simp [h]

theorem isPairwise_eq {m : List (List Int)} (hm : m.length < 2 ^ 62) (hr : ∀ r ∈ m, r.length < 2 ^ 62) : M_I_isPairwise m = some (okM m) := by
  unfold M_I_isPairwise okM
  have e : decide (1 ≤ ((m.length : Nat) : Int) ∧ ((m.length : Nat) : Int) ≤ 8) = decide (1 ≤ m.length ∧ m.length ≤ 8) := by
    rw [decide_eq_decide]; omega
  rw [within_eq, bindO_some', e]
  by_cases h : 1 ≤ m.length ∧ m.length ≤ 8
  · simp only [h, and_self, decide_true, cond_true, Bool.true_and]
    rw [containsFuncS_eq (p := fun r => !((r.length == m.length) && r.all fun n => decide (0 ≤ n ∧ n ≤ 1000000))) hm fun a ha => ?_, bindO_some']
    · rw [all_not_any fun _ _ => rfl]
    · unfold M_I_isPairwise_1
      have hb : (((a.length : Nat) : Int) != ((m.length : Nat) : Int)) = !(a.length == m.length) := by
        rw [bne_dec, Nat.beq_eq_decide_eq', ← decide_not, decide_eq_decide]
        omega
      dsimp only
      rw [hb, areCounts_eq a (hr a ha)]
      by_cases hc : a.length = m.length
      · have h8 : 1 ≤ a.length ∧ a.length ≤ 8 := by omega
        simp [hc, h]
      · have hc' : (a.length == m.length) = false := by simpa using hc
        simp [hc']
  · simp [h]

theorem okM_spec {m : List (List Int)} (h : okM m = true) : 1 ≤ m.length ∧ m.length ≤ 8 ∧ ∀ r ∈ m, r.length = m.length ∧ ∀ n ∈ r, 0 ≤ n ∧ n ≤ 1000000 := by
  simp only [okM, Bool.and_eq_true, decide_eq_true_eq, List.all_eq_true, beq_iff_eq] at h
  exact ⟨h.1.1, h.1.2, h.2⟩

theorem beats_same : M_I_dominates = M_S_tBeats := rfl

theorem wrap_u64 {i : Nat} (h : i < 2 ^ 62) : IntKind.wrap .u64 ((i : Nat) : Int) = (i : Int) := u64_in _ (by omega)

theorem beats_some {m : List (List Int)} (set : Int) (hm : m.length ≤ 8) (hr : ∀ r ∈ m, r.length = m.length) : ∃ b, M_S_tBeats (m, set) = some b := by
  unfold M_S_tBeats
  refine loopO_ind (fun (_ : Int) (y : Option Bool) => ∃ b, y = some b) (fun s => 0 ≤ s ∧ s ≤ m.length) (fun s => ((m.length : Int) - s).toNat) (fun again s hs ih => ?_) ⟨by omega, by omega⟩ (by omega)
  obtain ⟨i, rfl⟩ := Int.eq_ofNat_of_zero_le hs.1
  by_cases hi : i < m.length
  · simp only [lt_yes hi, cond_true]
    refine loopO_ind (fun (_ : Int) (y : Option Bool) => ∃ b, y = some b) (fun s => 0 ≤ s ∧ s ≤ m.length) (fun s => ((m.length : Int) - s).toNat) (fun again2 t ht ih2 => ?_) ⟨by omega, by omega⟩ (by omega)
    obtain ⟨j, rfl⟩ := Int.eq_ofNat_of_zero_le ht.1
    by_cases hj : j < m.length
    · have g1 : guardO (decide ((0 : Int) ≤ (i : Int))) = some () := guardO_of (by simp)
      have g2 : guardO (decide ((0 : Int) ≤ (j : Int))) = some () := guardO_of (by simp)
      have hri := hr m[i] (List.getElem_mem hi)
      have hrj := hr m[j] (List.getElem_mem hj)
      have next := ih2 ((j + 1 : Nat) : Int) ⟨by omega, by omega⟩ (by omega)
      simp only [lt_yes hj, cond_true, wrap_u64 (show i < 2 ^ 62 by omega), wrap_u64 (show j < 2 ^ 62 by omega), g1, g2, bindO_some', getI_nat, List.getElem?_eq_getElem hi, List.getElem?_eq_getElem hj, List.getElem?_eq_getElem (show j < m[i].length by omega), List.getElem?_eq_getElem (show i < m[j].length by omega), i64_succ (show j < 2 ^ 62 by omega)]
      cases (Vd.bits .and .i64 (Vd.shr .i64 set (i : Int)) 1 == 1)
      · exact next
      · cases (Vd.bits .and .i64 (Vd.shr .i64 set (j : Int)) 1 == 0)
        · exact next
        · cases decide (m[i][j] ≤ m[j][i])
          · exact next
          · exact ⟨false, rfl⟩
    · have hj' : decide ((j : Int) < (m.length : Int)) = false := by simp; omega
      rw [hj', cond_false, i64_succ (by omega), bindO_some']
      exact ih _ ⟨by omega, by omega⟩ (by omega)
  · have hi' : decide ((i : Int) < (m.length : Int)) = false := by simp; omega
    rw [hi', cond_false]
    exact ⟨true, rfl⟩

theorem wf_ss {x : List (List Int)} (h : WFI [.data (.sl (.sl (.int .i64)))] x) : x.length < 2 ^ 63 ∧ ∀ r ∈ x, r.length < 2 ^ 63 := by
  have h' : x.length ≤ maxLen ∧ ∀ r ∈ x, r.length ≤ maxLen ∧ ∀ n ∈ r, IntKind.min .i64 ≤ n ∧ n ≤ IntKind.max .i64 := h
  have hm : maxLen < 2 ^ 63 := by decide
  exact ⟨by omega, fun r hr => by have := (h'.2 r hr).1; omega⟩

/-- Marks in a list of lists: their number is all that counts. -/
theorem markIntSS_some {x : List (List Int)} {k : Int} (h0 : 0 ≤ k) (h : k + tot x ≤ 1000000000000) (hx : x.length ≤ 1048576) (ht : ∀ r ∈ x, r.length < 2 ^ 39) (hk : k < 2 ^ 39) : ∃ k' x', M_L_markIntSS (x, k) = some (k', x') ∧ 0 ≤ k' := by
  unfold M_L_markIntSS
  refine loopO_ind (fun (_ : Int × Int × List (List Int)) (y : Option (Int × List (List Int))) => ∃ k' x', y = some (k', x') ∧ 0 ≤ k') (fun s => 0 ≤ s.1 ∧ s.1 + tot (x.drop s.2.1.toNat) ≤ 1000000000000 ∧ 0 ≤ s.2.1 ∧ s.2.1 ≤ x.length ∧ s.2.2.length = x.length ∧ s.2.2.drop s.2.1.toNat = x.drop s.2.1.toNat) (fun s => ((x.length : Int) - s.2.1).toNat) (fun again s hs ih => ?_)
    ⟨h0, by simpa using h, Int.le_refl _, by dsimp only; omega, rfl, rfl⟩ (by dsimp only; omega)
  obtain ⟨c, j, y⟩ := s
  obtain ⟨g1, g2, g3, g4, g5, g6⟩ := hs
  dsimp only at g1 g2 g3 g4 g5 g6 ih ⊢
  obtain ⟨i, rfl⟩ := Int.eq_ofNat_of_zero_le g3
  rw [Int.toNat_natCast] at g2 g6
  by_cases hi : i < x.length
  · have hy : y[i]? = some x[i] := by
      have : (y.drop i)[0]? = (x.drop i)[0]? := by rw [g6]
      simpa [hi] using this
    have hd := tot_drop hi
    have hlt : decide ((i : Int) < (y.length : Int)) = true := by simp; omega
    have hxi := ht x[i] (List.getElem_mem hi)
    by_cases hc : c < 2 ^ 40
    · simp only [hlt, cond_true, getI_nat, hy, bindO_some', markIntS_eq (show x[i].length < 2 ^ 40 by omega) g1 hc, i64_succ (show i < 2 ^ 62 by omega), Int.toNat_natCast]
      refine ih _ ⟨by dsimp only; omega, by dsimp only; rw [Int.toNat_natCast]; omega, by dsimp only; omega, by dsimp only; omega, by simp [g5], ?_⟩ (by dsimp only; omega)
      dsimp only
      rw [Int.toNat_natCast]
      refine List.ext_getElem? fun m => ?_
      have := congrArg (fun l => l[m + 1]?) g6
      simp only [List.getElem?_drop] at this ⊢
      rw [List.getElem?_modify]
      rw [show i + (m + 1) = i + 1 + m by omega] at this
      have hne : ¬ i = i + 1 + m := by omega
      simp only [hne, if_false]
      simpa using this
    · exact absurd hc (by omega)
  · have hi' : decide ((i : Int) < (y.length : Int)) = false := by simp; omega
    rw [hi', cond_false]
    exact ⟨_, _, rfl, g1⟩

theorem markIntSS_one {x : List (List Int)} (h : x.length + tot x ≤ 1048576) : ∃ k' x', M_L_markIntSS (x, 1) = some (k', x') ∧ 0 ≤ k' :=
  markIntSS_some (by omega) (by omega) (by omega) (fun r hr => by have := row_le hr; omega) (by omega)

def onesN (n : Nat) : Nat := ((List.range 8).map fun i => n / 2 ^ i % 2).sum

theorem ones_tab : ((List.range 256).all fun n => decide (M_math_bits_OnesCount ((n : Nat) : Int) = some ((onesN n : Nat) : Int))) = true := by
  simp only [M_math_bits_OnesCount, M_math_bits_OnesCount64, bindO_int]
  kernel_rfl

theorem kOnes_tab : ((List.range 256).all fun n => decide (M_S_kOnes ((n : Nat) : Int) = some ((onesN n : Nat) : Int))) = true := by
  simp only [M_S_kOnes, loopO_eq, bindO_int]
  kernel_rfl

theorem ones_eq {n : Nat} (h : n < 256) : M_math_bits_OnesCount (n : Int) = some (onesN n : Int) := of_decide_eq_true (List.all_eq_true.1 ones_tab n (by simpa using h))

theorem kOnes_eq {n : Nat} (h : n < 256) : M_S_kOnes (n : Int) = some (onesN n : Int) := of_decide_eq_true (List.all_eq_true.1 kOnes_tab n (by simpa using h))

theorem shl_tab : ((List.range 9).all fun n => decide (1 ≤ Vd.shl .i64 1 ((n : Nat) : Int) ∧ Vd.shl .i64 1 ((n : Nat) : Int) ≤ 256)) = true := by kernel_rfl

theorem shl_le {n : Nat} (h : n ≤ 8) : 1 ≤ Vd.shl .i64 1 (n : Int) ∧ Vd.shl .i64 1 (n : Int) ≤ 256 := of_decide_eq_true (List.all_eq_true.1 shl_tab n (by simp; omega))

theorem SmithSet_same {m : List (List Int)} (hm : m.length < 2 ^ 62) (hr : ∀ r ∈ m, r.length < 2 ^ 62) : M_I_SmithSet m = M_S_SmithSet m := by
  unfold M_I_SmithSet M_S_SmithSet
  rw [isPairwise_eq hm hr, tMatrix_eq hr, beats_same, bindO_some', bindO_some']
  cases hok : okM m with
  | false => simp only [bindO_some', Bool.not_false, cond_true]
  | true =>
    obtain ⟨h1, h2, h3⟩ := okM_spec hok
    have hs := shl_le h2
    rw [wrap_u64 hm]
    generalize Vd.shl .i64 1 (m.length : Int) = top at hs
    have hg : guardO (decide ((0 : Int) ≤ (m.length : Int))) = some () := guardO_of (by simp)
    rw [hg]
    simp only [Bool.not_true, cond_false, bindO_some', i64_in (top - 1) (show -9223372036854775808 ≤ top - 1 ∧ top - 1 ≤ 9223372036854775807 by omega)]
    refine loopO_eqv (fun (s t : Int × Int) => s = t ∧ 0 ≤ s.1 ∧ s.1 < 256 ∧ 0 ≤ s.2) ⟨rfl, by dsimp only; omega, by dsimp only; omega, by dsimp only; omega⟩ (fun a1 a2 s t hst ih => ?_)
    obtain ⟨rfl, g1, g2, g3⟩ := hst
    obtain ⟨best, set⟩ := s
    dsimp only at g1 g2 g3 ⊢
    obtain ⟨b, rfl⟩ := Int.eq_ofNat_of_zero_le g1
    obtain ⟨k, rfl⟩ := Int.eq_ofNat_of_zero_le g3
    by_cases hk : (k : Int) < top
    · obtain ⟨z, hz⟩ := beats_some (m := m) (k : Int) h2 fun r hr => (h3 r hr).1
      have e1 : ∀ x : Int × Int, x = (((b : Nat) : Int), IntKind.wrap .i64 ((k : Int) + 1)) → a1 x = a2 x := fun x hx => by
        subst hx
        rw [i64_in ((k : Int) + 1) (by omega)]
        exact ih _ _ ⟨rfl, by dsimp only; omega, by dsimp only; omega, by dsimp only; omega⟩
      have e2 : ∀ x : Int × Int, x = (((k : Nat) : Int), IntKind.wrap .i64 ((k : Int) + 1)) → a1 x = a2 x := fun x hx => by
        subst hx
        rw [i64_in ((k : Int) + 1) (by omega)]
        exact ih _ _ ⟨rfl, by dsimp only; omega, by dsimp only; omega, by dsimp only; omega⟩
      have w1 : IntKind.wrap .u64 ((k : Nat) : Int) = (k : Int) := wrap_u64 (by omega)
      have w2 : IntKind.wrap .u64 ((b : Nat) : Int) = (b : Int) := wrap_u64 (by omega)
      simp only [hk, decide_true, cond_true, w1, w2, ones_eq (show k < 256 by omega), ones_eq (show b < 256 by omega), kOnes_eq (show k < 256 by omega), kOnes_eq (show b < 256 by omega), hz, bindO_some']
      cases z <;> cases decide (((onesN k : Nat) : Int) < ((onesN b : Nat) : Int)) <;> simp only [cond_true, cond_false]
      · exact e1 _ rfl
      · exact e1 _ rfl
      · exact e1 _ rfl
      · exact e2 _ rfl
    · simp only [hk, decide_false, cond_false]

theorem SmithSet_some {m : List (List Int)} (hm : m.length < 2 ^ 62) (hr : ∀ r ∈ m, r.length < 2 ^ 62) : ∃ r b, M_S_SmithSet m = some (r, b) ∧ r.length ≤ 8 := by
  unfold M_S_SmithSet
  rw [tMatrix_eq hr, bindO_some']
  cases hok : okM m with
  | false => exact ⟨[], false, rfl, by simp⟩
  | true =>
    obtain ⟨h1, h2, h3⟩ := okM_spec hok
    have hs := shl_le h2
    rw [wrap_u64 hm]
    generalize Vd.shl .i64 1 (m.length : Int) = top at hs
    have hg : guardO (decide ((0 : Int) ≤ (m.length : Int))) = some () := guardO_of (by simp)
    rw [hg]
    simp only [Bool.not_true, cond_false, bindO_some', i64_in (top - 1) (show -9223372036854775808 ≤ top - 1 ∧ top - 1 ≤ 9223372036854775807 by omega)]
    refine loopO_ind (fun (_ : Int × Int) (y : Option (List Int × Bool)) => ∃ r b, y = some (r, b) ∧ r.length ≤ 8) (fun s => 0 ≤ s.1 ∧ s.1 < 256 ∧ 0 ≤ s.2) (fun s => (top - s.2).toNat) (fun again s hst ih => ?_) ⟨by dsimp only; omega, by dsimp only; omega, by dsimp only; omega⟩ (by dsimp only; omega)
    obtain ⟨best, set⟩ := s
    obtain ⟨g1, g2, g3⟩ := hst
    dsimp only at g1 g2 g3 ih ⊢
    obtain ⟨b, rfl⟩ := Int.eq_ofNat_of_zero_le g1
    obtain ⟨k, rfl⟩ := Int.eq_ofNat_of_zero_le g3
    by_cases hk : (k : Int) < top
    · obtain ⟨z, hz⟩ := beats_some (m := m) (k : Int) h2 fun r hr => (h3 r hr).1
      simp only [hk, decide_true, cond_true, hz, bindO_some', kOnes_eq (show k < 256 by omega), kOnes_eq (show b < 256 by omega), i64_in ((k : Int) + 1) (by omega)]
      cases z
      · exact ih _ ⟨by dsimp only; omega, by dsimp only; omega, by dsimp only; omega⟩ (by dsimp only; omega)
      · cases decide (((onesN k : Nat) : Int) < ((onesN b : Nat) : Int))
        · exact ih _ ⟨by dsimp only; omega, by dsimp only; omega, by dsimp only; omega⟩ (by dsimp only; omega)
        · exact ih _ ⟨by dsimp only; omega, by dsimp only; omega, by dsimp only; omega⟩ (by dsimp only; omega)
    · simp only [hk, decide_false, cond_false]
      refine loopO_ind (fun (_ : List Int × Int) (y : Option (List Int × Bool)) => ∃ r b, y = some (r, b) ∧ r.length ≤ 8) (fun u => 0 ≤ u.2 ∧ u.2 ≤ m.length ∧ (u.1.length : Int) ≤ u.2) (fun u => ((m.length : Int) - u.2).toNat) (fun again2 u hu ih2 => ?_) ⟨Int.le_refl _, by dsimp only; omega, by simp⟩ (by dsimp only; omega)
      obtain ⟨o, j⟩ := u
      obtain ⟨f1, f2, f3⟩ := hu
      dsimp only at f1 f2 f3 ih2 ⊢
      obtain ⟨i, rfl⟩ := Int.eq_ofNat_of_zero_le f1
      by_cases hi : i < m.length
      · have hg2 : guardO (decide ((0 : Int) ≤ (i : Int))) = some () := guardO_of (by simp)
        have hg3 : guardO (lenOk (o.length + [((i : Nat) : Int)].length)) = some () := guardO_of (lenOk_of (by simp; omega))
        simp only [lt_yes hi, cond_true, wrap_u64 (show i < 2 ^ 62 by omega), hg2, hg3, bindO_some', i64_succ (show i < 2 ^ 62 by omega)]
        cases (Vd.bits .and .i64 (Vd.shr .i64 (b : Int) (i : Int)) 1 == 1)
        · exact ih2 _ ⟨by dsimp only; omega, by dsimp only; omega, by dsimp only; omega⟩ (by dsimp only; omega)
        · exact ih2 _ ⟨by dsimp only; omega, by dsimp only; omega, by simp; omega⟩ (by dsimp only; omega)
      · have hi' : decide ((i : Int) < (m.length : Int)) = false := by simp; omega
        rw [hi', cond_false]
        exact ⟨_, _, rfl, by omega⟩

theorem law_FnExactSmithSet (x : List (List Int)) (h : WFI [.data (.sl (.sl (.int .i64)))] x) : M_L_FnExactSmithSet x = some true := by
  obtain ⟨h1, h2⟩ := wf_ss (x := x) h
  unfold M_L_FnExactSmithSet
  obtain ⟨z, hz, hb⟩ := szIntSS_eq h1 h2
  rw [hz, bindO_some']
  by_cases h0 : z < 0
  · simp [h0]
  · have hb := hb (by omega)
    have h3 : x.length < 2 ^ 62 := by omega
    have h4 : ∀ r ∈ x, r.length < 2 ^ 62 := fun r hr => by have := row_le hr; omega
    obtain ⟨r, b, hs, hl⟩ := SmithSet_some h3 h4
    obtain ⟨k', x', hm, hk'⟩ := markIntSS_one hb
    have hr : r.length < 2 ^ 40 := by omega
    have hk2 : ¬ k' < 0 := by omega
    simp [h0, toIntSS_eq hb, SmithSet_same h3 h4, hs, eqIntSS_eq h3 h4, eqIntS_eq (show r.length < 2 ^ 62 by omega), hm, hk2, markIntS_eq hr, heldIntS_eq hr, one_nn]

end Go.Proofs.Ytmgphiofmhfjnaa.Vd
