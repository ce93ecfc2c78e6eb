/- The law FnExactLinkOf as plain functions on data returns true for all arguments. No conditions. -/
import Derived.Test.YtmgphiofmhfjnaaLinkMod
set_option linter.unusedVariables false
set_option linter.unusedSimpArgs false
set_option linter.unusedSectionVars false
set_option linter.unnecessarySimpa false
namespace Go.Proofs.Ytmgphiofmhfjnaa.Vd
open Go.IntWalk

theorem i64_succ {i : Nat} (h : i < 2 ^ 62) : IntKind.wrap .i64 ((i : Int) + 1) = ((i + 1 : Nat) : Int) := by
  rw [i64_in _ (by omega)]
  rfl

theorem lt_yes {i n : Nat} (h : i < n) : decide ((i : Int) < (n : Int)) = true := by simp [h]

def walk {α β : Type} (step : Nat → α → Option β → Option β) (fin : Option β) : Nat → List α → Option β
  | _, [] => fin
  | i, a :: r => step i a (walk step fin (i + 1) r)

theorem loop_walk {α β : Type} {body : (Int → Option β) → Int → Option β} (l : List α) (step : Nat → α → Option β → Option β) (fin : Option β)
    (h : ∀ (again : Int → Option β) (i : Nat) a, l[i]? = some a → i < l.length → body again (i : Int) = step i a (again ((i + 1 : Nat) : Int)))
    (hend : ∀ again : Int → Option β, body again (l.length : Int) = fin) (hl : l.length < 2 ^ 64) : loopO body 0 = walk step fin 0 l := by
  refine (loopO_for (σ := Unit) (fun i _ => (i : Int)) l.length (fun i _ => walk step fin i (l.drop i)) (fun _ _ => True) (fun again _ _ => ?_) (fun again i _ hi _ ih => ?_) hl (i := 0) (s := ()) (Nat.zero_le _) trivial).trans rfl
  · simp [hend, walk]
  · rw [h again i l[i] (List.getElem?_eq_getElem hi) hi, ih () trivial, List.drop_eq_getElem_cons hi, walk]

/-- A walk over a list by its numbers, with a state (before the number). -/

theorem walk_any {α : Type} (p : α → Bool) : ∀ (l : List α) (i : Nat), walk (fun _ a k => if p a = true then some true else k) (some false) i l = some (l.any p)
  | [], _ => rfl
  | a :: l, i => by
    rw [walk, walk_any p l]
    cases h : p a <;> simp [h]

theorem walk_all {α : Type} (p : α → Bool) : ∀ (l : List α) (i : Nat), walk (fun _ a k => if p a = true then k else some false) (some true) i l = some (l.all p)
  | [], _ => rfl
  | a :: l, i => by
    rw [walk, walk_all p l]
    cases h : p a <;> simp [h]

theorem walk_index {α : Type} (p : α → Bool) : ∀ (l : List α) (i : Nat), ∃ j : Int, walk (fun i a k => if p a = true then some (i : Int) else k) (some (-1)) i l = some j ∧ decide (j ≥ 0) = l.any p
  | [], _ => ⟨-1, rfl, rfl⟩
  | a :: l, i => by
    obtain ⟨j, h1, h2⟩ := walk_index p l (i + 1)
    cases h : p a
    · exact ⟨j, by simp [walk, h, h1], by simp [h, h2]⟩
    · exact ⟨i, by simp [walk, h], by simp [h]⟩

theorem toIntS_eq {x : List Int} (h : x.length ≤ 1048576) : M_L_toIntS x = some x := by
  unfold M_L_toIntS
  have hx : (x.length : Int) ≤ ((lim : Nat) : Int) := by rw [lim_eq]; omega
  rw [guardO_of (by simpa using hx), bindO_some']
  refine (loopO_for (σ := List Int) (fun i s => ((i : Int), s)) x.length (fun i s => some (x.take i ++ x.drop i)) (fun i s => s = x.take i ++ List.replicate (x.length - i) 0) (fun again s hs => ?_) (fun again i s hi hs ih => ?_) (by omega) (i := 0) (s := List.replicate x.length 0) (Nat.zero_le _) (by simp)).trans (by simp)
  · subst hs; simp
  · subst hs
    have h1 : (x.take i ++ List.replicate (x.length - i) (0 : Int))[i]? = some 0 := by
      rw [List.getElem?_append_right (by simp; omega)]
      simp [List.getElem?_replicate]
      omega
    have h2 : (x.take i ++ List.replicate (x.length - i) (0 : Int)).set i x[i] = x.take (i + 1) ++ List.replicate (x.length - (i + 1)) 0 := by
      refine List.ext_getElem? fun j => ?_
      rw [List.getElem?_set]
      by_cases hij : i = j
      · subst hij
        rw [if_pos rfl, if_pos (by simp; omega), List.getElem?_append_left (by simp; omega), List.getElem?_take, if_pos (by omega), List.getElem?_eq_getElem hi]
      · rw [if_neg hij]
        by_cases hj : j < i
        · rw [List.getElem?_append_left (by simp; omega), List.getElem?_append_left (by simp; omega), List.getElem?_take, List.getElem?_take, if_pos hj, if_pos (by omega)]
        · rw [List.getElem?_append_right (by simp; omega), List.getElem?_append_right (by simp; omega)]
          simp only [List.length_take, List.getElem?_replicate]
          rw [Nat.min_eq_left (by omega), Nat.min_eq_left (by omega)]
          by_cases hjx : j < x.length
          · rw [if_pos (by omega), if_pos (by omega)]
          · rw [if_neg (by omega), if_neg (by omega)]
    simp only [getI_nat, List.getElem?_eq_getElem hi, h1, bindO_some', Int.toNat_natCast, h2, i64_succ (show i < 2 ^ 62 by omega)]
    rw [ih _ rfl]
    simp [hi]

theorem eqIntS_eq {a b : List Int} (h : a.length < 2 ^ 62) : M_L_eqIntS (a, b) = some (decide (a = b)) := by
  unfold M_L_eqIntS
  by_cases hl : a.length = b.length
  · have e1 : ((a.length : Int) != (b.length : Int)) = false := by simp [hl]
    dsimp only
    rw [e1]
    simp only [cond_false]
    refine (loopO_for (σ := Unit) (fun i _ => (i : Int)) a.length (fun i _ => some (decide (a.drop i = b.drop i))) (fun _ _ => True) (fun again _ _ => ?_) (fun again i _ hi _ ih => ?_) (by omega) (i := 0) (s := ()) (Nat.zero_le _) trivial).trans (by simp)
    · simp [hl]
    · have hi' : i < b.length := by omega
      simp only [getI_nat, List.getElem?_eq_getElem hi, List.getElem?_eq_getElem hi', bindO_some', i64_succ (show i < 2 ^ 62 by omega), ih () trivial]
      rw [List.drop_eq_getElem_cons hi, List.drop_eq_getElem_cons hi']
      by_cases he : a[i] = b[i] <;> simp [bne_dec, he, hi, -List.getElem_cons_drop]
  · have e1 : ((a.length : Int) != (b.length : Int)) = true := by simp; omega
    dsimp only
    rw [e1]
    simp only [cond_true, Option.some.injEq]
    symm
    simp only [decide_eq_false_iff_not]
    rintro rfl
    exact hl rfl

def marks (n : Nat) (k : Int) : List Int := (List.range n).map fun (i : Nat) => k + (i : Int)

theorem marks_length (n : Nat) (k : Int) : (marks n k).length = n := by simp [marks]

theorem marks_get {n i : Nat} {k : Int} (h : i < n) : (marks n k)[i]? = some (k + i) := by
  simp [marks, h]

theorem markIntS_eq {a : List Int} {k : Int} (h : a.length < 2 ^ 40) (h0 : 0 ≤ k) (h1 : k < 2 ^ 40) : M_L_markIntS (a, k) = some (k + a.length, marks a.length k) := by
  unfold M_L_markIntS
  refine (loopO_for (σ := Int × List Int) (fun i s => (s.1, ((i : Int), s.2))) a.length (fun i s => some (k + a.length, marks a.length k)) (fun i s => s.1 = k + i ∧ s.2 = marks i k ++ a.drop i) (fun again s hs => ?_) (fun again i s hi hs ih => ?_) (by omega) (i := 0) (s := (k, a)) (Nat.zero_le _) (by simp [marks])).trans rfl
  · obtain ⟨s1, s2⟩ := s
    obtain ⟨rfl, rfl⟩ := hs
    simp [marks_length]
  · obtain ⟨s1, s2⟩ := s
    obtain ⟨rfl, rfl⟩ := hs
    have h2 : (marks i k ++ a.drop i)[i]? = some a[i] := by
      rw [List.getElem?_append_right (by simp [marks_length])]
      simp [marks_length, hi]
    have h3 : (marks i k ++ a.drop i).set i (k + i) = marks (i + 1) k ++ a.drop (i + 1) := by
      rw [List.set_append_right _ _ (by simp [marks_length]), marks_length, Nat.sub_self, List.drop_eq_getElem_cons hi, List.set_cons_zero]
      simp [marks, List.range_succ]
    have hlen : (marks i k ++ a.drop i).length = a.length := by simp [marks_length]; omega
    simp only [getI_nat, h2, bindO_some', Int.toNat_natCast, h3, i64_succ (show i < 2 ^ 62 by omega), hlen]
    rw [i64_in _ (by omega)]
    simp only [lt_yes hi, cond_true]
    exact ih (k + i + 1, marks (i + 1) k ++ a.drop (i + 1)) ⟨by simp; omega, rfl⟩

theorem heldIntS_eq {n : Nat} {k : Int} (h : n < 2 ^ 40) (h0 : 0 ≤ k) (h1 : k < 2 ^ 40) : M_L_heldIntS (marks n k, k) = some (k + n) := by
  unfold M_L_heldIntS
  refine (loopO_for (σ := Int) (fun i s => (s, (i : Int))) n (fun i s => some (k + n)) (fun i s => s = k + i) (fun again s hs => ?_) (fun again i s hi hs ih => ?_) (by omega) (i := 0) (s := k) (Nat.zero_le _) (by simp)).trans rfl
  · subst hs; simp [marks_length]
  · subst hs
    simp only [getI_nat, marks_get hi, marks_length, bindO_some', i64_succ (show i < 2 ^ 62 by omega)]
    rw [i64_in _ (by omega)]
    simp only [lt_yes hi, cond_true, bne_self_eq_false, cond_false]
    exact ih (k + i + 1) (by simp; omega)

theorem has_eq {l : List Int} {n : Int} (hl : l.length < 2 ^ 62) : M_S_l1Has (l, n) = some (l.any (· == n)) := by
  unfold M_S_l1Has
  refine (loop_walk l (fun _ a k => if (a == n) = true then some true else k) (some false) (fun again i a ha hi => ?_) (fun again => ?_) (by omega)).trans (walk_any _ l 0)
  · simp only [getI_nat, ha, bindO_some', i64_succ (show i < 2 ^ 62 by omega)]
    cases h : a == n <;> simp [h, hi]
  · simp

theorem index_eq {l : List Int} {n : Int} (hl : l.length < 2 ^ 62) : ∃ j : Int, M_slices_Index_sint_int (l, n) = some j ∧ decide (j ≥ 0) = l.any (· == n) := by
  obtain ⟨j, h1, h2⟩ := walk_index (fun a : Int => a == n) l 0
  refine ⟨j, ?_, h2⟩
  unfold M_slices_Index_sint_int
  refine (loop_walk l (fun i a k => if (a == n) = true then some (i : Int) else k) (some (-1)) (fun again i a ha hi => ?_) (fun again => ?_) (by omega)).trans h1
  · simp only [getI_nat, ha, bindO_some', i64_succ (show i < 2 ^ 62 by omega), lt_yes hi, cond_true]
    rw [show (n == a) = (a == n) from BEq.comm]
    cases h : a == n <;> simp [h]
  · simp

theorem one_nn (n : Nat) : ((1 : Int) + (n : Int) < 0) = False := by
  simp only [eq_iff_iff, iff_false]
  omega

theorem lenOk_of {n : Nat} (h : n ≤ 68719476736) : lenOk n = true := by simp [lenOk, lim_eq, h]

theorem sliceLN_nat {l n : Nat} (h : l ≤ n) : sliceLN (l : Int) n = some (l, n) := by
  unfold sliceLN
  rw [if_pos ⟨by omega, by omega⟩]
  simp

theorem sliceNH_nat {h n : Nat} (hh : h ≤ n) : sliceNH (h : Int) n = some (0, h) := by
  unfold sliceNH
  rw [if_pos ⟨by omega, by omega⟩]
  simp

theorem contains_eq {l : List Int} {n : Int} (hl : l.length < 2 ^ 62) : M_slices_Contains_sint_int (l, n) = some (l.any (· == n)) := by
  obtain ⟨j, h1, h2⟩ := index_eq (n := n) hl
  unfold M_slices_Contains_sint_int
  dsimp only
  rw [h1, bindO_some', h2]


/-- A loop whose states go down: a property of its answer. -/
theorem loopO_ind {σ β : Type} {body : (σ → Option β) → σ → Option β} (Q : σ → Option β → Prop) (Inv : σ → Prop) (μ : σ → Nat)
    (step : ∀ (again : σ → Option β) s, Inv s → (∀ s', Inv s' → μ s' < μ s → Q s' (again s')) → Q s (body again s)) {s : σ} (h0 : Inv s) (hm : μ s < 2 ^ 64) : Q s (loopO body s) := by
  rw [loopO_eq]
  have H : ∀ (n : Nat) (s : σ), Inv s → μ s < n → Q s (iter body n s) := by
    intro n
    induction n with
    | zero => intro s _ h; exact absurd h (Nat.not_lt_zero _)
    | succ n ih => intro s hs h; exact step _ s hs fun s' hs' h' => ih s' hs' (by omega)
  exact H many s h0 hm

/-- Two loops of the same steps have the same answer. -/
theorem loopO_eqv {σ τ β : Type} {b1 : (σ → Option β) → σ → Option β} {b2 : (τ → Option β) → τ → Option β} {s : σ} {t : τ} (R : σ → τ → Prop) (h0 : R s t)
    (step : ∀ (a1 : σ → Option β) (a2 : τ → Option β) s t, R s t → (∀ s' t', R s' t' → a1 s' = a2 t') → b1 a1 s = b2 a2 t) : loopO b1 s = loopO b2 t :=
  loopO_rel R (fun y z => y = z) rfl step h0

theorem in_eq (x a b : Int) : M_S_l1In (x, a, b) = some (decide (a ≤ x ∧ x ≤ b)) := by
  by_cases h : a ≤ x <;> by_cases h2 : x ≤ b <;> simp [M_S_l1In, h, h2]

theorem within_eq (x a b : Int) : M_I_within (x, a, b) = some (decide (a ≤ x ∧ x ≤ b)) := by
  by_cases h : a ≤ x <;> by_cases h2 : x ≤ b <;> simp [M_I_within, h, h2]

theorem l1All_eq {l : List Int} {lo hi : Int} (hl : l.length < 2 ^ 62) : M_S_l1All (l, lo, hi) = some (l.all fun n => decide (lo ≤ n ∧ n ≤ hi)) := by
  unfold M_S_l1All
  refine (loop_walk l (fun _ a k => if (decide (lo ≤ a ∧ a ≤ hi)) = true then k else some false) (some true) (fun again i a ha hi' => ?_) (fun again => ?_) (by omega)).trans (walk_all (fun n => decide (lo ≤ n ∧ n ≤ hi)) l 0)
  · simp only [getI_nat, ha, bindO_some', i64_succ (show i < 2 ^ 62 by omega), lt_yes hi', cond_true, in_eq]
    cases decide (lo ≤ a ∧ a ≤ hi) <;> rfl
  · simp

theorem walk_index_mem {α : Type} (p : α → Bool) (f : α → Option Bool) : ∀ (l : List α) (i : Nat), (∀ a ∈ l, f a = some (p a)) →
    ∃ j : Int, walk (fun i a k => bindO (f a) fun b => cond b (some (i : Int)) k) (some (-1)) i l = some j ∧ decide (j ≥ 0) = l.any p
  | [], _, _ => ⟨-1, rfl, rfl⟩
  | a :: l, i, hf => by
    obtain ⟨j, h1, h2⟩ := walk_index_mem p f l (i + 1) fun b hb => hf b (List.mem_cons_of_mem _ hb)
    have ha := hf a (List.mem_cons_self ..)
    cases h : p a
    · exact ⟨j, by simp [walk, ha, h, h1], by simp [h, h2]⟩
    · exact ⟨i, by simp [walk, ha, h], by simp [h]⟩

theorem containsFunc_eq {l : List Int} {f : Int → Option Bool} {p : Int → Bool} (hl : l.length < 2 ^ 62) (hf : ∀ a ∈ l, f a = some (p a)) : M_slices_ContainsFunc_sint_int (l, f) = some (l.any p) := by
  obtain ⟨j, h1, h2⟩ := walk_index_mem p f l 0 hf
  unfold M_slices_ContainsFunc_sint_int
  have : M_slices_IndexFunc_sint_int (l, f) = some j := by
    unfold M_slices_IndexFunc_sint_int
    refine (loop_walk l _ _ (fun again i a ha hi => ?_) (fun again => ?_) (by omega)).trans h1
    · simp only [getI_nat, ha, bindO_some', i64_succ (show i < 2 ^ 62 by omega), lt_yes hi, cond_true]
    · simp
  dsimp only
  rw [this, bindO_some', h2]

theorem areAll_eq {l : List Int} {f : Int → Option Bool} {p : Int → Bool} (hl : l.length < 2 ^ 62) (hf : ∀ a ∈ l, f a = some (p a)) : M_I_areAll (l, f) = some (l.all p) := by
  unfold M_I_areAll
  dsimp only
  rw [containsFunc_eq (p := fun a => !p a) hl fun a ha => by simp [M_I_areAll_1, hf a ha], bindO_some']
  congr 1
  rw [List.any_eq_not_all_not]
  simp

/-! ### Groups -/

def prodM (p : Int) : Int → List Int → Int
  | out, [] => out
  | out, x :: l => prodM p (out * x % p) l

def hstep (c s k : Int) : Int := (c * s + k + 1) % 2147483647

def over (p q a b : Int) : Int := prodM p 1 [a, b ^ (q - 1).toNat % p]


/-- A proposition as a Boolean. -/
noncomputable def pdec (p : Prop) : Bool := @decide p (Classical.propDecidable p)

theorem pdec_iff {p : Prop} : pdec p = true ↔ p := by simp [pdec]

theorem pdec_yes {p : Prop} (h : p) : pdec p = true := pdec_iff.2 h

theorem pdec_no {p : Prop} (h : ¬ p) : pdec p = false := by simp [pdec, h]

theorem loop_check {α β : Type} {body : (Int → Option β) → Int → Option β} (l : List α) (G : Nat → Prop) (yes no : Option β)
    (hstep : ∀ (again : Int → Option β) (i : Nat) a, l[i]? = some a → i < l.length → G i → (body again (i : Int) = again ((i + 1 : Nat) : Int) ∧ G (i + 1)) ∨ (body again (i : Int) = no ∧ ¬ G l.length))
    (hend : ∀ again : Int → Option β, body again (l.length : Int) = yes) (h0 : G 0) (hl : l.length < 2 ^ 64) : (G l.length → loopO body 0 = yes) ∧ (¬ G l.length → loopO body 0 = no) := by
  constructor
  · intro hG
    refine (loopO_for (σ := Unit) (fun i _ => (i : Int)) l.length (fun _ _ => yes) (fun i _ => G i) (fun again _ hg => hend again) (fun again i _ hi hg ih => ?_) hl (i := 0) (s := ()) (Nat.zero_le _) h0).trans rfl
    rcases hstep again i l[i] (List.getElem?_eq_getElem hi) hi hg with ⟨h1, h2⟩ | ⟨h1, h2⟩
    · rw [h1]
      exact ih () h2
    · exact absurd hG h2
  · intro hG
    refine (loopO_for (σ := Unit) (fun i _ => (i : Int)) l.length (fun _ _ => no) (fun i _ => G i) (fun again _ hg => absurd hg hG) (fun again i _ hi hg ih => ?_) hl (i := 0) (s := ()) (Nat.zero_le _) h0).trans rfl
    rcases hstep again i l[i] (List.getElem?_eq_getElem hi) hi hg with ⟨h1, h2⟩ | ⟨h1, h2⟩
    · rw [h1]
      exact ih () h2
    · exact h1

theorem check_dec {β : Type} {m : Option β} {G : Prop} {f : Bool → Option β} (h : (G → m = f true) ∧ (¬ G → m = f false)) : m = f (pdec G) := by
  by_cases hg : G
  · rw [h.1 hg, pdec_yes hg]
  · rw [h.2 hg, pdec_no hg]

theorem mem_take_succ {α : Type} {l : List α} {i : Nat} {a : α} (h : l[i]? = some a) : l.take (i + 1) = l.take i ++ [a] := by
  rw [List.take_add_one, h]
  rfl

theorem pairwise_snoc {α : Type} {R : α → α → Prop} {l : List α} {a : α} : (l ++ [a]).Pairwise R ↔ l.Pairwise R ∧ ∀ b ∈ l, R b a := by
  rw [List.pairwise_append]
  constructor
  · rintro ⟨h1, _, h2⟩
    exact ⟨h1, fun b hb => h2 b hb a (by simp)⟩
  · rintro ⟨h1, h2⟩
    exact ⟨h1, by simp, fun b hb c hc => by simp at hc; subst hc; exact h2 b hb⟩

/-- Rising and within bounds. -/

def Rising (lo hi : Int) (l : List Int) : Prop := (∀ a ∈ l, lo ≤ a ∧ a ≤ hi) ∧ l.Pairwise (· < ·)

noncomputable def nodupB (l : List Int) : Bool := pdec l.Nodup

theorem areDifferent_eq {l : List Int} (hl : l.length < 2 ^ 62) : M_I_areDifferent l = some (nodupB l) := by
  unfold M_I_areDifferent
  have h := loop_check (β := Bool) l (fun i => (l.take i).Nodup) (some true) (some false) (body := (fun (again0 : (Int → (Option Bool))) => (fun (s1 : Int) => (cond (decide (s1 < (((List.length l) : Nat) : Int))) (bindO (getI l s1) (fun (a2 : Int) => (bindO (sliceNH s1 (List.length l)) (fun (a3 : (Nat × Nat)) => (bindO (M_slices_Contains_sint_int ((List.drop a3.1 (List.take a3.2 l)), a2)) (fun (a4 : Bool) => (cond a4 (some false) (bindO (some (IntKind.wrap .i64 (s1 + (1 : Int)))) (fun (a5 : Int) => (again0 a5)))))))))) (some true)))))
    (fun again i a ha hi' hg => ?_) (fun again => ?_) (by simp) (by omega)
  · rw [List.take_length] at h
    exact check_dec (f := some) h
  · have hlen : (l.take i).length < 2 ^ 62 := by simp; omega
    simp only [lt_yes hi', cond_true, getI_nat, ha, bindO_some', sliceNH_nat (show i ≤ l.length by omega), List.drop_zero, contains_eq hlen, i64_succ (show i < 2 ^ 62 by omega), mem_take_succ ha, List.take_length]
    by_cases hm : a ∈ l.take i
    · right
      have : (l.take i).any (· == a) = true := by simpa using hm
      refine ⟨by rw [this]; rfl, fun hn => ?_⟩
      have h2 : (l.take (i + 1)).Nodup := hn.sublist (List.take_sublist _ _)
      rw [mem_take_succ ha] at h2
      have := (pairwise_snoc.1 h2).2 a hm
      exact this rfl
    · left
      have : (l.take i).any (· == a) = false := by
        cases hc : (l.take i).any (· == a)
        · rfl
        · exact absurd (by simpa using hc) hm
      refine ⟨by rw [this]; rfl, pairwise_snoc.2 ⟨hg, fun b hb hba => hm (by subst hba; exact hb)⟩⟩
  · simp

theorem set_take_succ {α : Type} {x s : List α} {i : Nat} {a : α} (hx : x[i]? = some a) (hs : s.length = x.length) (ht : s.take i = x.take i) : (s.set i a).take (i + 1) = x.take (i + 1) := by
  have hi : i < x.length := (List.getElem?_eq_some_iff.1 hx).1
  rw [List.take_add_one, List.take_add_one, hx, List.take_set, List.getElem?_set_self (by omega), ← ht]
  congr 1
  rw [List.set_eq_of_length_le (by rw [List.length_take]; omega)]

/-- A list is written anew, element by element. -/

theorem copy_loop {α : Type} (x : List α) (z : α) {body : (Int × List α → Option (List α)) → Int × List α → Option (List α)}
    (h : ∀ (again : Int × List α → Option (List α)) (i : Nat) a (s : List α), x[i]? = some a → i < x.length → s.length = x.length → body again ((i : Int), s) = again (((i + 1 : Nat) : Int), s.set i a))
    (hend : ∀ (again : Int × List α → Option (List α)) (s : List α), s.length = x.length → body again ((x.length : Int), s) = some s) (hl : x.length < 2 ^ 62) : loopO body (0, List.replicate x.length z) = some x := by
  refine (loopO_for (σ := List α) (fun i s => ((i : Int), s)) x.length (fun i s => some x) (fun i s => s.length = x.length ∧ s.take i = x.take i) (fun again s hs => ?_) (fun again i s hi hs ih => ?_) (by omega) (i := 0) (s := List.replicate x.length z) (Nat.zero_le _) (by simp)).trans rfl
  · rw [hend again s hs.1]
    have := hs.2
    rw [List.take_length, ← hs.1, List.take_length] at this
    rw [this]
  · have ha := List.getElem?_eq_getElem hi
    rw [h again i x[i] s ha hi hs.1]
    exact ih _ ⟨by simp [hs.1], set_take_succ ha hs.1 hs.2⟩

/-- Two lists are compared, element by element. -/

theorem eq_loop {α : Type} [DecidableEq α] (a b : List α) (hab : a.length = b.length) {body : (Int → Option Bool) → Int → Option Bool}
    (h : ∀ (again : Int → Option Bool) (i : Nat) x y, a[i]? = some x → b[i]? = some y → i < a.length → body again (i : Int) = if x = y then again ((i + 1 : Nat) : Int) else some false)
    (hend : ∀ (again : Int → Option Bool), body again (a.length : Int) = some true) (hl : a.length < 2 ^ 62) : loopO body 0 = some (decide (a = b)) := by
  refine (loopO_for (σ := Unit) (fun i _ => (i : Int)) a.length (fun i _ => some (decide (a.drop i = b.drop i))) (fun _ _ => True) (fun again _ _ => ?_) (fun again i _ hi _ ih => ?_) (by omega) (i := 0) (s := ()) (Nat.zero_le _) trivial).trans (by simp)
  · rw [hend]; simp [hab]
  · have hi' : i < b.length := by omega
    rw [h again i a[i] b[i] (List.getElem?_eq_getElem hi) (List.getElem?_eq_getElem hi') hi, ih () trivial, List.drop_eq_getElem_cons hi, List.drop_eq_getElem_cons hi']
    by_cases he : a[i] = b[i] <;> simp [he, -List.getElem_cons_drop]

/-! ### Lists of lists of numbers -/

def tot (x : List (List Int)) : Nat := (x.map List.length).sum

theorem szIntS_eq {a : List Int} {left : Int} (h0 : 0 ≤ left) (h1 : left ≤ 1048576) (hl : a.length < 2 ^ 63) : M_L_szIntS (a, left) = some (if left < a.length then -1 else left - a.length) := by
  unfold M_L_szIntS
  simp only [i64_in (left - (a.length : Int)) (by omega), bindO_some']
  by_cases h : left < a.length
  · rw [if_pos h]
    have : left - (a.length : Int) < 0 := by omega
    simp [this]
  · rw [if_neg h]
    have : ¬ left - (a.length : Int) < 0 := by omega
    simp [this]

theorem tot_drop {x : List (List Int)} {i : Nat} (hi : i < x.length) : tot (x.drop i) = x[i].length + tot (x.drop (i + 1)) := by
  rw [List.drop_eq_getElem_cons hi, tot, List.map_cons, List.sum_cons]
  rfl

theorem szIntSS_eq {x : List (List Int)} (hx : x.length < 2 ^ 63) (hr : ∀ r ∈ x, r.length < 2 ^ 63) : ∃ k, M_L_szIntSS (x, 1048576) = some k ∧ (0 ≤ k → x.length + tot x ≤ 1048576) := by
  unfold M_L_szIntSS
  simp only [i64_in (1048576 - (x.length : Int)) (by omega), bindO_some']
  by_cases h : 1048576 - (x.length : Int) < 0
  · exact ⟨-1, by simp [h], by omega⟩
  · simp only [h, decide_false, cond_false]
    refine loopO_ind (fun (s : Int × Int) (y : Option Int) => ∃ k, y = some k ∧ (0 ≤ k → x.length + tot x ≤ 1048576)) (fun s => 0 ≤ s.1 ∧ s.1 ≤ 1048576 ∧ 0 ≤ s.2 ∧ s.2 ≤ x.length ∧ (tot x : Int) = tot (x.drop s.2.toNat) + (1048576 - x.length - s.1)) (fun s => (x.length - s.2).toNat) (fun (again : Int × Int → Option Int) s hs ih => ?_)
      ⟨by dsimp only; omega, by dsimp only; omega, Int.le_refl _, by dsimp only; omega, by simp⟩ (by dsimp only; omega)
    obtain ⟨left, j⟩ := s
    obtain ⟨h1, h2, h3, h4, h6⟩ := hs
    dsimp only at h1 h2 h3 h4 h6 ih ⊢
    obtain ⟨i, rfl⟩ := Int.eq_ofNat_of_zero_le h3
    rw [Int.toNat_natCast] at h6
    by_cases hi : i < x.length
    · have hm := hr x[i] (List.getElem_mem hi)
      simp only [lt_yes hi, cond_true, getI_nat, List.getElem?_eq_getElem hi, bindO_some', szIntS_eq h1 h2 hm, i64_succ (show i < 2 ^ 62 by omega)]
      by_cases hlt : left < x[i].length
      · rw [if_pos hlt]
        exact ⟨-1, rfl, by omega⟩
      · rw [if_neg hlt]
        have h5 : ¬ left - (x[i].length : Int) < 0 := by omega
        simp only [h5, decide_false, cond_false]
        have h7 := tot_drop hi
        exact ih (left - (x[i].length : Int), ((i + 1 : Nat) : Int)) ⟨by dsimp only; omega, by dsimp only; omega, by dsimp only; omega, by dsimp only; omega, by dsimp only; rw [Int.toNat_natCast]; omega⟩ (by dsimp only; omega)
    · have : i = x.length := by omega
      subst this
      refine ⟨left, by simp, fun _ => ?_⟩
      simp [tot] at h6 ⊢
      omega

theorem row_le {x : List (List Int)} {r : List Int} (h : r ∈ x) : r.length ≤ tot x := by
  induction x with
  | nil => cases h
  | cons a x ih =>
    simp only [tot, List.map_cons, List.sum_cons] at ih ⊢
    rcases List.mem_cons.1 h with rfl | h
    · omega
    · have := ih h
      omega

theorem toIntSS_eq {x : List (List Int)} (h : x.length + tot x ≤ 1048576) : M_L_toIntSS x = some x := by
  unfold M_L_toIntSS
  have hx : (x.length : Int) ≤ ((lim : Nat) : Int) := by rw [lim_eq]; omega
  rw [guardO_of (by simpa using hx), bindO_some', Int.toNat_natCast]
  refine copy_loop x [] (fun again i a s ha hi hs => ?_) (fun again s hs => ?_) (by omega)
  · have hm := row_le (List.mem_of_getElem? ha)
    have hsi := List.getElem?_eq_getElem (l := s) (show i < s.length by omega)
    simp only [lt_yes hi, cond_true, getI_nat, ha, hsi, bindO_some', toIntS_eq (show a.length ≤ 1048576 by omega), Int.toNat_natCast, i64_succ (show i < 2 ^ 62 by omega)]
  · simp

theorem eqIntSS_eq {a b : List (List Int)} (h : a.length < 2 ^ 62) (hr : ∀ r ∈ a, r.length < 2 ^ 62) : M_L_eqIntSS (a, b) = some (decide (a = b)) := by
  unfold M_L_eqIntSS
  by_cases hl : a.length = b.length
  · have e1 : ((a.length : Int) != (b.length : Int)) = false := by simp [hl]
    dsimp only
    rw [e1, cond_false]
    refine eq_loop a b hl (fun again i x y hx hy hi => ?_) (fun again => by simp) h
    simp only [lt_yes hi, cond_true, getI_nat, hx, hy, bindO_some', eqIntS_eq (hr x (List.mem_of_getElem? hx)), i64_succ (show i < 2 ^ 62 by omega)]
    by_cases he : x = y <;> simp [he]
  · have e1 : ((a.length : Int) != (b.length : Int)) = true := by simp; omega
    dsimp only
    rw [e1, cond_true]
    congr 1
    symm
    simp only [decide_eq_false_iff_not]
    rintro rfl
    exact hl rfl

theorem Nat.beq_eq_decide_eq' (a b : Nat) : (a == b) = decide (a = b) := rfl

theorem wf_ss {x : List (List Int)} (h : WFI [.data (.sl (.sl (.int .i64)))] x) : x.length < 2 ^ 63 ∧ ∀ r ∈ x, r.length < 2 ^ 63 := by
  have h' : x.length ≤ maxLen ∧ ∀ r ∈ x, r.length ≤ maxLen ∧ ∀ n ∈ r, IntKind.min .i64 ≤ n ∧ n ≤ IntKind.max .i64 := h
  have hm : maxLen < 2 ^ 63 := by decide
  exact ⟨by omega, fun r hr => by have := (h'.2 r hr).1; omega⟩

theorem has_contains {l : List Int} (hl : l.length < 2 ^ 62) (p : Nat × Nat) (a : Int) : M_S_l1Has (List.drop p.1 (List.take p.2 l), a) = M_slices_Contains_sint_int (List.drop p.1 (List.take p.2 l), a) := by
  have : (List.drop p.1 (List.take p.2 l)).length < 2 ^ 62 := by simp; omega
  rw [contains_eq this, has_eq this]

theorem vDifferent_eq {l : List Int} (hl : l.length < 2 ^ 62) : M_S_vDifferent l = some (nodupB l) := by
  rw [← areDifferent_eq hl]
  unfold M_S_vDifferent M_I_areDifferent
  simp only [has_contains hl]

/-- Rankings of options. -/

theorem markIntSS_some {x : List (List Int)} {k : Int} (h0 : 0 ≤ k) (h : k + tot x ≤ 1000000000000) (hx : x.length ≤ 1048576) (ht : ∀ r ∈ x, r.length < 2 ^ 39) (hk : k < 2 ^ 39) : ∃ k' x', M_L_markIntSS (x, k) = some (k', x') ∧ 0 ≤ k' := by
  unfold M_L_markIntSS
  refine loopO_ind (fun (_ : Int × Int × List (List Int)) (y : Option (Int × List (List Int))) => ∃ k' x', y = some (k', x') ∧ 0 ≤ k') (fun s => 0 ≤ s.1 ∧ s.1 + tot (x.drop s.2.1.toNat) ≤ 1000000000000 ∧ 0 ≤ s.2.1 ∧ s.2.1 ≤ x.length ∧ s.2.2.length = x.length ∧ s.2.2.drop s.2.1.toNat = x.drop s.2.1.toNat) (fun s => ((x.length : Int) - s.2.1).toNat) (fun again s hs ih => ?_)
    ⟨h0, by simpa using h, Int.le_refl _, by dsimp only; omega, rfl, rfl⟩ (by dsimp only; omega)
  obtain ⟨c, j, y⟩ := s
  obtain ⟨g1, g2, g3, g4, g5, g6⟩ := hs
  dsimp only at g1 g2 g3 g4 g5 g6 ih ⊢
  obtain ⟨i, rfl⟩ := Int.eq_ofNat_of_zero_le g3
  rw [Int.toNat_natCast] at g2 g6
  by_cases hi : i < x.length
  · have hy : y[i]? = some x[i] := by
      have : (y.drop i)[0]? = (x.drop i)[0]? := by rw [g6]
      simpa [hi] using this
    have hd := tot_drop hi
    have hlt : decide ((i : Int) < (y.length : Int)) = true := by simp; omega
    have hxi := ht x[i] (List.getElem_mem hi)
    by_cases hc : c < 2 ^ 40
    · simp only [hlt, cond_true, getI_nat, hy, bindO_some', markIntS_eq (show x[i].length < 2 ^ 40 by omega) g1 hc, i64_succ (show i < 2 ^ 62 by omega), Int.toNat_natCast]
      refine ih _ ⟨by dsimp only; omega, by dsimp only; rw [Int.toNat_natCast]; omega, by dsimp only; omega, by dsimp only; omega, by simp [g5], ?_⟩ (by dsimp only; omega)
      dsimp only
      rw [Int.toNat_natCast]
      refine List.ext_getElem? fun m => ?_
      have := congrArg (fun l => l[m + 1]?) g6
      simp only [List.getElem?_drop] at this ⊢
      rw [List.getElem?_modify]
      rw [show i + (m + 1) = i + 1 + m by omega] at this
      have hne : ¬ i = i + 1 + m := by omega
      simp only [hne, if_false]
      simpa using this
    · exact absurd hc (by omega)
  · have hi' : decide ((i : Int) < (y.length : Int)) = false := by simp; omega
    rw [hi', cond_false]
    exact ⟨_, _, rfl, g1⟩

theorem markIntSS_one {x : List (List Int)} (h : x.length + tot x ≤ 1048576) : ∃ k' x', M_L_markIntSS (x, 1) = some (k', x') ∧ 0 ≤ k' :=
  markIntSS_some (by omega) (by omega) (by omega) (fun r hr => by have := row_le hr; omega) (by omega)


/-- A list is put together, element by element. -/
theorem append_loop {α β : Type} (y : List α) (fin : List α → Option β) {body : (List α × Int → Option β) → List α × Int → Option β}
    (h : ∀ (again : List α × Int → Option β) (i : Nat) a (s : List α), y[i]? = some a → i < y.length → s.length = i → body again (s, (i : Int)) = again (s ++ [a], ((i + 1 : Nat) : Int)))
    (hend : ∀ (again : List α × Int → Option β) (s : List α), s.length = y.length → body again (s, (y.length : Int)) = fin s) (hl : y.length < 2 ^ 62) : loopO body ([], 0) = fin y := by
  refine (loopO_for (σ := List α) (fun i s => (s, (i : Int))) y.length (fun i s => fin y) (fun i s => s = y.take i) (fun again s hs => ?_) (fun again i s hi hs ih => ?_) (by omega) (i := 0) (s := []) (Nat.zero_le _) (by simp)).trans rfl
  · subst hs
    rw [List.take_length]
    exact hend again y rfl
  · subst hs
    have ha := List.getElem?_eq_getElem hi
    rw [h again i y[i] _ ha hi (by simp; omega)]
    refine ih _ ?_
    rw [List.take_add_one, ha]
    rfl

noncomputable def okP (p : List Int) : Bool := decide (p.length ≤ 24) && ((p.all fun n => decide (0 ≤ n ∧ n ≤ (p.length : Int) - 1)) && nodupB p)

theorem mGood_eq {p : List Int} (hp : p.length < 2 ^ 62) : M_S_mGood p = some (okP p) := by
  unfold M_S_mGood okP
  have e : decide (((p.length : Nat) : Int) ≤ 24) = decide (p.length ≤ 24) := by rw [decide_eq_decide]; omega
  rw [e, i64_in ((p.length : Int) - 1) (by omega), bindO_some', l1All_eq hp, bindO_some', vDifferent_eq hp, bindO_some']
  cases decide (p.length ≤ 24)
  · rfl
  · cases (p.all fun n => decide (0 ≤ n ∧ n ≤ (p.length : Int) - 1)) <;> rfl

theorem IsPermutation_eq {p : List Int} (hp : p.length < 2 ^ 62) : M_I_IsPermutation p = some (okP p) := by
  unfold M_I_IsPermutation okP
  have e : decide (((p.length : Nat) : Int) ≤ 24) = decide (p.length ≤ 24) := by rw [decide_eq_decide]; omega
  rw [e, areAll_eq (p := fun n => decide (0 ≤ n ∧ n ≤ (p.length : Int) - 1)) hp fun a _ => by simp [M_I_IsPermutation_1, i64_in ((p.length : Int) - 1) (by omega), within_eq], bindO_some', areDifferent_eq hp, bindO_some']
  cases decide (p.length ≤ 24)
  · rfl
  · cases (p.all fun n => decide (0 ≤ n ∧ n ≤ (p.length : Int) - 1)) <;> rfl

theorem okP_spec {p : List Int} (h : okP p = true) : p.length ≤ 24 ∧ (∀ n ∈ p, 0 ≤ n ∧ n < p.length) ∧ p.Nodup := by
  simp only [okP, Bool.and_eq_true, decide_eq_true_eq, List.all_eq_true, nodupB, pdec_iff] at h
  exact ⟨h.1, fun n hn => by have := h.2.1 n hn; omega, h.2.2⟩

def pick (p l : List Int) : List Int := p.map fun k => l.getD k.toNat 0

theorem pick_len (p l : List Int) : (pick p l).length = p.length := by simp [pick]

theorem pick_get {p l : List Int} {i : Nat} {a : Int} (h : (pick p l)[i]? = some a) (hp : ∀ n ∈ p, 0 ≤ n ∧ n < l.length) : ∃ k, p[i]? = some k ∧ getI l k = some a := by
  simp only [pick, List.getElem?_map, Option.map_eq_some_iff] at h
  obtain ⟨k, hk, rfl⟩ := h
  have := hp k (List.mem_of_getElem? hk)
  refine ⟨k, hk, ?_⟩
  simp only [getI, this.1, if_true, List.getD_eq_getElem?_getD]
  rw [List.getElem?_eq_getElem (by omega)]
  rfl

theorem mApply_eq {p l : List Int} (hp : ∀ n ∈ p, 0 ≤ n ∧ n < l.length) (hl : p.length ≤ 1048576) : M_S_mApply (p, l) = some (pick p l) := by
  unfold M_S_mApply
  have hx : (p.length : Int) ≤ ((lim : Nat) : Int) := by rw [lim_eq]; omega
  dsimp only
  rw [guardO_of (by simpa using hx), bindO_some', Int.toNat_natCast, ← pick_len p l]
  refine copy_loop (pick p l) 0 (fun again i a s ha hi hs => ?_) (fun again s hs => ?_) (by rw [pick_len]; omega)
  · obtain ⟨k, hk, hg⟩ := pick_get ha hp
    have hsi := List.getElem?_eq_getElem (l := s) (show i < s.length by omega)
    simp only [lt_yes hi, cond_true, getI_nat, hk, hg, hsi, bindO_some', Int.toNat_natCast]
    rw [i64_succ (by rw [pick_len] at hi; omega)]
  · simp

theorem I_at_eq {p l : List Int} (hp : ∀ n ∈ p, 0 ≤ n ∧ n < l.length) (hl : p.length ≤ 1048576) : M_I_at (l, p) = some (pick p l) := by
  unfold M_I_at
  dsimp only
  rw [← pick_len p l]
  refine append_loop (pick p l) some (fun again i a s ha hi hs => ?_) (fun again s hs => by simp) (by rw [pick_len]; omega)
  obtain ⟨k, hk, hg⟩ := pick_get ha hp
  simp only [lt_yes hi, cond_true, getI_nat, hk, hg, bindO_some']
  rw [pick_len] at hi
  rw [guardO_of (lenOk_of (by simp; omega)), bindO_some', i64_succ (by omega)]

theorem own_eq {l : List Int} (hl : l.length ≤ 1048576) : M_S_l1Own l = some l := by
  unfold M_S_l1Own
  rw [guardO_of (lenOk_of (by simp; omega))]
  rfl

theorem clone_eq {l : List Int} (hl : l.length ≤ 1048576) : M_slices_Clone_sint_int l = some l := by
  unfold M_slices_Clone_sint_int
  rw [guardO_of (lenOk_of (by simp; omega))]
  simp only [bindO_some', List.nil_append, Bool.not_true, cond_false]
  cases l with
  | nil => simp [ambO]
  | cons a l => rfl

theorem LinkOf_same {x : List (List Int)} (hx : x.length < 2 ^ 62) (hr : ∀ r ∈ x, r.length < 2 ^ 62) : M_I_LinkOf x = M_S_LinkOf x := by
  unfold M_I_LinkOf M_S_LinkOf
  rw [within_eq, in_eq]
  simp only [bindO_some']
  by_cases hk : 1 ≤ (x.length : Int) ∧ (x.length : Int) ≤ 6
  · have hk' : decide (1 ≤ (x.length : Int) ∧ (x.length : Int) ≤ 6) = true := by simpa using hk
    rw [hk']
    simp only [Bool.not_true, cond_false]
    have h0 : getI x 0 = some x[0] := by rw [getI_zero, List.getElem?_eq_getElem (by omega)]
    refine loopO_eqv (fun (s t : Int) => s = t ∧ 0 ≤ s ∧ s ≤ x.length ∧ ∀ j : Nat, (j : Int) < s → ∀ r, x[j]? = some r → okP r = true ∧ r.length = x[0].length) ⟨rfl, by omega, by omega, fun j hj => by omega⟩ (fun a1 a2 s t hst ih => ?_)
    obtain ⟨rfl, g1, g2, g3⟩ := hst
    obtain ⟨i, rfl⟩ := Int.eq_ofNat_of_zero_le g1
    by_cases hi : i < x.length
    · have hri := hr x[i] (List.getElem_mem hi)
      simp only [lt_yes hi, cond_true, getI_nat, List.getElem?_eq_getElem hi, bindO_some', h0, mGood_eq hri, IsPermutation_eq hri, i64_succ (show i < 2 ^ 62 by omega)]
      have hb : (((x[i].length : Nat) : Int) != ((x[0].length : Nat) : Int)) = !(x[i].length == x[0].length) := by
        rw [bne_dec, Nat.beq_eq_decide_eq', ← decide_not, decide_eq_decide]
        omega
      rw [hb]
      cases hok : okP x[i]
      · cases (x[i].length == x[0].length) <;> rfl
      · cases hle : (x[i].length == x[0].length)
        · rfl
        · simp only [Bool.not_true, cond_false]
          refine ih _ _ ⟨rfl, by omega, by omega, fun j hj r hjr => ?_⟩
          by_cases hji : j = i
          · subst hji
            rw [List.getElem?_eq_getElem hi] at hjr
            cases hjr
            exact ⟨hok, by simpa using hle⟩
          · exact g3 j (by omega) r hjr
    · have hi' : decide ((i : Int) < (x.length : Int)) = false := by simp; omega
      have hall : ∀ r ∈ x, okP r = true ∧ r.length = x[0].length := fun r hm => by
        obtain ⟨j, hj⟩ := List.mem_iff_getElem?.1 hm
        have := (List.getElem?_eq_some_iff.1 hj).1
        exact g3 j (by omega) r hj
      have hz := (okP_spec (hall x[0] (List.getElem_mem _)).1).1
      have hsl : sliceLN 1 x.length = some (1, x.length) := sliceLN_nat (l := 1) (by omega)
      simp only [hi', cond_false, h0, bindO_some', own_eq (show x[0].length ≤ 1048576 by omega), clone_eq (show x[0].length ≤ 1048576 by omega), hsl, List.take_length]
      refine loopO_eqv (fun (s t : List Int × Int) => s = t ∧ s.1.length = x[0].length ∧ 0 ≤ s.2) ⟨rfl, rfl, Int.le_refl _⟩ (fun b1 b2 s t hst ih2 => ?_)
      obtain ⟨rfl, f1, f2⟩ := hst
      obtain ⟨o, j⟩ := s
      dsimp only at f1 f2 ⊢
      obtain ⟨m, rfl⟩ := Int.eq_ofNat_of_zero_le f2
      by_cases hm : m < (x.drop 1).length
      · have hmem : (x.drop 1)[m] ∈ x := List.mem_of_mem_drop (List.getElem_mem hm)
        have hq := hall _ hmem
        have hq2 := okP_spec hq.1
        have hrange : ∀ n ∈ (x.drop 1)[m], 0 ≤ n ∧ n < o.length := fun n hn => by have := hq2.2.1 n hn; omega
        have hm62 : m < 2 ^ 62 := by simp at hm; omega
        simp only [lt_yes hm, cond_true, getI_nat, List.getElem?_eq_getElem hm, bindO_some', mApply_eq hrange (show (x.drop 1)[m].length ≤ 1048576 by omega), I_at_eq hrange (show (x.drop 1)[m].length ≤ 1048576 by omega), i64_succ hm62]
        exact ih2 _ _ ⟨rfl, by dsimp only; rw [pick_len, hq.2], by dsimp only; omega⟩
      · have hm' : decide ((m : Int) < ((x.drop 1).length : Int)) = false := by simp only [decide_eq_false_iff_not]; omega
        simp only [hm', cond_false]
  · have hk' : decide (1 ≤ (x.length : Int) ∧ (x.length : Int) ≤ 6) = false := by simpa using hk
    rw [hk']
    simp only [Bool.not_false, cond_true]

theorem LinkOf_some {x : List (List Int)} (hx : x.length < 2 ^ 62) (hr : ∀ r ∈ x, r.length < 2 ^ 62) : ∃ r b, M_S_LinkOf x = some (r, b) ∧ r.length ≤ 24 := by
  unfold M_S_LinkOf
  rw [in_eq]
  simp only [bindO_some']
  by_cases hk : 1 ≤ (x.length : Int) ∧ (x.length : Int) ≤ 6
  · have hk' : decide (1 ≤ (x.length : Int) ∧ (x.length : Int) ≤ 6) = true := by simpa using hk
    rw [hk']
    simp only [Bool.not_true, cond_false]
    have h0 : getI x 0 = some x[0] := by rw [getI_zero, List.getElem?_eq_getElem (by omega)]
    refine loopO_ind (fun (_ : Int) (y : Option (List Int × Bool)) => ∃ r b, y = some (r, b) ∧ r.length ≤ 24) (fun (s : Int) => 0 ≤ s ∧ s ≤ x.length ∧ ∀ j : Nat, (j : Int) < s → ∀ r, x[j]? = some r → okP r = true ∧ r.length = x[0].length) (fun s => ((x.length : Int) - s).toNat) (fun again s hs ih => ?_) ⟨by omega, by omega, fun j hj => by omega⟩ (by omega)
    obtain ⟨g1, g2, g3⟩ := hs
    obtain ⟨i, rfl⟩ := Int.eq_ofNat_of_zero_le g1
    by_cases hi : i < x.length
    · have hri := hr x[i] (List.getElem_mem hi)
      simp only [lt_yes hi, cond_true, getI_nat, List.getElem?_eq_getElem hi, bindO_some', h0, mGood_eq hri, i64_succ (show i < 2 ^ 62 by omega)]
      have hb : (((x[i].length : Nat) : Int) != ((x[0].length : Nat) : Int)) = !(x[i].length == x[0].length) := by
        rw [bne_dec, Nat.beq_eq_decide_eq', ← decide_not, decide_eq_decide]
        omega
      rw [hb]
      cases hok : okP x[i]
      · cases (x[i].length == x[0].length) <;> exact ⟨[], false, rfl, by simp⟩
      · cases hle : (x[i].length == x[0].length)
        · exact ⟨[], false, rfl, by simp⟩
        · simp only [Bool.not_true, cond_false]
          refine ih _ ⟨by omega, by omega, fun j hj r hjr => ?_⟩ (by omega)
          by_cases hji : j = i
          · subst hji
            rw [List.getElem?_eq_getElem hi] at hjr
            cases hjr
            exact ⟨hok, by simpa using hle⟩
          · exact g3 j (by omega) r hjr
    · have hi' : decide ((i : Int) < (x.length : Int)) = false := by simp; omega
      have hall : ∀ r ∈ x, okP r = true ∧ r.length = x[0].length := fun r hm => by
        obtain ⟨j, hj⟩ := List.mem_iff_getElem?.1 hm
        have := (List.getElem?_eq_some_iff.1 hj).1
        exact g3 j (by omega) r hj
      have hz := (okP_spec (hall x[0] (List.getElem_mem _)).1).1
      have hsl : sliceLN 1 x.length = some (1, x.length) := sliceLN_nat (l := 1) (by omega)
      simp only [hi', cond_false, h0, bindO_some', own_eq (show x[0].length ≤ 1048576 by omega), hsl, List.take_length]
      refine loopO_ind (fun (_ : List Int × Int) (y : Option (List Int × Bool)) => ∃ r b, y = some (r, b) ∧ r.length ≤ 24) (fun (s : List Int × Int) => s.1.length = x[0].length ∧ 0 ≤ s.2 ∧ s.2 ≤ x.length) (fun s => ((x.length : Int) - s.2).toNat) (fun again2 s hs ih2 => ?_) ⟨rfl, Int.le_refl _, by dsimp only; omega⟩ (by dsimp only; omega)
      obtain ⟨o, j⟩ := s
      obtain ⟨f1, f2, f3⟩ := hs
      dsimp only at f1 f2 f3 ih2 ⊢
      obtain ⟨m, rfl⟩ := Int.eq_ofNat_of_zero_le f2
      by_cases hm : m < (x.drop 1).length
      · have hmem : (x.drop 1)[m] ∈ x := List.mem_of_mem_drop (List.getElem_mem hm)
        have hq := hall _ hmem
        have hq2 := okP_spec hq.1
        have hrange : ∀ n ∈ (x.drop 1)[m], 0 ≤ n ∧ n < o.length := fun n hn => by have := hq2.2.1 n hn; omega
        have hm62 : m < x.length := by simp at hm; omega
        simp only [lt_yes hm, cond_true, getI_nat, List.getElem?_eq_getElem hm, bindO_some', mApply_eq hrange (show (x.drop 1)[m].length ≤ 1048576 by omega), i64_succ (show m < 2 ^ 62 by omega)]
        exact ih2 _ ⟨by dsimp only; rw [pick_len, hq.2], by dsimp only; omega, by dsimp only; omega⟩ (by dsimp only; omega)
      · have hm' : decide ((m : Int) < ((x.drop 1).length : Int)) = false := by simp only [decide_eq_false_iff_not]; omega
        simp only [hm', cond_false]
        exact ⟨_, _, rfl, by omega⟩
  · have hk' : decide (1 ≤ (x.length : Int) ∧ (x.length : Int) ≤ 6) = false := by simpa using hk
    rw [hk']
    simp only [Bool.not_false, cond_true]
    exact ⟨[], false, rfl, by simp⟩

theorem law_FnExactLinkOf (x : List (List Int)) (h : WFI [.data (.sl (.sl (.int .i64)))] x) : M_L_FnExactLinkOf x = some true := by
  obtain ⟨h1, h2⟩ := wf_ss (x := x) h
  unfold M_L_FnExactLinkOf
  obtain ⟨z, hz, hb⟩ := szIntSS_eq h1 h2
  rw [hz, bindO_some']
  by_cases h0 : z < 0
  · simp [h0]
  · have hb := hb (by omega)
    have h3 : x.length < 2 ^ 62 := by omega
    have h4 : ∀ r ∈ x, r.length < 2 ^ 62 := fun r hr => by have := row_le hr; omega
    obtain ⟨r, b, hs, hl⟩ := LinkOf_some h3 h4
    obtain ⟨k', x', hm, hk'⟩ := markIntSS_one hb
    have hr : r.length < 2 ^ 40 := by omega
    have hk2 : ¬ k' < 0 := by omega
    simp [h0, toIntSS_eq hb, LinkOf_same h3 h4, hs, eqIntSS_eq h3 h4, eqIntS_eq (show r.length < 2 ^ 62 by omega), hm, hk2, markIntS_eq hr, heldIntS_eq hr, one_nn]

end Go.Proofs.Ytmgphiofmhfjnaa.Vd
