/- The law FnExactTallyVotes as plain functions on data returns true for all arguments. No conditions. -/
import Derived.Test.YtfbemdohiikhhaaTallyMod
set_option linter.unusedVariables false
set_option linter.unusedSimpArgs false
set_option linter.unusedSectionVars false
set_option linter.unnecessarySimpa false
namespace Go.Proofs.Ytfbemdohiikhhaa.Vd
open Go.IntWalk

theorem i64_succ {i : Nat} (h : i < 2 ^ 62) : IntKind.wrap .i64 ((i : Int) + 1) = ((i + 1 : Nat) : Int) := by
  rw [i64_in _ (by omega)]
  rfl

theorem lt_yes {i n : Nat} (h : i < n) : decide ((i : Int) < (n : Int)) = true := by simp [h]

theorem lt_no (n : Nat) : decide ((n : Int) < (n : Int)) = false := by simp

/-- A walk over a list by its numbers, with no other state. -/
def walk {α β : Type} (step : Nat → α → Option β → Option β) (fin : Option β) : Nat → List α → Option β
  | _, [] => fin
  | i, a :: r => step i a (walk step fin (i + 1) r)

theorem loop_walk {α β : Type} {body : (Int → Option β) → Int → Option β} (l : List α) (step : Nat → α → Option β → Option β) (fin : Option β)
    (h : ∀ (again : Int → Option β) (i : Nat) a, l[i]? = some a → i < l.length → body again (i : Int) = step i a (again ((i + 1 : Nat) : Int)))
    (hend : ∀ again : Int → Option β, body again (l.length : Int) = fin) (hl : l.length < 2 ^ 64) : loopO body 0 = walk step fin 0 l := by
  refine (loopO_for (σ := Unit) (fun i _ => (i : Int)) l.length (fun i _ => walk step fin i (l.drop i)) (fun _ _ => True) (fun again _ _ => ?_) (fun again i _ hi _ ih => ?_) hl (i := 0) (s := ()) (Nat.zero_le _) trivial).trans rfl
  · simp [hend, walk]
  · rw [h again i l[i] (List.getElem?_eq_getElem hi) hi, ih () trivial, List.drop_eq_getElem_cons hi, walk]

/-- A walk over a list by its numbers, with a state (before the number). -/
def walkS {α β σ : Type} (step : Nat → α → σ → (σ → Option β) → Option β) (fin : σ → Option β) : Nat → List α → σ → Option β
  | _, [], s => fin s
  | i, a :: r, s => step i a s (walkS step fin (i + 1) r)

theorem loop_walkS {α β σ τ : Type} {body : (τ → Option β) → τ → Option β} (enc : Int → σ → τ) (l : List α) (step : Nat → α → σ → (σ → Option β) → Option β) (fin : σ → Option β)
    (h : ∀ (again : τ → Option β) (i : Nat) a s, l[i]? = some a → i < l.length → body again (enc i s) = step i a s fun s' => again (enc ((i + 1 : Nat) : Int) s'))
    (hend : ∀ (again : τ → Option β) s, body again (enc l.length s) = fin s) (hl : l.length < 2 ^ 64) (s : σ) : loopO body (enc 0 s) = walkS step fin 0 l s := by
  refine (loopO_for (σ := σ) (fun i s => enc (i : Int) s) l.length (fun i s => walkS step fin i (l.drop i) s) (fun _ _ => True) (fun again _ _ => ?_) (fun again i s hi _ ih => ?_) hl (i := 0) (s := s) (Nat.zero_le _) trivial).trans rfl
  · simp [hend, walkS]
  · rw [h again i l[i] s (List.getElem?_eq_getElem hi) hi, List.drop_eq_getElem_cons hi, walkS]
    congr 1
    funext s'
    exact ih s' trivial

/-- The same, where the states keep something. -/
theorem loop_walkI {α β σ τ : Type} {body : (τ → Option β) → τ → Option β} (enc : Int → σ → τ) (l : List α) (step : Nat → α → σ → (σ → Option β) → Option β) (fin : σ → Option β) (Inv : Nat → σ → Prop)
    (hc : ∀ (i : Nat) a s (k k' : σ → Option β), l[i]? = some a → Inv i s → (∀ s', Inv (i + 1) s' → k s' = k' s') → step i a s k = step i a s k')
    (h : ∀ (again : τ → Option β) (i : Nat) a s, l[i]? = some a → i < l.length → Inv i s → body again (enc i s) = step i a s fun s' => again (enc ((i + 1 : Nat) : Int) s'))
    (hend : ∀ (again : τ → Option β) s, Inv l.length s → body again (enc l.length s) = fin s) (hl : l.length < 2 ^ 64) (s : σ) (h0 : Inv 0 s) : loopO body (enc 0 s) = walkS step fin 0 l s := by
  refine (loopO_for (σ := σ) (fun i s => enc (i : Int) s) l.length (fun i s => walkS step fin i (l.drop i) s) Inv (fun again s hs => ?_) (fun again i s hi hs ih => ?_) hl (i := 0) (s := s) (Nat.zero_le _) h0).trans rfl
  · simp [hend _ _ hs, walkS]
  · rw [h again i l[i] s (List.getElem?_eq_getElem hi) hi hs, List.drop_eq_getElem_cons hi, walkS]
    exact hc i l[i] s _ _ (List.getElem?_eq_getElem hi) hs fun s' hs' => ih s' hs'

theorem walk_all {α : Type} (p : α → Bool) : ∀ (l : List α) (i : Nat), walk (fun _ a k => if p a = true then k else some false) (some true) i l = some (l.all p)
  | [], _ => rfl
  | a :: l, i => by
    rw [walk, walk_all p l]
    cases h : p a <;> simp [h]

theorem walk_index {α : Type} (p : α → Bool) : ∀ (l : List α) (i : Nat), ∃ j : Int, walk (fun i a k => if p a = true then some (i : Int) else k) (some (-1)) i l = some j ∧ decide (j ≥ 0) = l.any p
  | [], _ => ⟨-1, rfl, rfl⟩
  | a :: l, i => by
    obtain ⟨j, h1, h2⟩ := walk_index p l (i + 1)
    cases h : p a
    · exact ⟨j, by simp [walk, h, h1], by simp [h, h2]⟩
    · exact ⟨i, by simp [walk, h], by simp [h]⟩

theorem toIntS_eq {x : List Int} (h : x.length ≤ 1048576) : M_L_toIntS x = some x := by
  unfold M_L_toIntS
  have hx : (x.length : Int) ≤ ((lim : Nat) : Int) := by rw [lim_eq]; omega
  rw [guardO_of (by simpa using hx), bindO_some']
  refine (loopO_for (σ := List Int) (fun i s => ((i : Int), s)) x.length (fun i s => some (x.take i ++ x.drop i)) (fun i s => s = x.take i ++ List.replicate (x.length - i) 0) (fun again s hs => ?_) (fun again i s hi hs ih => ?_) (by omega) (i := 0) (s := List.replicate x.length 0) (Nat.zero_le _) (by simp)).trans (by simp)
  · subst hs; simp
  · subst hs
    have h1 : (x.take i ++ List.replicate (x.length - i) (0 : Int))[i]? = some 0 := by
      rw [List.getElem?_append_right (by simp; omega)]
      simp [List.getElem?_replicate]
      omega
    have h2 : (x.take i ++ List.replicate (x.length - i) (0 : Int)).set i x[i] = x.take (i + 1) ++ List.replicate (x.length - (i + 1)) 0 := by
      refine List.ext_getElem? fun j => ?_
      rw [List.getElem?_set]
      by_cases hij : i = j
      · subst hij
        rw [if_pos rfl, if_pos (by simp; omega), List.getElem?_append_left (by simp; omega), List.getElem?_take, if_pos (by omega), List.getElem?_eq_getElem hi]
      · rw [if_neg hij]
        by_cases hj : j < i
        · rw [List.getElem?_append_left (by simp; omega), List.getElem?_append_left (by simp; omega), List.getElem?_take, List.getElem?_take, if_pos hj, if_pos (by omega)]
        · rw [List.getElem?_append_right (by simp; omega), List.getElem?_append_right (by simp; omega)]
          simp only [List.length_take, List.getElem?_replicate]
          rw [Nat.min_eq_left (by omega), Nat.min_eq_left (by omega)]
          by_cases hjx : j < x.length
          · rw [if_pos (by omega), if_pos (by omega)]
          · rw [if_neg (by omega), if_neg (by omega)]
    simp only [getI_nat, List.getElem?_eq_getElem hi, h1, bindO_some', Int.toNat_natCast, h2, i64_succ (show i < 2 ^ 62 by omega)]
    rw [ih _ rfl]
    simp [hi]

theorem eqIntS_eq {a b : List Int} (h : a.length < 2 ^ 62) : M_L_eqIntS (a, b) = some (decide (a = b)) := by
  unfold M_L_eqIntS
  by_cases hl : a.length = b.length
  · have e1 : ((a.length : Int) != (b.length : Int)) = false := by simp [hl]
    dsimp only
    rw [e1]
    simp only [cond_false]
    refine (loopO_for (σ := Unit) (fun i _ => (i : Int)) a.length (fun i _ => some (decide (a.drop i = b.drop i))) (fun _ _ => True) (fun again _ _ => ?_) (fun again i _ hi _ ih => ?_) (by omega) (i := 0) (s := ()) (Nat.zero_le _) trivial).trans (by simp)
    · simp [hl]
    · have hi' : i < b.length := by omega
      simp only [getI_nat, List.getElem?_eq_getElem hi, List.getElem?_eq_getElem hi', bindO_some', i64_succ (show i < 2 ^ 62 by omega), ih () trivial]
      rw [List.drop_eq_getElem_cons hi, List.drop_eq_getElem_cons hi']
      by_cases he : a[i] = b[i] <;> simp [bne_dec, he, hi, -List.getElem_cons_drop]
  · have e1 : ((a.length : Int) != (b.length : Int)) = true := by simp; omega
    dsimp only
    rw [e1]
    simp only [cond_true, Option.some.injEq]
    symm
    simp only [decide_eq_false_iff_not]
    rintro rfl
    exact hl rfl

def marks (n : Nat) (k : Int) : List Int := (List.range n).map fun (i : Nat) => k + (i : Int)

theorem marks_length (n : Nat) (k : Int) : (marks n k).length = n := by simp [marks]

theorem marks_get {n i : Nat} {k : Int} (h : i < n) : (marks n k)[i]? = some (k + i) := by
  simp [marks, h]

theorem markIntS_eq {a : List Int} {k : Int} (h : a.length < 2 ^ 40) (h0 : 0 ≤ k) (h1 : k < 2 ^ 40) : M_L_markIntS (a, k) = some (k + a.length, marks a.length k) := by
  unfold M_L_markIntS
  refine (loopO_for (σ := Int × List Int) (fun i s => (s.1, ((i : Int), s.2))) a.length (fun i s => some (k + a.length, marks a.length k)) (fun i s => s.1 = k + i ∧ s.2 = marks i k ++ a.drop i) (fun again s hs => ?_) (fun again i s hi hs ih => ?_) (by omega) (i := 0) (s := (k, a)) (Nat.zero_le _) (by simp [marks])).trans rfl
  · obtain ⟨s1, s2⟩ := s
    obtain ⟨rfl, rfl⟩ := hs
    simp [marks_length]
  · obtain ⟨s1, s2⟩ := s
    obtain ⟨rfl, rfl⟩ := hs
    have h2 : (marks i k ++ a.drop i)[i]? = some a[i] := by
      rw [List.getElem?_append_right (by simp [marks_length])]
      simp [marks_length, hi]
    have h3 : (marks i k ++ a.drop i).set i (k + i) = marks (i + 1) k ++ a.drop (i + 1) := by
      rw [List.set_append_right _ _ (by simp [marks_length]), marks_length, Nat.sub_self, List.drop_eq_getElem_cons hi, List.set_cons_zero]
      simp [marks, List.range_succ]
    have hlen : (marks i k ++ a.drop i).length = a.length := by simp [marks_length]; omega
    simp only [getI_nat, h2, bindO_some', Int.toNat_natCast, h3, i64_succ (show i < 2 ^ 62 by omega), hlen]
    rw [i64_in _ (by omega)]
    simp only [lt_yes hi, cond_true]
    exact ih (k + i + 1, marks (i + 1) k ++ a.drop (i + 1)) ⟨by simp; omega, rfl⟩

theorem heldIntS_eq {n : Nat} {k : Int} (h : n < 2 ^ 40) (h0 : 0 ≤ k) (h1 : k < 2 ^ 40) : M_L_heldIntS (marks n k, k) = some (k + n) := by
  unfold M_L_heldIntS
  refine (loopO_for (σ := Int) (fun i s => (s, (i : Int))) n (fun i s => some (k + n)) (fun i s => s = k + i) (fun again s hs => ?_) (fun again i s hi hs ih => ?_) (by omega) (i := 0) (s := k) (Nat.zero_le _) (by simp)).trans rfl
  · subst hs; simp [marks_length]
  · subst hs
    simp only [getI_nat, marks_get hi, marks_length, bindO_some', i64_succ (show i < 2 ^ 62 by omega)]
    rw [i64_in _ (by omega)]
    simp only [lt_yes hi, cond_true, bne_self_eq_false, cond_false]
    exact ih (k + i + 1) (by simp; omega)

theorem index_eq {l : List Int} {n : Int} (hl : l.length < 2 ^ 62) : ∃ j : Int, M_slices_Index_sint_int (l, n) = some j ∧ decide (j ≥ 0) = l.any (· == n) := by
  obtain ⟨j, h1, h2⟩ := walk_index (fun a : Int => a == n) l 0
  refine ⟨j, ?_, h2⟩
  unfold M_slices_Index_sint_int
  refine (loop_walk l (fun i a k => if (a == n) = true then some (i : Int) else k) (some (-1)) (fun again i a ha hi => ?_) (fun again => ?_) (by omega)).trans h1
  · simp only [getI_nat, ha, bindO_some', i64_succ (show i < 2 ^ 62 by omega), lt_yes hi, cond_true]
    rw [show (n == a) = (a == n) from BEq.comm]
    cases h : a == n <;> simp [h]
  · simp

theorem one_nn (n : Nat) : ((1 : Int) + (n : Int) < 0) = False := by
  simp only [eq_iff_iff, iff_false]
  omega

theorem lenOk_of {n : Nat} (h : n ≤ 68719476736) : lenOk n = true := by simp [lenOk, lim_eq, h]

theorem sliceNH_nat {h n : Nat} (hh : h ≤ n) : sliceNH (h : Int) n = some (0, h) := by
  unfold sliceNH
  rw [if_pos ⟨by omega, by omega⟩]
  simp

theorem contains_eq {l : List Int} {n : Int} (hl : l.length < 2 ^ 62) : M_slices_Contains_sint_int (l, n) = some (l.any (· == n)) := by
  obtain ⟨j, h1, h2⟩ := index_eq (n := n) hl
  unfold M_slices_Contains_sint_int
  dsimp only
  rw [h1, bindO_some', h2]

/-- A loop whose states go down: a property of its answer. -/
theorem loopO_ind {σ β : Type} {body : (σ → Option β) → σ → Option β} (Q : σ → Option β → Prop) (Inv : σ → Prop) (μ : σ → Nat)
    (step : ∀ (again : σ → Option β) s, Inv s → (∀ s', Inv s' → μ s' < μ s → Q s' (again s')) → Q s (body again s)) {s : σ} (h0 : Inv s) (hm : μ s < 2 ^ 64) : Q s (loopO body s) := by
  rw [loopO_eq]
  have H : ∀ (n : Nat) (s : σ), Inv s → μ s < n → Q s (iter body n s) := by
    intro n
    induction n with
    | zero => intro s _ h; exact absurd h (Nat.not_lt_zero _)
    | succ n ih => intro s hs h; exact step _ s hs fun s' hs' h' => ih s' hs' (by omega)
  exact H many s h0 hm

theorem in_eq (x a b : Int) : M_S_l1In (x, a, b) = some (decide (a ≤ x ∧ x ≤ b)) := by
  by_cases h : a ≤ x <;> by_cases h2 : x ≤ b <;> simp [M_S_l1In, h, h2]

theorem within_eq (x a b : Int) : M_I_within (x, a, b) = some (decide (a ≤ x ∧ x ≤ b)) := by
  by_cases h : a ≤ x <;> by_cases h2 : x ≤ b <;> simp [M_I_within, h, h2]

theorem l1All_eq {l : List Int} {lo hi : Int} (hl : l.length < 2 ^ 62) : M_S_l1All (l, lo, hi) = some (l.all fun n => decide (lo ≤ n ∧ n ≤ hi)) := by
  unfold M_S_l1All
  refine (loop_walk l (fun _ a k => if (decide (lo ≤ a ∧ a ≤ hi)) = true then k else some false) (some true) (fun again i a ha hi' => ?_) (fun again => ?_) (by omega)).trans (walk_all (fun n => decide (lo ≤ n ∧ n ≤ hi)) l 0)
  · simp only [getI_nat, ha, bindO_some', i64_succ (show i < 2 ^ 62 by omega), lt_yes hi', cond_true, in_eq]
    cases decide (lo ≤ a ∧ a ≤ hi) <;> rfl
  · simp

theorem walk_index_mem {α : Type} (p : α → Bool) (f : α → Option Bool) : ∀ (l : List α) (i : Nat), (∀ a ∈ l, f a = some (p a)) →
    ∃ j : Int, walk (fun i a k => bindO (f a) fun b => cond b (some (i : Int)) k) (some (-1)) i l = some j ∧ decide (j ≥ 0) = l.any p
  | [], _, _ => ⟨-1, rfl, rfl⟩
  | a :: l, i, hf => by
    obtain ⟨j, h1, h2⟩ := walk_index_mem p f l (i + 1) fun b hb => hf b (List.mem_cons_of_mem _ hb)
    have ha := hf a (List.mem_cons_self ..)
    cases h : p a
    · exact ⟨j, by simp [walk, ha, h, h1], by simp [h, h2]⟩
    · exact ⟨i, by simp [walk, ha, h], by simp [h]⟩

theorem containsFunc_eq {l : List Int} {f : Int → Option Bool} {p : Int → Bool} (hl : l.length < 2 ^ 62) (hf : ∀ a ∈ l, f a = some (p a)) : M_slices_ContainsFunc_sint_int (l, f) = some (l.any p) := by
  obtain ⟨j, h1, h2⟩ := walk_index_mem p f l 0 hf
  unfold M_slices_ContainsFunc_sint_int
  have : M_slices_IndexFunc_sint_int (l, f) = some j := by
    unfold M_slices_IndexFunc_sint_int
    refine (loop_walk l _ _ (fun again i a ha hi => ?_) (fun again => ?_) (by omega)).trans h1
    · simp only [getI_nat, ha, bindO_some', i64_succ (show i < 2 ^ 62 by omega), lt_yes hi, cond_true]
    · simp
  dsimp only
  rw [this, bindO_some', h2]

theorem areAll_eq {l : List Int} {f : Int → Option Bool} {p : Int → Bool} (hl : l.length < 2 ^ 62) (hf : ∀ a ∈ l, f a = some (p a)) : M_I_areAll (l, f) = some (l.all p) := by
  unfold M_I_areAll
  dsimp only
  rw [containsFunc_eq (p := fun a => !p a) hl fun a ha => by simp [M_I_areAll_1, hf a ha], bindO_some']
  congr 1
  rw [List.any_eq_not_all_not]
  simp

/-- A product of residues. -/
def prodM (p : Int) : Int → List Int → Int
  | out, [] => out
  | out, x :: l => prodM p (out * x % p) l

def hstep (c s k : Int) : Int := (c * s + k + 1) % 2147483647

/-- a over b. -/
def over (p q a b : Int) : Int := prodM p 1 [a, b ^ (q - 1).toNat % p]

/-- A proposition as a Boolean. -/
noncomputable def pdec (p : Prop) : Bool := @decide p (Classical.propDecidable p)

theorem pdec_iff {p : Prop} : pdec p = true ↔ p := by simp [pdec]

theorem pdec_yes {p : Prop} (h : p) : pdec p = true := pdec_iff.2 h

theorem pdec_no {p : Prop} (h : ¬ p) : pdec p = false := by simp [pdec, h]

/-- A walk that checks: `G i` holds of the first i elements. -/
theorem loop_check {α β : Type} {body : (Int → Option β) → Int → Option β} (l : List α) (G : Nat → Prop) (yes no : Option β)
    (hstep : ∀ (again : Int → Option β) (i : Nat) a, l[i]? = some a → i < l.length → G i → (body again (i : Int) = again ((i + 1 : Nat) : Int) ∧ G (i + 1)) ∨ (body again (i : Int) = no ∧ ¬ G l.length))
    (hend : ∀ again : Int → Option β, body again (l.length : Int) = yes) (h0 : G 0) (hl : l.length < 2 ^ 64) : (G l.length → loopO body 0 = yes) ∧ (¬ G l.length → loopO body 0 = no) := by
  constructor
  · intro hG
    refine (loopO_for (σ := Unit) (fun i _ => (i : Int)) l.length (fun _ _ => yes) (fun i _ => G i) (fun again _ hg => hend again) (fun again i _ hi hg ih => ?_) hl (i := 0) (s := ()) (Nat.zero_le _) h0).trans rfl
    rcases hstep again i l[i] (List.getElem?_eq_getElem hi) hi hg with ⟨h1, h2⟩ | ⟨h1, h2⟩
    · rw [h1]
      exact ih () h2
    · exact absurd hG h2
  · intro hG
    refine (loopO_for (σ := Unit) (fun i _ => (i : Int)) l.length (fun _ _ => no) (fun i _ => G i) (fun again _ hg => absurd hg hG) (fun again i _ hi hg ih => ?_) hl (i := 0) (s := ()) (Nat.zero_le _) h0).trans rfl
    rcases hstep again i l[i] (List.getElem?_eq_getElem hi) hi hg with ⟨h1, h2⟩ | ⟨h1, h2⟩
    · rw [h1]
      exact ih () h2
    · exact h1

theorem check_dec {β : Type} {m : Option β} {G : Prop} {f : Bool → Option β} (h : (G → m = f true) ∧ (¬ G → m = f false)) : m = f (pdec G) := by
  by_cases hg : G
  · rw [h.1 hg, pdec_yes hg]
  · rw [h.2 hg, pdec_no hg]

theorem mem_take_succ {α : Type} {l : List α} {i : Nat} {a : α} (h : l[i]? = some a) : l.take (i + 1) = l.take i ++ [a] := by
  rw [List.take_add_one, h]
  rfl

theorem pairwise_snoc {α : Type} {R : α → α → Prop} {l : List α} {a : α} : (l ++ [a]).Pairwise R ↔ l.Pairwise R ∧ ∀ b ∈ l, R b a := by
  rw [List.pairwise_append]
  constructor
  · rintro ⟨h1, _, h2⟩
    exact ⟨h1, fun b hb => h2 b hb a (by simp)⟩
  · rintro ⟨h1, h2⟩
    exact ⟨h1, by simp, fun b hb c hc => by simp at hc; subst hc; exact h2 b hb⟩

/-- Rising and within bounds. -/
def Rising (lo hi : Int) (l : List Int) : Prop := (∀ a ∈ l, lo ≤ a ∧ a ≤ hi) ∧ l.Pairwise (· < ·)

noncomputable def rising (lo hi : Int) (l : List Int) : Bool := pdec (Rising lo hi l)

theorem last_max {l : List Int} {b : Int} (h : (l ++ [b]).Pairwise (· < ·)) : ∀ a ∈ l ++ [b], a ≤ b := fun a ha => by
  rcases List.mem_append.1 ha with ha | ha
  · exact Int.le_of_lt ((pairwise_snoc.1 h).2 a ha)
  · simp at ha; omega

theorem l1Rising_eq {l : List Int} {lo hi : Int} (hl : l.length < 2 ^ 62) : M_S_l1Rising (l, lo, hi) = some (rising lo hi l) := by
  unfold M_S_l1Rising
  have h := loop_check (β := Bool) l (fun i => Rising lo hi (l.take i)) (some true) (some false) (body := (fun (again0 : (Int → (Option Bool))) => (fun (s1 : Int) => (cond (decide (s1 < (((List.length l) : Nat) : Int))) (bindO (getI l s1) (fun (a2 : Int) => (bindO (M_S_l1In (a2, (lo, hi))) (fun (a3 : Bool) => (cond (not a3) (some false) (cond (decide (s1 > (0 : Int))) (bindO (some (IntKind.wrap .i64 (s1 - (1 : Int)))) (fun (a4 : Int) => (bindO (getI l a4) (fun (a5 : Int) => (cond (decide (a5 ≥ a2)) (some false) (bindO (some (IntKind.wrap .i64 (s1 + (1 : Int)))) (fun (a6 : Int) => (again0 a6)))))))) (bindO (some (IntKind.wrap .i64 (s1 + (1 : Int)))) (fun (a7 : Int) => (again0 a7))))))))) (some true)))))
    (fun again i a ha hi' hg => ?_) (fun again => ?_) ⟨by simp, by simp⟩ (by omega)
  · rw [List.take_length] at h
    exact check_dec (f := some) h
  · simp only [lt_yes hi', cond_true, getI_nat, ha, bindO_some', in_eq, i64_succ (show i < 2 ^ 62 by omega), List.take_length, mem_take_succ ha]
    by_cases hin : lo ≤ a ∧ a ≤ hi
    · simp only [hin, and_self, decide_true, Bool.not_true, cond_false]
      cases i with
      | zero =>
        left
        refine ⟨by simp, ?_⟩
        simp [Rising, hin]
      | succ i =>
        have hb : ∃ b, l[i]? = some b := ⟨l[i]'(by omega), List.getElem?_eq_getElem _⟩
        obtain ⟨b, hb⟩ := hb
        have e1 : decide (((i + 1 : Nat) : Int) > 0) = true := by simp only [decide_eq_true_eq]; omega
        have e2 : IntKind.wrap .i64 (((i + 1 : Nat) : Int) - 1) = ((i : Nat) : Int) := by rw [i64_in _ (by omega)]; omega
        simp only [e1, cond_true, bindO_some', e2, getI_nat, hb]
        rw [mem_take_succ hb] at hg ⊢
        have hmax := last_max hg.2
        by_cases hba : b ≥ a
        · right
          refine ⟨by simp [hba], fun hr => ?_⟩
          have h1 := List.pairwise_iff_getElem.1 hr.2 i (i + 1) (by omega) (by omega) (by omega)
          rw [(List.getElem?_eq_some_iff.1 ha).2, (List.getElem?_eq_some_iff.1 hb).2] at h1
          omega
        · left
          refine ⟨by simp [hba], fun c hc => ?_, pairwise_snoc.2 ⟨hg.2, fun c hc => ?_⟩⟩
          · rcases List.mem_append.1 hc with hc | hc
            · exact hg.1 c hc
            · simp at hc; subst hc; exact hin
          · have := hmax c hc
            omega
    · right
      refine ⟨by simp [hin], fun hr => hin (hr.1 a (List.mem_of_getElem? ha))⟩
  · simp

def Sorted (l : List Int) : Prop := l.Pairwise (· ≤ ·)

noncomputable def sortedB (l : List Int) : Bool := pdec (Sorted l)

theorem sorted_of_adj : ∀ (l : List Int), (∀ (j : Nat) a b, l[j]? = some a → l[j + 1]? = some b → a ≤ b) → Sorted l
  | [], _ => .nil
  | a :: l, h => by
    have ih := sorted_of_adj l fun j b c hb hc => h (j + 1) b c (by simpa using hb) (by simpa using hc)
    refine .cons (fun b hb => ?_) ih
    match l, h, ih, hb with
    | c :: r, h, ih, hb =>
      have h1 := h 0 a c rfl rfl
      rcases List.mem_cons.1 hb with rfl | hb
      · exact h1
      · have := (List.pairwise_cons.1 ih).1 b hb
        omega

theorem less_eq (a b : Int) : M_cmp_Less_int (a, b) = some (decide (a < b)) := by
  unfold M_cmp_Less_int M_cmp_isNaN_int
  simp

theorem isSorted_eq {l : List Int} (hl : l.length < 2 ^ 62) : M_slices_IsSorted_sint_int l = some (sortedB l) := by
  unfold M_slices_IsSorted_sint_int
  rw [i64_in ((l.length : Int) - 1) (by omega), bindO_some']
  refine loopO_spec (fun _ => some (sortedB l)) (fun s => s ≤ (l.length : Int) - 1 ∧ -1 ≤ s ∧ ∀ (j : Nat) a b, s ≤ (j : Int) → l[j]? = some a → l[j + 1]? = some b → a ≤ b) (fun s => s.toNat) (fun again s hs ih => ?_)
    ⟨Int.le_refl _, by omega, fun j a b hj ha hb => ?_⟩ (by omega)
  · obtain ⟨h1, h2, h3⟩ := hs
    by_cases hpos : s > 0
    · obtain ⟨n, rfl⟩ : ∃ n : Nat, s = ((n + 1 : Nat) : Int) := ⟨(s - 1).toNat, by omega⟩
      have hn : n + 1 < l.length := by omega
      have ha := List.getElem?_eq_getElem (l := l) hn
      have hb := List.getElem?_eq_getElem (l := l) (show n < l.length by omega)
      have e2 : IntKind.wrap .i64 (((n + 1 : Nat) : Int) - 1) = ((n : Nat) : Int) := by rw [i64_in _ (by omega)]; omega
      simp only [hpos, decide_true, cond_true, getI_nat, ha, bindO_some', e2, hb, less_eq]
      by_cases hlt : l[n + 1] < l[n]
      · simp only [hlt, decide_true, cond_true]
        congr 1
        symm
        refine pdec_no fun hs => ?_
        have := List.pairwise_iff_getElem.1 hs n (n + 1) (by omega) hn (by omega)
        omega
      · simp only [hlt, decide_false, cond_false]
        refine ih _ ⟨by omega, by omega, fun j a b hj hja hjb => ?_⟩ (by omega)
        by_cases hjn : j = n
        · subst hjn
          rw [hb] at hja
          rw [ha] at hjb
          cases hja
          cases hjb
          omega
        · exact h3 j a b (by omega) hja hjb
    · have e1 : decide (s > 0) = false := by simp; omega
      rw [e1, cond_false]
      congr 1
      symm
      refine pdec_yes ?_
      exact sorted_of_adj l fun j a b hja hjb => h3 j a b (by omega) hja hjb
  · have := (List.getElem?_eq_some_iff.1 hb).1
    omega

noncomputable def nodupB (l : List Int) : Bool := pdec l.Nodup

theorem areDifferent_eq {l : List Int} (hl : l.length < 2 ^ 62) : M_I_areDifferent l = some (nodupB l) := by
  unfold M_I_areDifferent
  have h := loop_check (β := Bool) l (fun i => (l.take i).Nodup) (some true) (some false) (body := (fun (again0 : (Int → (Option Bool))) => (fun (s1 : Int) => (cond (decide (s1 < (((List.length l) : Nat) : Int))) (bindO (getI l s1) (fun (a2 : Int) => (bindO (sliceNH s1 (List.length l)) (fun (a3 : (Nat × Nat)) => (bindO (M_slices_Contains_sint_int ((List.drop a3.1 (List.take a3.2 l)), a2)) (fun (a4 : Bool) => (cond a4 (some false) (bindO (some (IntKind.wrap .i64 (s1 + (1 : Int)))) (fun (a5 : Int) => (again0 a5)))))))))) (some true)))))
    (fun again i a ha hi' hg => ?_) (fun again => ?_) (by simp) (by omega)
  · rw [List.take_length] at h
    exact check_dec (f := some) h
  · have hlen : (l.take i).length < 2 ^ 62 := by simp; omega
    simp only [lt_yes hi', cond_true, getI_nat, ha, bindO_some', sliceNH_nat (show i ≤ l.length by omega), List.drop_zero, contains_eq hlen, i64_succ (show i < 2 ^ 62 by omega), mem_take_succ ha, List.take_length]
    by_cases hm : a ∈ l.take i
    · right
      have : (l.take i).any (· == a) = true := by simpa using hm
      refine ⟨by rw [this]; rfl, fun hn => ?_⟩
      have h2 : (l.take (i + 1)).Nodup := hn.sublist (List.take_sublist _ _)
      rw [mem_take_succ ha] at h2
      have := (pairwise_snoc.1 h2).2 a hm
      exact this rfl
    · left
      have : (l.take i).any (· == a) = false := by
        cases hc : (l.take i).any (· == a)
        · rfl
        · exact absurd (by simpa using hc) hm
      refine ⟨by rw [this]; rfl, pairwise_snoc.2 ⟨hg, fun b hb hba => hm (by subst hba; exact hb)⟩⟩
  · simp

theorem rising_parts (lo hi : Int) (l : List Int) : rising lo hi l = ((l.all fun n => decide (lo ≤ n ∧ n ≤ hi)) && (sortedB l && nodupB l)) := by
  rw [Bool.eq_iff_iff]
  simp only [rising, sortedB, nodupB, Bool.and_eq_true, decide_eq_true_eq, List.all_eq_true, pdec_iff]
  constructor
  · rintro ⟨h1, h2⟩
    exact ⟨h1, h2.imp fun h => by omega, h2.imp fun h => by omega⟩
  · rintro ⟨h1, h2, h3⟩
    exact ⟨h1, (h2.and h3).imp fun h => by obtain ⟨a, b⟩ := h; omega⟩

theorem set_take_succ {α : Type} {x s : List α} {i : Nat} {a : α} (hx : x[i]? = some a) (hs : s.length = x.length) (ht : s.take i = x.take i) : (s.set i a).take (i + 1) = x.take (i + 1) := by
  have hi : i < x.length := (List.getElem?_eq_some_iff.1 hx).1
  rw [List.take_add_one, List.take_add_one, hx, List.take_set, List.getElem?_set_self (by omega), ← ht]
  congr 1
  rw [List.set_eq_of_length_le (by rw [List.length_take]; omega)]

/-- A list is written anew, element by element. -/
theorem copy_loop {α : Type} (x : List α) (z : α) {body : (Int × List α → Option (List α)) → Int × List α → Option (List α)}
    (h : ∀ (again : Int × List α → Option (List α)) (i : Nat) a (s : List α), x[i]? = some a → i < x.length → s.length = x.length → body again ((i : Int), s) = again (((i + 1 : Nat) : Int), s.set i a))
    (hend : ∀ (again : Int × List α → Option (List α)) (s : List α), s.length = x.length → body again ((x.length : Int), s) = some s) (hl : x.length < 2 ^ 62) : loopO body (0, List.replicate x.length z) = some x := by
  refine (loopO_for (σ := List α) (fun i s => ((i : Int), s)) x.length (fun i s => some x) (fun i s => s.length = x.length ∧ s.take i = x.take i) (fun again s hs => ?_) (fun again i s hi hs ih => ?_) (by omega) (i := 0) (s := List.replicate x.length z) (Nat.zero_le _) (by simp)).trans rfl
  · rw [hend again s hs.1]
    have := hs.2
    rw [List.take_length, ← hs.1, List.take_length] at this
    rw [this]
  · have ha := List.getElem?_eq_getElem hi
    rw [h again i x[i] s ha hi hs.1]
    exact ih _ ⟨by simp [hs.1], set_take_succ ha hs.1 hs.2⟩

/-- Two lists are compared, element by element. -/
theorem eq_loop {α : Type} [DecidableEq α] (a b : List α) (hab : a.length = b.length) {body : (Int → Option Bool) → Int → Option Bool}
    (h : ∀ (again : Int → Option Bool) (i : Nat) x y, a[i]? = some x → b[i]? = some y → i < a.length → body again (i : Int) = if x = y then again ((i + 1 : Nat) : Int) else some false)
    (hend : ∀ (again : Int → Option Bool), body again (a.length : Int) = some true) (hl : a.length < 2 ^ 62) : loopO body 0 = some (decide (a = b)) := by
  refine (loopO_for (σ := Unit) (fun i _ => (i : Int)) a.length (fun i _ => some (decide (a.drop i = b.drop i))) (fun _ _ => True) (fun again _ _ => ?_) (fun again i _ hi _ ih => ?_) (by omega) (i := 0) (s := ()) (Nat.zero_le _) trivial).trans (by simp)
  · rw [hend]; simp [hab]
  · have hi' : i < b.length := by omega
    rw [h again i a[i] b[i] (List.getElem?_eq_getElem hi) (List.getElem?_eq_getElem hi') hi, ih () trivial, List.drop_eq_getElem_cons hi, List.drop_eq_getElem_cons hi']
    by_cases he : a[i] = b[i] <;> simp [he, -List.getElem_cons_drop]

def tot (x : List (List Int)) : Nat := (x.map List.length).sum

theorem szIntS_eq {a : List Int} {left : Int} (h0 : 0 ≤ left) (h1 : left ≤ 1048576) (hl : a.length < 2 ^ 63) : M_L_szIntS (a, left) = some (if left < a.length then -1 else left - a.length) := by
  unfold M_L_szIntS
  simp only [i64_in (left - (a.length : Int)) (by omega), bindO_some']
  by_cases h : left < a.length
  · rw [if_pos h]
    have : left - (a.length : Int) < 0 := by omega
    simp [this]
  · rw [if_neg h]
    have : ¬ left - (a.length : Int) < 0 := by omega
    simp [this]

theorem tot_drop {x : List (List Int)} {i : Nat} (hi : i < x.length) : tot (x.drop i) = x[i].length + tot (x.drop (i + 1)) := by
  rw [List.drop_eq_getElem_cons hi, tot, List.map_cons, List.sum_cons]
  rfl

theorem szIntSS_eq {x : List (List Int)} (hx : x.length < 2 ^ 63) (hr : ∀ r ∈ x, r.length < 2 ^ 63) : ∃ k, M_L_szIntSS (x, 1048576) = some k ∧ (0 ≤ k → x.length + tot x ≤ 1048576) := by
  unfold M_L_szIntSS
  simp only [i64_in (1048576 - (x.length : Int)) (by omega), bindO_some']
  by_cases h : 1048576 - (x.length : Int) < 0
  · exact ⟨-1, by simp [h], by omega⟩
  · simp only [h, decide_false, cond_false]
    refine loopO_ind (fun (s : Int × Int) (y : Option Int) => ∃ k, y = some k ∧ (0 ≤ k → x.length + tot x ≤ 1048576)) (fun s => 0 ≤ s.1 ∧ s.1 ≤ 1048576 ∧ 0 ≤ s.2 ∧ s.2 ≤ x.length ∧ (tot x : Int) = tot (x.drop s.2.toNat) + (1048576 - x.length - s.1)) (fun s => (x.length - s.2).toNat) (fun (again : Int × Int → Option Int) s hs ih => ?_)
      ⟨by dsimp only; omega, by dsimp only; omega, Int.le_refl _, by dsimp only; omega, by simp⟩ (by dsimp only; omega)
    obtain ⟨left, j⟩ := s
    obtain ⟨h1, h2, h3, h4, h6⟩ := hs
    dsimp only at h1 h2 h3 h4 h6 ih ⊢
    obtain ⟨i, rfl⟩ := Int.eq_ofNat_of_zero_le h3
    rw [Int.toNat_natCast] at h6
    by_cases hi : i < x.length
    · have hm := hr x[i] (List.getElem_mem hi)
      simp only [lt_yes hi, cond_true, getI_nat, List.getElem?_eq_getElem hi, bindO_some', szIntS_eq h1 h2 hm, i64_succ (show i < 2 ^ 62 by omega)]
      by_cases hlt : left < x[i].length
      · rw [if_pos hlt]
        exact ⟨-1, rfl, by omega⟩
      · rw [if_neg hlt]
        have h5 : ¬ left - (x[i].length : Int) < 0 := by omega
        simp only [h5, decide_false, cond_false]
        have h7 := tot_drop hi
        exact ih (left - (x[i].length : Int), ((i + 1 : Nat) : Int)) ⟨by dsimp only; omega, by dsimp only; omega, by dsimp only; omega, by dsimp only; omega, by dsimp only; rw [Int.toNat_natCast]; omega⟩ (by dsimp only; omega)
    · have : i = x.length := by omega
      subst this
      refine ⟨left, by simp, fun _ => ?_⟩
      simp [tot] at h6 ⊢
      omega

theorem row_le {x : List (List Int)} {r : List Int} (h : r ∈ x) : r.length ≤ tot x := by
  induction x with
  | nil => cases h
  | cons a x ih =>
    simp only [tot, List.map_cons, List.sum_cons] at ih ⊢
    rcases List.mem_cons.1 h with rfl | h
    · omega
    · have := ih h
      omega

theorem toIntSS_eq {x : List (List Int)} (h : x.length + tot x ≤ 1048576) : M_L_toIntSS x = some x := by
  unfold M_L_toIntSS
  have hx : (x.length : Int) ≤ ((lim : Nat) : Int) := by rw [lim_eq]; omega
  rw [guardO_of (by simpa using hx), bindO_some', Int.toNat_natCast]
  refine copy_loop x [] (fun again i a s ha hi hs => ?_) (fun again s hs => ?_) (by omega)
  · have hm := row_le (List.mem_of_getElem? ha)
    have hsi := List.getElem?_eq_getElem (l := s) (show i < s.length by omega)
    simp only [lt_yes hi, cond_true, getI_nat, ha, hsi, bindO_some', toIntS_eq (show a.length ≤ 1048576 by omega), Int.toNat_natCast, i64_succ (show i < 2 ^ 62 by omega)]
  · simp

theorem eqIntSS_eq {a b : List (List Int)} (h : a.length < 2 ^ 62) (hr : ∀ r ∈ a, r.length < 2 ^ 62) : M_L_eqIntSS (a, b) = some (decide (a = b)) := by
  unfold M_L_eqIntSS
  by_cases hl : a.length = b.length
  · have e1 : ((a.length : Int) != (b.length : Int)) = false := by simp [hl]
    dsimp only
    rw [e1, cond_false]
    refine eq_loop a b hl (fun again i x y hx hy hi => ?_) (fun again => by simp) h
    simp only [lt_yes hi, cond_true, getI_nat, hx, hy, bindO_some', eqIntS_eq (hr x (List.mem_of_getElem? hx)), i64_succ (show i < 2 ^ 62 by omega)]
    by_cases he : x = y <;> simp [he]
  · have e1 : ((a.length : Int) != (b.length : Int)) = true := by simp; omega
    dsimp only
    rw [e1, cond_true]
    congr 1
    symm
    simp only [decide_eq_false_iff_not]
    rintro rfl
    exact hl rfl

theorem wf_ss {x : List (List Int)} (h : WFI [.data (.sl (.sl (.int .i64)))] x) : x.length < 2 ^ 63 ∧ ∀ r ∈ x, r.length < 2 ^ 63 := by
  have h' : x.length ≤ maxLen ∧ ∀ r ∈ x, r.length ≤ maxLen ∧ ∀ n ∈ r, IntKind.min .i64 ≤ n ∧ n ≤ IntKind.max .i64 := h
  have hm : maxLen < 2 ^ 63 := by decide
  exact ⟨by omega, fun r hr => by have := (h'.2 r hr).1; omega⟩

/-- Marks in a list of lists: their number is all that counts. -/
theorem markIntSS_some {x : List (List Int)} {k : Int} (h0 : 0 ≤ k) (h : k + tot x ≤ 1000000000000) (hx : x.length ≤ 1048576) (ht : ∀ r ∈ x, r.length < 2 ^ 39) (hk : k < 2 ^ 39) : ∃ k' x', M_L_markIntSS (x, k) = some (k', x') ∧ 0 ≤ k' := by
  unfold M_L_markIntSS
  refine loopO_ind (fun (_ : Int × Int × List (List Int)) (y : Option (Int × List (List Int))) => ∃ k' x', y = some (k', x') ∧ 0 ≤ k') (fun s => 0 ≤ s.1 ∧ s.1 + tot (x.drop s.2.1.toNat) ≤ 1000000000000 ∧ 0 ≤ s.2.1 ∧ s.2.1 ≤ x.length ∧ s.2.2.length = x.length ∧ s.2.2.drop s.2.1.toNat = x.drop s.2.1.toNat) (fun s => ((x.length : Int) - s.2.1).toNat) (fun again s hs ih => ?_)
    ⟨h0, by simpa using h, Int.le_refl _, by dsimp only; omega, rfl, rfl⟩ (by dsimp only; omega)
  obtain ⟨c, j, y⟩ := s
  obtain ⟨g1, g2, g3, g4, g5, g6⟩ := hs
  dsimp only at g1 g2 g3 g4 g5 g6 ih ⊢
  obtain ⟨i, rfl⟩ := Int.eq_ofNat_of_zero_le g3
  rw [Int.toNat_natCast] at g2 g6
  by_cases hi : i < x.length
  · have hy : y[i]? = some x[i] := by
      have : (y.drop i)[0]? = (x.drop i)[0]? := by rw [g6]
      simpa [hi] using this
    have hd := tot_drop hi
    have hlt : decide ((i : Int) < (y.length : Int)) = true := by simp; omega
    have hxi := ht x[i] (List.getElem_mem hi)
    by_cases hc : c < 2 ^ 40
    · simp only [hlt, cond_true, getI_nat, hy, bindO_some', markIntS_eq (show x[i].length < 2 ^ 40 by omega) g1 hc, i64_succ (show i < 2 ^ 62 by omega), Int.toNat_natCast]
      refine ih _ ⟨by dsimp only; omega, by dsimp only; rw [Int.toNat_natCast]; omega, by dsimp only; omega, by dsimp only; omega, by simp [g5], ?_⟩ (by dsimp only; omega)
      dsimp only
      rw [Int.toNat_natCast]
      refine List.ext_getElem? fun m => ?_
      have := congrArg (fun l => l[m + 1]?) g6
      simp only [List.getElem?_drop] at this ⊢
      rw [List.getElem?_modify]
      rw [show i + (m + 1) = i + 1 + m by omega] at this
      have hne : ¬ i = i + 1 + m := by omega
      simp only [hne, if_false]
      simpa using this
    · exact absurd hc (by omega)
  · have hi' : decide ((i : Int) < (y.length : Int)) = false := by simp; omega
    rw [hi', cond_false]
    exact ⟨_, _, rfl, g1⟩

theorem markIntSS_one {x : List (List Int)} (h : x.length + tot x ≤ 1048576) : ∃ k' x', M_L_markIntSS (x, 1) = some (k', x') ∧ 0 ≤ k' :=
  markIntSS_some (by omega) (by omega) (by omega) (fun r hr => by have := row_le hr; omega) (by omega)

theorem own_eq {l : List Int} (hl : l.length ≤ 1048576) : M_S_l1Own l = some l := by
  unfold M_S_l1Own
  rw [guardO_of (lenOk_of (by simp; omega))]
  rfl

theorem clone_eq {l : List Int} (hl : l.length ≤ 1048576) : M_slices_Clone_sint_int l = some l := by
  unfold M_slices_Clone_sint_int
  rw [guardO_of (lenOk_of (by simp; omega))]
  simp only [bindO_some', List.nil_append, Bool.not_true, cond_false]
  cases l with
  | nil => simp [ambO]
  | cons a l => rfl

theorem contest_same : M_I_IsValidContest = M_S_vContest := rfl

theorem choices_same : M_I_Contest_choices = M_S_vMarks := rfl

theorem contest1 (op le mo pt : Int) : ∃ b, M_S_vContest (1, op, le, mo, pt) = some b ∧ (b = true → 1 ≤ op ∧ op ≤ 8) := by
  unfold M_S_vContest
  dsimp only
  cases decide (le < 0) with
  | true => exact ⟨false, rfl, by simp⟩
  | false =>
    cases decide (le > mo) with
    | true => exact ⟨false, rfl, by simp⟩
    | false =>
      simp only [in_eq, bindO_some', cond_false]
      cases h : decide (1 ≤ op ∧ op ≤ 8) with
      | false => exact ⟨false, rfl, by simp⟩
      | true =>
        rw [decide_eq_true_eq] at h
        cases decide (mo ≤ op) with
        | false => exact ⟨false, rfl, by simp⟩
        | true => exact ⟨pt == 0, rfl, fun _ => h⟩

theorem contest2 (op le mo pt : Int) : ∃ b, M_S_vContest (2, op, le, mo, pt) = some b ∧ (b = true → (1 ≤ op ∧ op ≤ 8) ∧ 1 ≤ pt ∧ pt ≤ 5) := by
  unfold M_S_vContest
  dsimp only
  cases decide (le < 0) with
  | true => exact ⟨false, rfl, by simp⟩
  | false =>
    cases decide (le > mo) with
    | true => exact ⟨false, rfl, by simp⟩
    | false =>
      simp only [in_eq, bindO_some', cond_false]
      cases h : decide (1 ≤ op ∧ op ≤ 8) with
      | false => exact ⟨false, rfl, by simp⟩
      | true =>
        rw [decide_eq_true_eq] at h
        cases h2 : decide (1 ≤ pt ∧ pt ≤ 5) with
        | false => exact ⟨false, rfl, by simp⟩
        | true =>
          rw [decide_eq_true_eq] at h2
          exact ⟨decide (mo ≤ IntKind.wrap .i64 (op * pt)), rfl, fun _ => ⟨h, h2⟩⟩

def plain (l : List Int) : Int := l.foldl (fun s a => IntKind.wrap .i64 (s + a)) 0

theorem plainWalk {β : Type} (fin : Int → Option β) : ∀ (l : List Int) (i : Nat) (s : Int), walkS (fun _ a s k => k (IntKind.wrap .i64 (s + a))) fin i l s = fin (l.foldl (fun s a => IntKind.wrap .i64 (s + a)) s)
  | [], _, _ => rfl
  | a :: l, i, s => by
    rw [walkS, plainWalk fin l (i + 1), List.foldl_cons]

theorem plain_loop {β : Type} {body : (Int × Int → Option β) → Int × Int → Option β} (l : List Int) (fin : Int → Option β)
    (h : ∀ (again : Int × Int → Option β) (i : Nat) a s, l[i]? = some a → i < l.length → body again (s, (i : Int)) = again (IntKind.wrap .i64 (s + a), ((i + 1 : Nat) : Int)))
    (hend : ∀ (again : Int × Int → Option β) s, body again (s, (l.length : Int)) = fin s) (hl : l.length < 2 ^ 62) : loopO body (0, 0) = fin (plain l) :=
  (loop_walkS (fun i (s : Int) => (s, i)) l (fun _ a s k => k (IntKind.wrap .i64 (s + a))) fin (fun again i a s ha hi => h again i a s ha hi) hend (by omega) 0).trans (plainWalk fin l 0 0)

theorem vPlain_eq {l : List Int} (hl : l.length < 2 ^ 62) : M_S_vPlain l = some (plain l) := by
  unfold M_S_vPlain
  refine plain_loop l some (fun again i a s ha hi => ?_) (fun again s => ?_) hl
  · simp only [lt_yes hi, cond_true, getI_nat, ha, bindO_some', i64_succ (show i < 2 ^ 62 by omega)]
  · simp only [lt_no, cond_false]

noncomputable def voteB (kd op le mo pt : Int) (v : List Int) : Bool :=
  bif kd == 1 then rising 0 (op - 1) v && decide (le ≤ (v.length : Int) ∧ (v.length : Int) ≤ mo)
  else ((v.length : Int) == op) && ((v.all fun n => decide (0 ≤ n ∧ n ≤ pt)) && decide (le ≤ plain v ∧ plain v ≤ mo))

theorem vVote_eq {kd op le mo pt : Int} {v : List Int} (hk : kd = 1 ∨ kd = 2) (ho : 1 ≤ op ∧ op ≤ 8) (hv : v.length < 2 ^ 62) : M_S_vVote ((kd, op, le, mo, pt), v) = some (voteB kd op le mo pt v) := by
  unfold M_S_vVote voteB
  dsimp only
  rcases hk with rfl | rfl
  · rw [show ((1 : Int) == 1) = true from rfl, cond_true, cond_true, i64_in _ (by omega), bindO_some', l1Rising_eq hv, bindO_some', in_eq]
    cases rising 0 (op - 1) v <;> rfl
  · rw [show ((2 : Int) == 1) = false from rfl, show ((2 : Int) == 2) = true from rfl, cond_false, cond_false, cond_true, l1All_eq hv, bindO_some', vPlain_eq hv, bindO_some', in_eq]
    cases ((v.length : Int) == op) <;> cases (v.all fun n => decide (0 ≤ n ∧ n ≤ pt)) <;> rfl

theorem isVote_eq {kd op le mo pt : Int} {v : List Int} (hk : kd = 1 ∨ kd = 2) (ho : 1 ≤ op ∧ op ≤ 8) (hv : v.length < 2 ^ 62) : M_I_Contest_isVote ((kd, op, le, mo, pt), v) = some (voteB kd op le mo pt v) := by
  unfold M_I_Contest_isVote voteB
  dsimp only
  have hall : ∀ lo hi : Int, M_I_areAll (v, fun a => bindO (M_I_Contest_isVote_2 (a, lo, hi)) fun b => some b) = some (v.all fun n => decide (lo ≤ n ∧ n ≤ hi)) := fun lo hi => areAll_eq hv fun a _ => by
    unfold M_I_Contest_isVote_2
    dsimp only
    rw [within_eq]
    rfl
  have hall1 : ∀ c, M_I_areAll (v, fun a => bindO (M_I_Contest_isVote_1 (a, (c, op, le, mo, pt))) fun b => some b) = some (v.all fun n => decide (0 ≤ n ∧ n ≤ pt)) := fun c => areAll_eq hv fun a _ => by
    unfold M_I_Contest_isVote_1
    dsimp only
    rw [within_eq]
    rfl
  rw [i64_in _ (by omega), bindO_some']
  rcases hk with rfl | rfl
  · rw [show ((1 : Int) == 2) = false from rfl, show ((1 : Int) == 1) = true from rfl, show ((1 : Int) == 4) = false from rfl, cond_false, cond_false, cond_true, cond_true, within_eq, bindO_some', hall, bindO_some', isSorted_eq hv, bindO_some', areDifferent_eq hv, rising_parts]
    cases decide (le ≤ (v.length : Int) ∧ (v.length : Int) ≤ mo) <;> cases (v.all fun n => decide (0 ≤ n ∧ n ≤ op - 1)) <;> cases sortedB v <;> cases nodupB v <;> rfl
  · rw [show ((2 : Int) == 2) = true from rfl, show ((2 : Int) == 1) = false from rfl, show ((2 : Int) == 3) = false from rfl, cond_true, cond_false]
    by_cases hl : (v.length : Int) = op
    · have b1 : ((v.length : Int) != op) = false := by simp [hl]
      have b2 : ((v.length : Int) == op) = true := by simp [hl]
      rw [b1, b2, cond_false, hall1, bindO_some']
      cases ha : (v.all fun n => decide (0 ≤ n ∧ n ≤ pt)) with
      | false => rfl
      | true =>
        simp only [Bool.not_true, cond_false, Bool.true_and]
        refine (plain_loop v (fun s => some (decide (le ≤ s ∧ s ≤ mo))) (fun again i a s ha hi => ?_) (fun again s => ?_) hv)
        · simp only [lt_yes hi, cond_true, getI_nat, ha, bindO_some', i64_succ (show i < 2 ^ 62 by omega)]
        · simp only [lt_no, cond_false]
          rw [within_eq, bindO_some', hall, ha]
          cases decide (le ≤ s ∧ s ≤ mo) <;> rfl
    · have b1 : ((v.length : Int) != op) = true := by simp [hl]
      have b2 : ((v.length : Int) == op) = false := by simp [hl]
      rw [b1, b2]
      rfl

def marksOf (op : Int) (v : List Int) : List Int := v.foldl (fun s a => s.set a.toNat 1) (List.replicate op.toNat 0)

theorem marksWalk : ∀ (l : List Int) (i : Nat) (s : List Int), walkS (fun _ a s k => k (s.set a.toNat 1)) some i l s = some (l.foldl (fun s a => s.set a.toNat 1) s)
  | [], _, _ => rfl
  | a :: l, i, s => by
    rw [walkS, marksWalk l (i + 1), List.foldl_cons]

theorem foldl_set_len : ∀ (l : List Int) (s : List Int), (l.foldl (fun s a => s.set a.toNat 1) s).length = s.length
  | [], _ => rfl
  | a :: l, s => by rw [List.foldl_cons, foldl_set_len l, List.length_set]

theorem marksOf_len (op : Int) (v : List Int) : (marksOf op v).length = op.toNat := by
  unfold marksOf
  rw [foldl_set_len, List.length_replicate]

theorem vMarks_eq {kd op le mo pt : Int} {v : List Int} (ho : 1 ≤ op ∧ op ≤ 8) (hv : v.length < 2 ^ 62) (ha : ∀ a ∈ v, 0 ≤ a ∧ a ≤ op - 1) : M_S_vMarks ((kd, op, le, mo, pt), v) = some (marksOf op v) := by
  unfold M_S_vMarks
  dsimp only
  rw [guardO_of (by rw [lim_eq]; simp; omega), bindO_some']
  refine (loop_walkI (fun i (s : List Int) => (i, s)) v (fun _ a s k => k (s.set a.toNat 1)) some (fun _ s => s.length = op.toNat) (fun i a s k k' _ hi hk => hk _ (by rw [List.length_set]; exact hi)) (fun again i a s h1 hi hs => ?_) (fun again s hs => ?_) (by omega) (List.replicate op.toNat 0) (by simp)).trans (marksWalk v 0 _)
  · have h2 := ha a (List.mem_of_getElem? h1)
    obtain ⟨n, rfl⟩ := Int.eq_ofNat_of_zero_le h2.1
    simp only [lt_yes hi, cond_true, getI_nat, h1, bindO_some', List.getElem?_eq_getElem (show n < s.length by omega), i64_succ (show i < 2 ^ 62 by omega)]
  · simp only [lt_no, cond_false]

def addR : Nat → List Int → List Int → List Int
  | _, [], s => s
  | i, a :: t, s => addR (i + 1) t (s.set i (IntKind.wrap .i64 (s.getD i 0 + a)))

theorem addR_len : ∀ (i : Nat) (e s : List Int), (addR i e s).length = s.length
  | _, [], _ => rfl
  | i, a :: t, s => by rw [addR, addR_len (i + 1) t, List.length_set]

def addStep {β : Type} (i : Nat) (a : Int) (s : List Int) (k : List Int → Option β) : Option β := k (s.set i (IntKind.wrap .i64 (s.getD i 0 + a)))

theorem addWalk {β : Type} (K : List Int → Option β) : ∀ (e : List Int) (i : Nat) (s : List Int), walkS addStep K i e s = K (addR i e s)
  | [], _, _ => rfl
  | a :: e, i, s => by rw [walkS, addStep, addWalk K e (i + 1), addR]

theorem add_loop {β : Type} {body : (Int × List Int → Option β) → Int × List Int → Option β} (e out : List Int) (K : List Int → Option β)
    (hb : ∀ again s, body again s = cond (decide (s.1 < ((e.length : Nat) : Int))) (bindO (getI e s.1) fun a7 => bindO (getI s.2 s.1) fun a8 => bindO (some (IntKind.wrap .i64 (a8 + a7))) fun a9 => bindO (getI s.2 s.1) fun _ => bindO (some (List.set s.2 (Int.toNat s.1) a9)) fun a11 => bindO (some (IntKind.wrap .i64 (s.1 + 1))) fun a12 => again (a12, a11)) (K s.2))
    (hl : out.length = e.length) (he : e.length < 2 ^ 60) : loopO body (0, out) = K (addR 0 e out) := by
  refine (loop_walkI (fun i (s : List Int) => (i, s)) e addStep K (fun _ s => s.length = e.length) (fun i a s k k' _ hi hk => hk _ (by rw [List.length_set]; exact hi)) (fun again i a s h1 hi hs => ?_) (fun again s hs => ?_) (by omega) out hl).trans (addWalk K e 0 out)
  · rw [hb]
    have h2 := List.getElem?_eq_getElem (show i < s.length by omega)
    simp only [lt_yes hi, cond_true, getI_nat, h1, h2, bindO_some', Int.toNat_natCast, i64_succ (show i < 2 ^ 62 by omega)]
    unfold addStep
    rw [List.getD_eq_getElem?_getD, h2]
    rfl
  · rw [hb]
    simp only [lt_no, cond_false]

def expsOf (kd op : Int) (v : List Int) : List Int := bif kd == 1 then marksOf op v else v

theorem voteB_spec {kd op le mo pt : Int} {v : List Int} (hk : kd = 1 ∨ kd = 2) (ho : 1 ≤ op ∧ op ≤ 8) (h : voteB kd op le mo pt v = true) : (kd = 1 → ∀ a ∈ v, 0 ≤ a ∧ a ≤ op - 1) ∧ (expsOf kd op v).length = op.toNat := by
  rcases hk with rfl | rfl
  · simp only [voteB, show ((1 : Int) == 1) = true from rfl, cond_true, rising_parts, Bool.and_eq_true, List.all_eq_true, decide_eq_true_eq] at h
    exact ⟨fun _ => h.1.1, marksOf_len op v⟩
  · simp only [voteB, show ((2 : Int) == 1) = false from rfl, cond_false, Bool.and_eq_true, beq_iff_eq] at h
    refine ⟨fun h => by omega, ?_⟩
    show v.length = op.toNat
    omega

theorem vExps_eq {kd op le mo pt : Int} {v : List Int} (hk : kd = 1 ∨ kd = 2) (ho : 1 ≤ op ∧ op ≤ 8) (hv : v.length ≤ 1048576) (h : voteB kd op le mo pt v = true) : M_S_vExps ((kd, op, le, mo, pt), v) = some (expsOf kd op v) ∧ M_I_Contest_exponents ((kd, op, le, mo, pt), v) = some (expsOf kd op v) := by
  have hs := voteB_spec hk ho h
  unfold M_S_vExps M_I_Contest_exponents M_I_Contest_digits
  dsimp only
  rcases hk with rfl | rfl
  · have := vMarks_eq (kd := 1) (le := le) (mo := mo) (pt := pt) ho (show v.length < 2 ^ 62 by omega) (hs.1 rfl)
    rw [choices_same, this]
    exact ⟨rfl, rfl⟩
  · rw [own_eq hv, clone_eq hv]
    exact ⟨rfl, rfl⟩

def tally (kd op : Int) (vs : List (List Int)) (s : List Int) : List Int := vs.foldl (fun out v => addR 0 (expsOf kd op v) out) s

theorem tally_len (kd op : Int) : ∀ (vs : List (List Int)) (s : List Int), (tally kd op vs s).length = s.length
  | [], _ => rfl
  | v :: vs, s => by
    show (tally kd op vs (addR 0 (expsOf kd op v) s)).length = _
    rw [tally_len kd op vs, addR_len]

theorem tallyWalk (kd op : Int) : ∀ (vs : List (List Int)) (i : Nat) (s : List Int), walkS (fun _ v s k => k (addR 0 (expsOf kd op v) s)) some i vs s = some (tally kd op vs s)
  | [], _, _ => rfl
  | v :: vs, i, s => by
    rw [walkS, tallyWalk kd op vs (i + 1)]
    rfl

noncomputable def voteStep (kd op le mo pt : Int) (_ : Nat) (v s : List Int) (k : List Int → Option (List Int × Bool)) : Option (List Int × Bool) := bif voteB kd op le mo pt v then k (addR 0 (expsOf kd op v) s) else some ([], false)

theorem voteWalk (kd op le mo pt : Int) : ∀ (vs : List (List Int)) (i : Nat) (s : List Int), walkS (voteStep kd op le mo pt) (fun s => some (s, true)) i vs s = bif vs.all (voteB kd op le mo pt) then some (tally kd op vs s, true) else some ([], false)
  | [], _, _ => rfl
  | v :: vs, i, s => by
    rw [walkS, voteStep, List.all_cons]
    cases voteB kd op le mo pt v with
    | false => rfl
    | true =>
      simp only [cond_true, Bool.true_and]
      rw [voteWalk kd op le mo pt vs (i + 1)]
      rfl

theorem tTally_eq {kd op le mo pt : Int} {vs : List (List Int)} (hk : kd = 1 ∨ kd = 2) (ho : 1 ≤ op ∧ op ≤ 8) (hn : vs.length ≤ 24) (hv : ∀ v ∈ vs, v.length ≤ 1048576) (hb : vs.all (voteB kd op le mo pt) = true) : M_S_tTally ((kd, op, le, mo, pt), vs) = some (tally kd op vs (List.replicate op.toNat 0)) := by
  unfold M_S_tTally
  dsimp only
  rw [guardO_of (by rw [lim_eq]; simp; omega), bindO_some']
  refine (loop_walkI (fun i (s : List Int) => (i, s)) vs (fun _ v s k => k (addR 0 (expsOf kd op v) s)) some (fun _ s => s.length = op.toNat) (fun i a s k k' _ hi hk => hk _ (by rw [addR_len]; exact hi)) (fun again i a s h1 hi hs => ?_) (fun again s hs => ?_) (by omega) (List.replicate op.toNat 0) (by simp)).trans (tallyWalk kd op vs 0 _)
  · have hm := List.mem_of_getElem? h1
    have hvb := List.all_eq_true.1 hb a hm
    have hl := (voteB_spec hk ho hvb).2
    dsimp only
    rw [lt_yes hi, cond_true, getI_nat, h1, bindO_some', (vExps_eq hk ho (hv a hm) hvb).1, bindO_some']
    refine (add_loop (expsOf kd op a) s (fun t => bindO (some (IntKind.wrap .i64 ((i : Int) + 1))) fun a13 => again (a13, t)) (fun _ _ => rfl) (by omega) (by omega)).trans ?_
    rw [i64_succ (by omega)]
    rfl
  · simp only [lt_no, cond_false]

theorem TallyVotes_eq (kd op le mo pt : Int) (vs : List (List Int)) (hv : ∀ v ∈ vs, v.length ≤ 1048576) : ∃ r b, M_S_TallyVotes ((kd, op, le, mo, pt), vs) = some (r, b) ∧ M_I_TallyVotes ((kd, op, le, mo, pt), vs) = some (r, b) ∧ r.length ≤ 24 := by
  by_cases hk : kd = 1 ∨ kd = 2
  · obtain ⟨b, hb, hbs⟩ : ∃ b, M_S_vContest (kd, op, le, mo, pt) = some b ∧ (b = true → 1 ≤ op ∧ op ≤ 8) := by
      rcases hk with rfl | rfl
      · exact contest1 op le mo pt
      · obtain ⟨b, h1, h2⟩ := contest2 op le mo pt
        exact ⟨b, h1, fun h => (h2 h).1⟩
    have hS : M_S_TallyVotes ((kd, op, le, mo, pt), vs) = bindO (M_S_tVotes ((kd, op, le, mo, pt), vs)) fun a => cond (not a) (some ([], false)) (bindO (M_S_tTally ((kd, op, le, mo, pt), vs)) fun t => some (t, true)) := by
      rcases hk with rfl | rfl <;> rfl
    have hF : M_I_Contest_isForm (kd, op, le, mo, pt) = some true := by
      rcases hk with rfl | rfl <;> rfl
    rw [hS]
    unfold M_S_tVotes M_I_TallyVotes
    dsimp only
    rw [contest_same, hb, bindO_some', bindO_some', hF, bindO_some']
    cases b with
    | false => exact ⟨[], false, rfl, rfl, by simp⟩
    | true =>
      have ho := hbs rfl
      simp only [Bool.not_true, cond_false]
      by_cases h24 : vs.length ≤ 24
      · have e1 : decide (((vs.length : Nat) : Int) > 24) = false := by simp; omega
        rw [e1]
        simp only [cond_false]
        have hV : ∀ v ∈ vs, v.length < 2 ^ 62 := fun v hm => by have := hv v hm; omega
        have h1 := (loop_walk (body := fun (again1 : Int → Option Bool) (s2 : Int) => cond (decide (s2 < ((List.length vs : Nat) : Int))) (bindO (getI vs s2) fun (a3 : List Int) => bindO (M_S_vVote ((kd, op, le, mo, pt), a3)) fun (a4 : Bool) => cond (not a4) (some false) (bindO (some (IntKind.wrap .i64 (s2 + 1))) fun (a5 : Int) => again1 a5)) (some true)) vs (fun _ r k => if voteB kd op le mo pt r = true then k else some false) (some true) (fun again i a ha hi => by
          simp only [getI_nat, ha, bindO_some', i64_succ (show i < 2 ^ 62 by omega), lt_yes hi, cond_true, vVote_eq hk ho (hV a (List.mem_of_getElem? ha))]
          cases voteB kd op le mo pt a <;> rfl) (fun again => by simp) (by omega)).trans (walk_all (voteB kd op le mo pt) vs 0)
        have h2 : loopO (fun (again1 : Int → Option Bool) (s2 : Int) => cond (decide (s2 < ((List.length vs : Nat) : Int))) (bindO (getI vs s2) fun (a3 : List Int) => bindO (M_S_vVote ((kd, op, le, mo, pt), a3)) fun (a4 : Bool) => cond (not a4) (some false) (bindO (some (IntKind.wrap .i64 (s2 + 1))) fun (a5 : Int) => again1 a5)) (some true)) 0 = some (vs.all (voteB kd op le mo pt)) := h1
        rw [h2, bindO_some', guardO_of (by rw [lim_eq]; simp; omega), bindO_some']
        have hI : ∀ {y : Option (List Int × Bool)}, y = walkS (voteStep kd op le mo pt) (fun s => some (s, true)) 0 vs (List.replicate op.toNat 0) → y = bif vs.all (voteB kd op le mo pt) then some (tally kd op vs (List.replicate op.toNat 0), true) else some ([], false) := fun h => h.trans (voteWalk kd op le mo pt vs 0 _)
        rw [hI (loop_walkI (fun i (s : List Int) => (i, s)) vs (voteStep kd op le mo pt) (fun s => some (s, true)) (fun _ s => s.length = op.toNat) (fun i a s k k' _ hi hk => by
            unfold voteStep
            cases voteB kd op le mo pt a with
            | false => rfl
            | true => exact hk _ (by rw [addR_len]; exact hi)) (fun again i a s h1 hi hs => by
            have hm := List.mem_of_getElem? h1
            dsimp only
            rw [lt_yes hi, cond_true, getI_nat, h1, bindO_some', isVote_eq hk ho (hV a hm), bindO_some']
            unfold voteStep
            cases hvb : voteB kd op le mo pt a with
            | false => rfl
            | true =>
              have hl := (voteB_spec hk ho hvb).2
              rw [Bool.not_true, cond_false, cond_true, (vExps_eq hk ho (hv a hm) hvb).2, bindO_some']
              refine (add_loop (expsOf kd op a) s (fun t => bindO (some (IntKind.wrap .i64 ((i : Int) + 1))) fun a13 => again (a13, t)) (fun _ _ => rfl) (by omega) (by omega)).trans ?_
              rw [i64_succ (by omega)]
              rfl) (fun again s hs => by simp only [lt_no, cond_false]) (by omega) (List.replicate op.toNat 0) (by simp))]
        cases hall : vs.all (voteB kd op le mo pt) with
        | false => exact ⟨[], false, rfl, rfl, by simp⟩
        | true =>
          refine ⟨tally kd op vs (List.replicate op.toNat 0), true, ?_, rfl, by rw [tally_len, List.length_replicate]; omega⟩
          rw [tTally_eq hk ho h24 hv hall]
          rfl
      · have e1 : decide (((vs.length : Nat) : Int) > 24) = true := by simp; omega
        rw [e1]
        exact ⟨[], false, rfl, rfl, by simp⟩
  · have h1 : kd ≠ 1 := fun h => hk (.inl h)
    have h2 : kd ≠ 2 := fun h => hk (.inr h)
    have b1 : (kd != 1) = true := by simpa using h1
    have b2 : (kd != 2) = true := by simpa using h2
    have c1 : (kd == 1) = false := by simpa using h1
    have c2 : (kd == 2) = false := by simpa using h2
    refine ⟨[], false, ?_, ?_, by simp⟩
    · unfold M_S_TallyVotes
      dsimp only
      rw [b1, b2]
      rfl
    · have hF : M_I_Contest_isForm (kd, op, le, mo, pt) = some false := by
        unfold M_I_Contest_isForm
        dsimp only
        rw [c1, c2]
        rfl
      have hc : ∃ b, M_I_IsValidContest (kd, op, le, mo, pt) = some b := by
        unfold M_I_IsValidContest
        dsimp only
        rw [c1, c2]
        simp only [within_eq, bindO_some', cond_false]
        cases decide (le < 0) <;> cases decide (le > mo) <;> cases (kd == 3) <;> cases (kd == 4) <;> cases decide (1 ≤ op ∧ op ≤ 8) <;> cases decide (mo ≤ op) <;> cases (op == 0) <;> cases decide (mo ≤ 5) <;> exact ⟨_, rfl⟩
      obtain ⟨b, hb⟩ := hc
      unfold M_I_TallyVotes
      dsimp only
      rw [hb, bindO_some', hF]
      cases b <;> rfl

theorem law_FnExactTallyVotes (x : (Int × Int × Int × Int × Int) × List (List Int)) (h : WFI [.data (.cons (.int .i64) (.cons (.int .i64) (.cons (.int .i64) (.cons (.int .i64) (.one (.int .i64)))))), .data (.sl (.sl (.int .i64)))] x) : M_L_FnExactTallyVotes x = some true := by
  obtain ⟨⟨kd, op, le, mo, pt⟩, x⟩ := x
  obtain ⟨h1, h2⟩ := wf_ss (x := x) h.2
  unfold M_L_FnExactTallyVotes
  dsimp only
  obtain ⟨z, hz, hb⟩ := szIntSS_eq h1 h2
  rw [hz, bindO_some']
  by_cases h0 : z < 0
  · simp [h0]
  · have hb := hb (by omega)
    have h3 : x.length < 2 ^ 62 := by omega
    have h4 : ∀ r ∈ x, r.length < 2 ^ 62 := fun r hr => by have := row_le hr; omega
    have h5 : ∀ r ∈ x, r.length ≤ 1048576 := fun r hr => by have := row_le hr; omega
    obtain ⟨r, b, hs, hi, hl⟩ := TallyVotes_eq kd op le mo pt x h5
    obtain ⟨k', x', hm, hk'⟩ := markIntSS_one hb
    have hr : r.length < 2 ^ 40 := by omega
    have hk2 : ¬ k' < 0 := by omega
    simp [h0, toIntSS_eq hb, show M_L_toContest (kd, op, le, mo, pt) = some (kd, op, le, mo, pt) from rfl, hs, hi, eqIntSS_eq h3 h4, eqIntS_eq (show r.length < 2 ^ 62 by omega), hm, hk2, markIntS_eq hr, heldIntS_eq hr, one_nn]

end Go.Proofs.Ytfbemdohiikhhaa.Vd
