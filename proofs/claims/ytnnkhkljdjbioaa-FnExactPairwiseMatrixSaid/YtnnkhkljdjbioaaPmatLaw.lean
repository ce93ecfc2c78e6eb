/- The law FnExactPairwiseMatrix as plain functions on data returns true for all arguments. No conditions. -/
import Derived.Test.YtnnkhkljdjbioaaPmatMod
set_option linter.unusedVariables false
set_option linter.unusedSimpArgs false
set_option linter.unusedSectionVars false
set_option linter.unnecessarySimpa false
namespace Go.Proofs.Ytnnkhkljdjbioaa.Vd
open Go.IntWalk

theorem i64_succ {i : Nat} (h : i < 2 ^ 62) : IntKind.wrap .i64 ((i : Int) + 1) = ((i + 1 : Nat) : Int) := by
  rw [i64_in _ (by omega)]
  rfl

theorem lt_yes {i n : Nat} (h : i < n) : decide ((i : Int) < (n : Int)) = true := by simp [h]

theorem lt_no (n : Nat) : decide ((n : Int) < (n : Int)) = false := by simp

/-- A walk over a list by its numbers, with no other state. -/
def walk {α β : Type} (step : Nat → α → Option β → Option β) (fin : Option β) : Nat → List α → Option β
  | _, [] => fin
  | i, a :: r => step i a (walk step fin (i + 1) r)

theorem loop_walk {α β : Type} {body : (Int → Option β) → Int → Option β} (l : List α) (step : Nat → α → Option β → Option β) (fin : Option β)
    (h : ∀ (again : Int → Option β) (i : Nat) a, l[i]? = some a → i < l.length → body again (i : Int) = step i a (again ((i + 1 : Nat) : Int)))
    (hend : ∀ again : Int → Option β, body again (l.length : Int) = fin) (hl : l.length < 2 ^ 64) : loopO body 0 = walk step fin 0 l := by
  refine (loopO_for (σ := Unit) (fun i _ => (i : Int)) l.length (fun i _ => walk step fin i (l.drop i)) (fun _ _ => True) (fun again _ _ => ?_) (fun again i _ hi _ ih => ?_) hl (i := 0) (s := ()) (Nat.zero_le _) trivial).trans rfl
  · simp [hend, walk]
  · rw [h again i l[i] (List.getElem?_eq_getElem hi) hi, ih () trivial, List.drop_eq_getElem_cons hi, walk]

/-- A walk over a list by its numbers, with a state (before the number). -/
def walkS {α β σ : Type} (step : Nat → α → σ → (σ → Option β) → Option β) (fin : σ → Option β) : Nat → List α → σ → Option β
  | _, [], s => fin s
  | i, a :: r, s => step i a s (walkS step fin (i + 1) r)

/-- The same, where the states keep something. -/
theorem loop_walkI {α β σ τ : Type} {body : (τ → Option β) → τ → Option β} (enc : Int → σ → τ) (l : List α) (step : Nat → α → σ → (σ → Option β) → Option β) (fin : σ → Option β) (Inv : Nat → σ → Prop)
    (hc : ∀ (i : Nat) a s (k k' : σ → Option β), l[i]? = some a → Inv i s → (∀ s', Inv (i + 1) s' → k s' = k' s') → step i a s k = step i a s k')
    (h : ∀ (again : τ → Option β) (i : Nat) a s, l[i]? = some a → i < l.length → Inv i s → body again (enc i s) = step i a s fun s' => again (enc ((i + 1 : Nat) : Int) s'))
    (hend : ∀ (again : τ → Option β) s, Inv l.length s → body again (enc l.length s) = fin s) (hl : l.length < 2 ^ 64) (s : σ) (h0 : Inv 0 s) : loopO body (enc 0 s) = walkS step fin 0 l s := by
  refine (loopO_for (σ := σ) (fun i s => enc (i : Int) s) l.length (fun i s => walkS step fin i (l.drop i) s) Inv (fun again s hs => ?_) (fun again i s hi hs ih => ?_) hl (i := 0) (s := s) (Nat.zero_le _) h0).trans rfl
  · simp [hend _ _ hs, walkS]
  · rw [h again i l[i] s (List.getElem?_eq_getElem hi) hi hs, List.drop_eq_getElem_cons hi, walkS]
    exact hc i l[i] s _ _ (List.getElem?_eq_getElem hi) hs fun s' hs' => ih s' hs'

theorem walk_any {α : Type} (p : α → Bool) : ∀ (l : List α) (i : Nat), walk (fun _ a k => if p a = true then some true else k) (some false) i l = some (l.any p)
  | [], _ => rfl
  | a :: l, i => by
    rw [walk, walk_any p l]
    cases h : p a <;> simp [h]

theorem walk_all {α : Type} (p : α → Bool) : ∀ (l : List α) (i : Nat), walk (fun _ a k => if p a = true then k else some false) (some true) i l = some (l.all p)
  | [], _ => rfl
  | a :: l, i => by
    rw [walk, walk_all p l]
    cases h : p a <;> simp [h]

theorem walk_index {α : Type} (p : α → Bool) : ∀ (l : List α) (i : Nat), ∃ j : Int, walk (fun i a k => if p a = true then some (i : Int) else k) (some (-1)) i l = some j ∧ decide (j ≥ 0) = l.any p
  | [], _ => ⟨-1, rfl, rfl⟩
  | a :: l, i => by
    obtain ⟨j, h1, h2⟩ := walk_index p l (i + 1)
    cases h : p a
    · exact ⟨j, by simp [walk, h, h1], by simp [h, h2]⟩
    · exact ⟨i, by simp [walk, h], by simp [h]⟩

theorem toIntS_eq {x : List Int} (h : x.length ≤ 1048576) : M_L_toIntS x = some x := by
  unfold M_L_toIntS
  have hx : (x.length : Int) ≤ ((lim : Nat) : Int) := by rw [lim_eq]; omega
  rw [guardO_of (by simpa using hx), bindO_some']
  refine (loopO_for (σ := List Int) (fun i s => ((i : Int), s)) x.length (fun i s => some (x.take i ++ x.drop i)) (fun i s => s = x.take i ++ List.replicate (x.length - i) 0) (fun again s hs => ?_) (fun again i s hi hs ih => ?_) (by omega) (i := 0) (s := List.replicate x.length 0) (Nat.zero_le _) (by simp)).trans (by simp)
  · subst hs; simp
  · subst hs
    have h1 : (x.take i ++ List.replicate (x.length - i) (0 : Int))[i]? = some 0 := by
      rw [List.getElem?_append_right (by simp; omega)]
      simp [List.getElem?_replicate]
      omega
    have h2 : (x.take i ++ List.replicate (x.length - i) (0 : Int)).set i x[i] = x.take (i + 1) ++ List.replicate (x.length - (i + 1)) 0 := by
      refine List.ext_getElem? fun j => ?_
      rw [List.getElem?_set]
      by_cases hij : i = j
      · subst hij
        rw [if_pos rfl, if_pos (by simp; omega), List.getElem?_append_left (by simp; omega), List.getElem?_take, if_pos (by omega), List.getElem?_eq_getElem hi]
      · rw [if_neg hij]
        by_cases hj : j < i
        · rw [List.getElem?_append_left (by simp; omega), List.getElem?_append_left (by simp; omega), List.getElem?_take, List.getElem?_take, if_pos hj, if_pos (by omega)]
        · rw [List.getElem?_append_right (by simp; omega), List.getElem?_append_right (by simp; omega)]
          simp only [List.length_take, List.getElem?_replicate]
          rw [Nat.min_eq_left (by omega), Nat.min_eq_left (by omega)]
          by_cases hjx : j < x.length
          · rw [if_pos (by omega), if_pos (by omega)]
          · rw [if_neg (by omega), if_neg (by omega)]
    simp only [getI_nat, List.getElem?_eq_getElem hi, h1, bindO_some', Int.toNat_natCast, h2, i64_succ (show i < 2 ^ 62 by omega)]
    rw [ih _ rfl]
    simp [hi]

theorem eqIntS_eq {a b : List Int} (h : a.length < 2 ^ 62) : M_L_eqIntS (a, b) = some (decide (a = b)) := by
  unfold M_L_eqIntS
  by_cases hl : a.length = b.length
  · have e1 : ((a.length : Int) != (b.length : Int)) = false := by simp [hl]
    dsimp only
    rw [e1]
    simp only [cond_false]
    refine (loopO_for (σ := Unit) (fun i _ => (i : Int)) a.length (fun i _ => some (decide (a.drop i = b.drop i))) (fun _ _ => True) (fun again _ _ => ?_) (fun again i _ hi _ ih => ?_) (by omega) (i := 0) (s := ()) (Nat.zero_le _) trivial).trans (by simp)
    · simp [hl]
    · have hi' : i < b.length := by omega
      simp only [getI_nat, List.getElem?_eq_getElem hi, List.getElem?_eq_getElem hi', bindO_some', i64_succ (show i < 2 ^ 62 by omega), ih () trivial]
      rw [List.drop_eq_getElem_cons hi, List.drop_eq_getElem_cons hi']
      by_cases he : a[i] = b[i] <;> simp [bne_dec, he, hi, -List.getElem_cons_drop]
  · have e1 : ((a.length : Int) != (b.length : Int)) = true := by simp; omega
    dsimp only
    rw [e1]
    simp only [cond_true, Option.some.injEq]
    symm
    simp only [decide_eq_false_iff_not]
    rintro rfl
    exact hl rfl

def marks (n : Nat) (k : Int) : List Int := (List.range n).map fun (i : Nat) => k + (i : Int)

theorem marks_length (n : Nat) (k : Int) : (marks n k).length = n := by simp [marks]

theorem marks_get {n i : Nat} {k : Int} (h : i < n) : (marks n k)[i]? = some (k + i) := by
  simp [marks, h]

theorem markIntS_eq {a : List Int} {k : Int} (h : a.length < 2 ^ 40) (h0 : 0 ≤ k) (h1 : k < 2 ^ 40) : M_L_markIntS (a, k) = some (k + a.length, marks a.length k) := by
  unfold M_L_markIntS
  refine (loopO_for (σ := Int × List Int) (fun i s => (s.1, ((i : Int), s.2))) a.length (fun i s => some (k + a.length, marks a.length k)) (fun i s => s.1 = k + i ∧ s.2 = marks i k ++ a.drop i) (fun again s hs => ?_) (fun again i s hi hs ih => ?_) (by omega) (i := 0) (s := (k, a)) (Nat.zero_le _) (by simp [marks])).trans rfl
  · obtain ⟨s1, s2⟩ := s
    obtain ⟨rfl, rfl⟩ := hs
    simp [marks_length]
  · obtain ⟨s1, s2⟩ := s
    obtain ⟨rfl, rfl⟩ := hs
    have h2 : (marks i k ++ a.drop i)[i]? = some a[i] := by
      rw [List.getElem?_append_right (by simp [marks_length])]
      simp [marks_length, hi]
    have h3 : (marks i k ++ a.drop i).set i (k + i) = marks (i + 1) k ++ a.drop (i + 1) := by
      rw [List.set_append_right _ _ (by simp [marks_length]), marks_length, Nat.sub_self, List.drop_eq_getElem_cons hi, List.set_cons_zero]
      simp [marks, List.range_succ]
    have hlen : (marks i k ++ a.drop i).length = a.length := by simp [marks_length]; omega
    simp only [getI_nat, h2, bindO_some', Int.toNat_natCast, h3, i64_succ (show i < 2 ^ 62 by omega), hlen]
    rw [i64_in _ (by omega)]
    simp only [lt_yes hi, cond_true]
    exact ih (k + i + 1, marks (i + 1) k ++ a.drop (i + 1)) ⟨by simp; omega, rfl⟩

theorem heldIntS_eq {n : Nat} {k : Int} (h : n < 2 ^ 40) (h0 : 0 ≤ k) (h1 : k < 2 ^ 40) : M_L_heldIntS (marks n k, k) = some (k + n) := by
  unfold M_L_heldIntS
  refine (loopO_for (σ := Int) (fun i s => (s, (i : Int))) n (fun i s => some (k + n)) (fun i s => s = k + i) (fun again s hs => ?_) (fun again i s hi hs ih => ?_) (by omega) (i := 0) (s := k) (Nat.zero_le _) (by simp)).trans rfl
  · subst hs; simp [marks_length]
  · subst hs
    simp only [getI_nat, marks_get hi, marks_length, bindO_some', i64_succ (show i < 2 ^ 62 by omega)]
    rw [i64_in _ (by omega)]
    simp only [lt_yes hi, cond_true, bne_self_eq_false, cond_false]
    exact ih (k + i + 1) (by simp; omega)

theorem has_eq {l : List Int} {n : Int} (hl : l.length < 2 ^ 62) : M_S_l1Has (l, n) = some (l.any (· == n)) := by
  unfold M_S_l1Has
  refine (loop_walk l (fun _ a k => if (a == n) = true then some true else k) (some false) (fun again i a ha hi => ?_) (fun again => ?_) (by omega)).trans (walk_any _ l 0)
  · simp only [getI_nat, ha, bindO_some', i64_succ (show i < 2 ^ 62 by omega)]
    cases h : a == n <;> simp [h, hi]
  · simp

theorem index_eq {l : List Int} {n : Int} (hl : l.length < 2 ^ 62) : ∃ j : Int, M_slices_Index_sint_int (l, n) = some j ∧ decide (j ≥ 0) = l.any (· == n) := by
  obtain ⟨j, h1, h2⟩ := walk_index (fun a : Int => a == n) l 0
  refine ⟨j, ?_, h2⟩
  unfold M_slices_Index_sint_int
  refine (loop_walk l (fun i a k => if (a == n) = true then some (i : Int) else k) (some (-1)) (fun again i a ha hi => ?_) (fun again => ?_) (by omega)).trans h1
  · simp only [getI_nat, ha, bindO_some', i64_succ (show i < 2 ^ 62 by omega), lt_yes hi, cond_true]
    rw [show (n == a) = (a == n) from BEq.comm]
    cases h : a == n <;> simp [h]
  · simp

theorem lenOk_of {n : Nat} (h : n ≤ 68719476736) : lenOk n = true := by simp [lenOk, lim_eq, h]

theorem sliceNH_nat {h n : Nat} (hh : h ≤ n) : sliceNH (h : Int) n = some (0, h) := by
  unfold sliceNH
  rw [if_pos ⟨by omega, by omega⟩]
  simp

theorem contains_eq {l : List Int} {n : Int} (hl : l.length < 2 ^ 62) : M_slices_Contains_sint_int (l, n) = some (l.any (· == n)) := by
  obtain ⟨j, h1, h2⟩ := index_eq (n := n) hl
  unfold M_slices_Contains_sint_int
  dsimp only
  rw [h1, bindO_some', h2]

/-- A loop whose states go down: a property of its answer. -/
theorem loopO_ind {σ β : Type} {body : (σ → Option β) → σ → Option β} (Q : σ → Option β → Prop) (Inv : σ → Prop) (μ : σ → Nat)
    (step : ∀ (again : σ → Option β) s, Inv s → (∀ s', Inv s' → μ s' < μ s → Q s' (again s')) → Q s (body again s)) {s : σ} (h0 : Inv s) (hm : μ s < 2 ^ 64) : Q s (loopO body s) := by
  rw [loopO_eq]
  have H : ∀ (n : Nat) (s : σ), Inv s → μ s < n → Q s (iter body n s) := by
    intro n
    induction n with
    | zero => intro s _ h; exact absurd h (Nat.not_lt_zero _)
    | succ n ih => intro s hs h; exact step _ s hs fun s' hs' h' => ih s' hs' (by omega)
  exact H many s h0 hm

theorem in_eq (x a b : Int) : M_S_l1In (x, a, b) = some (decide (a ≤ x ∧ x ≤ b)) := by
  by_cases h : a ≤ x <;> by_cases h2 : x ≤ b <;> simp [M_S_l1In, h, h2]

theorem within_eq (x a b : Int) : M_I_within (x, a, b) = some (decide (a ≤ x ∧ x ≤ b)) := by
  by_cases h : a ≤ x <;> by_cases h2 : x ≤ b <;> simp [M_I_within, h, h2]

theorem l1All_eq {l : List Int} {lo hi : Int} (hl : l.length < 2 ^ 62) : M_S_l1All (l, lo, hi) = some (l.all fun n => decide (lo ≤ n ∧ n ≤ hi)) := by
  unfold M_S_l1All
  refine (loop_walk l (fun _ a k => if (decide (lo ≤ a ∧ a ≤ hi)) = true then k else some false) (some true) (fun again i a ha hi' => ?_) (fun again => ?_) (by omega)).trans (walk_all (fun n => decide (lo ≤ n ∧ n ≤ hi)) l 0)
  · simp only [getI_nat, ha, bindO_some', i64_succ (show i < 2 ^ 62 by omega), lt_yes hi', cond_true, in_eq]
    cases decide (lo ≤ a ∧ a ≤ hi) <;> rfl
  · simp

theorem walk_index_mem {α : Type} (p : α → Bool) (f : α → Option Bool) : ∀ (l : List α) (i : Nat), (∀ a ∈ l, f a = some (p a)) →
    ∃ j : Int, walk (fun i a k => bindO (f a) fun b => cond b (some (i : Int)) k) (some (-1)) i l = some j ∧ decide (j ≥ 0) = l.any p
  | [], _, _ => ⟨-1, rfl, rfl⟩
  | a :: l, i, hf => by
    obtain ⟨j, h1, h2⟩ := walk_index_mem p f l (i + 1) fun b hb => hf b (List.mem_cons_of_mem _ hb)
    have ha := hf a (List.mem_cons_self ..)
    cases h : p a
    · exact ⟨j, by simp [walk, ha, h, h1], by simp [h, h2]⟩
    · exact ⟨i, by simp [walk, ha, h], by simp [h]⟩

theorem containsFunc_eq {l : List Int} {f : Int → Option Bool} {p : Int → Bool} (hl : l.length < 2 ^ 62) (hf : ∀ a ∈ l, f a = some (p a)) : M_slices_ContainsFunc_sint_int (l, f) = some (l.any p) := by
  obtain ⟨j, h1, h2⟩ := walk_index_mem p f l 0 hf
  unfold M_slices_ContainsFunc_sint_int
  have : M_slices_IndexFunc_sint_int (l, f) = some j := by
    unfold M_slices_IndexFunc_sint_int
    refine (loop_walk l _ _ (fun again i a ha hi => ?_) (fun again => ?_) (by omega)).trans h1
    · simp only [getI_nat, ha, bindO_some', i64_succ (show i < 2 ^ 62 by omega), lt_yes hi, cond_true]
    · simp
  dsimp only
  rw [this, bindO_some', h2]

theorem areAll_eq {l : List Int} {f : Int → Option Bool} {p : Int → Bool} (hl : l.length < 2 ^ 62) (hf : ∀ a ∈ l, f a = some (p a)) : M_I_areAll (l, f) = some (l.all p) := by
  unfold M_I_areAll
  dsimp only
  rw [containsFunc_eq (p := fun a => !p a) hl fun a ha => by simp [M_I_areAll_1, hf a ha], bindO_some']
  congr 1
  rw [List.any_eq_not_all_not]
  simp

/-- A product of residues. -/
def prodM (p : Int) : Int → List Int → Int
  | out, [] => out
  | out, x :: l => prodM p (out * x % p) l

def hstep (c s k : Int) : Int := (c * s + k + 1) % 2147483647

/-- a over b. -/
def over (p q a b : Int) : Int := prodM p 1 [a, b ^ (q - 1).toNat % p]

/-- A proposition as a Boolean. -/
noncomputable def pdec (p : Prop) : Bool := @decide p (Classical.propDecidable p)

theorem pdec_iff {p : Prop} : pdec p = true ↔ p := by simp [pdec]

theorem pdec_yes {p : Prop} (h : p) : pdec p = true := pdec_iff.2 h

theorem pdec_no {p : Prop} (h : ¬ p) : pdec p = false := by simp [pdec, h]

/-- A walk that checks: `G i` holds of the first i elements. -/
theorem loop_check {α β : Type} {body : (Int → Option β) → Int → Option β} (l : List α) (G : Nat → Prop) (yes no : Option β)
    (hstep : ∀ (again : Int → Option β) (i : Nat) a, l[i]? = some a → i < l.length → G i → (body again (i : Int) = again ((i + 1 : Nat) : Int) ∧ G (i + 1)) ∨ (body again (i : Int) = no ∧ ¬ G l.length))
    (hend : ∀ again : Int → Option β, body again (l.length : Int) = yes) (h0 : G 0) (hl : l.length < 2 ^ 64) : (G l.length → loopO body 0 = yes) ∧ (¬ G l.length → loopO body 0 = no) := by
  constructor
  · intro hG
    refine (loopO_for (σ := Unit) (fun i _ => (i : Int)) l.length (fun _ _ => yes) (fun i _ => G i) (fun again _ hg => hend again) (fun again i _ hi hg ih => ?_) hl (i := 0) (s := ()) (Nat.zero_le _) h0).trans rfl
    rcases hstep again i l[i] (List.getElem?_eq_getElem hi) hi hg with ⟨h1, h2⟩ | ⟨h1, h2⟩
    · rw [h1]
      exact ih () h2
    · exact absurd hG h2
  · intro hG
    refine (loopO_for (σ := Unit) (fun i _ => (i : Int)) l.length (fun _ _ => no) (fun i _ => G i) (fun again _ hg => absurd hg hG) (fun again i _ hi hg ih => ?_) hl (i := 0) (s := ()) (Nat.zero_le _) h0).trans rfl
    rcases hstep again i l[i] (List.getElem?_eq_getElem hi) hi hg with ⟨h1, h2⟩ | ⟨h1, h2⟩
    · rw [h1]
      exact ih () h2
    · exact h1

theorem check_dec {β : Type} {m : Option β} {G : Prop} {f : Bool → Option β} (h : (G → m = f true) ∧ (¬ G → m = f false)) : m = f (pdec G) := by
  by_cases hg : G
  · rw [h.1 hg, pdec_yes hg]
  · rw [h.2 hg, pdec_no hg]

theorem mem_take_succ {α : Type} {l : List α} {i : Nat} {a : α} (h : l[i]? = some a) : l.take (i + 1) = l.take i ++ [a] := by
  rw [List.take_add_one, h]
  rfl

theorem pairwise_snoc {α : Type} {R : α → α → Prop} {l : List α} {a : α} : (l ++ [a]).Pairwise R ↔ l.Pairwise R ∧ ∀ b ∈ l, R b a := by
  rw [List.pairwise_append]
  constructor
  · rintro ⟨h1, _, h2⟩
    exact ⟨h1, fun b hb => h2 b hb a (by simp)⟩
  · rintro ⟨h1, h2⟩
    exact ⟨h1, by simp, fun b hb c hc => by simp at hc; subst hc; exact h2 b hb⟩

noncomputable def nodupB (l : List Int) : Bool := pdec l.Nodup

theorem areDifferent_eq {l : List Int} (hl : l.length < 2 ^ 62) : M_I_areDifferent l = some (nodupB l) := by
  unfold M_I_areDifferent
  have h := loop_check (β := Bool) l (fun i => (l.take i).Nodup) (some true) (some false) (body := (fun (again0 : (Int → (Option Bool))) => (fun (s1 : Int) => (cond (decide (s1 < (((List.length l) : Nat) : Int))) (bindO (getI l s1) (fun (a2 : Int) => (bindO (sliceNH s1 (List.length l)) (fun (a3 : (Nat × Nat)) => (bindO (M_slices_Contains_sint_int ((List.drop a3.1 (List.take a3.2 l)), a2)) (fun (a4 : Bool) => (cond a4 (some false) (bindO (some (IntKind.wrap .i64 (s1 + (1 : Int)))) (fun (a5 : Int) => (again0 a5)))))))))) (some true)))))
    (fun again i a ha hi' hg => ?_) (fun again => ?_) (by simp) (by omega)
  · rw [List.take_length] at h
    exact check_dec (f := some) h
  · have hlen : (l.take i).length < 2 ^ 62 := by simp; omega
    simp only [lt_yes hi', cond_true, getI_nat, ha, bindO_some', sliceNH_nat (show i ≤ l.length by omega), List.drop_zero, contains_eq hlen, i64_succ (show i < 2 ^ 62 by omega), mem_take_succ ha, List.take_length]
    by_cases hm : a ∈ l.take i
    · right
      have : (l.take i).any (· == a) = true := by simpa using hm
      refine ⟨by rw [this]; rfl, fun hn => ?_⟩
      have h2 : (l.take (i + 1)).Nodup := hn.sublist (List.take_sublist _ _)
      rw [mem_take_succ ha] at h2
      have := (pairwise_snoc.1 h2).2 a hm
      exact this rfl
    · left
      have : (l.take i).any (· == a) = false := by
        cases hc : (l.take i).any (· == a)
        · rfl
        · exact absurd (by simpa using hc) hm
      refine ⟨by rw [this]; rfl, pairwise_snoc.2 ⟨hg, fun b hb hba => hm (by subst hba; exact hb)⟩⟩
  · simp

theorem areBelow_eq {l : List Int} {m : Int} (hl : l.length < 2 ^ 62) (h1 : -9223372036854775807 ≤ m) (h2 : m ≤ 9223372036854775807) : M_I_areBelow (l, m) = some (l.all fun n => decide (0 ≤ n ∧ n ≤ m - 1)) := by
  unfold M_I_areBelow
  rw [areAll_eq (p := fun n => decide (0 ≤ n ∧ n ≤ m - 1)) hl fun a _ => by simp [M_I_areBelow_1, i64_in (m - 1) (by omega), within_eq], bindO_some']

theorem set_take_succ {α : Type} {x s : List α} {i : Nat} {a : α} (hx : x[i]? = some a) (hs : s.length = x.length) (ht : s.take i = x.take i) : (s.set i a).take (i + 1) = x.take (i + 1) := by
  have hi : i < x.length := (List.getElem?_eq_some_iff.1 hx).1
  rw [List.take_add_one, List.take_add_one, hx, List.take_set, List.getElem?_set_self (by omega), ← ht]
  congr 1
  rw [List.set_eq_of_length_le (by rw [List.length_take]; omega)]

/-- A list is written anew, element by element. -/
theorem copy_loop {α : Type} (x : List α) (z : α) {body : (Int × List α → Option (List α)) → Int × List α → Option (List α)}
    (h : ∀ (again : Int × List α → Option (List α)) (i : Nat) a (s : List α), x[i]? = some a → i < x.length → s.length = x.length → body again ((i : Int), s) = again (((i + 1 : Nat) : Int), s.set i a))
    (hend : ∀ (again : Int × List α → Option (List α)) (s : List α), s.length = x.length → body again ((x.length : Int), s) = some s) (hl : x.length < 2 ^ 62) : loopO body (0, List.replicate x.length z) = some x := by
  refine (loopO_for (σ := List α) (fun i s => ((i : Int), s)) x.length (fun i s => some x) (fun i s => s.length = x.length ∧ s.take i = x.take i) (fun again s hs => ?_) (fun again i s hi hs ih => ?_) (by omega) (i := 0) (s := List.replicate x.length z) (Nat.zero_le _) (by simp)).trans rfl
  · rw [hend again s hs.1]
    have := hs.2
    rw [List.take_length, ← hs.1, List.take_length] at this
    rw [this]
  · have ha := List.getElem?_eq_getElem hi
    rw [h again i x[i] s ha hi hs.1]
    exact ih _ ⟨by simp [hs.1], set_take_succ ha hs.1 hs.2⟩

/-- Two lists are compared, element by element. -/
theorem eq_loop {α : Type} [DecidableEq α] (a b : List α) (hab : a.length = b.length) {body : (Int → Option Bool) → Int → Option Bool}
    (h : ∀ (again : Int → Option Bool) (i : Nat) x y, a[i]? = some x → b[i]? = some y → i < a.length → body again (i : Int) = if x = y then again ((i + 1 : Nat) : Int) else some false)
    (hend : ∀ (again : Int → Option Bool), body again (a.length : Int) = some true) (hl : a.length < 2 ^ 62) : loopO body 0 = some (decide (a = b)) := by
  refine (loopO_for (σ := Unit) (fun i _ => (i : Int)) a.length (fun i _ => some (decide (a.drop i = b.drop i))) (fun _ _ => True) (fun again _ _ => ?_) (fun again i _ hi _ ih => ?_) (by omega) (i := 0) (s := ()) (Nat.zero_le _) trivial).trans (by simp)
  · rw [hend]; simp [hab]
  · have hi' : i < b.length := by omega
    rw [h again i a[i] b[i] (List.getElem?_eq_getElem hi) (List.getElem?_eq_getElem hi') hi, ih () trivial, List.drop_eq_getElem_cons hi, List.drop_eq_getElem_cons hi']
    by_cases he : a[i] = b[i] <;> simp [he, -List.getElem_cons_drop]

def tot (x : List (List Int)) : Nat := (x.map List.length).sum

theorem szIntS_eq {a : List Int} {left : Int} (h0 : 0 ≤ left) (h1 : left ≤ 1048576) (hl : a.length < 2 ^ 63) : M_L_szIntS (a, left) = some (if left < a.length then -1 else left - a.length) := by
  unfold M_L_szIntS
  simp only [i64_in (left - (a.length : Int)) (by omega), bindO_some']
  by_cases h : left < a.length
  · rw [if_pos h]
    have : left - (a.length : Int) < 0 := by omega
    simp [this]
  · rw [if_neg h]
    have : ¬ left - (a.length : Int) < 0 := by omega
    simp [this]

theorem tot_drop {x : List (List Int)} {i : Nat} (hi : i < x.length) : tot (x.drop i) = x[i].length + tot (x.drop (i + 1)) := by
  rw [List.drop_eq_getElem_cons hi, tot, List.map_cons, List.sum_cons]
  rfl

theorem szIntSS_eq {x : List (List Int)} (hx : x.length < 2 ^ 63) (hr : ∀ r ∈ x, r.length < 2 ^ 63) : ∃ k, M_L_szIntSS (x, 1048576) = some k ∧ (0 ≤ k → x.length + tot x ≤ 1048576) := by
  unfold M_L_szIntSS
  simp only [i64_in (1048576 - (x.length : Int)) (by omega), bindO_some']
  by_cases h : 1048576 - (x.length : Int) < 0
  · exact ⟨-1, by simp [h], by omega⟩
  · simp only [h, decide_false, cond_false]
    refine loopO_ind (fun (s : Int × Int) (y : Option Int) => ∃ k, y = some k ∧ (0 ≤ k → x.length + tot x ≤ 1048576)) (fun s => 0 ≤ s.1 ∧ s.1 ≤ 1048576 ∧ 0 ≤ s.2 ∧ s.2 ≤ x.length ∧ (tot x : Int) = tot (x.drop s.2.toNat) + (1048576 - x.length - s.1)) (fun s => (x.length - s.2).toNat) (fun (again : Int × Int → Option Int) s hs ih => ?_)
      ⟨by dsimp only; omega, by dsimp only; omega, Int.le_refl _, by dsimp only; omega, by simp⟩ (by dsimp only; omega)
    obtain ⟨left, j⟩ := s
    obtain ⟨h1, h2, h3, h4, h6⟩ := hs
    dsimp only at h1 h2 h3 h4 h6 ih ⊢
    obtain ⟨i, rfl⟩ := Int.eq_ofNat_of_zero_le h3
    rw [Int.toNat_natCast] at h6
    by_cases hi : i < x.length
    · have hm := hr x[i] (List.getElem_mem hi)
      simp only [lt_yes hi, cond_true, getI_nat, List.getElem?_eq_getElem hi, bindO_some', szIntS_eq h1 h2 hm, i64_succ (show i < 2 ^ 62 by omega)]
      by_cases hlt : left < x[i].length
      · rw [if_pos hlt]
        exact ⟨-1, rfl, by omega⟩
      · rw [if_neg hlt]
        have h5 : ¬ left - (x[i].length : Int) < 0 := by omega
        simp only [h5, decide_false, cond_false]
        have h7 := tot_drop hi
        exact ih (left - (x[i].length : Int), ((i + 1 : Nat) : Int)) ⟨by dsimp only; omega, by dsimp only; omega, by dsimp only; omega, by dsimp only; omega, by dsimp only; rw [Int.toNat_natCast]; omega⟩ (by dsimp only; omega)
    · have : i = x.length := by omega
      subst this
      refine ⟨left, by simp, fun _ => ?_⟩
      simp [tot] at h6 ⊢
      omega

theorem row_le {x : List (List Int)} {r : List Int} (h : r ∈ x) : r.length ≤ tot x := by
  induction x with
  | nil => cases h
  | cons a x ih =>
    simp only [tot, List.map_cons, List.sum_cons] at ih ⊢
    rcases List.mem_cons.1 h with rfl | h
    · omega
    · have := ih h
      omega

theorem toIntSS_eq {x : List (List Int)} (h : x.length + tot x ≤ 1048576) : M_L_toIntSS x = some x := by
  unfold M_L_toIntSS
  have hx : (x.length : Int) ≤ ((lim : Nat) : Int) := by rw [lim_eq]; omega
  rw [guardO_of (by simpa using hx), bindO_some', Int.toNat_natCast]
  refine copy_loop x [] (fun again i a s ha hi hs => ?_) (fun again s hs => ?_) (by omega)
  · have hm := row_le (List.mem_of_getElem? ha)
    have hsi := List.getElem?_eq_getElem (l := s) (show i < s.length by omega)
    simp only [lt_yes hi, cond_true, getI_nat, ha, hsi, bindO_some', toIntS_eq (show a.length ≤ 1048576 by omega), Int.toNat_natCast, i64_succ (show i < 2 ^ 62 by omega)]
  · simp

theorem eqIntSS_eq {a b : List (List Int)} (h : a.length < 2 ^ 62) (hr : ∀ r ∈ a, r.length < 2 ^ 62) : M_L_eqIntSS (a, b) = some (decide (a = b)) := by
  unfold M_L_eqIntSS
  by_cases hl : a.length = b.length
  · have e1 : ((a.length : Int) != (b.length : Int)) = false := by simp [hl]
    dsimp only
    rw [e1, cond_false]
    refine eq_loop a b hl (fun again i x y hx hy hi => ?_) (fun again => by simp) h
    simp only [lt_yes hi, cond_true, getI_nat, hx, hy, bindO_some', eqIntS_eq (hr x (List.mem_of_getElem? hx)), i64_succ (show i < 2 ^ 62 by omega)]
    by_cases he : x = y <;> simp [he]
  · have e1 : ((a.length : Int) != (b.length : Int)) = true := by simp; omega
    dsimp only
    rw [e1, cond_true]
    congr 1
    symm
    simp only [decide_eq_false_iff_not]
    rintro rfl
    exact hl rfl

theorem containsFuncS_eq {l : List (List Int)} {f : List Int → Option Bool} {p : List Int → Bool} (hl : l.length < 2 ^ 62) (hf : ∀ a ∈ l, f a = some (p a)) : M_slices_ContainsFunc_ssint_sint (l, f) = some (l.any p) := by
  obtain ⟨j, h1, h2⟩ := walk_index_mem p f l 0 hf
  unfold M_slices_ContainsFunc_ssint_sint
  have : M_slices_IndexFunc_ssint_sint (l, f) = some j := by
    unfold M_slices_IndexFunc_ssint_sint
    refine (loop_walk l _ _ (fun again i a ha hi => ?_) (fun again => ?_) (by omega)).trans h1
    · simp only [getI_nat, ha, bindO_some', i64_succ (show i < 2 ^ 62 by omega), lt_yes hi, cond_true]
    · simp
  dsimp only
  rw [this, bindO_some', h2]

theorem all_not_any {α : Type} {p q : α → Bool} {l : List α} (h : ∀ a ∈ l, q a = !p a) : l.all p = !l.any q := by
  induction l with
  | nil => rfl
  | cons a l ih =>
    rw [List.all_cons, List.any_cons, ih fun b hb => h b (List.mem_cons_of_mem _ hb), h a (List.mem_cons_self ..)]
    cases p a <;> simp

theorem wf_ss {x : List (List Int)} (h : WFI [.data (.sl (.sl (.int .i64)))] x) : x.length < 2 ^ 63 ∧ ∀ r ∈ x, r.length < 2 ^ 63 := by
  have h' : x.length ≤ maxLen ∧ ∀ r ∈ x, r.length ≤ maxLen ∧ ∀ n ∈ r, IntKind.min .i64 ≤ n ∧ n ≤ IntKind.max .i64 := h
  have hm : maxLen < 2 ^ 63 := by decide
  exact ⟨by omega, fun r hr => by have := (h'.2 r hr).1; omega⟩

theorem has_contains {l : List Int} (hl : l.length < 2 ^ 62) (p : Nat × Nat) (a : Int) : M_S_l1Has (List.drop p.1 (List.take p.2 l), a) = M_slices_Contains_sint_int (List.drop p.1 (List.take p.2 l), a) := by
  have : (List.drop p.1 (List.take p.2 l)).length < 2 ^ 62 := by simp; omega
  rw [contains_eq this, has_eq this]

theorem vDifferent_eq {l : List Int} (hl : l.length < 2 ^ 62) : M_S_vDifferent l = some (nodupB l) := by
  rw [← areDifferent_eq hl]
  unfold M_S_vDifferent M_I_areDifferent
  simp only [has_contains hl]

/-- Rankings of options. -/
noncomputable def okR (k : Int) (x : List (List Int)) : Bool := decide (1 ≤ k ∧ k ≤ 8) && (decide (x.length ≤ 24) && x.all fun r => (r.all fun n => decide (0 ≤ n ∧ n ≤ k - 1)) && nodupB r)

theorem tRanks_eq {k : Int} {x : List (List Int)} (hr : ∀ r ∈ x, r.length < 2 ^ 62) : M_S_tRanks (k, x) = some (okR k x) := by
  unfold M_S_tRanks okR
  dsimp only
  rw [in_eq, bindO_some']
  by_cases hk : 1 ≤ k ∧ k ≤ 8
  · simp only [hk, and_self, decide_true, Bool.not_true, cond_false, Bool.true_and]
    have e : decide (((x.length : Nat) : Int) > 24) = !decide (x.length ≤ 24) := by rw [← decide_not, decide_eq_decide]; omega
    rw [e]
    by_cases hx : x.length ≤ 24
    · simp only [hx, decide_true, Bool.not_true, cond_false, Bool.true_and]
      refine (loop_walk x (fun _ r k' => if ((r.all fun n => decide (0 ≤ n ∧ n ≤ k - 1)) && nodupB r) = true then k' else some false) (some true) (fun again i a ha hi' => ?_) (fun again => ?_) (by omega)).trans (walk_all _ x 0)
      · have hal := hr a (List.mem_of_getElem? ha)
        simp only [getI_nat, ha, bindO_some', i64_succ (show i < 2 ^ 62 by omega), lt_yes hi', cond_true, i64_in (k - 1) (by omega), l1All_eq hal, vDifferent_eq hal]
        cases (a.all fun n => decide (0 ≤ n ∧ n ≤ k - 1))
        · rfl
        · cases nodupB a <;> rfl
      · simp
    · simp [hx]
  · simp [hk]

theorem areRankings_eq {k : Int} {x : List (List Int)} (hx : x.length < 2 ^ 62) (hr : ∀ r ∈ x, r.length < 2 ^ 62) : M_I_areRankings (k, x) = some (okR k x) := by
  unfold M_I_areRankings okR
  dsimp only
  rw [within_eq, bindO_some']
  by_cases hk : 1 ≤ k ∧ k ≤ 8
  · simp only [hk, and_self, decide_true, cond_true, Bool.true_and]
    have e : decide (((x.length : Nat) : Int) ≤ 24) = decide (x.length ≤ 24) := by rw [decide_eq_decide]; omega
    rw [e, containsFuncS_eq (p := fun r => !((r.all fun n => decide (0 ≤ n ∧ n ≤ k - 1)) && nodupB r)) hx fun a ha => ?_, bindO_some', all_not_any fun _ _ => rfl]
    · cases decide (x.length ≤ 24) <;> rfl
    · unfold M_I_areRankings_1
      dsimp only
      rw [areBelow_eq (hr a ha) (by omega) (by omega), areDifferent_eq (hr a ha)]
      cases (a.all fun n => decide (0 ≤ n ∧ n ≤ k - 1)) <;> cases nodupB a <;> rfl
  · simp [hk]

theorem okR_spec {k : Int} {x : List (List Int)} (h : okR k x = true) : 1 ≤ k ∧ k ≤ 8 ∧ x.length ≤ 24 ∧ ∀ r ∈ x, (∀ n ∈ r, 0 ≤ n ∧ n ≤ k - 1) ∧ r.Nodup := by
  simp only [okR, Bool.and_eq_true, decide_eq_true_eq, List.all_eq_true, nodupB, pdec_iff] at h
  exact ⟨h.1.1, h.1.2, h.2.1, h.2.2⟩

/-- Marks in a list of lists: their number is all that counts. -/
theorem markIntSS_some {x : List (List Int)} {k : Int} (h0 : 0 ≤ k) (h : k + tot x ≤ 1000000000000) (hx : x.length ≤ 1048576) (ht : ∀ r ∈ x, r.length < 2 ^ 39) (hk : k < 2 ^ 39) : ∃ k' x', M_L_markIntSS (x, k) = some (k', x') ∧ 0 ≤ k' := by
  unfold M_L_markIntSS
  refine loopO_ind (fun (_ : Int × Int × List (List Int)) (y : Option (Int × List (List Int))) => ∃ k' x', y = some (k', x') ∧ 0 ≤ k') (fun s => 0 ≤ s.1 ∧ s.1 + tot (x.drop s.2.1.toNat) ≤ 1000000000000 ∧ 0 ≤ s.2.1 ∧ s.2.1 ≤ x.length ∧ s.2.2.length = x.length ∧ s.2.2.drop s.2.1.toNat = x.drop s.2.1.toNat) (fun s => ((x.length : Int) - s.2.1).toNat) (fun again s hs ih => ?_)
    ⟨h0, by simpa using h, Int.le_refl _, by dsimp only; omega, rfl, rfl⟩ (by dsimp only; omega)
  obtain ⟨c, j, y⟩ := s
  obtain ⟨g1, g2, g3, g4, g5, g6⟩ := hs
  dsimp only at g1 g2 g3 g4 g5 g6 ih ⊢
  obtain ⟨i, rfl⟩ := Int.eq_ofNat_of_zero_le g3
  rw [Int.toNat_natCast] at g2 g6
  by_cases hi : i < x.length
  · have hy : y[i]? = some x[i] := by
      have : (y.drop i)[0]? = (x.drop i)[0]? := by rw [g6]
      simpa [hi] using this
    have hd := tot_drop hi
    have hlt : decide ((i : Int) < (y.length : Int)) = true := by simp; omega
    have hxi := ht x[i] (List.getElem_mem hi)
    by_cases hc : c < 2 ^ 40
    · simp only [hlt, cond_true, getI_nat, hy, bindO_some', markIntS_eq (show x[i].length < 2 ^ 40 by omega) g1 hc, i64_succ (show i < 2 ^ 62 by omega), Int.toNat_natCast]
      refine ih _ ⟨by dsimp only; omega, by dsimp only; rw [Int.toNat_natCast]; omega, by dsimp only; omega, by dsimp only; omega, by simp [g5], ?_⟩ (by dsimp only; omega)
      dsimp only
      rw [Int.toNat_natCast]
      refine List.ext_getElem? fun m => ?_
      have := congrArg (fun l => l[m + 1]?) g6
      simp only [List.getElem?_drop] at this ⊢
      rw [List.getElem?_modify]
      rw [show i + (m + 1) = i + 1 + m by omega] at this
      have hne : ¬ i = i + 1 + m := by omega
      simp only [hne, if_false]
      simpa using this
    · exact absurd hc (by omega)
  · have hi' : decide ((i : Int) < (y.length : Int)) = false := by simp; omega
    rw [hi', cond_false]
    exact ⟨_, _, rfl, g1⟩

theorem markIntSS_one {x : List (List Int)} (h : x.length + tot x ≤ 1048576) : ∃ k' x', M_L_markIntSS (x, 1) = some (k', x') ∧ 0 ≤ k' :=
  markIntSS_some (by omega) (by omega) (by omega) (fun r hr => by have := row_le hr; omega) (by omega)

/-- A list is put together, element by element. -/
theorem append_loop {α β : Type} (y : List α) (fin : List α → Option β) {body : (List α × Int → Option β) → List α × Int → Option β}
    (h : ∀ (again : List α × Int → Option β) (i : Nat) a (s : List α), y[i]? = some a → i < y.length → s.length = i → body again (s, (i : Int)) = again (s ++ [a], ((i + 1 : Nat) : Int)))
    (hend : ∀ (again : List α × Int → Option β) (s : List α), s.length = y.length → body again (s, (y.length : Int)) = fin s) (hl : y.length < 2 ^ 62) : loopO body ([], 0) = fin y := by
  refine (loopO_for (σ := List α) (fun i s => (s, (i : Int))) y.length (fun i s => fin y) (fun i s => s = y.take i) (fun again s hs => ?_) (fun again i s hi hs ih => ?_) (by omega) (i := 0) (s := []) (Nat.zero_le _) (by simp)).trans rfl
  · subst hs
    rw [List.take_length]
    exact hend again y rfl
  · subst hs
    have ha := List.getElem?_eq_getElem hi
    rw [h again i y[i] _ ha hi (by simp; omega)]
    refine ih _ ?_
    rw [List.take_add_one, ha]
    rfl

theorem mul_out {p s b : Int} (hs : 0 ≤ s ∧ s < p) : prodM p 1 [s, b] = s * b % p := by
  simp only [prodM]
  rw [Int.one_mul, Int.emod_eq_of_lt hs.1 hs.2]

def sumR (f : Nat → Nat) : Nat → Nat
  | 0 => 0
  | n + 1 => sumR f n + f n

def ind (q s : Int) : Nat := if s % q = 0 then 1 else 0

def cnt (q : Int) (m : Nat) : List Int → Int → Nat
  | [], s => ind q s
  | e :: l, s => sumR (fun d => cnt q m l (s + ((d + 1 : Nat) : Int) * e)) m

/-- The place of k in a ranking; 8 if it has none. -/
def place : List Int → Nat → Int → Int
  | [], _, _ => 8
  | x :: r, i, k => bif x == k then (i : Int) else place r (i + 1) k

theorem placeWalk (k : Int) : ∀ (l : List Int) (i : Nat), walk (fun i a t => bif a == k then some (i : Int) else t) (some 8) i l = some (place l i k)
  | [], _ => rfl
  | a :: l, i => by
    rw [walk, place, placeWalk k l (i + 1)]
    cases a == k <;> rfl

theorem tPlace_eq {r : List Int} {k : Int} (hr : r.length < 2 ^ 62) : M_S_tPlace (r, k) = some (place r 0 k) := by
  unfold M_S_tPlace
  refine (loop_walk r (fun i a t => bif a == k then some (i : Int) else t) (some 8) (fun again i a ha hi => ?_) (fun again => ?_) (by omega)).trans (placeWalk k r 0)
  · simp only [lt_yes hi, cond_true, getI_nat, ha, bindO_some', i64_succ (show i < 2 ^ 62 by omega)]
  · simp only [lt_no, cond_false]

/-- How many rankings have i before j. -/
def ahead (rs : List (List Int)) (i j : Int) : Nat := (rs.filter fun r => decide (place r 0 i < place r 0 j)).length

theorem ahead_cons (r : List Int) (rs : List (List Int)) (i j : Int) : ahead (r :: rs) i j = (if place r 0 i < place r 0 j then 1 else 0) + ahead rs i j := by
  unfold ahead
  rw [List.filter_cons]
  by_cases h : place r 0 i < place r 0 j
  · simp [h]
    omega
  · simp [h]

/-- One entry is counted. -/
theorem entryWalk {β : Type} (K : List Int → Option β) (i j : Int) (n : Nat) : ∀ (rs : List (List Int)) (m : Nat) (s : List Int), walkS (fun _ r s k => bif decide (place r 0 i < place r 0 j) then k (s.set n (s.getD n 0 + 1)) else k s) K m rs s = K (if ahead rs i j = 0 then s else s.set n (s.getD n 0 + ahead rs i j))
  | [], _, s => by
    simp [walkS, ahead]
  | r :: rs, m, s => by
    rw [walkS, ahead_cons]
    by_cases h : place r 0 i < place r 0 j
    · have d : decide (place r 0 i < place r 0 j) = true := by simpa using h
      rw [d, cond_true, entryWalk K i j n rs (m + 1), if_pos h]
      congr 1
      rw [if_neg (show ¬ (1 + ahead rs i j = 0) by omega)]
      by_cases hz : ahead rs i j = 0
      · rw [if_pos hz, hz]
        rfl
      · rw [if_neg hz, List.set_set]
        by_cases hn : n < s.length
        · congr 1
          rw [List.getD_eq_getElem?_getD, List.getElem?_set_self hn, List.getD_eq_getElem?_getD]
          simp only [Option.getD_some]
          omega
        · rw [List.set_eq_of_length_le (by omega), List.set_eq_of_length_le (by omega)]
    · have d : decide (place r 0 i < place r 0 j) = false := by simpa using h
      rw [d, cond_false, entryWalk K i j n rs (m + 1), if_neg h, Nat.zero_add]

theorem entry_loop {β : Type} {rs : List (List Int)} {i : Int} {n : Nat} (K : List Int → Option β) {body : (Int × List Int → Option β) → Int × List Int → Option β} (hn : rs.length ≤ 1000) (hr : ∀ r ∈ rs, r.length < 2 ^ 62)
    (hb : ∀ again s, body again s = cond (decide (s.1 < ((rs.length : Nat) : Int))) (bindO (getI rs s.1) fun a8 => bindO (M_S_tPlace (a8, i)) fun a9 => bindO (M_S_tPlace (a8, (n : Int))) fun a10 => cond (decide (a9 < a10)) (bindO (getI s.2 (n : Int)) fun a11 => bindO (some (IntKind.wrap .i64 (a11 + 1))) fun a12 => bindO (getI s.2 (n : Int)) fun _ => bindO (some (List.set s.2 (Int.toNat (n : Int)) a12)) fun a14 => bindO (some (IntKind.wrap .i64 (s.1 + 1))) fun a15 => again (a15, a14)) (bindO (some (IntKind.wrap .i64 (s.1 + 1))) fun a16 => again (a16, s.2))) (K s.2))
    {s : List Int} (hs : n < s.length) (h0 : 0 ≤ s.getD n 0) (h1 : s.getD n 0 ≤ 1000) : loopO body (0, s) = K (if ahead rs i n = 0 then s else s.set n (s.getD n 0 + ahead rs i n)) := by
  refine (loop_walkI (fun t (s : List Int) => (t, s)) rs (fun _ r s k => bif decide (place r 0 i < place r 0 n) then k (s.set n (s.getD n 0 + 1)) else k s) K (fun t s => n < s.length ∧ 0 ≤ s.getD n 0 ∧ s.getD n 0 ≤ 1000 + t) (fun t r s k k' _ hi hk => ?_) (fun again t r s ha hi hi2 => ?_) (fun again s _ => ?_) (by omega) s ⟨hs, h0, by omega⟩).trans (entryWalk K i n n rs 0 s)
  · cases decide (place r 0 i < place r 0 n)
    · exact hk _ ⟨hi.1, hi.2.1, by omega⟩
    · refine hk _ ?_
      have : (s.set n (s.getD n 0 + 1)).getD n 0 = s.getD n 0 + 1 := by
        rw [List.getD_eq_getElem?_getD, List.getElem?_set_self hi.1]
        rfl
      exact ⟨by rw [List.length_set]; exact hi.1, by omega, by omega⟩
  · have hm := hr r (List.mem_of_getElem? ha)
    have hg : s[n]? = some (s.getD n 0) := by
      rw [List.getD_eq_getElem?_getD, List.getElem?_eq_getElem hi2.1]
      rfl
    rw [hb]
    simp only [lt_yes hi, cond_true, getI_nat, ha, bindO_some', tPlace_eq hm, hg, i64_in (s.getD n 0 + 1) (by omega), Int.toNat_natCast, i64_succ (show t < 2 ^ 62 by omega)]
  · rw [hb]
    simp only [lt_no, cond_false]

def rowOf (k : Nat) (rs : List (List Int)) (i : Int) : List Int := (List.range k).map fun j : Nat => ((ahead rs i (j : Int) : Nat) : Int)

theorem rowOf_len (k : Nat) (rs : List (List Int)) (i : Int) : (rowOf k rs i).length = k := by simp [rowOf]

theorem rowOf_get {k : Nat} (rs : List (List Int)) (i : Int) {t : Nat} (h : t < k) : (rowOf k rs i)[t]? = some ((ahead rs i (t : Int) : Nat) : Int) := by
  simp [rowOf, List.getElem?_range h]

theorem row_loop {β : Type} {rs : List (List Int)} {i : Int} {k : Nat} (K : List Int → Option β) {body : (Int × List Int → Option β) → Int × List Int → Option β} (hk : k ≤ 1000) (hn : rs.length ≤ 1000) (hr : ∀ r ∈ rs, r.length < 2 ^ 62)
    (hb : ∀ again s, body again s = cond (decide (s.1 < ((k : Nat) : Int))) (loopO (fun again6 (s7 : Int × List Int) => cond (decide (s7.1 < ((rs.length : Nat) : Int))) (bindO (getI rs s7.1) fun a8 => bindO (M_S_tPlace (a8, i)) fun a9 => bindO (M_S_tPlace (a8, s.1)) fun a10 => cond (decide (a9 < a10)) (bindO (getI s7.2 s.1) fun a11 => bindO (some (IntKind.wrap .i64 (a11 + 1))) fun a12 => bindO (getI s7.2 s.1) fun _ => bindO (some (List.set s7.2 (Int.toNat s.1) a12)) fun a14 => bindO (some (IntKind.wrap .i64 (s7.1 + 1))) fun a15 => again6 (a15, a14)) (bindO (some (IntKind.wrap .i64 (s7.1 + 1))) fun a16 => again6 (a16, s7.2))) (bindO (some (IntKind.wrap .i64 (s.1 + 1))) fun a17 => again (a17, s7.2))) (0, s.2)) (K s.2)) :
    loopO body (0, List.replicate k 0) = K (rowOf k rs i) := by
  refine (loopO_for (σ := List Int) (fun j s => ((j : Int), s)) k (fun _ _ => K (rowOf k rs i)) (fun j s => s.length = k ∧ ∀ t, t < k → s[t]? = some (if t < j then ((ahead rs i (t : Int) : Nat) : Int) else 0)) (fun again s hs => ?_) (fun again j s hj hs ih => ?_) (by omega) (i := 0) (s := List.replicate k 0) (Nat.zero_le _) ⟨by simp, fun t ht => by simp [ht]⟩)
  · rw [hb]
    have : s = rowOf k rs i := by
      refine List.ext_getElem? fun t => ?_
      by_cases ht : t < k
      · rw [hs.2 t ht, rowOf_get rs i ht, if_pos ht]
      · rw [List.getElem?_eq_none (by omega), List.getElem?_eq_none (by rw [rowOf_len]; omega)]
    rw [this]
    simp only [lt_no, cond_false]
  · rw [hb]
    have hsj : s[j]? = some 0 := by
      rw [hs.2 j hj, if_neg (by omega)]
    have hgd : s.getD j 0 = 0 := by
      rw [List.getD_eq_getElem?_getD, hsj]
      rfl
    dsimp only
    rw [lt_yes hj, cond_true]
    refine (entry_loop (i := i) (n := j) (fun t => bindO (some (IntKind.wrap .i64 ((j : Int) + 1))) fun a17 => again (a17, t)) hn hr (fun _ _ => rfl) (s := s) (by omega) (by omega) (by omega)).trans ?_
    rw [i64_succ (by omega), bindO_some']
    refine ih _ ⟨?_, fun t ht => ?_⟩
    · split
      · exact hs.1
      · rw [List.length_set]; exact hs.1
    · by_cases htj : t = j
      · subst htj
        rw [if_pos (show t < t + 1 by omega)]
        split
        · rename_i hz
          rw [hsj, hz]
          rfl
        · rw [List.getElem?_set_self (by omega), hgd, Int.zero_add]
      · have e : (if t < j + 1 then ((ahead rs i (t : Int) : Nat) : Int) else 0) = if t < j then ((ahead rs i (t : Int) : Nat) : Int) else 0 := by
          by_cases h : t < j
          · rw [if_pos h, if_pos (by omega)]
          · rw [if_neg h, if_neg (by omega)]
        rw [e, ← hs.2 t ht]
        split
        · rfl
        · rw [List.getElem?_set_ne (by omega)]

def matOf (k : Nat) (rs : List (List Int)) : List (List Int) := (List.range k).map fun i : Nat => rowOf k rs (i : Int)

theorem matOf_len (k : Nat) (rs : List (List Int)) : (matOf k rs).length = k := by simp [matOf]

theorem S_PairwiseMatrix_eq {k : Int} {rs : List (List Int)} (hr : ∀ r ∈ rs, r.length < 2 ^ 62) : M_S_PairwiseMatrix (k, rs) = some (bif okR k rs then (matOf k.toNat rs, true) else ([], false)) := by
  unfold M_S_PairwiseMatrix
  dsimp only
  rw [tRanks_eq hr, bindO_some']
  cases hok : okR k rs with
  | false => rfl
  | true =>
    have hok' := hok
    simp only [okR, Bool.and_eq_true, decide_eq_true_eq] at hok'
    obtain ⟨h1, h2, _⟩ := hok'
    obtain ⟨n, rfl⟩ := Int.eq_ofNat_of_zero_le (show 0 ≤ k by omega)
    simp only [Bool.not_true, cond_false, cond_true, Int.toNat_natCast]
    have hl := matOf_len n rs
    have hl' : ((n : Nat) : Int) = (((matOf n rs).length : Nat) : Int) := by rw [hl]
    have key := append_loop (matOf n rs) (fun t => some (t, true)) (body := fun (again1 : List (List Int) × Int → Option (List (List Int) × Bool)) (s2 : List (List Int) × Int) => cond (decide (s2.2 < ((n : Nat) : Int))) (bindO (guardO (((decide ((0 : Int) ≤ (n : Int))) && (decide ((n : Int) ≤ (n : Int)))) && (decide ((n : Int) ≤ ((lim : Nat) : Int))))) fun _ => loopO (fun again4 (s5 : Int × List Int) => cond (decide (s5.1 < (((List.replicate n (0 : Int)).length : Nat) : Int))) (loopO (fun again6 (s7 : Int × List Int) => cond (decide (s7.1 < ((rs.length : Nat) : Int))) (bindO (getI rs s7.1) fun a8 => bindO (M_S_tPlace (a8, s2.2)) fun a9 => bindO (M_S_tPlace (a8, s5.1)) fun a10 => cond (decide (a9 < a10)) (bindO (getI s7.2 s5.1) fun a11 => bindO (some (IntKind.wrap .i64 (a11 + 1))) fun a12 => bindO (getI s7.2 s5.1) fun _ => bindO (some (List.set s7.2 (Int.toNat s5.1) a12)) fun a14 => bindO (some (IntKind.wrap .i64 (s7.1 + 1))) fun a15 => again6 (a15, a14)) (bindO (some (IntKind.wrap .i64 (s7.1 + 1))) fun a16 => again6 (a16, s7.2))) (bindO (some (IntKind.wrap .i64 (s5.1 + 1))) fun a17 => again4 (a17, s7.2))) (0, s5.2)) (bindO (guardO (lenOk (s2.1.length + (s5.2 :: ([] : List (List Int))).length))) fun _ => bindO (some (s2.1 ++ (s5.2 :: ([] : List (List Int))))) fun a19 => bindO (some (IntKind.wrap .i64 (s2.2 + 1))) fun a20 => again1 (a19, a20))) (0, List.replicate n 0)) (some (s2.1, true)))
      (fun again i a t ha hi ht => ?_) (fun again t ht => ?_) (by omega)
    · exact key
    · have hin : i < n := by omega
      have hrow : a = rowOf n rs (i : Int) := by
        simp only [matOf, List.getElem?_map, List.getElem?_range hin, Option.map_some, Option.some.injEq] at ha
        exact ha.symm
      subst hrow
      dsimp only
      rw [lt_yes hin, cond_true, guardO_of (by rw [lim_eq]; simp; omega), bindO_some']
      refine (row_loop (i := (i : Int)) (k := n) (fun r => bindO (guardO (lenOk (t.length + (r :: ([] : List (List Int))).length))) fun _ => bindO (some (t ++ (r :: ([] : List (List Int))))) fun a19 => bindO (some (IntKind.wrap .i64 ((i : Int) + 1))) fun a20 => again (a19, a20)) (by omega) (by omega) hr (fun _ _ => by rw [List.length_replicate])).trans ?_
      rw [guardO_of (lenOk_of (by simp; omega)), bindO_some', bindO_some', i64_succ (by omega), bindO_some']
    · rw [hl]
      simp only [lt_no, cond_false]

theorem getD_at {α : Type} {l : List α} {i : Nat} {d : α} (h : i < l.length) : l[i]? = some (l.getD i d) := by
  rw [List.getElem?_eq_getElem h, List.getD_eq_getElem?_getD, List.getElem?_eq_getElem h]
  rfl

theorem mul_one {p x : Int} (hp : 2 ≤ p) (hx : 0 ≤ x ∧ x < p) : prodM p 1 [1, x] = x := by
  rw [mul_out (by omega), Int.one_mul, Int.emod_eq_of_lt hx.1 hx.2]

def iterN {σ : Type} (f : Nat → σ → σ) (s0 : σ) : Nat → σ
  | 0 => s0
  | n + 1 => f n (iterN f s0 n)

theorem iterN_inv {σ : Type} {f : Nat → σ → σ} {s0 : σ} {Inv : Nat → σ → Prop} (h0 : Inv 0 s0) : ∀ n, (∀ i s, i < n → Inv i s → Inv (i + 1) (f i s)) → Inv n (iterN f s0 n)
  | 0, _ => h0
  | n + 1, h => h n _ (by omega) (iterN_inv h0 n fun i s hi => h i s (by omega))

theorem iter_loop {σ τ β : Type} (f : Nat → σ → σ) (s0 : σ) (n : Nat) (enc : Int → σ → τ) (fin : σ → Option β) (Inv : Nat → σ → Prop) {body : (τ → Option β) → τ → Option β} (hn : n < 2 ^ 62) (h0 : Inv 0 s0) (hs : ∀ i s, i < n → Inv i s → Inv (i + 1) (f i s))
    (h : ∀ (again : τ → Option β) (i : Nat) s, i < n → Inv i s → body again (enc (i : Int) s) = again (enc ((i + 1 : Nat) : Int) (f i s))) (hend : ∀ (again : τ → Option β) s, Inv n s → body again (enc (n : Int) s) = fin s) : loopO body (enc 0 s0) = fin (iterN f s0 n) := by
  refine (loopO_for (σ := σ) (fun i s => enc (i : Int) s) n (fun _ _ => fin (iterN f s0 n)) (fun i s => s = iterN f s0 i ∧ Inv i s) (fun again s hs => ?_) (fun again i s hi hv ih => ?_) (by omega) (i := 0) (s := s0) (Nat.zero_le _) ⟨rfl, h0⟩).trans rfl
  · obtain ⟨rfl, h2⟩ := hs
    exact hend again _ h2
  · obtain ⟨rfl, h2⟩ := hv
    rw [h again i _ hi h2]
    exact ih _ ⟨rfl, hs i _ hi h2⟩

theorem getD_is {α : Type} {l : List α} {i : Nat} {a d : α} (h : l[i]? = some a) : l.getD i d = a := by
  rw [List.getD_eq_getElem?_getD, h]
  rfl

def sumN : Nat → (Nat → Int) → Int
  | 0, _ => 0
  | n + 1, g => sumN n g + g n

theorem sumN_front (g : Nat → Int) : ∀ n, sumN (n + 1) g = g 0 + sumN n fun t => g (t + 1)
  | 0 => by simp [sumN]
  | n + 1 => by
    rw [sumN, sumN_front g n, sumN]
    omega

theorem sumN_congr {g h : Nat → Int} : ∀ n, (∀ t, t < n → g t = h t) → sumN n g = sumN n h
  | 0, _ => rfl
  | n + 1, e => by rw [sumN, sumN, sumN_congr n fun t ht => e t (by omega), e n (by omega)]

theorem sumN_zero {g : Nat → Int} : ∀ n, (∀ t, t < n → g t = 0) → sumN n g = 0
  | 0, _ => rfl
  | n + 1, e => by rw [sumN, sumN_zero n fun t ht => e t (by omega), e n (by omega)]; rfl

theorem sumN_one {c : Nat → Bool} {j : Nat} : ∀ n, sumN n (fun t => if t = j ∧ c t = true then 1 else 0) = if j < n ∧ c j = true then 1 else 0
  | 0 => by simp [sumN]
  | n + 1 => by
    rw [sumN, sumN_one n]
    by_cases h : n = j
    · subst h
      cases c n <;> simp
    · by_cases h2 : j < n
      · cases c j <;> simp [h, h2, show j < n + 1 by omega]
      · simp [h, h2, show ¬ j < n + 1 by omega]

abbrev Mf := Nat → Nat → Int

theorem iterN_add (g : Nat → Mf) (E : Mf) : ∀ n, iterN (fun t (E : Mf) i j => E i j + g t i j) E n = fun i j => E i j + sumN n fun t => g t i j
  | 0 => by funext i j; simp [iterN, sumN]
  | n + 1 => by
    rw [iterN, iterN_add g E n]
    funext i j
    dsimp only
    rw [sumN]
    omega

def rowN (n : Nat) (f : Nat → Int) : List Int := (List.range n).map f

def mat (n : Nat) (E : Mf) : List (List Int) := (List.range n).map fun i => rowN n (E i)

theorem rowN_get {n : Nat} {f : Nat → Int} {j : Nat} (h : j < n) : (rowN n f)[j]? = some (f j) := by
  rw [rowN, List.getElem?_map, List.getElem?_range h]
  rfl

theorem mat_get {n : Nat} {E : Mf} {i : Nat} (h : i < n) : (mat n E)[i]? = some (rowN n (E i)) := by
  rw [mat, List.getElem?_map, List.getElem?_range h]
  rfl

theorem mat_len (n : Nat) (E : Mf) : (mat n E).length = n := by simp [mat]

theorem rowN_len (n : Nat) (f : Nat → Int) : (rowN n f).length = n := by simp [rowN]

theorem mat_modify {n : Nat} {E : Mf} {a j : Nat} {v : Int} : List.modify (mat n E) a (fun _ => (rowN n (E a)).set j v) = mat n fun i' j' => if i' = a ∧ j' = j then v else E i' j' := by
  refine List.ext_getElem? fun i => ?_
  rw [List.getElem?_modify]
  by_cases hi : i < n
  · rw [mat_get hi, mat_get hi]
    by_cases hia : a = i
    · subst hia
      simp only [if_true, Option.map_eq_map, Option.map_some, true_and, Option.some.injEq]
      refine List.ext_getElem? fun t => ?_
      by_cases ht : t < n
      · rw [rowN_get ht, List.getElem?_set]
        by_cases hjt : j = t
        · subst hjt
          rw [if_pos rfl, if_pos (by rw [rowN_len]; exact ht), if_pos rfl]
        · rw [if_neg hjt, rowN_get ht, if_neg (fun h => hjt h.symm)]
      · rw [List.getElem?_eq_none (by rw [List.length_set, rowN_len]; omega), List.getElem?_eq_none (by rw [rowN_len]; omega)]
    · simp only [if_neg hia, Option.map_eq_map, Option.map_some, Option.some.injEq]
      congr 1
      funext t
      rw [if_neg (fun h => hia h.1.symm)]
  · rw [List.getElem?_eq_none (by rw [mat_len]; omega), List.getElem?_eq_none (by rw [mat_len]; omega)]
    simp

theorem mat_congr {n : Nat} {E F : Mf} (h : ∀ i j, i < n → j < n → E i j = F i j) : mat n E = mat n F := by
  refine List.map_congr_left fun i hi => List.map_congr_left fun j hj => ?_
  exact h i j (List.mem_range.1 hi) (List.mem_range.1 hj)

def Bnd (E : Mf) (c : Nat) : Prop := ∀ i j, 0 ≤ E i j ∧ E i j ≤ (c : Int)

/-- What round t of the innermost loop adds. -/
def pmG (r : List Int) (at_ t i j : Nat) : Int := if ((i : Int) = r.getD at_ 0 ∧ j = t) ∧ (!(r.take (at_ + 1)).any (· == (t : Int))) = true then 1 else 0

theorem pmG_in (r : List Int) (at_ t i j : Nat) : 0 ≤ pmG r at_ t i j ∧ pmG r at_ t i j ≤ 1 := by
  unfold pmG
  split <;> omega

def pm3 (r : List Int) (at_ t : Nat) (E : Mf) : Mf := fun i j => E i j + pmG r at_ t i j

def pm2 (n : Nat) (r : List Int) (at_ : Nat) (E : Mf) : Mf := iterN (pm3 r at_) E n

def pm1 (n : Nat) (rs : List (List Int)) (t : Nat) (E : Mf) : Mf := iterN (pm2 n (rs.getD t [])) E (rs.getD t []).length

theorem pm3_bnd {r : List Int} {at_ t : Nat} {E : Mf} {c : Nat} (h : Bnd E c) : Bnd (pm3 r at_ t E) (c + 1) := fun i j => by
  have := h i j
  have := pmG_in r at_ t i j
  unfold pm3
  omega

theorem pm2_bnd {n : Nat} {r : List Int} {at_ : Nat} {E : Mf} {c : Nat} (h : Bnd E c) : Bnd (pm2 n r at_ E) (c + n) :=
  iterN_inv (Inv := fun t E => Bnd E (c + t)) h n fun _ _ _ hv => pm3_bnd hv

theorem pm1_bnd {n : Nat} {rs : List (List Int)} {t : Nat} {E : Mf} {c : Nat} (h : Bnd E c) : Bnd (pm1 n rs t E) (c + n * (rs.getD t []).length) :=
  iterN_inv (Inv := fun u E => Bnd E (c + n * u)) h _ fun u E _ hv => by
    have := pm2_bnd (n := n) (r := rs.getD t []) (at_ := u) hv
    rwa [show c + n * u + n = c + n * (u + 1) by rw [Nat.mul_add, Nat.mul_one, Nat.add_assoc]] at this

theorem inner_loop {β : Type} {n at_ : Nat} {r : List Int} {a : Int} {E : Mf} {c : Nat} (fin' : List (List Int) → Option β) (hn : n ≤ 8) (ha : r[at_]? = some a) (ha0 : 0 ≤ a) (han : a < n) (hr : r.length < 2 ^ 30) (hE : Bnd E c) (hc : c ≤ 1000000)
    {body : (Int × List (List Int) → Option β) → Int × List (List Int) → Option β}
    (hb : ∀ again s, body again s = cond (decide (s.1 < (n : Int))) (bindO (some (IntKind.wrap .i64 ((at_ : Int) + 1))) fun a15 => bindO (sliceNH a15 r.length) fun a16 => bindO (M_slices_Contains_sint_int (List.drop a16.1 (List.take a16.2 r), s.1)) fun a17 => cond (not a17) (bindO (getI s.2 a) fun a18 => bindO (getI a18 s.1) fun a19 => bindO (some (IntKind.wrap .i64 (a19 + 1))) fun a20 => bindO (getI a18 s.1) fun _ => bindO (some (List.modify s.2 (Int.toNat a) fun _ => List.set a18 (Int.toNat s.1) a20)) fun a23 => bindO (some (IntKind.wrap .i64 (s.1 + 1))) fun a24 => again (a24, a23)) (bindO (some (IntKind.wrap .i64 (s.1 + 1))) fun a25 => again (a25, s.2))) (fin' s.2)) :
    loopO body (0, mat n E) = fin' (mat n (pm2 n r at_ E)) := by
  obtain ⟨A, rfl⟩ := Int.eq_ofNat_of_zero_le ha0
  have hat := (List.getElem?_eq_some_iff.1 ha).1
  refine iter_loop (pm3 r at_) E n (fun i E => (i, mat n E)) (fun E => fin' (mat n E)) (fun t E => Bnd E (c + t)) (by omega) hE (fun _ _ _ hv => pm3_bnd hv) (fun again t E ht hv => ?_) (fun again E hv => ?_)
  · rw [hb]
    have hAn : A < n := by omega
    have hb2 := hv A t
    have htk : (r.take (at_ + 1)).length < 2 ^ 62 := by rw [List.length_take]; omega
    simp only [lt_yes ht, cond_true, i64_succ (show at_ < 2 ^ 62 by omega), bindO_some', sliceNH_nat (show at_ + 1 ≤ r.length by omega), List.drop_zero, contains_eq htk, getI_nat, mat_get hAn, rowN_get ht, i64_in (E A t + 1) (by omega), Int.toNat_natCast, i64_succ (show t < 2 ^ 62 by omega)]
    have hg : r.getD at_ 0 = (A : Int) := getD_is ha
    cases hC : (r.take (at_ + 1)).any (· == (t : Int))
    · simp only [Bool.not_false, cond_true]
      rw [mat_modify]
      congr 2
      refine mat_congr fun i j _ _ => ?_
      unfold pm3 pmG
      rw [hC, hg]
      by_cases h1 : i = A ∧ j = t
      · obtain ⟨rfl, rfl⟩ := h1
        simp
      · rw [if_neg h1, if_neg (fun h => h1 ⟨by have := h.1.1; omega, h.1.2⟩)]
        omega
    · simp only [Bool.not_true, cond_false]
      congr 2
      refine mat_congr fun i j _ _ => ?_
      unfold pm3 pmG
      rw [hC]
      simp
  · rw [hb]
    simp only [lt_no, cond_false]

theorem ranks_loop {β : Type} {n : Nat} {rs : List (List Int)} {E : Mf} (fin' : List (List Int) → Option β) (hn : n ≤ 8) (hl : rs.length ≤ 24) (hrl : ∀ r ∈ rs, r.length ≤ 8) (hre : ∀ r ∈ rs, ∀ a ∈ r, 0 ≤ a ∧ a < n) (hE : Bnd E 0)
    {body : (Int × List (List Int) → Option β) → Int × List (List Int) → Option β}
    (hb : ∀ again7 s8, body again7 s8 = cond (decide (s8.1 < ((rs.length : Nat) : Int))) (bindO (getI rs s8.1) fun a9 => loopO (fun (again10 : Int × List (List Int) → Option β) (s11 : Int × List (List Int)) => cond (decide (s11.1 < ((a9.length : Nat) : Int))) (bindO (getI a9 s11.1) fun a12 => loopO (fun (again13 : Int × List (List Int) → Option β) (s : Int × List (List Int)) => cond (decide (s.1 < (n : Int))) (bindO (some (IntKind.wrap .i64 (s11.1 + 1))) fun a15 => bindO (sliceNH a15 a9.length) fun a16 => bindO (M_slices_Contains_sint_int (List.drop a16.1 (List.take a16.2 a9), s.1)) fun a17 => cond (not a17) (bindO (getI s.2 a12) fun a18 => bindO (getI a18 s.1) fun a19 => bindO (some (IntKind.wrap .i64 (a19 + 1))) fun a20 => bindO (getI a18 s.1) fun _ => bindO (some (List.modify s.2 (Int.toNat a12) fun _ => List.set a18 (Int.toNat s.1) a20)) fun a23 => bindO (some (IntKind.wrap .i64 (s.1 + 1))) fun a24 => again13 (a24, a23)) (bindO (some (IntKind.wrap .i64 (s.1 + 1))) fun a25 => again13 (a25, s.2)))
      (bindO (some (IntKind.wrap .i64 (s11.1 + 1))) fun a26 => again10 (a26, s.2))) (0, s11.2)) (bindO (some (IntKind.wrap .i64 (s8.1 + 1))) fun a27 => again7 (a27, s11.2))) (0, s8.2)) (fin' s8.2)) :
    loopO body (0, mat n E) = fin' (mat n (iterN (pm1 n rs) E rs.length)) := by
  refine iter_loop (pm1 n rs) E rs.length (fun i E => (i, mat n E)) (fun E => fin' (mat n E)) (fun t E => Bnd E (64 * t)) (by omega) hE (fun t E ht hv => ?_) (fun again t E ht hv => ?_) (fun again E hv => ?_)
  · have h1 := pm1_bnd (n := n) (rs := rs) (t := t) hv
    have h2 := hrl (rs.getD t []) (List.mem_of_getElem? (getD_at ht))
    have h3 : n * (rs.getD t []).length ≤ 8 * 8 := Nat.mul_le_mul hn h2
    intro i j
    have := h1 i j
    omega
  · rw [hb]
    have hr := getD_at (d := ([] : List Int)) ht
    unfold pm1
    have h2 := hrl (rs.getD t []) (List.mem_of_getElem? hr)
    have h4 := hre (rs.getD t []) (List.mem_of_getElem? hr)
    generalize rs.getD t [] = r at hr h2 h4
    simp only [lt_yes ht, cond_true, getI_nat, hr, bindO_some']
    refine iter_loop (pm2 n r) E r.length (fun i E => (i, mat n E)) (fun E => again (((t + 1 : Nat) : Int), mat n E)) (fun u E => Bnd E (64 * t + n * u)) (by omega) (by simpa using hv) (fun u E hu hw => ?_) (fun again2 u E hu hw => ?_) (fun again2 E hw => ?_)
    · have := pm2_bnd (n := n) (r := r) (at_ := u) hw
      rwa [show 64 * t + n * u + n = 64 * t + n * (u + 1) by rw [Nat.mul_add, Nat.mul_one, Nat.add_assoc]] at this
    · have ha := List.getElem?_eq_getElem hu
      have h5 := h4 _ (List.getElem_mem hu)
      generalize r[u] = a at ha h5
      have h3 : n * u ≤ 8 * 8 := Nat.mul_le_mul hn (by omega)
      simp only [lt_yes hu, cond_true, getI_nat, ha, bindO_some']
      refine (inner_loop (fun m => bindO (some (IntKind.wrap .i64 ((u : Int) + 1))) fun a26 => again2 (a26, m)) hn ha h5.1 h5.2 (by omega) hw (by omega) (fun _ _ => rfl)).trans ?_
      rw [i64_succ (by omega), bindO_some']
    · simp only [lt_no, cond_false, i64_succ (show t < 2 ^ 62 by omega)]
  · rw [hb]
    simp only [lt_no, cond_false]

theorem place_ge : ∀ (l : List Int) (m : Nat) (k : Int), m + l.length ≤ 8 → (m : Int) ≤ place l m k ∧ place l m k ≤ 8
  | [], m, k, h => by simp only [place, List.length_nil] at *; omega
  | x :: r, m, k, h => by
    rw [place]
    cases x == k
    · have := place_ge r (m + 1) k (by simp only [List.length_cons] at h; omega)
      rw [cond_false]
      omega
    · rw [cond_true]
      simp only [List.length_cons] at h
      omega

theorem place_out : ∀ (l : List Int) (m : Nat) (k : Int), k ∉ l → place l m k = 8
  | [], m, k, h => rfl
  | x :: r, m, k, h => by
    simp only [List.mem_cons, not_or] at h
    rw [place, show (x == k) = false from by simpa using fun e => h.1 e.symm, cond_false]
    exact place_out r (m + 1) k h.2

theorem place_cnt (i j : Int) : ∀ (l pre : List Int) (m : Nat), l.Nodup → m + l.length ≤ 8 →
    sumN l.length (fun t => if i = l.getD t 0 ∧ (!(pre ++ l.take (t + 1)).any (· == j)) = true then 1 else 0) = if pre.any (· == j) = true then 0 else if place l m i < place l m j then 1 else 0
  | [], pre, m, _, h => by
    simp [sumN, place]
  | x :: r, pre, m, hn, h => by
    simp only [List.length_cons] at h
    obtain ⟨hx, hn'⟩ := List.nodup_cons.1 hn
    have ih := place_cnt i j r (pre ++ [x]) (m + 1) hn' (by omega)
    rw [List.length_cons, sumN_front]
    have e : (fun t => if i = (x :: r).getD (t + 1) 0 ∧ (!(pre ++ (x :: r).take (t + 1 + 1)).any (· == j)) = true then (1 : Int) else 0) = fun t => if i = r.getD t 0 ∧ (!((pre ++ [x]) ++ r.take (t + 1)).any (· == j)) = true then 1 else 0 := by
      funext t
      rw [List.take_succ_cons, List.append_assoc]
      rfl
    rw [e, ih]
    rw [show (x :: r).getD 0 0 = x from rfl, show (x :: r).take (0 + 1) = [x] from rfl]
    have hpx : (pre ++ [x]).any (· == j) = (pre.any (· == j) || (x == j)) := by simp
    rw [hpx]
    have p1 := place_ge r (m + 1) i (by omega)
    have p2 := place_ge r (m + 1) j (by omega)
    rw [place, place]
    cases hp : pre.any (· == j)
    · by_cases hxj : x = j
      · subst hxj
        cases hxi : x == i
        · simp; omega
        · simp
      · have hxj' : (x == j) = false := by simpa using hxj
        rw [hxj']
        by_cases hxi : i = x
        · subst hxi
          have := place_out r (m + 1) i hx
          simp [this]
          omega
        · have hxi' : (x == i) = false := by simpa using fun e => hxi e.symm
          rw [hxi']
          simp [hxi]
    · simp

theorem pm_final {n : Nat} {rs : List (List Int)} (hrl : ∀ r ∈ rs, r.length ≤ 8 ∧ r.Nodup) : mat n (iterN (pm1 n rs) (fun _ _ => 0) rs.length) = matOf n rs := by
  have e2 : ∀ r, (fun at_ (E : Mf) => pm2 n r at_ E) = fun at_ (E : Mf) => fun i j => E i j + sumN n fun t => pmG r at_ t i j := fun r => by
    funext at_ E
    exact iterN_add (fun t => pmG r at_ t) E n
  have e1 : pm1 n rs = fun t (E : Mf) => fun i j => E i j + sumN (rs.getD t []).length fun at_ => sumN n fun u => pmG (rs.getD t []) at_ u i j := by
    funext t E
    show iterN (fun at_ E => pm2 n (rs.getD t []) at_ E) E _ = _
    rw [e2]
    exact iterN_add (fun at_ => fun i j => sumN n fun u => pmG (rs.getD t []) at_ u i j) E _
  rw [e1, iterN_add (fun t => fun i j => sumN (rs.getD t []).length fun at_ => sumN n fun u => pmG (rs.getD t []) at_ u i j)]
  have cnt : ∀ r ∈ rs, ∀ i j : Nat, j < n → (sumN r.length fun at_ => sumN n fun u => pmG r at_ u i j) = if place r 0 i < place r 0 j then 1 else 0 := fun r hr i j hj => by
    have := place_cnt i j r [] 0 (hrl r hr).2 (by have := (hrl r hr).1; omega)
    simp only [List.any_nil, Bool.false_eq_true, if_false, List.nil_append] at this
    rw [← this]
    refine sumN_congr _ fun t ht => ?_
    by_cases hi : (i : Int) = r.getD t 0
    · have : (fun u => pmG r t u i j) = fun u => if u = j ∧ (!(r.take (t + 1)).any (· == (u : Int))) = true then 1 else 0 := by
        funext u
        unfold pmG
        simp only [hi, true_and, eq_comm (a := j)]
      rw [this, sumN_one n]
      simp only [hj, hi, true_and]
    · rw [if_neg (fun h => hi h.1), sumN_zero]
      intro u _
      unfold pmG
      rw [if_neg (fun h => hi h.1.1)]
  refine mat_congr fun i j hi hj => ?_
  rw [Int.zero_add]
  clear e1 e2
  have : ∀ (l : List (List Int)), (∀ r ∈ l, r ∈ rs) → (sumN l.length fun t => sumN (l.getD t []).length fun at_ => sumN n fun u => pmG (l.getD t []) at_ u i j) = ((ahead l i j : Nat) : Int) := by
    intro l
    induction l with
    | nil => intro _; rfl
    | cons r l ih =>
      intro hl
      rw [List.length_cons, sumN_front, ahead_cons]
      rw [show (r :: l).getD 0 [] = r from rfl, cnt r (hl r List.mem_cons_self) i j hj]
      rw [show (fun t => sumN ((r :: l).getD (t + 1) []).length fun at_ => sumN n fun u => pmG ((r :: l).getD (t + 1) []) at_ u i j) = fun t => sumN (l.getD t []).length fun at_ => sumN n fun u => pmG (l.getD t []) at_ u i j from rfl, ih fun r hr => hl r (List.mem_cons_of_mem _ hr)]
      split <;> simp
  exact this rs fun _ h => h

theorem nodup_short {r : List Int} {k : Int} (hk : k ≤ 8) (hr : ∀ a ∈ r, 0 ≤ a ∧ a ≤ k - 1) (hn : r.Nodup) : r.length ≤ 8 := by
  have h := List.Nodup.length_le_of_subset (l₂ := (List.range 8).map fun i : Nat => (i : Int)) hn fun a ha => by
    have := hr a ha
    obtain ⟨n, rfl⟩ := Int.eq_ofNat_of_zero_le this.1
    exact List.mem_map.2 ⟨n, List.mem_range.2 (by omega), rfl⟩
  simpa using h

theorem rowN_zero (n : Nat) : rowN n (fun _ => 0) = List.replicate n 0 := by
  refine List.ext_getElem? fun j => ?_
  rw [List.getElem?_replicate]
  split
  · rename_i h
    exact rowN_get h
  · rw [List.getElem?_eq_none (by rw [rowN_len]; omega)]

noncomputable def pmBody {β : Type} (n : Nat) (rs : List (List Int)) (fin' : List (List Int) → Option β) : (Int × List (List Int) → Option β) → Int × List (List Int) → Option β := fun again7 s8 => cond (decide (s8.1 < ((rs.length : Nat) : Int))) (bindO (getI rs s8.1) fun a9 => loopO (fun (again10 : Int × List (List Int) → Option β) (s11 : Int × List (List Int)) => cond (decide (s11.1 < ((a9.length : Nat) : Int))) (bindO (getI a9 s11.1) fun a12 => loopO (fun (again13 : Int × List (List Int) → Option β) (s : Int × List (List Int)) => cond (decide (s.1 < ((n : Nat) : Int))) (bindO (some (IntKind.wrap .i64 (s11.1 + 1))) fun a15 => bindO (sliceNH a15 a9.length) fun a16 => bindO (M_slices_Contains_sint_int (List.drop a16.1 (List.take a16.2 a9), s.1)) fun a17 => cond (not a17) (bindO (getI s.2 a12) fun a18 => bindO (getI a18 s.1) fun a19 => bindO (some (IntKind.wrap .i64 (a19 + 1))) fun a20 => bindO (getI a18 s.1) fun _ => bindO (some (List.modify s.2 (Int.toNat a12) fun _ => List.set a18 (Int.toNat s.1) a20)) fun a23 => bindO (some (IntKind.wrap .i64 (s.1 + 1))) fun a24 => again13 (a24, a23)) (bindO (some (IntKind.wrap .i64 (s.1 + 1))) fun a25 => again13 (a25, s.2)))
      (bindO (some (IntKind.wrap .i64 (s11.1 + 1))) fun a26 => again10 (a26, s.2))) (0, s11.2)) (bindO (some (IntKind.wrap .i64 (s8.1 + 1))) fun a27 => again7 (a27, s11.2))) (0, s8.2)) (fin' s8.2)

theorem I_PairwiseMatrix_eq {k : Int} {rs : List (List Int)} (hx : rs.length < 2 ^ 62) (hr : ∀ r ∈ rs, r.length < 2 ^ 62) : M_I_PairwiseMatrix (k, rs) = some (bif okR k rs then (matOf k.toNat rs, true) else ([], false)) := by
  unfold M_I_PairwiseMatrix
  dsimp only
  rw [areRankings_eq hx hr, bindO_some']
  cases hok : okR k rs with
  | false => rfl
  | true =>
    obtain ⟨k1, k2, k3, k4⟩ := okR_spec hok
    obtain ⟨n, rfl⟩ := Int.eq_ofNat_of_zero_le (show 0 ≤ k by omega)
    have hrl : ∀ r ∈ rs, r.length ≤ 8 ∧ r.Nodup := fun r hm => ⟨nodup_short (by omega) (k4 r hm).1 (k4 r hm).2, (k4 r hm).2⟩
    have hml := mat_len n fun _ _ => 0
    simp only [Bool.not_true, cond_false, cond_true, Int.toNat_natCast]
    rw [← pm_final (n := n) hrl]
    have hlim : ((n : Int)) ≤ ((lim : Nat) : Int) := by rw [lim_eq]; omega
    refine (append_loop (mat n fun _ _ => 0) (fun m => loopO (pmBody n rs fun m => some (m, true)) (0, m)) (fun again i a t ha hi ht => ?_) (fun again t ht => ?_) (by omega)).trans (ranks_loop (fun m => some (m, true)) (by omega) k3 (fun r hm => (hrl r hm).1) (fun r hm a ha => by have := (k4 r hm).1 a ha; omega) (fun _ _ => ⟨by omega, by simp⟩) (fun _ _ => rfl))
    · rw [hml] at hi
      rw [mat_get hi, rowN_zero] at ha
      cases ha
      have h3 : guardO (lenOk (t.length + [List.replicate n (0 : Int)].length)) = some () := guardO_of (lenOk_of (by simp only [List.length_cons, List.length_nil]; omega))
      dsimp only
      rw [lt_yes hi, cond_true, guardO_of (by simpa using hlim), bindO_some', h3, bindO_some', bindO_some', i64_succ (by omega), bindO_some']
    · rw [hml]
      dsimp only
      rw [lt_no, cond_false]
      rfl

def msk : List (List Int) → Int → List (List Int)
  | [], _ => []
  | r :: x, k => marks r.length k :: msk x (k + r.length)

theorem msk_len : ∀ (x : List (List Int)) (k : Int), (msk x k).length = x.length
  | [], _ => rfl
  | r :: x, k => by rw [msk, List.length_cons, List.length_cons, msk_len x]

theorem tot_take_succ {x : List (List Int)} {i : Nat} {a : List Int} (h : x[i]? = some a) : tot (x.take (i + 1)) = tot (x.take i) + a.length := by
  rw [List.take_add_one, h]
  simp [tot]

theorem msk_get : ∀ (x : List (List Int)) (k : Int) (i : Nat) (a : List Int), x[i]? = some a → (msk x k)[i]? = some (marks a.length (k + tot (x.take i)))
  | [], _, _, _, h => by simp at h
  | r :: x, k, 0, a, h => by
    simp at h
    subst h
    simp [msk, tot]
  | r :: x, k, i + 1, a, h => by
    simp only [List.getElem?_cons_succ] at h
    rw [msk, List.getElem?_cons_succ, msk_get x (k + r.length) i a h, List.take_succ_cons]
    congr 2
    simp only [tot, List.map_cons, List.sum_cons]
    omega

theorem tot_take_le (x : List (List Int)) (i : Nat) : tot (x.take i) ≤ tot x := by
  have h : tot x = tot (x.take i ++ x.drop i) := by rw [List.take_append_drop]
  rw [h]
  simp only [tot, List.map_append, List.sum_append]
  exact Nat.le_add_right _ _

theorem markIntSS_eq {x : List (List Int)} {k : Int} (hx : x.length < 2 ^ 30) (ht : tot x < 2 ^ 30) (h0 : 0 ≤ k) (h1 : k < 2 ^ 38) : M_L_markIntSS (x, k) = some (k + tot x, msk x k) := by
  unfold M_L_markIntSS
  dsimp only
  have hml := msk_len x k
  rw [show (k, (0 : Int), x) = (k + (tot (x.take 0) : Int), ((0 : Nat) : Int), x) from by simp [tot]]
  refine (loopO_for (σ := List (List Int)) (fun i s => (k + tot (x.take i), (i : Int), s)) x.length (fun _ _ => some (k + tot x, msk x k)) (fun i s => s.length = x.length ∧ s.take i = (msk x k).take i ∧ ∀ j, i ≤ j → s[j]? = x[j]?) (fun again s hs => ?_) (fun again i s hi hs ih => ?_) (by omega) (i := 0) (s := x) (Nat.zero_le _) ⟨rfl, by simp, fun _ _ => rfl⟩).trans ?_
  · obtain ⟨s1, s2, s3⟩ := hs
    dsimp only
    rw [s1, lt_no, cond_false, List.take_length]
    rw [← s1, List.take_length, s1, ← hml, List.take_length] at s2
    rw [s2]
  · obtain ⟨s1, s2, s3⟩ := hs
    have ha := List.getElem?_eq_getElem hi
    have hs := s3 i (Nat.le_refl _)
    rw [ha] at hs
    have e := tot_take_succ ha
    have e2 := tot_take_le x (i + 1)
    have hm := msk_get x k i _ ha
    generalize x[i] = a at ha hs e hm
    have hw := ih (List.modify s i fun _ => marks a.length (k + tot (x.take i))) ⟨by simpa using s1, ?_, fun j hj => ?_⟩
    · simp only [s1, lt_yes hi, cond_true, getI_nat, hs, bindO_some', markIntS_eq (a := a) (k := k + tot (x.take i)) (by omega) (by omega) (by omega), i64_succ (show i < 2 ^ 62 by omega), Int.toNat_natCast]
      rw [← hw]
      congr 2
      omega
    · refine List.ext_getElem? fun j => ?_
      rw [List.getElem?_take, List.getElem?_take, List.getElem?_modify]
      by_cases hj : j < i + 1
      · rw [if_pos hj, if_pos hj]
        by_cases hji : i = j
        · subst hji
          simp [hs, hm]
        · simp only [if_neg hji]
          have : s[j]? = (msk x k)[j]? := by
            have := congrArg (fun l => l[j]?) s2
            simp only [List.getElem?_take] at this
            rwa [if_pos (by omega), if_pos (by omega)] at this
          rw [this]
          simp
      · rw [if_neg hj, if_neg hj]
    · rw [List.getElem?_modify, s3 j (by omega)]
      simp [show i ≠ j by omega]
  · rfl

theorem heldIntSS_eq {x : List (List Int)} {k : Int} (hx : x.length < 2 ^ 30) (ht : tot x < 2 ^ 30) (h0 : 0 ≤ k) (h1 : k < 2 ^ 38) : M_L_heldIntSS (msk x k, k) = some (k + tot x) := by
  unfold M_L_heldIntSS
  dsimp only
  have hml := msk_len x k
  rw [show (k, (0 : Int)) = (k + (tot (x.take 0) : Int), ((0 : Nat) : Int)) from by simp [tot]]
  refine (loopO_for (σ := Unit) (fun i _ => (k + tot (x.take i), (i : Int))) x.length (fun _ _ => some (k + tot x)) (fun _ _ => True) (fun again s hs => ?_) (fun again i s hi hs ih => ?_) (by omega) (i := 0) (s := ()) (Nat.zero_le _) trivial).trans ?_
  · dsimp only
    rw [hml, lt_no, cond_false, List.take_length]
  · have ha := List.getElem?_eq_getElem hi
    have e := tot_take_succ ha
    have e2 := tot_take_le x (i + 1)
    have hm := msk_get x k i _ ha
    generalize x[i] = a at ha e hm
    rw [← ih () trivial]
    simp only [hml, lt_yes hi, cond_true, getI_nat, hm, bindO_some', heldIntS_eq (n := a.length) (k := k + tot (x.take i)) (by omega) (by omega) (by omega), i64_succ (show i < 2 ^ 62 by omega)]
    rw [decide_eq_false (by omega), cond_false]
    congr 2
    omega
  · rfl

theorem matOf_tot {n : Nat} {rs : List (List Int)} : tot (matOf n rs) = n * n := by
  have : ∀ l : List Nat, tot (l.map fun i : Nat => rowOf n rs (i : Int)) = l.length * n := by
    intro l
    induction l with
    | nil => simp [tot]
    | cons a l ih =>
      simp only [tot, List.map_cons, List.sum_cons, rowOf_len, List.length_cons, Nat.add_mul, Nat.one_mul] at ih ⊢
      omega
  rw [matOf, this, List.length_range]

theorem law_FnExactPairwiseMatrix (x : Int × List (List Int)) (h : WFI [.data (.int .i64), .data (.sl (.sl (.int .i64)))] x) : M_L_FnExactPairwiseMatrix x = some true := by
  obtain ⟨k, x⟩ := x
  obtain ⟨h1, h2⟩ := wf_ss (x := x) h.2
  unfold M_L_FnExactPairwiseMatrix
  dsimp only
  obtain ⟨z, hz, hb⟩ := szIntSS_eq h1 h2
  rw [hz, bindO_some']
  by_cases h0 : z < 0
  · simp [h0]
  · have hb := hb (by omega)
    have h3 : x.length < 2 ^ 62 := by omega
    have h4 : ∀ r ∈ x, r.length < 2 ^ 62 := fun r hr => by have := row_le hr; omega
    have hS := S_PairwiseMatrix_eq (k := k) h4
    have hI := I_PairwiseMatrix_eq (k := k) h3 h4
    obtain ⟨r, b, hrb, hl, ht⟩ : ∃ (r : List (List Int)) (b : Bool), (bif okR k x then (matOf k.toNat x, true) else ([], false)) = (r, b) ∧ r.length ≤ 8 ∧ tot r ≤ 64 := by
      cases hok : okR k x
      · exact ⟨[], false, rfl, by simp, by simp [tot]⟩
      · obtain ⟨k1, k2, _, _⟩ := okR_spec hok
        refine ⟨_, _, rfl, by rw [matOf_len]; omega, ?_⟩
        rw [matOf_tot]
        exact Nat.mul_le_mul (show k.toNat ≤ 8 by omega) (show k.toNat ≤ 8 by omega)
    rw [hrb] at hS hI
    obtain ⟨k', x', hm, hk'⟩ := markIntSS_one hb
    have hk2 : ¬ k' < 0 := by omega
    have g1 := markIntSS_eq (x := r) (k := 1) (by omega) (by omega) (by omega) (by omega)
    have g2 := heldIntSS_eq (x := r) (k := 1) (by omega) (by omega) (by omega) (by omega)
    have g3 : (1 + (tot r : Int) < 0) = False := by simp only [eq_iff_iff, iff_false]; omega
    simp [h0, toIntSS_eq hb, hS, hI, eqIntSS_eq h3 h4, eqIntSS_eq (a := r) (b := r) (by omega) (fun a ha => by have := row_le ha; omega), hm, hk2, g1, g2, g3]

end Go.Proofs.Ytnnkhkljdjbioaa.Vd
