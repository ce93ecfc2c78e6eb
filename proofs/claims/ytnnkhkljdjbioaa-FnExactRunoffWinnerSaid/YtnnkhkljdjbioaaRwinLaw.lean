/- The law FnExactRunoffWinner as plain functions on data returns true for all arguments. No conditions. -/
import Derived.Test.YtnnkhkljdjbioaaRwinMod
set_option linter.unusedVariables false
set_option linter.unusedSimpArgs false
set_option linter.unusedSectionVars false
set_option linter.unnecessarySimpa false
namespace Go.Proofs.Ytnnkhkljdjbioaa.Vd
open Go.IntWalk

theorem i64_succ {i : Nat} (h : i < 2 ^ 62) : IntKind.wrap .i64 ((i : Int) + 1) = ((i + 1 : Nat) : Int) := by
  rw [i64_in _ (by omega)]
  rfl

theorem lt_yes {i n : Nat} (h : i < n) : decide ((i : Int) < (n : Int)) = true := by simp [h]

theorem lt_no (n : Nat) : decide ((n : Int) < (n : Int)) = false := by simp

/-- A walk over a list by its numbers, with no other state. -/
def walk {α β : Type} (step : Nat → α → Option β → Option β) (fin : Option β) : Nat → List α → Option β
  | _, [] => fin
  | i, a :: r => step i a (walk step fin (i + 1) r)

theorem loop_walk {α β : Type} {body : (Int → Option β) → Int → Option β} (l : List α) (step : Nat → α → Option β → Option β) (fin : Option β)
    (h : ∀ (again : Int → Option β) (i : Nat) a, l[i]? = some a → i < l.length → body again (i : Int) = step i a (again ((i + 1 : Nat) : Int)))
    (hend : ∀ again : Int → Option β, body again (l.length : Int) = fin) (hl : l.length < 2 ^ 64) : loopO body 0 = walk step fin 0 l := by
  refine (loopO_for (σ := Unit) (fun i _ => (i : Int)) l.length (fun i _ => walk step fin i (l.drop i)) (fun _ _ => True) (fun again _ _ => ?_) (fun again i _ hi _ ih => ?_) hl (i := 0) (s := ()) (Nat.zero_le _) trivial).trans rfl
  · simp [hend, walk]
  · rw [h again i l[i] (List.getElem?_eq_getElem hi) hi, ih () trivial, List.drop_eq_getElem_cons hi, walk]

theorem walk_any {α : Type} (p : α → Bool) : ∀ (l : List α) (i : Nat), walk (fun _ a k => if p a = true then some true else k) (some false) i l = some (l.any p)
  | [], _ => rfl
  | a :: l, i => by
    rw [walk, walk_any p l]
    cases h : p a <;> simp [h]

theorem walk_all {α : Type} (p : α → Bool) : ∀ (l : List α) (i : Nat), walk (fun _ a k => if p a = true then k else some false) (some true) i l = some (l.all p)
  | [], _ => rfl
  | a :: l, i => by
    rw [walk, walk_all p l]
    cases h : p a <;> simp [h]

theorem walk_index {α : Type} (p : α → Bool) : ∀ (l : List α) (i : Nat), ∃ j : Int, walk (fun i a k => if p a = true then some (i : Int) else k) (some (-1)) i l = some j ∧ decide (j ≥ 0) = l.any p
  | [], _ => ⟨-1, rfl, rfl⟩
  | a :: l, i => by
    obtain ⟨j, h1, h2⟩ := walk_index p l (i + 1)
    cases h : p a
    · exact ⟨j, by simp [walk, h, h1], by simp [h, h2]⟩
    · exact ⟨i, by simp [walk, h], by simp [h]⟩

theorem toIntS_eq {x : List Int} (h : x.length ≤ 1048576) : M_L_toIntS x = some x := by
  unfold M_L_toIntS
  have hx : (x.length : Int) ≤ ((lim : Nat) : Int) := by rw [lim_eq]; omega
  rw [guardO_of (by simpa using hx), bindO_some']
  refine (loopO_for (σ := List Int) (fun i s => ((i : Int), s)) x.length (fun i s => some (x.take i ++ x.drop i)) (fun i s => s = x.take i ++ List.replicate (x.length - i) 0) (fun again s hs => ?_) (fun again i s hi hs ih => ?_) (by omega) (i := 0) (s := List.replicate x.length 0) (Nat.zero_le _) (by simp)).trans (by simp)
  · subst hs; simp
  · subst hs
    have h1 : (x.take i ++ List.replicate (x.length - i) (0 : Int))[i]? = some 0 := by
      rw [List.getElem?_append_right (by simp; omega)]
      simp [List.getElem?_replicate]
      omega
    have h2 : (x.take i ++ List.replicate (x.length - i) (0 : Int)).set i x[i] = x.take (i + 1) ++ List.replicate (x.length - (i + 1)) 0 := by
      refine List.ext_getElem? fun j => ?_
      rw [List.getElem?_set]
      by_cases hij : i = j
      · subst hij
        rw [if_pos rfl, if_pos (by simp; omega), List.getElem?_append_left (by simp; omega), List.getElem?_take, if_pos (by omega), List.getElem?_eq_getElem hi]
      · rw [if_neg hij]
        by_cases hj : j < i
        · rw [List.getElem?_append_left (by simp; omega), List.getElem?_append_left (by simp; omega), List.getElem?_take, List.getElem?_take, if_pos hj, if_pos (by omega)]
        · rw [List.getElem?_append_right (by simp; omega), List.getElem?_append_right (by simp; omega)]
          simp only [List.length_take, List.getElem?_replicate]
          rw [Nat.min_eq_left (by omega), Nat.min_eq_left (by omega)]
          by_cases hjx : j < x.length
          · rw [if_pos (by omega), if_pos (by omega)]
          · rw [if_neg (by omega), if_neg (by omega)]
    simp only [getI_nat, List.getElem?_eq_getElem hi, h1, bindO_some', Int.toNat_natCast, h2, i64_succ (show i < 2 ^ 62 by omega)]
    rw [ih _ rfl]
    simp [hi]

theorem eqIntS_eq {a b : List Int} (h : a.length < 2 ^ 62) : M_L_eqIntS (a, b) = some (decide (a = b)) := by
  unfold M_L_eqIntS
  by_cases hl : a.length = b.length
  · have e1 : ((a.length : Int) != (b.length : Int)) = false := by simp [hl]
    dsimp only
    rw [e1]
    simp only [cond_false]
    refine (loopO_for (σ := Unit) (fun i _ => (i : Int)) a.length (fun i _ => some (decide (a.drop i = b.drop i))) (fun _ _ => True) (fun again _ _ => ?_) (fun again i _ hi _ ih => ?_) (by omega) (i := 0) (s := ()) (Nat.zero_le _) trivial).trans (by simp)
    · simp [hl]
    · have hi' : i < b.length := by omega
      simp only [getI_nat, List.getElem?_eq_getElem hi, List.getElem?_eq_getElem hi', bindO_some', i64_succ (show i < 2 ^ 62 by omega), ih () trivial]
      rw [List.drop_eq_getElem_cons hi, List.drop_eq_getElem_cons hi']
      by_cases he : a[i] = b[i] <;> simp [bne_dec, he, hi, -List.getElem_cons_drop]
  · have e1 : ((a.length : Int) != (b.length : Int)) = true := by simp; omega
    dsimp only
    rw [e1]
    simp only [cond_true, Option.some.injEq]
    symm
    simp only [decide_eq_false_iff_not]
    rintro rfl
    exact hl rfl

theorem has_eq {l : List Int} {n : Int} (hl : l.length < 2 ^ 62) : M_S_l1Has (l, n) = some (l.any (· == n)) := by
  unfold M_S_l1Has
  refine (loop_walk l (fun _ a k => if (a == n) = true then some true else k) (some false) (fun again i a ha hi => ?_) (fun again => ?_) (by omega)).trans (walk_any _ l 0)
  · simp only [getI_nat, ha, bindO_some', i64_succ (show i < 2 ^ 62 by omega)]
    cases h : a == n <;> simp [h, hi]
  · simp

theorem index_eq {l : List Int} {n : Int} (hl : l.length < 2 ^ 62) : ∃ j : Int, M_slices_Index_sint_int (l, n) = some j ∧ decide (j ≥ 0) = l.any (· == n) := by
  obtain ⟨j, h1, h2⟩ := walk_index (fun a : Int => a == n) l 0
  refine ⟨j, ?_, h2⟩
  unfold M_slices_Index_sint_int
  refine (loop_walk l (fun i a k => if (a == n) = true then some (i : Int) else k) (some (-1)) (fun again i a ha hi => ?_) (fun again => ?_) (by omega)).trans h1
  · simp only [getI_nat, ha, bindO_some', i64_succ (show i < 2 ^ 62 by omega), lt_yes hi, cond_true]
    rw [show (n == a) = (a == n) from BEq.comm]
    cases h : a == n <;> simp [h]
  · simp

theorem lenOk_of {n : Nat} (h : n ≤ 68719476736) : lenOk n = true := by simp [lenOk, lim_eq, h]

theorem sliceNH_nat {h n : Nat} (hh : h ≤ n) : sliceNH (h : Int) n = some (0, h) := by
  unfold sliceNH
  rw [if_pos ⟨by omega, by omega⟩]
  simp

theorem contains_eq {l : List Int} {n : Int} (hl : l.length < 2 ^ 62) : M_slices_Contains_sint_int (l, n) = some (l.any (· == n)) := by
  obtain ⟨j, h1, h2⟩ := index_eq (n := n) hl
  unfold M_slices_Contains_sint_int
  dsimp only
  rw [h1, bindO_some', h2]

/-- A loop whose states go down: a property of its answer. -/
theorem loopO_ind {σ β : Type} {body : (σ → Option β) → σ → Option β} (Q : σ → Option β → Prop) (Inv : σ → Prop) (μ : σ → Nat)
    (step : ∀ (again : σ → Option β) s, Inv s → (∀ s', Inv s' → μ s' < μ s → Q s' (again s')) → Q s (body again s)) {s : σ} (h0 : Inv s) (hm : μ s < 2 ^ 64) : Q s (loopO body s) := by
  rw [loopO_eq]
  have H : ∀ (n : Nat) (s : σ), Inv s → μ s < n → Q s (iter body n s) := by
    intro n
    induction n with
    | zero => intro s _ h; exact absurd h (Nat.not_lt_zero _)
    | succ n ih => intro s hs h; exact step _ s hs fun s' hs' h' => ih s' hs' (by omega)
  exact H many s h0 hm

theorem in_eq (x a b : Int) : M_S_l1In (x, a, b) = some (decide (a ≤ x ∧ x ≤ b)) := by
  by_cases h : a ≤ x <;> by_cases h2 : x ≤ b <;> simp [M_S_l1In, h, h2]

theorem within_eq (x a b : Int) : M_I_within (x, a, b) = some (decide (a ≤ x ∧ x ≤ b)) := by
  by_cases h : a ≤ x <;> by_cases h2 : x ≤ b <;> simp [M_I_within, h, h2]

theorem l1All_eq {l : List Int} {lo hi : Int} (hl : l.length < 2 ^ 62) : M_S_l1All (l, lo, hi) = some (l.all fun n => decide (lo ≤ n ∧ n ≤ hi)) := by
  unfold M_S_l1All
  refine (loop_walk l (fun _ a k => if (decide (lo ≤ a ∧ a ≤ hi)) = true then k else some false) (some true) (fun again i a ha hi' => ?_) (fun again => ?_) (by omega)).trans (walk_all (fun n => decide (lo ≤ n ∧ n ≤ hi)) l 0)
  · simp only [getI_nat, ha, bindO_some', i64_succ (show i < 2 ^ 62 by omega), lt_yes hi', cond_true, in_eq]
    cases decide (lo ≤ a ∧ a ≤ hi) <;> rfl
  · simp

theorem walk_index_mem {α : Type} (p : α → Bool) (f : α → Option Bool) : ∀ (l : List α) (i : Nat), (∀ a ∈ l, f a = some (p a)) →
    ∃ j : Int, walk (fun i a k => bindO (f a) fun b => cond b (some (i : Int)) k) (some (-1)) i l = some j ∧ decide (j ≥ 0) = l.any p
  | [], _, _ => ⟨-1, rfl, rfl⟩
  | a :: l, i, hf => by
    obtain ⟨j, h1, h2⟩ := walk_index_mem p f l (i + 1) fun b hb => hf b (List.mem_cons_of_mem _ hb)
    have ha := hf a (List.mem_cons_self ..)
    cases h : p a
    · exact ⟨j, by simp [walk, ha, h, h1], by simp [h, h2]⟩
    · exact ⟨i, by simp [walk, ha, h], by simp [h]⟩

theorem containsFunc_eq {l : List Int} {f : Int → Option Bool} {p : Int → Bool} (hl : l.length < 2 ^ 62) (hf : ∀ a ∈ l, f a = some (p a)) : M_slices_ContainsFunc_sint_int (l, f) = some (l.any p) := by
  obtain ⟨j, h1, h2⟩ := walk_index_mem p f l 0 hf
  unfold M_slices_ContainsFunc_sint_int
  have : M_slices_IndexFunc_sint_int (l, f) = some j := by
    unfold M_slices_IndexFunc_sint_int
    refine (loop_walk l _ _ (fun again i a ha hi => ?_) (fun again => ?_) (by omega)).trans h1
    · simp only [getI_nat, ha, bindO_some', i64_succ (show i < 2 ^ 62 by omega), lt_yes hi, cond_true]
    · simp
  dsimp only
  rw [this, bindO_some', h2]

theorem areAll_eq {l : List Int} {f : Int → Option Bool} {p : Int → Bool} (hl : l.length < 2 ^ 62) (hf : ∀ a ∈ l, f a = some (p a)) : M_I_areAll (l, f) = some (l.all p) := by
  unfold M_I_areAll
  dsimp only
  rw [containsFunc_eq (p := fun a => !p a) hl fun a ha => by simp [M_I_areAll_1, hf a ha], bindO_some']
  congr 1
  rw [List.any_eq_not_all_not]
  simp

/-- A product of residues. -/
def prodM (p : Int) : Int → List Int → Int
  | out, [] => out
  | out, x :: l => prodM p (out * x % p) l

def hstep (c s k : Int) : Int := (c * s + k + 1) % 2147483647

/-- a over b. -/
def over (p q a b : Int) : Int := prodM p 1 [a, b ^ (q - 1).toNat % p]

/-- A proposition as a Boolean. -/
noncomputable def pdec (p : Prop) : Bool := @decide p (Classical.propDecidable p)

theorem pdec_iff {p : Prop} : pdec p = true ↔ p := by simp [pdec]

theorem pdec_yes {p : Prop} (h : p) : pdec p = true := pdec_iff.2 h

theorem pdec_no {p : Prop} (h : ¬ p) : pdec p = false := by simp [pdec, h]

/-- A walk that checks: `G i` holds of the first i elements. -/
theorem loop_check {α β : Type} {body : (Int → Option β) → Int → Option β} (l : List α) (G : Nat → Prop) (yes no : Option β)
    (hstep : ∀ (again : Int → Option β) (i : Nat) a, l[i]? = some a → i < l.length → G i → (body again (i : Int) = again ((i + 1 : Nat) : Int) ∧ G (i + 1)) ∨ (body again (i : Int) = no ∧ ¬ G l.length))
    (hend : ∀ again : Int → Option β, body again (l.length : Int) = yes) (h0 : G 0) (hl : l.length < 2 ^ 64) : (G l.length → loopO body 0 = yes) ∧ (¬ G l.length → loopO body 0 = no) := by
  constructor
  · intro hG
    refine (loopO_for (σ := Unit) (fun i _ => (i : Int)) l.length (fun _ _ => yes) (fun i _ => G i) (fun again _ hg => hend again) (fun again i _ hi hg ih => ?_) hl (i := 0) (s := ()) (Nat.zero_le _) h0).trans rfl
    rcases hstep again i l[i] (List.getElem?_eq_getElem hi) hi hg with ⟨h1, h2⟩ | ⟨h1, h2⟩
    · rw [h1]
      exact ih () h2
    · exact absurd hG h2
  · intro hG
    refine (loopO_for (σ := Unit) (fun i _ => (i : Int)) l.length (fun _ _ => no) (fun i _ => G i) (fun again _ hg => absurd hg hG) (fun again i _ hi hg ih => ?_) hl (i := 0) (s := ()) (Nat.zero_le _) h0).trans rfl
    rcases hstep again i l[i] (List.getElem?_eq_getElem hi) hi hg with ⟨h1, h2⟩ | ⟨h1, h2⟩
    · rw [h1]
      exact ih () h2
    · exact h1

theorem check_dec {β : Type} {m : Option β} {G : Prop} {f : Bool → Option β} (h : (G → m = f true) ∧ (¬ G → m = f false)) : m = f (pdec G) := by
  by_cases hg : G
  · rw [h.1 hg, pdec_yes hg]
  · rw [h.2 hg, pdec_no hg]

theorem mem_take_succ {α : Type} {l : List α} {i : Nat} {a : α} (h : l[i]? = some a) : l.take (i + 1) = l.take i ++ [a] := by
  rw [List.take_add_one, h]
  rfl

theorem pairwise_snoc {α : Type} {R : α → α → Prop} {l : List α} {a : α} : (l ++ [a]).Pairwise R ↔ l.Pairwise R ∧ ∀ b ∈ l, R b a := by
  rw [List.pairwise_append]
  constructor
  · rintro ⟨h1, _, h2⟩
    exact ⟨h1, fun b hb => h2 b hb a (by simp)⟩
  · rintro ⟨h1, h2⟩
    exact ⟨h1, by simp, fun b hb c hc => by simp at hc; subst hc; exact h2 b hb⟩

noncomputable def nodupB (l : List Int) : Bool := pdec l.Nodup

theorem areDifferent_eq {l : List Int} (hl : l.length < 2 ^ 62) : M_I_areDifferent l = some (nodupB l) := by
  unfold M_I_areDifferent
  have h := loop_check (β := Bool) l (fun i => (l.take i).Nodup) (some true) (some false) (body := (fun (again0 : (Int → (Option Bool))) => (fun (s1 : Int) => (cond (decide (s1 < (((List.length l) : Nat) : Int))) (bindO (getI l s1) (fun (a2 : Int) => (bindO (sliceNH s1 (List.length l)) (fun (a3 : (Nat × Nat)) => (bindO (M_slices_Contains_sint_int ((List.drop a3.1 (List.take a3.2 l)), a2)) (fun (a4 : Bool) => (cond a4 (some false) (bindO (some (IntKind.wrap .i64 (s1 + (1 : Int)))) (fun (a5 : Int) => (again0 a5)))))))))) (some true)))))
    (fun again i a ha hi' hg => ?_) (fun again => ?_) (by simp) (by omega)
  · rw [List.take_length] at h
    exact check_dec (f := some) h
  · have hlen : (l.take i).length < 2 ^ 62 := by simp; omega
    simp only [lt_yes hi', cond_true, getI_nat, ha, bindO_some', sliceNH_nat (show i ≤ l.length by omega), List.drop_zero, contains_eq hlen, i64_succ (show i < 2 ^ 62 by omega), mem_take_succ ha, List.take_length]
    by_cases hm : a ∈ l.take i
    · right
      have : (l.take i).any (· == a) = true := by simpa using hm
      refine ⟨by rw [this]; rfl, fun hn => ?_⟩
      have h2 : (l.take (i + 1)).Nodup := hn.sublist (List.take_sublist _ _)
      rw [mem_take_succ ha] at h2
      have := (pairwise_snoc.1 h2).2 a hm
      exact this rfl
    · left
      have : (l.take i).any (· == a) = false := by
        cases hc : (l.take i).any (· == a)
        · rfl
        · exact absurd (by simpa using hc) hm
      refine ⟨by rw [this]; rfl, pairwise_snoc.2 ⟨hg, fun b hb hba => hm (by subst hba; exact hb)⟩⟩
  · simp

theorem areBelow_eq {l : List Int} {m : Int} (hl : l.length < 2 ^ 62) (h1 : -9223372036854775807 ≤ m) (h2 : m ≤ 9223372036854775807) : M_I_areBelow (l, m) = some (l.all fun n => decide (0 ≤ n ∧ n ≤ m - 1)) := by
  unfold M_I_areBelow
  rw [areAll_eq (p := fun n => decide (0 ≤ n ∧ n ≤ m - 1)) hl fun a _ => by simp [M_I_areBelow_1, i64_in (m - 1) (by omega), within_eq], bindO_some']

theorem set_take_succ {α : Type} {x s : List α} {i : Nat} {a : α} (hx : x[i]? = some a) (hs : s.length = x.length) (ht : s.take i = x.take i) : (s.set i a).take (i + 1) = x.take (i + 1) := by
  have hi : i < x.length := (List.getElem?_eq_some_iff.1 hx).1
  rw [List.take_add_one, List.take_add_one, hx, List.take_set, List.getElem?_set_self (by omega), ← ht]
  congr 1
  rw [List.set_eq_of_length_le (by rw [List.length_take]; omega)]

/-- A list is written anew, element by element. -/
theorem copy_loop {α : Type} (x : List α) (z : α) {body : (Int × List α → Option (List α)) → Int × List α → Option (List α)}
    (h : ∀ (again : Int × List α → Option (List α)) (i : Nat) a (s : List α), x[i]? = some a → i < x.length → s.length = x.length → body again ((i : Int), s) = again (((i + 1 : Nat) : Int), s.set i a))
    (hend : ∀ (again : Int × List α → Option (List α)) (s : List α), s.length = x.length → body again ((x.length : Int), s) = some s) (hl : x.length < 2 ^ 62) : loopO body (0, List.replicate x.length z) = some x := by
  refine (loopO_for (σ := List α) (fun i s => ((i : Int), s)) x.length (fun i s => some x) (fun i s => s.length = x.length ∧ s.take i = x.take i) (fun again s hs => ?_) (fun again i s hi hs ih => ?_) (by omega) (i := 0) (s := List.replicate x.length z) (Nat.zero_le _) (by simp)).trans rfl
  · rw [hend again s hs.1]
    have := hs.2
    rw [List.take_length, ← hs.1, List.take_length] at this
    rw [this]
  · have ha := List.getElem?_eq_getElem hi
    rw [h again i x[i] s ha hi hs.1]
    exact ih _ ⟨by simp [hs.1], set_take_succ ha hs.1 hs.2⟩

/-- Two lists are compared, element by element. -/
theorem eq_loop {α : Type} [DecidableEq α] (a b : List α) (hab : a.length = b.length) {body : (Int → Option Bool) → Int → Option Bool}
    (h : ∀ (again : Int → Option Bool) (i : Nat) x y, a[i]? = some x → b[i]? = some y → i < a.length → body again (i : Int) = if x = y then again ((i + 1 : Nat) : Int) else some false)
    (hend : ∀ (again : Int → Option Bool), body again (a.length : Int) = some true) (hl : a.length < 2 ^ 62) : loopO body 0 = some (decide (a = b)) := by
  refine (loopO_for (σ := Unit) (fun i _ => (i : Int)) a.length (fun i _ => some (decide (a.drop i = b.drop i))) (fun _ _ => True) (fun again _ _ => ?_) (fun again i _ hi _ ih => ?_) (by omega) (i := 0) (s := ()) (Nat.zero_le _) trivial).trans (by simp)
  · rw [hend]; simp [hab]
  · have hi' : i < b.length := by omega
    rw [h again i a[i] b[i] (List.getElem?_eq_getElem hi) (List.getElem?_eq_getElem hi') hi, ih () trivial, List.drop_eq_getElem_cons hi, List.drop_eq_getElem_cons hi']
    by_cases he : a[i] = b[i] <;> simp [he, -List.getElem_cons_drop]

def tot (x : List (List Int)) : Nat := (x.map List.length).sum

theorem szIntS_eq {a : List Int} {left : Int} (h0 : 0 ≤ left) (h1 : left ≤ 1048576) (hl : a.length < 2 ^ 63) : M_L_szIntS (a, left) = some (if left < a.length then -1 else left - a.length) := by
  unfold M_L_szIntS
  simp only [i64_in (left - (a.length : Int)) (by omega), bindO_some']
  by_cases h : left < a.length
  · rw [if_pos h]
    have : left - (a.length : Int) < 0 := by omega
    simp [this]
  · rw [if_neg h]
    have : ¬ left - (a.length : Int) < 0 := by omega
    simp [this]

theorem tot_drop {x : List (List Int)} {i : Nat} (hi : i < x.length) : tot (x.drop i) = x[i].length + tot (x.drop (i + 1)) := by
  rw [List.drop_eq_getElem_cons hi, tot, List.map_cons, List.sum_cons]
  rfl

theorem szIntSS_eq {x : List (List Int)} (hx : x.length < 2 ^ 63) (hr : ∀ r ∈ x, r.length < 2 ^ 63) : ∃ k, M_L_szIntSS (x, 1048576) = some k ∧ (0 ≤ k → x.length + tot x ≤ 1048576) := by
  unfold M_L_szIntSS
  simp only [i64_in (1048576 - (x.length : Int)) (by omega), bindO_some']
  by_cases h : 1048576 - (x.length : Int) < 0
  · exact ⟨-1, by simp [h], by omega⟩
  · simp only [h, decide_false, cond_false]
    refine loopO_ind (fun (s : Int × Int) (y : Option Int) => ∃ k, y = some k ∧ (0 ≤ k → x.length + tot x ≤ 1048576)) (fun s => 0 ≤ s.1 ∧ s.1 ≤ 1048576 ∧ 0 ≤ s.2 ∧ s.2 ≤ x.length ∧ (tot x : Int) = tot (x.drop s.2.toNat) + (1048576 - x.length - s.1)) (fun s => (x.length - s.2).toNat) (fun (again : Int × Int → Option Int) s hs ih => ?_)
      ⟨by dsimp only; omega, by dsimp only; omega, Int.le_refl _, by dsimp only; omega, by simp⟩ (by dsimp only; omega)
    obtain ⟨left, j⟩ := s
    obtain ⟨h1, h2, h3, h4, h6⟩ := hs
    dsimp only at h1 h2 h3 h4 h6 ih ⊢
    obtain ⟨i, rfl⟩ := Int.eq_ofNat_of_zero_le h3
    rw [Int.toNat_natCast] at h6
    by_cases hi : i < x.length
    · have hm := hr x[i] (List.getElem_mem hi)
      simp only [lt_yes hi, cond_true, getI_nat, List.getElem?_eq_getElem hi, bindO_some', szIntS_eq h1 h2 hm, i64_succ (show i < 2 ^ 62 by omega)]
      by_cases hlt : left < x[i].length
      · rw [if_pos hlt]
        exact ⟨-1, rfl, by omega⟩
      · rw [if_neg hlt]
        have h5 : ¬ left - (x[i].length : Int) < 0 := by omega
        simp only [h5, decide_false, cond_false]
        have h7 := tot_drop hi
        exact ih (left - (x[i].length : Int), ((i + 1 : Nat) : Int)) ⟨by dsimp only; omega, by dsimp only; omega, by dsimp only; omega, by dsimp only; omega, by dsimp only; rw [Int.toNat_natCast]; omega⟩ (by dsimp only; omega)
    · have : i = x.length := by omega
      subst this
      refine ⟨left, by simp, fun _ => ?_⟩
      simp [tot] at h6 ⊢
      omega

theorem row_le {x : List (List Int)} {r : List Int} (h : r ∈ x) : r.length ≤ tot x := by
  induction x with
  | nil => cases h
  | cons a x ih =>
    simp only [tot, List.map_cons, List.sum_cons] at ih ⊢
    rcases List.mem_cons.1 h with rfl | h
    · omega
    · have := ih h
      omega

theorem toIntSS_eq {x : List (List Int)} (h : x.length + tot x ≤ 1048576) : M_L_toIntSS x = some x := by
  unfold M_L_toIntSS
  have hx : (x.length : Int) ≤ ((lim : Nat) : Int) := by rw [lim_eq]; omega
  rw [guardO_of (by simpa using hx), bindO_some', Int.toNat_natCast]
  refine copy_loop x [] (fun again i a s ha hi hs => ?_) (fun again s hs => ?_) (by omega)
  · have hm := row_le (List.mem_of_getElem? ha)
    have hsi := List.getElem?_eq_getElem (l := s) (show i < s.length by omega)
    simp only [lt_yes hi, cond_true, getI_nat, ha, hsi, bindO_some', toIntS_eq (show a.length ≤ 1048576 by omega), Int.toNat_natCast, i64_succ (show i < 2 ^ 62 by omega)]
  · simp

theorem eqIntSS_eq {a b : List (List Int)} (h : a.length < 2 ^ 62) (hr : ∀ r ∈ a, r.length < 2 ^ 62) : M_L_eqIntSS (a, b) = some (decide (a = b)) := by
  unfold M_L_eqIntSS
  by_cases hl : a.length = b.length
  · have e1 : ((a.length : Int) != (b.length : Int)) = false := by simp [hl]
    dsimp only
    rw [e1, cond_false]
    refine eq_loop a b hl (fun again i x y hx hy hi => ?_) (fun again => by simp) h
    simp only [lt_yes hi, cond_true, getI_nat, hx, hy, bindO_some', eqIntS_eq (hr x (List.mem_of_getElem? hx)), i64_succ (show i < 2 ^ 62 by omega)]
    by_cases he : x = y <;> simp [he]
  · have e1 : ((a.length : Int) != (b.length : Int)) = true := by simp; omega
    dsimp only
    rw [e1, cond_true]
    congr 1
    symm
    simp only [decide_eq_false_iff_not]
    rintro rfl
    exact hl rfl

theorem containsFuncS_eq {l : List (List Int)} {f : List Int → Option Bool} {p : List Int → Bool} (hl : l.length < 2 ^ 62) (hf : ∀ a ∈ l, f a = some (p a)) : M_slices_ContainsFunc_ssint_sint (l, f) = some (l.any p) := by
  obtain ⟨j, h1, h2⟩ := walk_index_mem p f l 0 hf
  unfold M_slices_ContainsFunc_ssint_sint
  have : M_slices_IndexFunc_ssint_sint (l, f) = some j := by
    unfold M_slices_IndexFunc_ssint_sint
    refine (loop_walk l _ _ (fun again i a ha hi => ?_) (fun again => ?_) (by omega)).trans h1
    · simp only [getI_nat, ha, bindO_some', i64_succ (show i < 2 ^ 62 by omega), lt_yes hi, cond_true]
    · simp
  dsimp only
  rw [this, bindO_some', h2]

theorem all_not_any {α : Type} {p q : α → Bool} {l : List α} (h : ∀ a ∈ l, q a = !p a) : l.all p = !l.any q := by
  induction l with
  | nil => rfl
  | cons a l ih =>
    rw [List.all_cons, List.any_cons, ih fun b hb => h b (List.mem_cons_of_mem _ hb), h a (List.mem_cons_self ..)]
    cases p a <;> simp

theorem wf_ss {x : List (List Int)} (h : WFI [.data (.sl (.sl (.int .i64)))] x) : x.length < 2 ^ 63 ∧ ∀ r ∈ x, r.length < 2 ^ 63 := by
  have h' : x.length ≤ maxLen ∧ ∀ r ∈ x, r.length ≤ maxLen ∧ ∀ n ∈ r, IntKind.min .i64 ≤ n ∧ n ≤ IntKind.max .i64 := h
  have hm : maxLen < 2 ^ 63 := by decide
  exact ⟨by omega, fun r hr => by have := (h'.2 r hr).1; omega⟩

theorem has_contains {l : List Int} (hl : l.length < 2 ^ 62) (p : Nat × Nat) (a : Int) : M_S_l1Has (List.drop p.1 (List.take p.2 l), a) = M_slices_Contains_sint_int (List.drop p.1 (List.take p.2 l), a) := by
  have : (List.drop p.1 (List.take p.2 l)).length < 2 ^ 62 := by simp; omega
  rw [contains_eq this, has_eq this]

theorem vDifferent_eq {l : List Int} (hl : l.length < 2 ^ 62) : M_S_vDifferent l = some (nodupB l) := by
  rw [← areDifferent_eq hl]
  unfold M_S_vDifferent M_I_areDifferent
  simp only [has_contains hl]

/-- Rankings of options. -/
noncomputable def okR (k : Int) (x : List (List Int)) : Bool := decide (1 ≤ k ∧ k ≤ 8) && (decide (x.length ≤ 24) && x.all fun r => (r.all fun n => decide (0 ≤ n ∧ n ≤ k - 1)) && nodupB r)

theorem tRanks_eq {k : Int} {x : List (List Int)} (hr : ∀ r ∈ x, r.length < 2 ^ 62) : M_S_tRanks (k, x) = some (okR k x) := by
  unfold M_S_tRanks okR
  dsimp only
  rw [in_eq, bindO_some']
  by_cases hk : 1 ≤ k ∧ k ≤ 8
  · simp only [hk, and_self, decide_true, Bool.not_true, cond_false, Bool.true_and]
    have e : decide (((x.length : Nat) : Int) > 24) = !decide (x.length ≤ 24) := by rw [← decide_not, decide_eq_decide]; omega
    rw [e]
    by_cases hx : x.length ≤ 24
    · simp only [hx, decide_true, Bool.not_true, cond_false, Bool.true_and]
      refine (loop_walk x (fun _ r k' => if ((r.all fun n => decide (0 ≤ n ∧ n ≤ k - 1)) && nodupB r) = true then k' else some false) (some true) (fun again i a ha hi' => ?_) (fun again => ?_) (by omega)).trans (walk_all _ x 0)
      · have hal := hr a (List.mem_of_getElem? ha)
        simp only [getI_nat, ha, bindO_some', i64_succ (show i < 2 ^ 62 by omega), lt_yes hi', cond_true, i64_in (k - 1) (by omega), l1All_eq hal, vDifferent_eq hal]
        cases (a.all fun n => decide (0 ≤ n ∧ n ≤ k - 1))
        · rfl
        · cases nodupB a <;> rfl
      · simp
    · simp [hx]
  · simp [hk]

theorem areRankings_eq {k : Int} {x : List (List Int)} (hx : x.length < 2 ^ 62) (hr : ∀ r ∈ x, r.length < 2 ^ 62) : M_I_areRankings (k, x) = some (okR k x) := by
  unfold M_I_areRankings okR
  dsimp only
  rw [within_eq, bindO_some']
  by_cases hk : 1 ≤ k ∧ k ≤ 8
  · simp only [hk, and_self, decide_true, cond_true, Bool.true_and]
    have e : decide (((x.length : Nat) : Int) ≤ 24) = decide (x.length ≤ 24) := by rw [decide_eq_decide]; omega
    rw [e, containsFuncS_eq (p := fun r => !((r.all fun n => decide (0 ≤ n ∧ n ≤ k - 1)) && nodupB r)) hx fun a ha => ?_, bindO_some', all_not_any fun _ _ => rfl]
    · cases decide (x.length ≤ 24) <;> rfl
    · unfold M_I_areRankings_1
      dsimp only
      rw [areBelow_eq (hr a ha) (by omega) (by omega), areDifferent_eq (hr a ha)]
      cases (a.all fun n => decide (0 ≤ n ∧ n ≤ k - 1)) <;> cases nodupB a <;> rfl
  · simp [hk]

theorem okR_spec {k : Int} {x : List (List Int)} (h : okR k x = true) : 1 ≤ k ∧ k ≤ 8 ∧ x.length ≤ 24 ∧ ∀ r ∈ x, (∀ n ∈ r, 0 ≤ n ∧ n ≤ k - 1) ∧ r.Nodup := by
  simp only [okR, Bool.and_eq_true, decide_eq_true_eq, List.all_eq_true, nodupB, pdec_iff] at h
  exact ⟨h.1.1, h.1.2, h.2.1, h.2.2⟩

theorem getD_at {α : Type} {l : List α} {i : Nat} {d : α} (h : i < l.length) : l[i]? = some (l.getD i d) := by
  rw [List.getElem?_eq_getElem h, List.getD_eq_getElem?_getD, List.getElem?_eq_getElem h]
  rfl

def iterN {σ : Type} (f : Nat → σ → σ) (s0 : σ) : Nat → σ
  | 0 => s0
  | n + 1 => f n (iterN f s0 n)

theorem iterN_pair {σ τ : Type} (f : Nat → σ → σ) (g : Nat → τ → τ) (a : σ) (b : τ) : ∀ n, iterN (fun i (s : σ × τ) => (f i s.1, g i s.2)) (a, b) n = (iterN f a n, iterN g b n)
  | 0 => rfl
  | n + 1 => by simp only [iterN, iterN_pair f g a b n]

theorem iterN_inv {σ : Type} {f : Nat → σ → σ} {s0 : σ} {Inv : Nat → σ → Prop} (h0 : Inv 0 s0) : ∀ n, (∀ i s, i < n → Inv i s → Inv (i + 1) (f i s)) → Inv n (iterN f s0 n)
  | 0, _ => h0
  | n + 1, h => h n _ (by omega) (iterN_inv h0 n fun i s hi => h i s (by omega))

theorem iter_loop {σ τ β : Type} (f : Nat → σ → σ) (s0 : σ) (n : Nat) (enc : Int → σ → τ) (fin : σ → Option β) (Inv : Nat → σ → Prop) {body : (τ → Option β) → τ → Option β} (hn : n < 2 ^ 62) (h0 : Inv 0 s0) (hs : ∀ i s, i < n → Inv i s → Inv (i + 1) (f i s))
    (h : ∀ (again : τ → Option β) (i : Nat) s, i < n → Inv i s → body again (enc (i : Int) s) = again (enc ((i + 1 : Nat) : Int) (f i s))) (hend : ∀ (again : τ → Option β) s, Inv n s → body again (enc (n : Int) s) = fin s) : loopO body (enc 0 s0) = fin (iterN f s0 n) := by
  refine (loopO_for (σ := σ) (fun i s => enc (i : Int) s) n (fun _ _ => fin (iterN f s0 n)) (fun i s => s = iterN f s0 i ∧ Inv i s) (fun again s hs => ?_) (fun again i s hi hv ih => ?_) (by omega) (i := 0) (s := s0) (Nat.zero_le _) ⟨rfl, h0⟩).trans rfl
  · obtain ⟨rfl, h2⟩ := hs
    exact hend again _ h2
  · obtain ⟨rfl, h2⟩ := hv
    rw [h again i _ hi h2]
    exact ih _ ⟨rfl, hs i _ hi h2⟩

def rowN (n : Nat) (f : Nat → Int) : List Int := (List.range n).map f

theorem rowN_get {n : Nat} {f : Nat → Int} {j : Nat} (h : j < n) : (rowN n f)[j]? = some (f j) := by
  rw [rowN, List.getElem?_map, List.getElem?_range h]
  rfl

theorem rowN_len (n : Nat) (f : Nat → Int) : (rowN n f).length = n := by simp [rowN]

theorem nodup_short {r : List Int} {k : Int} (hk : k ≤ 8) (hr : ∀ a ∈ r, 0 ≤ a ∧ a ≤ k - 1) (hn : r.Nodup) : r.length ≤ 8 := by
  have h := List.Nodup.length_le_of_subset (l₂ := (List.range 8).map fun i : Nat => (i : Int)) hn fun a ha => by
    have := hr a ha
    obtain ⟨n, rfl⟩ := Int.eq_ofNat_of_zero_le this.1
    exact List.mem_map.2 ⟨n, List.mem_range.2 (by omega), rfl⟩
  simpa using h

theorem rowN_zero (n : Nat) : rowN n (fun _ => 0) = List.replicate n 0 := by
  refine List.ext_getElem? fun j => ?_
  rw [List.getElem?_replicate]
  split
  · rename_i h
    exact rowN_get h
  · rw [List.getElem?_eq_none (by rw [rowN_len]; omega)]

theorem loop_walk2 {α β τ : Type} {body : (τ → Option β) → τ → Option β} (enc : Int → τ) (l : List α) (step : Nat → α → Option β → Option β) (fin : Option β)
    (h : ∀ (again : τ → Option β) (i : Nat) a, l[i]? = some a → i < l.length → body again (enc (i : Int)) = step i a (again (enc ((i + 1 : Nat) : Int))))
    (hend : ∀ again : τ → Option β, body again (enc (l.length : Int)) = fin) (hl : l.length < 2 ^ 64) : loopO body (enc 0) = walk step fin 0 l := by
  refine (loopO_for (σ := Unit) (fun i _ => enc (i : Int)) l.length (fun i _ => walk step fin i (l.drop i)) (fun _ _ => True) (fun again _ _ => ?_) (fun again i _ hi _ ih => ?_) hl (i := 0) (s := ()) (Nat.zero_le _) trivial).trans rfl
  · simp [hend, walk]
  · rw [h again i l[i] (List.getElem?_eq_getElem hi) hi, ih () trivial, List.drop_eq_getElem_cons hi, walk]

theorem walk_findQ {α β : Type} (p : α → Bool) (F : α → Option β) (G : Option β) : ∀ (l : List α) (i : Nat), walk (fun _ a k => bif p a then F a else k) G i l = match l.find? p with | some a => F a | none => G
  | [], _ => rfl
  | a :: l, i => by
    rw [walk, walk_findQ p F G l (i + 1), List.find?_cons]
    cases p a <;> rfl

theorem walk_idx {α : Type} (p : α → Bool) : ∀ (l : List α) (i : Nat), ∃ z : Int, walk (fun i a k => bif p a then some (i : Int) else k) (some (-1)) i l = some z ∧ match l.find? p with | some a => ∃ j : Nat, z = ((i + j : Nat) : Int) ∧ l[j]? = some a | none => z = -1
  | [], i => ⟨-1, rfl, rfl⟩
  | a :: l, i => by
    rw [walk, List.find?_cons]
    cases p a
    · obtain ⟨z, h1, h2⟩ := walk_idx p l (i + 1)
      refine ⟨z, h1, ?_⟩
      dsimp only
      cases hf : l.find? p with
      | none => rw [hf] at h2; exact h2
      | some b =>
        rw [hf] at h2
        obtain ⟨j, h3, h4⟩ := h2
        exact ⟨j + 1, by rw [h3]; omega, by simpa using h4⟩
    · exact ⟨(i : Int), rfl, 0, by simp, by simp⟩

theorem indexFunc_find {l : List Int} {f : Int → Option Bool} {p : Int → Bool} (hl : l.length < 2 ^ 62) (hf : ∀ a ∈ l, f a = some (p a)) : ∃ z : Int, M_slices_IndexFunc_sint_int (l, f) = some z ∧ match l.find? p with | some a => ∃ j : Nat, z = (j : Int) ∧ l[j]? = some a | none => z = -1 := by
  obtain ⟨z, h1, h2⟩ := walk_idx p l 0
  refine ⟨z, ?_, ?_⟩
  · unfold M_slices_IndexFunc_sint_int
    refine (loop_walk l (fun i a k => bif p a then some (i : Int) else k) (some (-1)) (fun again i a ha hi => ?_) (fun again => ?_) (by omega)).trans h1
    · simp only [getI_nat, ha, bindO_some', hf a (List.mem_of_getElem? ha), i64_succ (show i < 2 ^ 62 by omega), lt_yes hi, cond_true]
    · simp
  · cases hf : l.find? p with
    | none => rw [hf] at h2; exact h2
    | some b =>
      rw [hf] at h2
      obtain ⟨j, h3, h4⟩ := h2
      exact ⟨j, by rw [h3, Nat.zero_add], h4⟩

abbrev Rem := Nat → Bool

def fstQ (rem : Rem) (r : List Int) : Option Int := r.find? fun a => !rem a.toNat

def bumpC (rem : Rem) (r : List Int) (C : Nat → Int) : Nat → Int := fun k => if fstQ rem r = some (k : Int) then C k + 1 else C k

def c0 (rem : Rem) : Nat → Int := fun k => if rem k = true then -1 else 0

def cntC (rem : Rem) (rs : List (List Int)) : Nat → Int := iterN (fun t C => bumpC rem (rs.getD t []) C) (c0 rem) rs.length

/-- Removed: below zero; else at most t. -/
def CntOK (rem : Rem) (t : Nat) (C : Nat → Int) : Prop := ∀ k, (rem k = true → C k = -1) ∧ (rem k = false → 0 ≤ C k ∧ C k ≤ (t : Int))

theorem c0_ok (rem : Rem) : CntOK rem 0 (c0 rem) := fun k => by
  unfold c0
  cases rem k <;> simp

theorem fst_free {rem : Rem} {r : List Int} {a : Int} (h : fstQ rem r = some a) : a ∈ r ∧ rem a.toNat = false := by
  unfold fstQ at h
  exact ⟨List.mem_of_find?_eq_some h, by simpa using List.find?_some h⟩

theorem bump_ok {rem : Rem} {t : Nat} {r : List Int} {C : Nat → Int} (h : CntOK rem t C) : CntOK rem (t + 1) (bumpC rem r C) := fun k => by
  obtain ⟨h1, h2⟩ := h k
  unfold bumpC
  split
  · rename_i hf
    have := (fst_free hf).2
    rw [Int.toNat_natCast] at this
    refine ⟨fun hr => (by rw [this] at hr; cases hr), fun hr => ?_⟩
    have := h2 hr
    omega
  · exact ⟨h1, fun hr => by have := h2 hr; omega⟩

theorem cnt_ok (rem : Rem) (rs : List (List Int)) : CntOK rem rs.length (cntC rem rs) := iterN_inv (Inv := fun t C => CntOK rem t C) (c0_ok rem) rs.length fun _ _ _ hv => bump_ok hv

theorem rowN_set {n a : Nat} {f : Nat → Int} {v : Int} : (rowN n f).set a v = rowN n fun k => if k = a then v else f k := by
  refine List.ext_getElem? fun t => ?_
  by_cases ht : t < n
  · rw [rowN_get ht, List.getElem?_set]
    by_cases hat : a = t
    · subst hat
      rw [if_pos rfl, if_pos (by rw [rowN_len]; exact ht), if_pos rfl]
    · rw [if_neg hat, rowN_get ht, if_neg (fun h => hat h.symm)]
  · rw [List.getElem?_eq_none (by rw [List.length_set, rowN_len]; omega), List.getElem?_eq_none (by rw [rowN_len]; omega)]

theorem rowN_congr {n : Nat} {f g : Nat → Int} (h : ∀ k, k < n → f k = g k) : rowN n f = rowN n g := List.map_congr_left fun k hk => h k (List.mem_range.1 hk)

def inO (out : List Int) : Rem := fun k => out.any (· == (k : Int))

theorem S_tFirst_eq {n : Nat} {rs : List (List Int)} {out : List Int} (hn : n ≤ 8) (hrs : rs.length ≤ 24) (hre : ∀ r ∈ rs, r.length ≤ 8 ∧ ∀ a ∈ r, 0 ≤ a ∧ a < n) (ho : out.length ≤ 8) (hoe : ∀ a ∈ out, 0 ≤ a ∧ a < n) :
    M_S_tFirst ((n : Int), rs, out) = some (rowN n (cntC (inO out) rs)) := by
  unfold M_S_tFirst
  dsimp only
  have hlim : ((n : Int)) ≤ ((lim : Nat) : Int) := by rw [lim_eq]; omega
  rw [guardO_of (by simpa using hlim), bindO_some', Int.toNat_natCast, ← rowN_zero]
  refine (iter_loop (fun t (C : Nat → Int) => fun k => if (k : Int) = out.getD t 0 then -1 else C k) (fun _ => 0) out.length (fun i C => (i, rowN n C)) (fun _ => some (rowN n (cntC (inO out) rs))) (fun t C => ∀ k, C k = if (out.take t).any (· == (k : Int)) = true then -1 else 0) (by omega) (fun k => by simp) (fun t C ht hv k => ?_) (fun again t C ht hv => ?_) (fun again C hv => ?_)).trans rfl
  · have ha := getD_at (d := (0 : Int)) ht
    rw [List.take_add_one, ha]
    dsimp only
    rw [hv k]
    by_cases hk : (k : Int) = out.getD t 0
    · rw [if_pos hk, if_pos]
      simp only [Option.toList_some, List.any_append, List.any_cons, List.any_nil, Bool.or_false, Bool.or_eq_true, beq_iff_eq]
      exact .inr hk.symm
    · rw [if_neg hk]
      have : ((out.take t ++ (some (out.getD t 0)).toList).any (· == (k : Int))) = (out.take t).any (· == (k : Int)) := by
        simp only [Option.toList_some, List.any_append, List.any_cons, List.any_nil, Bool.or_false]
        rw [show (out.getD t 0 == (k : Int)) = false from beq_eq_false_iff_ne.2 fun e => hk e.symm, Bool.or_false]
      rw [this]
  · have ha := getD_at (d := (0 : Int)) ht
    obtain ⟨a1, a2⟩ := hoe _ (List.mem_of_getElem? ha)
    obtain ⟨A, hA⟩ := Int.eq_ofNat_of_zero_le a1
    rw [hA] at ha a2 ⊢
    have hAn : A < n := by omega
    simp only [lt_yes ht, cond_true, getI_nat, ha, bindO_some', rowN_get hAn, Int.toNat_natCast, i64_succ (show t < 2 ^ 62 by omega), rowN_set]
    congr 2
    exact rowN_congr fun k _ => by
      by_cases hk : k = A
      · subst hk; simp
      · rw [if_neg hk, if_neg (by omega)]
  · have hC : rowN n C = rowN n (c0 (inO out)) := rowN_congr fun k _ => by
      rw [hv k, List.take_length]
      rfl
    simp only [lt_no, cond_false]
    rw [hC]
    refine iter_loop (fun t C => bumpC (inO out) (rs.getD t []) C) (c0 (inO out)) rs.length (fun i C => (i, rowN n C)) (fun C => some (rowN n C)) (fun t C => CntOK (inO out) t C) (by omega) (c0_ok _) (fun _ _ _ hv => bump_ok hv) (fun again7 t C ht hv => ?_) (fun again7 C hv => ?_)
    · have hr := getD_at (d := ([] : List Int)) ht
      obtain ⟨r1, r2⟩ := hre _ (List.mem_of_getElem? hr)
      generalize rs.getD t [] = r at hr r1 r2
      simp only [lt_yes ht, cond_true, getI_nat, hr, bindO_some']
      refine (loop_walk2 (fun i => (i, rowN n C)) r (fun _ a k => bif !inO out a.toNat then again7 (((t + 1 : Nat) : Int), rowN n fun k => if k = a.toNat then C k + 1 else C k) else k) (again7 (((t + 1 : Nat) : Int), rowN n C)) (fun again10 i a ha hi => ?_) (fun again10 => ?_) (by omega)).trans ?_
      · obtain ⟨a1, a2⟩ := r2 a (List.mem_of_getElem? ha)
        obtain ⟨A, rfl⟩ := Int.eq_ofNat_of_zero_le a1
        have hAn : A < n := by omega
        obtain ⟨v1, v2⟩ := hv A
        simp only [lt_yes hi, cond_true, getI_nat, ha, bindO_some', rowN_get hAn, Int.toNat_natCast, i64_succ (show t < 2 ^ 62 by omega), i64_succ (show i < 2 ^ 62 by omega)]
        cases hrem : inO out A
        · have := v2 hrem
          rw [decide_eq_true (show C A ≥ 0 by omega), i64_in (C A + 1) (by omega)]
          simp only [cond_true, Bool.not_false, rowN_set]
          congr 2
          exact rowN_congr fun k _ => by
            by_cases hk : k = A
            · rw [if_pos hk, if_pos hk, hk]
            · rw [if_neg hk, if_neg hk]
        · rw [decide_eq_false (show ¬ C A ≥ 0 by have := v1 hrem; omega)]
          rfl
      · simp only [lt_no, cond_false, i64_succ (show t < 2 ^ 62 by omega)]
      · rw [walk_findQ (fun a : Int => !inO out a.toNat)]
        rw [show (r.find? fun a => !inO out a.toNat) = fstQ (inO out) r from rfl]
        unfold bumpC
        cases hf : fstQ (inO out) r with
        | none =>
          dsimp only
          congr 2
        | some a =>
          obtain ⟨f1, f2⟩ := fst_free hf
          obtain ⟨a1, a2⟩ := r2 a f1
          dsimp only
          congr 2
          exact rowN_congr fun k _ => by
            by_cases hk : k = a.toNat
            · rw [if_pos hk, if_pos (by congr 1; omega)]
            · rw [if_neg hk, if_neg (fun e => hk (by have := Option.some.inj e; omega))]
    · simp only [lt_no, cond_false]

def remB (out : List Bool) : Rem := fun k => out.getD k false

theorem I_round_eq {n : Nat} {rs : List (List Int)} {out : List Bool} (hn : n ≤ 8) (hrs : rs.length ≤ 24) (hre : ∀ r ∈ rs, r.length ≤ 8 ∧ ∀ a ∈ r, 0 ≤ a ∧ a < n) (ho : out.length = n) :
    M_I_round (rs, out) = some (rowN n (cntC (remB out) rs)) := by
  unfold M_I_round
  dsimp only
  have hlim : ((n : Int)) ≤ ((lim : Nat) : Int) := by rw [lim_eq]; omega
  rw [ho, guardO_of (by simpa using hlim), bindO_some', Int.toNat_natCast, ← rowN_zero]
  refine (iter_loop (fun t (C : Nat → Int) => fun k => if k = t ∧ remB out t = true then -1 else C k) (fun _ => 0) n (fun i C => (i, rowN n C)) (fun _ => some (rowN n (cntC (remB out) rs))) (fun t C => ∀ k, C k = if k < t ∧ remB out k = true then -1 else 0) (by omega) (fun k => by simp) (fun t C ht hv k => ?_) (fun again t C ht hv => ?_) (fun again C hv => ?_)).trans rfl
  · dsimp only
    rw [hv k]
    by_cases hk : k = t
    · subst hk
      cases remB out k <;> simp
    · by_cases hkt : k < t
      · simp [hk, hkt, show k < t + 1 by omega]
      · simp [hk, hkt, show ¬ k < t + 1 by omega]
  · have ha := getD_at (d := false) (show t < out.length by omega)
    simp only [lt_yes ht, cond_true, getI_nat, ha, bindO_some', rowN_get ht, Int.toNat_natCast, i64_succ (show t < 2 ^ 62 by omega), rowN_set]
    unfold remB
    cases out.getD t false
    · rw [cond_false]
      congr 2
      exact rowN_congr fun k _ => by simp
    · rw [cond_true]
      congr 2
      exact rowN_congr fun k _ => by simp
  · have hC : rowN n C = rowN n (c0 (remB out)) := rowN_congr fun k hk => by
      rw [hv k]
      unfold c0
      simp [hk]
    simp only [lt_no, cond_false]
    rw [hC]
    refine iter_loop (fun t C => bumpC (remB out) (rs.getD t []) C) (c0 (remB out)) rs.length (fun i C => (i, rowN n C)) (fun C => some (rowN n C)) (fun t C => CntOK (remB out) t C) (by omega) (c0_ok _) (fun _ _ _ hv => bump_ok hv) (fun again7 t C ht hv => ?_) (fun again7 C hv => ?_)
    · have hr := getD_at (d := ([] : List Int)) ht
      obtain ⟨r1, r2⟩ := hre _ (List.mem_of_getElem? hr)
      generalize rs.getD t [] = r at hr r1 r2
      obtain ⟨z, z1, z2⟩ := indexFunc_find (l := r) (f := fun a11 => bindO (M_I_round_1 (a11, out)) fun a12 => some a12) (p := fun a => !remB out a.toNat) (by omega) (fun a ha => by
        obtain ⟨a1, a2⟩ := r2 a ha
        obtain ⟨A, rfl⟩ := Int.eq_ofNat_of_zero_le a1
        unfold M_I_round_1
        dsimp only
        rw [getI_nat, getD_at (d := false) (show A < out.length by omega), bindO_some', bindO_some']
        rfl)
      simp only [lt_yes ht, cond_true, getI_nat, hr, bindO_some']
      rw [z1, bindO_some']
      rw [show (r.find? fun a => !remB out a.toNat) = fstQ (remB out) r from rfl] at z2
      unfold bumpC
      cases hf : fstQ (remB out) r with
      | none =>
        rw [hf] at z2
        dsimp only at z2
        subst z2
        rw [decide_eq_false (show ¬ (-1 : Int) ≥ 0 by omega), cond_false, i64_succ (by omega)]
        simp
      | some a =>
        rw [hf] at z2
        obtain ⟨j, rfl, hj⟩ := z2
        obtain ⟨f1, f2⟩ := fst_free hf
        obtain ⟨a1, a2⟩ := r2 a f1
        obtain ⟨A, rfl⟩ := Int.eq_ofNat_of_zero_le a1
        have hAn : A < n := by omega
        obtain ⟨v1, v2⟩ := hv A
        rw [Int.toNat_natCast] at f2
        have := v2 f2
        rw [decide_eq_true (show (j : Int) ≥ 0 by omega)]
        simp only [cond_true, getI_nat, hj, bindO_some', rowN_get hAn, Int.toNat_natCast, i64_in (C A + 1) (by omega), i64_succ (show t < 2 ^ 62 by omega), rowN_set]
        congr 2
        exact rowN_congr fun k _ => by
          by_cases hk : k = A
          · subst hk; simp
          · rw [if_neg hk, if_neg (fun e => hk (by have := Option.some.inj e; omega))]
    · simp only [lt_no, cond_false]

def scan (C : Nat → Int) (i : Nat) (s : Int × Int) : Int × Int := if C i < 0 then s else (s.1 + C i, if s.2 < 0 then (i : Int) else if C i ≤ C s.2.toNat then (i : Int) else s.2)

def mostF (C : Nat → Int) (i : Nat) (m : Int) : Int := if C i < 0 then m else if m > C i then m else C i

def freeF (rem : Rem) (i : Nat) (c : Nat) : Nat := if rem i = true then c else c + 1

def scanN (C : Nat → Int) (n : Nat) : Int × Int := iterN (scan C) (0, -1) n

def mostN (C : Nat → Int) (n : Nat) : Int := iterN (mostF C) 0 n

def freeN (rem : Rem) (n : Nat) : Nat := iterN (freeF rem) 0 n

theorem scan_ok {C : Nat → Int} {B : Nat} (hC : ∀ k, C k ≤ B) : ∀ n, (0 ≤ (scanN C n).1 ∧ (scanN C n).1 ≤ n * B) ∧ (((scanN C n).2 = -1 ∧ ∀ k, k < n → C k < 0) ∨ (0 ≤ (scanN C n).2 ∧ (scanN C n).2 < n ∧ 0 ≤ C (scanN C n).2.toNat))
  | 0 => ⟨⟨by simp [scanN, iterN], by simp [scanN, iterN]⟩, .inl ⟨rfl, fun k hk => by omega⟩⟩
  | n + 1 => by
    obtain ⟨⟨h1, h2⟩, h3⟩ := scan_ok hC n
    have e : scanN C (n + 1) = scan C n (scanN C n) := rfl
    have hCn := hC n
    rw [e]
    generalize scanN C n = s at h1 h2 h3
    have em : ((n + 1 : Nat) : Int) * (B : Int) = n * B + B := by
      rw [Int.natCast_add, Int.add_mul]
      simp
    rw [em]
    unfold scan
    by_cases hn : C n < 0
    · rw [if_pos hn]
      refine ⟨⟨h1, by omega⟩, ?_⟩
      rcases h3 with ⟨a, b⟩ | ⟨a, b, c⟩
      · exact .inl ⟨a, fun k hk => by
          by_cases hkn : k = n
          · rw [hkn]; exact hn
          · exact b k (by omega)⟩
      · exact .inr ⟨a, by omega, c⟩
    · rw [if_neg hn]
      refine ⟨⟨by dsimp only; omega, by dsimp only; omega⟩, .inr ?_⟩
      dsimp only
      rcases h3 with ⟨a, b⟩ | ⟨a, b, c⟩
      · rw [a]
        simp only [show (-1 : Int) < 0 by omega, if_true, Int.toNat_natCast]
        omega
      · rw [if_neg (show ¬ s.2 < 0 by omega)]
        split
        · simp only [Int.toNat_natCast]
          omega
        · exact ⟨a, by omega, c⟩

theorem most_ok {C : Nat → Int} : ∀ n, 0 ≤ mostN C n ∧ (∀ k, k < n → C k ≤ mostN C n) ∧ (mostN C n = 0 ∨ ∃ k, k < n ∧ mostN C n = C k)
  | 0 => ⟨by simp [mostN, iterN], fun k hk => by omega, .inl rfl⟩
  | n + 1 => by
    obtain ⟨h1, h2, h3⟩ := most_ok (C := C) n
    have e : mostN C (n + 1) = mostF C n (mostN C n) := rfl
    rw [e]
    generalize mostN C n = m at h1 h2 h3
    unfold mostF
    by_cases hn : C n < 0
    · rw [if_pos hn]
      refine ⟨h1, fun k hk => ?_, ?_⟩
      · by_cases hkn : k = n
        · rw [hkn]; omega
        · exact h2 k (by omega)
      · rcases h3 with h3 | ⟨k, hk, h3⟩
        · exact .inl h3
        · exact .inr ⟨k, by omega, h3⟩
    · rw [if_neg hn]
      by_cases hm : m > C n
      · rw [if_pos hm]
        refine ⟨h1, fun k hk => ?_, ?_⟩
        · by_cases hkn : k = n
          · rw [hkn]; omega
          · exact h2 k (by omega)
        · rcases h3 with h3 | ⟨k, hk, h3⟩
          · exact .inl h3
          · exact .inr ⟨k, by omega, h3⟩
      · rw [if_neg hm]
        refine ⟨by omega, fun k hk => ?_, .inr ⟨n, by omega, rfl⟩⟩
        by_cases hkn : k = n
        · rw [hkn]; omega
        · have := h2 k (by omega)
          omega

theorem free_pos {rem : Rem} : ∀ n, (0 < freeN rem n ↔ ∃ k, k < n ∧ rem k = false) ∧ freeN rem n ≤ n
  | 0 => ⟨⟨fun h => by simp [freeN, iterN] at h, fun ⟨k, hk, _⟩ => by omega⟩, by simp [freeN, iterN]⟩
  | n + 1 => by
    obtain ⟨h1, h2⟩ := free_pos (rem := rem) n
    have e : freeN rem (n + 1) = freeF rem n (freeN rem n) := rfl
    rw [e]
    unfold freeF
    cases hr : rem n
    · simp only [Bool.false_eq_true, if_false]
      exact ⟨⟨fun _ => ⟨n, by omega, hr⟩, fun _ => by omega⟩, by omega⟩
    · simp only [if_true]
      refine ⟨⟨fun h => ?_, fun ⟨k, hk, h⟩ => ?_⟩, by omega⟩
      · obtain ⟨k, hk, h3⟩ := h1.1 h
        exact ⟨k, by omega, h3⟩
      · by_cases hkn : k = n
        · rw [hkn, hr] at h; cases h
        · exact h1.2 ⟨k, by omega, h⟩

/-- One more is removed. -/
theorem free_add {rem rem' : Rem} {a : Nat} (hr : rem a = false) (hr' : ∀ k, rem' k = (rem k || k == a)) : ∀ n, freeN rem' n + (if a < n then 1 else 0) = freeN rem n
  | 0 => rfl
  | n + 1 => by
    have ih := free_add hr hr' n
    have e : freeN rem (n + 1) = freeF rem n (freeN rem n) := rfl
    have e' : freeN rem' (n + 1) = freeF rem' n (freeN rem' n) := rfl
    rw [e, e']
    unfold freeF
    rw [hr' n]
    by_cases hna : n = a
    · subst hna
      rw [hr]
      simp at ih ⊢
      omega
    · have hb : (n == a) = false := by simpa using hna
      rw [hb, Bool.or_false]
      by_cases h1 : a < n
      · rw [if_pos h1] at ih
        rw [if_pos (show a < n + 1 by omega)]
        split <;> omega
      · rw [if_neg h1] at ih
        rw [if_neg (show ¬ a < n + 1 by omega)]
        split <;> omega

def stopB (C : Nat → Int) (rem : Rem) (n : Nat) : Bool := decide (2 * mostN C n > (scanN C n).1) || decide (freeN rem n ≤ 1)

def remA (rem : Rem) (a : Nat) : Rem := fun k => rem k || k == a

def rndF (n : Nat) (rs : List (List Int)) : Nat → Rem → List (List Int) → List (List Int)
  | 0, _, acc => acc
  | f + 1, rem, acc => bif stopB (cntC rem rs) rem n then acc ++ [rowN n (cntC rem rs)] else rndF n rs f (remA rem (scanN (cntC rem rs) n).2.toNat) (acc ++ [rowN n (cntC rem rs)])

theorem most_eq (a b : Int) : M_S_l1Most (a, b) = some (if a > b then a else b) := by
  unfold M_S_l1Most
  dsimp only
  by_cases h : a > b <;> simp [h]

theorem cntC_le {rem : Rem} {rs : List (List Int)} (hrs : rs.length ≤ 24) : ∀ k, cntC rem rs k ≤ 24 := fun k => by
  obtain ⟨h1, h2⟩ := cnt_ok rem rs k
  cases h : rem k
  · have := h2 h; omega
  · have := h1 h; omega

theorem cnt_neg {rem : Rem} {rs : List (List Int)} (k : Nat) : cntC rem rs k < 0 ↔ rem k = true := by
  obtain ⟨h1, h2⟩ := cnt_ok rem rs k
  cases h : rem k
  · have := h2 h
    simp
    omega
  · have := h1 h
    simp
    omega

theorem scan_free {rem : Rem} {rs : List (List Int)} {n : Nat} (hrs : rs.length ≤ 24) (hf : 0 < freeN rem n) : 0 ≤ (scanN (cntC rem rs) n).2 ∧ (scanN (cntC rem rs) n).2 < n ∧ rem (scanN (cntC rem rs) n).2.toNat = false := by
  rcases (scan_ok (C := cntC rem rs) (B := 24) (cntC_le hrs) n).2 with ⟨h1, h2⟩ | ⟨h1, h2, h3⟩
  · obtain ⟨k, hk, h4⟩ := (free_pos n).1.1 hf
    have := (cnt_neg k).1 (h2 k hk)
    rw [h4] at this
    cases this
  · refine ⟨h1, h2, ?_⟩
    cases h : rem (scanN (cntC rem rs) n).2.toNat
    · rfl
    · have := (cnt_neg (rs := rs) _).2 h
      omega

theorem mostN_le {C : Nat → Int} (hC : ∀ k, C k ≤ 24) (n : Nat) : mostN C n ≤ 24 := by
  obtain ⟨h1, h2, h3⟩ := most_ok (C := C) n
  rcases h3 with h | ⟨k, _, h⟩
  · omega
  · rw [h]; exact hC k

theorem S_scan_loop {β : Type} {n : Nat} {C : Nat → Int} (hn : n ≤ 8) (hC : ∀ k, C k ≤ 24) (fin : Int → Int → Int → Option β) {body : (Int × Int × Int × Int → Option β) → Int × Int × Int × Int → Option β}
    (hb : ∀ again s, body again s = cond (decide (s.2.2.2 < (((rowN n C).length : Nat) : Int))) (bindO (getI (rowN n C) s.2.2.2) fun a7 => cond (decide (a7 < 0)) (bindO (some (IntKind.wrap .i64 (s.2.2.2 + 1))) fun a8 => again (s.1, s.2.1, s.2.2.1, a8)) (bindO (some (IntKind.wrap .i64 (s.1 + a7))) fun a9 => bindO (M_S_l1Most (s.2.1, a7)) fun a10 => cond (decide (s.2.2.1 < 0)) (bindO (some (IntKind.wrap .i64 (s.2.2.2 + 1))) fun a11 => again (a9, a10, s.2.2.2, a11)) (bindO (getI (rowN n C) s.2.2.1) fun a12 => cond (decide (a7 ≤ a12)) (bindO (some (IntKind.wrap .i64 (s.2.2.2 + 1))) fun a13 => again (a9, a10, s.2.2.2, a13)) (bindO (some (IntKind.wrap .i64 (s.2.2.2 + 1))) fun a14 => again (a9, a10, s.2.2.1, a14))))) (fin s.1 s.2.1 s.2.2.1)) :
    loopO body (0, 0, -1, 0) = fin (scanN C n).1 (mostN C n) (scanN C n).2 := by
  have e : iterN (fun i (s : (Int × Int) × Int) => (scan C i s.1, mostF C i s.2)) ((0, -1), 0) n = (scanN C n, mostN C n) := iterN_pair (scan C) (mostF C) (0, -1) 0 n
  refine (iter_loop (fun i (s : (Int × Int) × Int) => (scan C i s.1, mostF C i s.2)) ((0, -1), 0) n (fun i s => (s.1.1, s.2, s.1.2, i)) (fun s => fin s.1.1 s.2 s.1.2) (fun i s => s = (scanN C i, mostN C i)) (by omega) rfl (fun i s _ hv => by subst hv; rfl) (fun again i s hi hv => ?_) (fun again s hv => ?_)).trans (by rw [e])
  · subst hv
    obtain ⟨⟨h1, h2⟩, h3⟩ := scan_ok (C := C) (B := 24) hC i
    have hm := mostN_le hC i
    have hCi := hC i
    rw [hb]
    dsimp only
    unfold scan mostF
    generalize scanN C i = s at h1 h2 h3
    rw [rowN_len, lt_yes hi]
    simp only [cond_true, getI_nat, rowN_get hi, bindO_some', i64_succ (show i < 2 ^ 62 by omega), most_eq]
    by_cases hneg : C i < 0
    · simp only [hneg, decide_true, cond_true, if_true]
    · rw [if_neg hneg, if_neg hneg, decide_eq_false hneg, cond_false, i64_in (s.1 + C i) (by omega)]
      rcases h3 with ⟨a, b⟩ | ⟨a, b, c⟩
      · rw [a]
        simp
      · rw [decide_eq_false (show ¬ s.2 < 0 by omega), if_neg (show ¬ s.2 < 0 by omega)]
        obtain ⟨L, hL⟩ := Int.eq_ofNat_of_zero_le a
        rw [hL]
        have hLn : L < n := by omega
        simp only [cond_false, getI_nat, rowN_get hLn, bindO_some', Int.toNat_natCast]
        by_cases hle : C i ≤ C L
        · simp [hle]
        · simp [hle]
  · subst hv
    rw [hb]
    dsimp only
    rw [rowN_len, lt_no, cond_false]

theorem inO_snoc (out : List Int) (a : Nat) : inO (out ++ [(a : Int)]) = remA (inO out) a := by
  funext k
  unfold inO remA
  rw [List.any_append]
  congr 1
  simp only [List.any_cons, List.any_nil, Bool.or_false]
  rw [Bool.eq_iff_iff]
  simp only [beq_iff_eq]
  omega

theorem S_tRounds_eq {n : Nat} {rs : List (List Int)} (hn : n ≤ 8) (hn1 : 1 ≤ n) (hrs : rs.length ≤ 24) (hre : ∀ r ∈ rs, r.length ≤ 8 ∧ ∀ a ∈ r, 0 ≤ a ∧ a < n) : M_S_tRounds ((n : Int), rs) = some (rndF n rs (freeN (inO []) n) (inO []) []) := by
  unfold M_S_tRounds
  dsimp only
  have hf0 : freeN (inO []) n = n := by
    have : ∀ m, freeN (inO []) m = m := fun m => by
      induction m with
      | zero => rfl
      | succ m ih => exact congrArg (· + 1) ih
    exact this n
  refine loopO_spec (fun (s : List (List Int) × List Int) => some (rndF n rs (freeN (inO s.2) n) (inO s.2) s.1)) (fun s => s.2.length + freeN (inO s.2) n = n ∧ 1 ≤ freeN (inO s.2) n ∧ s.1.length = s.2.length ∧ ∀ a ∈ s.2, 0 ≤ a ∧ a < n) (fun s => freeN (inO s.2) n) (fun again s hs ih => ?_) (s := ([], [])) ⟨by simp [hf0], by dsimp only; omega, rfl, fun a ha => by simp at ha⟩ (by dsimp only; omega)
  obtain ⟨acc, out⟩ := s
  obtain ⟨h1, h2, h3, h4⟩ := hs
  dsimp only at h1 h2 h3 h4 ih ⊢
  rw [S_tFirst_eq hn hrs hre (by omega) h4, bindO_some', guardO_of (lenOk_of (by simp; omega)), bindO_some', bindO_some']
  obtain ⟨F, hF⟩ : ∃ F, freeN (inO out) n = F + 1 := ⟨freeN (inO out) n - 1, by omega⟩
  rw [hF, rndF]
  have hle := cntC_le (rem := inO out) hrs
  have hsf := scan_free (rem := inO out) (n := n) hrs (by omega)
  refine (S_scan_loop hn hle (fun sum most least => bindO (some (IntKind.wrap .i64 (2 * most))) fun a15 => cond (decide (a15 > sum)) (some (acc ++ [rowN n (cntC (inO out) rs)])) (bindO (some (IntKind.wrap .i64 ((n : Int) - 1))) fun a16 => cond (decide (((out.length : Nat) : Int) ≥ a16)) (some (acc ++ [rowN n (cntC (inO out) rs)])) (bindO (guardO (lenOk (out.length + [least].length))) fun _ => bindO (some (out ++ [least])) fun a18 => again (acc ++ [rowN n (cntC (inO out) rs)], a18)))) (fun _ _ => rfl)).trans ?_
  have hm := mostN_le hle n
  have hm0 := (most_ok (C := cntC (inO out) rs) n).1
  unfold stopB
  generalize hS : scanN (cntC (inO out) rs) n = sc at hsf
  rw [i64_in (2 * mostN (cntC (inO out) rs) n) (by omega), bindO_some', i64_in ((n : Int) - 1) (by omega), bindO_some']
  by_cases hst : 2 * mostN (cntC (inO out) rs) n > sc.1
  · simp [hst]
  · rw [decide_eq_false hst, cond_false, Bool.false_or]
    by_cases hl : F = 0
    · rw [decide_eq_true (show ((out.length : Nat) : Int) ≥ (n : Int) - 1 by omega), decide_eq_true (show freeN (inO out) n ≤ 1 by omega)]
      rfl
    · rw [decide_eq_false (show ¬ ((out.length : Nat) : Int) ≥ (n : Int) - 1 by omega), decide_eq_false (show ¬ freeN (inO out) n ≤ 1 by omega), cond_false, cond_false, guardO_of (lenOk_of (by simp; omega)), bindO_some', bindO_some']
      obtain ⟨L, hL⟩ := Int.eq_ofNat_of_zero_le hsf.1
      rw [hL] at hsf ⊢
      rw [Int.toNat_natCast] at hsf
      have hadd := free_add (rem := inO out) (rem' := inO (out ++ [(L : Int)])) (a := L) hsf.2.2 (fun k => by rw [inO_snoc]; rfl) n
      rw [if_pos (show L < n by omega)] at hadd
      have := ih (acc ++ [rowN n (cntC (inO out) rs)], out ++ [(L : Int)]) ⟨by simp; omega, by dsimp only; omega, by simp [h3], fun a ha => ?_⟩ (by dsimp only; omega)
      · rw [this]
        dsimp only
        rw [show freeN (inO (out ++ [(L : Int)])) n = F by omega, inO_snoc, Int.toNat_natCast]
      · simp only [List.mem_append, List.mem_singleton] at ha
        rcases ha with ha | rfl
        · exact h4 a ha
        · omega

theorem max_row {n : Nat} {C : Nat → Int} (hn : n ≤ 8) (hn1 : 1 ≤ n) : ∃ M, M_slices_Max_sint_int (rowN n C) = some M ∧ (∀ k, k < n → C k ≤ M) ∧ ∃ k, k < n ∧ M = C k := by
  have h0 := rowN_get (f := C) (show 0 < n by omega)
  refine ⟨iterN (fun i m => if i = 0 then C 0 else if m < C i then C i else m) (C 0) n, ?_, ?_⟩
  · unfold M_slices_Max_sint_int
    rw [rowN_len, decide_eq_false (show ¬ ((n : Nat) : Int) < 1 by omega), cond_false, getI_zero, h0, bindO_some']
    refine (loopO_for (σ := Int) (fun i m => (m, (i : Int))) n (fun _ _ => some (iterN (fun i m => if i = 0 then C 0 else if m < C i then C i else m) (C 0) n)) (fun i m => 1 ≤ i ∧ m = iterN (fun i m => if i = 0 then C 0 else if m < C i then C i else m) (C 0) i) (fun again m hv => ?_) (fun again i m hi hv ih => ?_) (by omega) (i := 1) (s := C 0) hn1 ⟨Nat.le_refl _, by simp [iterN]⟩).trans rfl
    · obtain ⟨_, rfl⟩ := hv
      simp only [lt_no, cond_false]
    · obtain ⟨h1, rfl⟩ := hv
      simp only [lt_yes hi, cond_true, getI_nat, rowN_get hi, bindO_some', i64_succ (show i < 2 ^ 62 by omega)]
      refine ih _ ⟨by omega, ?_⟩
      rw [iterN, if_neg (show ¬ i = 0 by omega)]
  · have := iterN_inv (f := fun i m => if i = 0 then C 0 else if m < C i then C i else m) (s0 := C 0) (Inv := fun i m => (∀ k, k < i → C k ≤ m) ∧ (i = 0 ∨ ∃ k, k < i ∧ m = C k)) ⟨fun k hk => by omega, .inl rfl⟩ n (fun i m hi hv => by
      obtain ⟨v1, v2⟩ := hv
      by_cases hz : i = 0
      · subst hz
        rw [if_pos rfl]
        exact ⟨fun k hk => by rw [show k = 0 by omega]; exact Int.le_refl _, .inr ⟨0, by omega, rfl⟩⟩
      · rw [if_neg hz]
        rcases v2 with v2 | ⟨k0, k1, k2⟩
        · omega
        · split
          · rename_i hlt
            exact ⟨fun k hk => by
              by_cases hki : k = i
              · rw [hki]; exact Int.le_refl _
              · have := v1 k (by omega); omega, .inr ⟨i, by omega, rfl⟩⟩
          · rename_i hlt
            exact ⟨fun k hk => by
              by_cases hki : k = i
              · rw [hki]; omega
              · exact v1 k (by omega), .inr ⟨k0, by omega, k2⟩⟩)
    refine ⟨this.1, ?_⟩
    rcases this.2 with h | h
    · omega
    · exact h

/-- The greatest count is the most. -/
theorem max_most {n : Nat} {rem : Rem} {rs : List (List Int)} (hn : n ≤ 8) (hf : 0 < freeN rem n) : M_slices_Max_sint_int (rowN n (cntC rem rs)) = some (mostN (cntC rem rs) n) := by
  obtain ⟨k0, hk0, hr0⟩ := (free_pos n).1.1 hf
  obtain ⟨M, m1, m2, k, hk, m3⟩ := max_row (C := cntC rem rs) hn (show 1 ≤ n by omega)
  obtain ⟨g1, g2, g3⟩ := most_ok (C := cntC rem rs) n
  have hp := ((cnt_ok rem rs k0).2 hr0).1
  have h1 := m2 k0 hk0
  have h2 := g2 k hk
  rw [m1]
  congr 1
  rcases g3 with g3 | ⟨j, hj, g3⟩
  · omega
  · have := m2 j hj
    omega

def leftF (C : Nat → Int) (i : Nat) (c : Int) : Int := if C i < 0 then c else c + 1

theorem left_free {rem : Rem} {rs : List (List Int)} : ∀ n, iterN (leftF (cntC rem rs)) 0 n = ((freeN rem n : Nat) : Int)
  | 0 => rfl
  | n + 1 => by
    have e : freeN rem (n + 1) = freeF rem n (freeN rem n) := rfl
    rw [iterN, left_free n, e]
    unfold leftF freeF
    by_cases h : rem n = true
    · rw [if_pos h, if_pos ((cnt_neg n).2 h)]
    · rw [if_neg h, if_neg (fun hh => h ((cnt_neg n).1 hh))]
      omega

theorem I_scan_loop {β : Type} {n : Nat} {rem : Rem} {rs : List (List Int)} (hn : n ≤ 8) (hrs : rs.length ≤ 24) (fin : Int → Int → Int → Option β) {body : (Int × Int × Int × Int → Option β) → Int × Int × Int × Int → Option β}
    (hb : ∀ again s, body again s = cond (decide (s.2.2.2 < (((rowN n (cntC rem rs)).length : Nat) : Int))) (bindO (getI (rowN n (cntC rem rs)) s.2.2.2) fun a8 => cond (decide (a8 < 0)) (bindO (some (IntKind.wrap .i64 (s.2.2.2 + 1))) fun a9 => again (s.1, s.2.1, s.2.2.1, a9)) (bindO (some (IntKind.wrap .i64 (s.1 + a8))) fun a10 => bindO (some (IntKind.wrap .i64 (s.2.1 + 1))) fun a11 => cond (decide (s.2.2.1 < 0)) (bindO (some (IntKind.wrap .i64 (s.2.2.2 + 1))) fun a12 => again (a10, a11, s.2.2.2, a12)) (bindO (getI (rowN n (cntC rem rs)) s.2.2.1) fun a13 => cond (decide (a8 ≤ a13)) (bindO (some (IntKind.wrap .i64 (s.2.2.2 + 1))) fun a14 => again (a10, a11, s.2.2.2, a14)) (bindO (some (IntKind.wrap .i64 (s.2.2.2 + 1))) fun a15 => again (a10, a11, s.2.2.1, a15))))) (fin s.1 s.2.1 s.2.2.1)) :
    loopO body (0, 0, -1, 0) = fin (scanN (cntC rem rs) n).1 ((freeN rem n : Nat) : Int) (scanN (cntC rem rs) n).2 := by
  have hC := cntC_le (rem := rem) hrs
  have e : iterN (fun i (s : (Int × Int) × Int) => (scan (cntC rem rs) i s.1, leftF (cntC rem rs) i s.2)) ((0, -1), 0) n = (scanN (cntC rem rs) n, ((freeN rem n : Nat) : Int)) := (iterN_pair (scan (cntC rem rs)) (leftF (cntC rem rs)) (0, -1) 0 n).trans (by rw [left_free]; rfl)
  refine (iter_loop (fun i (s : (Int × Int) × Int) => (scan (cntC rem rs) i s.1, leftF (cntC rem rs) i s.2)) ((0, -1), 0) n (fun i s => (s.1.1, s.2, s.1.2, i)) (fun s => fin s.1.1 s.2 s.1.2) (fun i s => s = (scanN (cntC rem rs) i, ((freeN rem i : Nat) : Int))) (by omega) rfl (fun i s _ hv => by
      subst hv
      refine Prod.ext rfl ?_
      have e1 := left_free (rem := rem) (rs := rs) i
      have e2 := left_free (rem := rem) (rs := rs) (i + 1)
      rw [iterN, e1] at e2
      exact e2) (fun again i s hi hv => ?_) (fun again s hv => ?_)).trans (by rw [e])
  · subst hv
    obtain ⟨⟨h1, h2⟩, h3⟩ := scan_ok (C := cntC rem rs) (B := 24) hC i
    have hm := (free_pos (rem := rem) i).2
    have hCi := hC i
    rw [hb]
    dsimp only
    unfold scan leftF
    generalize scanN (cntC rem rs) i = s at h1 h2 h3
    rw [rowN_len, lt_yes hi]
    simp only [cond_true, getI_nat, rowN_get hi, bindO_some', i64_succ (show i < 2 ^ 62 by omega), i64_in (((freeN rem i : Nat) : Int) + 1) (by omega)]
    by_cases hneg : cntC rem rs i < 0
    · simp only [hneg, decide_true, cond_true, if_true]
    · rw [if_neg hneg, if_neg hneg, decide_eq_false hneg, cond_false, i64_in (s.1 + cntC rem rs i) (by omega)]
      rcases h3 with ⟨a, b⟩ | ⟨a, b, c⟩
      · rw [a]
        simp
      · rw [decide_eq_false (show ¬ s.2 < 0 by omega), if_neg (show ¬ s.2 < 0 by omega)]
        obtain ⟨L, hL⟩ := Int.eq_ofNat_of_zero_le a
        rw [hL]
        have hLn : L < n := by omega
        simp only [cond_false, getI_nat, rowN_get hLn, bindO_some', Int.toNat_natCast]
        by_cases hle : cntC rem rs i ≤ cntC rem rs L
        · simp [hle]
        · simp [hle]
  · subst hv
    rw [hb]
    dsimp only
    rw [rowN_len, lt_no, cond_false]

theorem remB_set {out : List Bool} {a : Nat} (ha : a < out.length) : remB (out.set a true) = remA (remB out) a := by
  funext k
  show (out.set a true).getD k false = (out.getD k false || k == a)
  rw [List.getD_eq_getElem?_getD, List.getD_eq_getElem?_getD, List.getElem?_set]
  by_cases hk : a = k
  · subst hk
    simp [ha]
  · have : (k == a) = false := beq_eq_false_iff_ne.2 fun e => hk e.symm
    rw [if_neg hk, this, Bool.or_false]

theorem I_rounds_eq {n : Nat} {rs : List (List Int)} (hn : n ≤ 8) (hn1 : 1 ≤ n) (hrs : rs.length ≤ 24) (hre : ∀ r ∈ rs, r.length ≤ 8 ∧ ∀ a ∈ r, 0 ≤ a ∧ a < n) : M_I_rounds ((n : Int), rs) = some (rndF n rs (freeN (inO []) n) (inO []) []) := by
  unfold M_I_rounds
  dsimp only
  have hlim : ((n : Int)) ≤ ((lim : Nat) : Int) := by rw [lim_eq]; omega
  have hrem0 : remB (List.replicate n false) = inO [] := by
    funext k
    unfold remB inO
    rw [List.getD_eq_getElem?_getD, List.getElem?_replicate]
    split <;> rfl
  have hf0 : freeN (inO []) n = n := by
    have : ∀ m, freeN (inO []) m = m := fun m => by
      induction m with
      | zero => rfl
      | succ m ih => exact congrArg (· + 1) ih
    exact this n
  rw [guardO_of (by simpa using hlim), bindO_some', Int.toNat_natCast]
  refine (loopO_spec (fun (s : List (List Int) × List Bool) => some (rndF n rs (freeN (remB s.2) n) (remB s.2) s.1)) (fun s => s.2.length = n ∧ 1 ≤ freeN (remB s.2) n ∧ s.1.length + freeN (remB s.2) n = n) (fun s => freeN (remB s.2) n) (fun again s hs ih => ?_) (s := ([], List.replicate n false)) ⟨by simp, by dsimp only; rw [hrem0, hf0]; omega, by dsimp only; rw [hrem0, hf0]; simp⟩ (by dsimp only; rw [hrem0, hf0]; omega)).trans (by dsimp only; rw [hrem0])
  obtain ⟨acc, out⟩ := s
  obtain ⟨h1, h2, h3⟩ := hs
  dsimp only at h1 h2 h3 ih ⊢
  rw [I_round_eq hn hrs hre h1, bindO_some', guardO_of (lenOk_of (by simp; omega)), bindO_some', bindO_some']
  obtain ⟨F, hF⟩ : ∃ F, freeN (remB out) n = F + 1 := ⟨freeN (remB out) n - 1, by omega⟩
  have hle := cntC_le (rem := remB out) hrs
  have hsf := scan_free (rem := remB out) (n := n) hrs (by omega)
  refine (I_scan_loop hn hrs (fun total left least => cond (decide (left ≤ 1)) (some (acc ++ [rowN n (cntC (remB out) rs)])) (bindO (M_slices_Max_sint_int (rowN n (cntC (remB out) rs))) fun a16 => bindO (some (IntKind.wrap .i64 (2 * a16))) fun a17 => cond (decide (a17 > total)) (some (acc ++ [rowN n (cntC (remB out) rs)])) (bindO (getI out least) fun _ => bindO (some (List.set out (Int.toNat least) true)) fun a19 => again (acc ++ [rowN n (cntC (remB out) rs)], a19)))) (fun _ _ => rfl)).trans ?_
  have hm := mostN_le hle n
  have hm0 := (most_ok (C := cntC (remB out) rs) n).1
  rw [max_most hn (by omega), bindO_some', i64_in (2 * mostN (cntC (remB out) rs) n) (by omega), bindO_some']
  rw [show some (rndF n rs (freeN (remB out) n) (remB out) acc) = some (rndF n rs (F + 1) (remB out) acc) by rw [hF], rndF]
  unfold stopB
  generalize hS : scanN (cntC (remB out) rs) n = sc at hsf
  by_cases hst : 2 * mostN (cntC (remB out) rs) n > sc.1
  · by_cases hl : F = 0 <;> simp [hst]
  · rw [decide_eq_false hst, Bool.false_or, cond_false]
    by_cases hl : F = 0
    · rw [decide_eq_true (show ((freeN (remB out) n : Nat) : Int) ≤ 1 by omega), decide_eq_true (show freeN (remB out) n ≤ 1 by omega)]
      rfl
    · rw [decide_eq_false (show ¬ ((freeN (remB out) n : Nat) : Int) ≤ 1 by omega), decide_eq_false (show ¬ freeN (remB out) n ≤ 1 by omega), cond_false, cond_false]
      obtain ⟨L, hL⟩ := Int.eq_ofNat_of_zero_le hsf.1
      rw [hL] at hsf ⊢
      rw [Int.toNat_natCast] at hsf
      have hLo : L < out.length := by omega
      have hadd := free_add (rem := remB out) (rem' := remB (out.set L true)) (a := L) hsf.2.2 (fun k => by rw [remB_set hLo]; rfl) n
      rw [if_pos (show L < n by omega)] at hadd
      rw [getI_nat, getD_at (d := false) hLo, bindO_some', bindO_some', Int.toNat_natCast]
      have := ih (acc ++ [rowN n (cntC (remB out) rs)], out.set L true) ⟨by simp [h1], by dsimp only; omega, by simp; omega⟩ (by dsimp only; omega)
      rw [this]
      dsimp only
      rw [show freeN (remB (out.set L true)) n = F by omega, remB_set hLo]

theorem rndF_size {n : Nat} {rs : List (List Int)} : ∀ (f : Nat) (rem : Rem) (acc : List (List Int)), (∀ r ∈ acc, r.length = n) → (rndF n rs f rem acc).length ≤ acc.length + f ∧ ∀ r ∈ rndF n rs f rem acc, r.length = n
  | 0, rem, acc, h => ⟨Nat.le_refl _, h⟩
  | f + 1, rem, acc, h => by
    have h' : ∀ r ∈ acc ++ [rowN n (cntC rem rs)], r.length = n := fun r hr => by
      simp only [List.mem_append, List.mem_singleton] at hr
      rcases hr with hr | rfl
      · exact h r hr
      · exact rowN_len ..
    rw [rndF]
    cases stopB (cntC rem rs) rem n
    · have := rndF_size (rs := rs) f (remA rem (scanN (cntC rem rs) n).2.toNat) (acc ++ [rowN n (cntC rem rs)]) h'
      rw [cond_false]
      simp only [List.length_append, List.length_cons, List.length_nil] at this ⊢
      exact ⟨by omega, this.2⟩
    · rw [cond_true]
      exact ⟨by simp, h'⟩

theorem okR_re {k : Int} {rs : List (List Int)} (h : okR k rs = true) : ∃ n : Nat, k = (n : Int) ∧ 1 ≤ n ∧ n ≤ 8 ∧ rs.length ≤ 24 ∧ ∀ r ∈ rs, r.length ≤ 8 ∧ ∀ a ∈ r, 0 ≤ a ∧ a < n := by
  obtain ⟨h1, h2, h3, h4⟩ := okR_spec h
  obtain ⟨n, rfl⟩ := Int.eq_ofNat_of_zero_le (show 0 ≤ k by omega)
  exact ⟨n, rfl, by omega, by omega, h3, fun r hr => ⟨nodup_short h2 (h4 r hr).1 (h4 r hr).2, fun a ha => by have := (h4 r hr).1 a ha; omega⟩⟩

def bestF (C : Nat → Int) (i : Nat) (b : Int) : Int := if b < 0 then (i : Int) else if C i > C b.toNat then (i : Int) else b

def bestN (C : Nat → Int) (n : Nat) : Int := iterN (bestF C) (-1) n

theorem best_ok {C : Nat → Int} : ∀ n, (n = 0 ∧ bestN C n = -1) ∨ ∃ b : Nat, bestN C n = (b : Int) ∧ b < n ∧ (∀ k, k < n → C k ≤ C b) ∧ ∀ k, k < b → C k < C b
  | 0 => .inl ⟨rfl, rfl⟩
  | n + 1 => by
    have e : bestN C (n + 1) = bestF C n (bestN C n) := rfl
    rw [e]
    right
    unfold bestF
    rcases best_ok (C := C) n with ⟨h0, h1⟩ | ⟨b, h1, h2, h3, h4⟩
    · subst h0
      rw [h1, if_pos (by omega)]
      exact ⟨0, rfl, by omega, fun k hk => by rw [show k = 0 by omega]; exact Int.le_refl _, fun k hk => by omega⟩
    · rw [h1, if_neg (by omega), Int.toNat_natCast]
      by_cases hlt : C n > C b
      · rw [if_pos hlt]
        refine ⟨n, rfl, by omega, fun k hk => ?_, fun k hk => ?_⟩
        · by_cases hkn : k = n
          · rw [hkn]; exact Int.le_refl _
          · have := h3 k (by omega); omega
        · have := h3 k hk; omega
      · rw [if_neg hlt]
        refine ⟨b, rfl, by omega, fun k hk => ?_, h4⟩
        by_cases hkn : k = n
        · rw [hkn]; omega
        · exact h3 k (by omega)

theorem tTop_one {n : Nat} {C : Nat → Int} (hn : n ≤ 8) : M_S_tTop (rowN n C, 1) = some [bestN C n] := by
  unfold M_S_tTop
  dsimp only
  refine (loopO_spec (fun (s : List Int) => if s = [] then some [bestN C n] else some s) (fun s => s.length ≤ 1) (fun s => 1 - s.length) (fun again s hs ih => ?_) (s := []) (by simp) (by simp)).trans (by simp)
  by_cases h : s = []
  · subst h
    rw [if_pos rfl, decide_eq_true (show (([] : List Int).length : Int) < 1 by simp), cond_true]
    refine (iter_loop (bestF C) (-1) n (fun i b => (b, i)) (fun b => bindO (guardO (lenOk (([] : List Int).length + [b].length))) fun _ => bindO (some (([] : List Int) ++ [b])) fun a12 => again a12) (fun i b => b = bestN C i) (by omega) rfl (fun i b _ hv => by subst hv; rfl) (fun again2 i b hi hv => ?_) (fun again2 b hv => ?_)).trans ?_
    · have hh : M_S_l1Has ([], (i : Int)) = some false := by rw [has_eq (by simp)]; rfl
      simp only [rowN_len, lt_yes hi, cond_true, getI_nat, rowN_get hi, bindO_some', hh, Bool.not_false, i64_succ (show i < 2 ^ 62 by omega)]
      unfold bestF
      rcases best_ok (C := C) i with ⟨h0, h1⟩ | ⟨B, h1, h2, h3, h4⟩
      · rw [hv, h1]
        simp
      · rw [hv, h1, if_neg (show ¬ (B : Int) < 0 by omega), decide_eq_false (show ¬ (B : Int) < 0 by omega), cond_false, getI_nat, rowN_get (show B < n by omega), bindO_some', Int.toNat_natCast]
        by_cases hlt : C i > C B
        · simp [hlt]
        · simp [hlt]
    · simp only [rowN_len, lt_no, cond_false]
    · rw [guardO_of (lenOk_of (by simp)), bindO_some', bindO_some']
      have := ih [bestN C n] (by simp) (by simp)
      rw [List.nil_append, show bestN C n = iterN (bestF C) (-1) n from rfl] at *
      rw [this, if_neg (by simp)]
  · have hl : s.length = 1 := by
      have := List.length_pos_iff.2 h
      omega
    rw [if_neg h, hl]
    rfl

theorem index_best {n b : Nat} {C : Nat → Int} (hn : n ≤ 8) (hb : b < n) (h : ∀ k, k < b → C k < C b) : M_slices_Index_sint_int (rowN n C, C b) = some (b : Int) := by
  unfold M_slices_Index_sint_int
  dsimp only
  refine (loopO_for (σ := Unit) (fun i _ => (i : Int)) n (fun _ _ => some (b : Int)) (fun i _ => i ≤ b) (fun again _ hv => by omega) (fun again i _ hi hv ih => ?_) (by omega) (i := 0) (s := ()) (Nat.zero_le _) (Nat.zero_le _)).trans rfl
  simp only [rowN_len, lt_yes hi, cond_true, getI_nat, rowN_get hi, bindO_some', i64_succ (show i < 2 ^ 62 by omega)]
  by_cases hib : i = b
  · subst hib
    simp
  · have := h i (by omega)
    simp only [beq_eq_false_iff_ne.2 (show C b ≠ C i by omega), cond_false]
    exact ih () (by omega)

theorem row_of {l : List Int} : l = rowN l.length fun k => l.getD k 0 := by
  refine List.ext_getElem? fun k => ?_
  by_cases hk : k < l.length
  · rw [rowN_get hk, getD_at hk]
  · rw [List.getElem?_eq_none (by omega), List.getElem?_eq_none (by rw [rowN_len]; omega)]

theorem winner_of {l : List Int} (h1 : 1 ≤ l.length) (h8 : l.length ≤ 8) : ∃ w M, M_S_tTop (l, 1) = some [w] ∧ M_slices_Max_sint_int l = some M ∧ M_slices_Index_sint_int (l, M) = some w := by
  generalize hn : l.length = n at h1 h8
  have hl : l = rowN n fun k => l.getD k 0 := by rw [← hn]; exact row_of
  generalize (fun k => l.getD k 0) = C at hl
  obtain ⟨M, m1, m2, k, hk, m3⟩ := max_row (C := C) h8 h1
  rcases best_ok (C := C) n with ⟨h0, _⟩ | ⟨b, b1, b2, b3, b4⟩
  · omega
  · have hMb : M = C b := by
      have := m2 b b2
      have := b3 k hk
      omega
    refine ⟨(b : Int), M, ?_, ?_, ?_⟩
    · rw [hl, tTop_one h8, b1]
    · rw [hl, m1]
    · rw [hl, hMb, index_best h8 b2 b4]

theorem rndF_last {n : Nat} {rs : List (List Int)} (f : Nat) (rem : Rem) (acc : List (List Int)) (hf : 1 ≤ f) (hf8 : acc.length + f ≤ 1000) (h : ∀ r ∈ acc, r.length = n) : ∃ l, getI (rndF n rs f rem acc) (IntKind.wrap .i64 (((rndF n rs f rem acc).length : Int) - 1)) = some l ∧ l.length = n := by
  obtain ⟨g1, g2⟩ := rndF_size (n := n) (rs := rs) f rem acc h
  have g3 : ∀ (f : Nat) (rem : Rem) (acc : List (List Int)), acc.length ≤ (rndF n rs f rem acc).length := fun f => by
    induction f with
    | zero => intro rem acc; exact Nat.le_refl _
    | succ f ih =>
      intro rem acc
      rw [rndF]
      cases stopB (cntC rem rs) rem n
      · have := ih (remA rem (scanN (cntC rem rs) n).2.toNat) (acc ++ [rowN n (cntC rem rs)])
        rw [cond_false]
        rw [List.length_append] at this
        omega
      · rw [cond_true, List.length_append]; omega
  have g4 : 1 ≤ (rndF n rs f rem acc).length := by
    obtain ⟨f, rfl⟩ : ∃ f', f = f' + 1 := ⟨f - 1, by omega⟩
    rw [rndF]
    cases stopB (cntC rem rs) rem n
    · have := g3 f (remA rem (scanN (cntC rem rs) n).2.toNat) (acc ++ [rowN n (cntC rem rs)])
      rw [cond_false]
      simp at this
      omega
    · simp
  generalize rndF n rs f rem acc = L at g1 g2 g4
  have hi : L.length - 1 < L.length := by omega
  refine ⟨L[L.length - 1], ?_, g2 _ (List.getElem_mem hi)⟩
  rw [i64_in _ (by omega), show (L.length : Int) - 1 = ((L.length - 1 : Nat) : Int) by omega, getI_nat, List.getElem?_eq_getElem hi]

theorem RunoffWinner_eq {k : Int} {rs : List (List Int)} (hx : rs.length < 2 ^ 62) (hr : ∀ r ∈ rs, r.length < 2 ^ 62) : ∃ w b, M_S_RunoffWinner (k, rs) = some (w, b) ∧ M_I_RunoffWinner (k, rs) = some (w, b) := by
  unfold M_S_RunoffWinner M_I_RunoffWinner M_S_tRunoff
  dsimp only
  rw [tRanks_eq hr, areRankings_eq hx hr, bindO_some', bindO_some']
  cases hok : okR k rs
  · exact ⟨0, false, rfl, rfl⟩
  obtain ⟨n, rfl, h1, h2, h3, h4⟩ := okR_re hok
  have hf : freeN (inO []) n = n := by
    have : ∀ m, freeN (inO []) m = m := fun m => by
      induction m with
      | zero => rfl
      | succ m ih => exact congrArg (· + 1) ih
    exact this n
  obtain ⟨l, l1, l2⟩ := rndF_last (n := n) (rs := rs) (freeN (inO []) n) (inO []) [] (by omega) (by simp; omega) (fun r hr => by simp at hr)
  obtain ⟨w, M, w1, w2, w3⟩ := winner_of (l := l) (by omega) (by omega)
  refine ⟨w, true, ?_, ?_⟩
  · simp only [Bool.not_true, cond_false, S_tRounds_eq h2 h1 h3 h4, bindO_some', l1, w1, getI_zero, List.getElem?_cons_zero]
  · simp only [Bool.not_true, cond_false, I_rounds_eq h2 h1 h3 h4, bindO_some', l1, w2, w3]

theorem law_FnExactRunoffWinner (x : Int × List (List Int)) (h : WFI [.data (.int .i64), .data (.sl (.sl (.int .i64)))] x) : M_L_FnExactRunoffWinner x = some true := by
  obtain ⟨k, x⟩ := x
  obtain ⟨h1, h2⟩ := wf_ss (x := x) h.2
  unfold M_L_FnExactRunoffWinner
  dsimp only
  obtain ⟨z, hz, hb⟩ := szIntSS_eq h1 h2
  rw [hz, bindO_some']
  by_cases h0 : z < 0
  · simp [h0]
  · have hb := hb (by omega)
    have h3 : x.length < 2 ^ 62 := by omega
    have h4 : ∀ r ∈ x, r.length < 2 ^ 62 := fun r hr => by have := row_le hr; omega
    obtain ⟨w, b, hS, hI⟩ := RunoffWinner_eq (k := k) h3 h4
    simp [h0, toIntSS_eq hb, hS, hI, eqIntSS_eq h3 h4]

end Go.Proofs.Ytnnkhkljdjbioaa.Vd
