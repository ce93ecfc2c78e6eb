/- The law FnPairwise as plain functions on data returns true for all arguments. No conditions. -/
import Derived.Test.YtgjneigkkgaaiaaPwMod
set_option linter.unusedVariables false
set_option linter.unusedSimpArgs false
set_option linter.unusedSectionVars false
set_option linter.unnecessarySimpa false
namespace Go.Proofs.Ytgjneigkkgaaiaa.Vd
open Go.IntWalk

theorem i64_succ {i : Nat} (h : i < 2 ^ 62) : IntKind.wrap .i64 ((i : Int) + 1) = ((i + 1 : Nat) : Int) := by
  rw [i64_in _ (by omega)]
  rfl

theorem lt_yes {i n : Nat} (h : i < n) : decide ((i : Int) < (n : Int)) = true := by simp [h]

theorem lt_no (n : Nat) : decide ((n : Int) < (n : Int)) = false := by simp

/-- A walk over a list by its numbers, with no other state. -/
def walk {α β : Type} (step : Nat → α → Option β → Option β) (fin : Option β) : Nat → List α → Option β
  | _, [] => fin
  | i, a :: r => step i a (walk step fin (i + 1) r)

theorem loop_walk {α β : Type} {body : (Int → Option β) → Int → Option β} (l : List α) (step : Nat → α → Option β → Option β) (fin : Option β)
    (h : ∀ (again : Int → Option β) (i : Nat) a, l[i]? = some a → i < l.length → body again (i : Int) = step i a (again ((i + 1 : Nat) : Int)))
    (hend : ∀ again : Int → Option β, body again (l.length : Int) = fin) (hl : l.length < 2 ^ 64) : loopO body 0 = walk step fin 0 l := by
  refine (loopO_for (σ := Unit) (fun i _ => (i : Int)) l.length (fun i _ => walk step fin i (l.drop i)) (fun _ _ => True) (fun again _ _ => ?_) (fun again i _ hi _ ih => ?_) hl (i := 0) (s := ()) (Nat.zero_le _) trivial).trans rfl
  · simp [hend, walk]
  · rw [h again i l[i] (List.getElem?_eq_getElem hi) hi, ih () trivial, List.drop_eq_getElem_cons hi, walk]

/-- A walk over a list by its numbers, with a state (before the number). -/
def walkS {α β σ : Type} (step : Nat → α → σ → (σ → Option β) → Option β) (fin : σ → Option β) : Nat → List α → σ → Option β
  | _, [], s => fin s
  | i, a :: r, s => step i a s (walkS step fin (i + 1) r)

/-- The same, where the states keep something. -/
theorem loop_walkI {α β σ τ : Type} {body : (τ → Option β) → τ → Option β} (enc : Int → σ → τ) (l : List α) (step : Nat → α → σ → (σ → Option β) → Option β) (fin : σ → Option β) (Inv : Nat → σ → Prop)
    (hc : ∀ (i : Nat) a s (k k' : σ → Option β), l[i]? = some a → Inv i s → (∀ s', Inv (i + 1) s' → k s' = k' s') → step i a s k = step i a s k')
    (h : ∀ (again : τ → Option β) (i : Nat) a s, l[i]? = some a → i < l.length → Inv i s → body again (enc i s) = step i a s fun s' => again (enc ((i + 1 : Nat) : Int) s'))
    (hend : ∀ (again : τ → Option β) s, Inv l.length s → body again (enc l.length s) = fin s) (hl : l.length < 2 ^ 64) (s : σ) (h0 : Inv 0 s) : loopO body (enc 0 s) = walkS step fin 0 l s := by
  refine (loopO_for (σ := σ) (fun i s => enc (i : Int) s) l.length (fun i s => walkS step fin i (l.drop i) s) Inv (fun again s hs => ?_) (fun again i s hi hs ih => ?_) hl (i := 0) (s := s) (Nat.zero_le _) h0).trans rfl
  · simp [hend _ _ hs, walkS]
  · rw [h again i l[i] s (List.getElem?_eq_getElem hi) hi hs, List.drop_eq_getElem_cons hi, walkS]
    exact hc i l[i] s _ _ (List.getElem?_eq_getElem hi) hs fun s' hs' => ih s' hs'

theorem walk_any {α : Type} (p : α → Bool) : ∀ (l : List α) (i : Nat), walk (fun _ a k => if p a = true then some true else k) (some false) i l = some (l.any p)
  | [], _ => rfl
  | a :: l, i => by
    rw [walk, walk_any p l]
    cases h : p a <;> simp [h]

theorem walk_all {α : Type} (p : α → Bool) : ∀ (l : List α) (i : Nat), walk (fun _ a k => if p a = true then k else some false) (some true) i l = some (l.all p)
  | [], _ => rfl
  | a :: l, i => by
    rw [walk, walk_all p l]
    cases h : p a <;> simp [h]

theorem walk_index {α : Type} (p : α → Bool) : ∀ (l : List α) (i : Nat), ∃ j : Int, walk (fun i a k => if p a = true then some (i : Int) else k) (some (-1)) i l = some j ∧ decide (j ≥ 0) = l.any p
  | [], _ => ⟨-1, rfl, rfl⟩
  | a :: l, i => by
    obtain ⟨j, h1, h2⟩ := walk_index p l (i + 1)
    cases h : p a
    · exact ⟨j, by simp [walk, h, h1], by simp [h, h2]⟩
    · exact ⟨i, by simp [walk, h], by simp [h]⟩

theorem has_eq {l : List Int} {n : Int} (hl : l.length < 2 ^ 62) : M_S_l1Has (l, n) = some (l.any (· == n)) := by
  unfold M_S_l1Has
  refine (loop_walk l (fun _ a k => if (a == n) = true then some true else k) (some false) (fun again i a ha hi => ?_) (fun again => ?_) (by omega)).trans (walk_any _ l 0)
  · simp only [getI_nat, ha, bindO_some', i64_succ (show i < 2 ^ 62 by omega)]
    cases h : a == n <;> simp [h, hi]
  · simp

theorem index_eq {l : List Int} {n : Int} (hl : l.length < 2 ^ 62) : ∃ j : Int, M_slices_Index_sint_int (l, n) = some j ∧ decide (j ≥ 0) = l.any (· == n) := by
  obtain ⟨j, h1, h2⟩ := walk_index (fun a : Int => a == n) l 0
  refine ⟨j, ?_, h2⟩
  unfold M_slices_Index_sint_int
  refine (loop_walk l (fun i a k => if (a == n) = true then some (i : Int) else k) (some (-1)) (fun again i a ha hi => ?_) (fun again => ?_) (by omega)).trans h1
  · simp only [getI_nat, ha, bindO_some', i64_succ (show i < 2 ^ 62 by omega), lt_yes hi, cond_true]
    rw [show (n == a) = (a == n) from BEq.comm]
    cases h : a == n <;> simp [h]
  · simp

theorem lenOk_of {n : Nat} (h : n ≤ 68719476736) : lenOk n = true := by simp [lenOk, lim_eq, h]

theorem sliceNH_nat {h n : Nat} (hh : h ≤ n) : sliceNH (h : Int) n = some (0, h) := by
  unfold sliceNH
  rw [if_pos ⟨by omega, by omega⟩]
  simp

theorem contains_eq {l : List Int} {n : Int} (hl : l.length < 2 ^ 62) : M_slices_Contains_sint_int (l, n) = some (l.any (· == n)) := by
  obtain ⟨j, h1, h2⟩ := index_eq (n := n) hl
  unfold M_slices_Contains_sint_int
  dsimp only
  rw [h1, bindO_some', h2]

/-- A loop whose states go down: a property of its answer. -/
theorem loopO_ind {σ β : Type} {body : (σ → Option β) → σ → Option β} (Q : σ → Option β → Prop) (Inv : σ → Prop) (μ : σ → Nat)
    (step : ∀ (again : σ → Option β) s, Inv s → (∀ s', Inv s' → μ s' < μ s → Q s' (again s')) → Q s (body again s)) {s : σ} (h0 : Inv s) (hm : μ s < 2 ^ 64) : Q s (loopO body s) := by
  rw [loopO_eq]
  have H : ∀ (n : Nat) (s : σ), Inv s → μ s < n → Q s (iter body n s) := by
    intro n
    induction n with
    | zero => intro s _ h; exact absurd h (Nat.not_lt_zero _)
    | succ n ih => intro s hs h; exact step _ s hs fun s' hs' h' => ih s' hs' (by omega)
  exact H many s h0 hm

/-- Two loops of the same steps have the same answer. -/
theorem loopO_eqv {σ τ β : Type} {b1 : (σ → Option β) → σ → Option β} {b2 : (τ → Option β) → τ → Option β} {s : σ} {t : τ} (R : σ → τ → Prop) (h0 : R s t)
    (step : ∀ (a1 : σ → Option β) (a2 : τ → Option β) s t, R s t → (∀ s' t', R s' t' → a1 s' = a2 t') → b1 a1 s = b2 a2 t) : loopO b1 s = loopO b2 t :=
  loopO_rel R (fun y z => y = z) rfl step h0

theorem in_eq (x a b : Int) : M_S_l1In (x, a, b) = some (decide (a ≤ x ∧ x ≤ b)) := by
  by_cases h : a ≤ x <;> by_cases h2 : x ≤ b <;> simp [M_S_l1In, h, h2]

theorem within_eq (x a b : Int) : M_I_within (x, a, b) = some (decide (a ≤ x ∧ x ≤ b)) := by
  by_cases h : a ≤ x <;> by_cases h2 : x ≤ b <;> simp [M_I_within, h, h2]

theorem l1All_eq {l : List Int} {lo hi : Int} (hl : l.length < 2 ^ 62) : M_S_l1All (l, lo, hi) = some (l.all fun n => decide (lo ≤ n ∧ n ≤ hi)) := by
  unfold M_S_l1All
  refine (loop_walk l (fun _ a k => if (decide (lo ≤ a ∧ a ≤ hi)) = true then k else some false) (some true) (fun again i a ha hi' => ?_) (fun again => ?_) (by omega)).trans (walk_all (fun n => decide (lo ≤ n ∧ n ≤ hi)) l 0)
  · simp only [getI_nat, ha, bindO_some', i64_succ (show i < 2 ^ 62 by omega), lt_yes hi', cond_true, in_eq]
    cases decide (lo ≤ a ∧ a ≤ hi) <;> rfl
  · simp

theorem walk_index_mem {α : Type} (p : α → Bool) (f : α → Option Bool) : ∀ (l : List α) (i : Nat), (∀ a ∈ l, f a = some (p a)) →
    ∃ j : Int, walk (fun i a k => bindO (f a) fun b => cond b (some (i : Int)) k) (some (-1)) i l = some j ∧ decide (j ≥ 0) = l.any p
  | [], _, _ => ⟨-1, rfl, rfl⟩
  | a :: l, i, hf => by
    obtain ⟨j, h1, h2⟩ := walk_index_mem p f l (i + 1) fun b hb => hf b (List.mem_cons_of_mem _ hb)
    have ha := hf a (List.mem_cons_self ..)
    cases h : p a
    · exact ⟨j, by simp [walk, ha, h, h1], by simp [h, h2]⟩
    · exact ⟨i, by simp [walk, ha, h], by simp [h]⟩

theorem containsFunc_eq {l : List Int} {f : Int → Option Bool} {p : Int → Bool} (hl : l.length < 2 ^ 62) (hf : ∀ a ∈ l, f a = some (p a)) : M_slices_ContainsFunc_sint_int (l, f) = some (l.any p) := by
  obtain ⟨j, h1, h2⟩ := walk_index_mem p f l 0 hf
  unfold M_slices_ContainsFunc_sint_int
  have : M_slices_IndexFunc_sint_int (l, f) = some j := by
    unfold M_slices_IndexFunc_sint_int
    refine (loop_walk l _ _ (fun again i a ha hi => ?_) (fun again => ?_) (by omega)).trans h1
    · simp only [getI_nat, ha, bindO_some', i64_succ (show i < 2 ^ 62 by omega), lt_yes hi, cond_true]
    · simp
  dsimp only
  rw [this, bindO_some', h2]

theorem areAll_eq {l : List Int} {f : Int → Option Bool} {p : Int → Bool} (hl : l.length < 2 ^ 62) (hf : ∀ a ∈ l, f a = some (p a)) : M_I_areAll (l, f) = some (l.all p) := by
  unfold M_I_areAll
  dsimp only
  rw [containsFunc_eq (p := fun a => !p a) hl fun a ha => by simp [M_I_areAll_1, hf a ha], bindO_some']
  congr 1
  rw [List.any_eq_not_all_not]
  simp

/-- A product of residues. -/
def prodM (p : Int) : Int → List Int → Int
  | out, [] => out
  | out, x :: l => prodM p (out * x % p) l

def hstep (c s k : Int) : Int := (c * s + k + 1) % 2147483647

/-- a over b. -/
def over (p q a b : Int) : Int := prodM p 1 [a, b ^ (q - 1).toNat % p]

/-- A proposition as a Boolean. -/
noncomputable def pdec (p : Prop) : Bool := @decide p (Classical.propDecidable p)

theorem pdec_iff {p : Prop} : pdec p = true ↔ p := by simp [pdec]

theorem pdec_yes {p : Prop} (h : p) : pdec p = true := pdec_iff.2 h

theorem pdec_no {p : Prop} (h : ¬ p) : pdec p = false := by simp [pdec, h]

/-- A walk that checks: `G i` holds of the first i elements. -/
theorem loop_check {α β : Type} {body : (Int → Option β) → Int → Option β} (l : List α) (G : Nat → Prop) (yes no : Option β)
    (hstep : ∀ (again : Int → Option β) (i : Nat) a, l[i]? = some a → i < l.length → G i → (body again (i : Int) = again ((i + 1 : Nat) : Int) ∧ G (i + 1)) ∨ (body again (i : Int) = no ∧ ¬ G l.length))
    (hend : ∀ again : Int → Option β, body again (l.length : Int) = yes) (h0 : G 0) (hl : l.length < 2 ^ 64) : (G l.length → loopO body 0 = yes) ∧ (¬ G l.length → loopO body 0 = no) := by
  constructor
  · intro hG
    refine (loopO_for (σ := Unit) (fun i _ => (i : Int)) l.length (fun _ _ => yes) (fun i _ => G i) (fun again _ hg => hend again) (fun again i _ hi hg ih => ?_) hl (i := 0) (s := ()) (Nat.zero_le _) h0).trans rfl
    rcases hstep again i l[i] (List.getElem?_eq_getElem hi) hi hg with ⟨h1, h2⟩ | ⟨h1, h2⟩
    · rw [h1]
      exact ih () h2
    · exact absurd hG h2
  · intro hG
    refine (loopO_for (σ := Unit) (fun i _ => (i : Int)) l.length (fun _ _ => no) (fun i _ => G i) (fun again _ hg => absurd hg hG) (fun again i _ hi hg ih => ?_) hl (i := 0) (s := ()) (Nat.zero_le _) h0).trans rfl
    rcases hstep again i l[i] (List.getElem?_eq_getElem hi) hi hg with ⟨h1, h2⟩ | ⟨h1, h2⟩
    · rw [h1]
      exact ih () h2
    · exact h1

theorem check_dec {β : Type} {m : Option β} {G : Prop} {f : Bool → Option β} (h : (G → m = f true) ∧ (¬ G → m = f false)) : m = f (pdec G) := by
  by_cases hg : G
  · rw [h.1 hg, pdec_yes hg]
  · rw [h.2 hg, pdec_no hg]

theorem mem_take_succ {α : Type} {l : List α} {i : Nat} {a : α} (h : l[i]? = some a) : l.take (i + 1) = l.take i ++ [a] := by
  rw [List.take_add_one, h]
  rfl

theorem pairwise_snoc {α : Type} {R : α → α → Prop} {l : List α} {a : α} : (l ++ [a]).Pairwise R ↔ l.Pairwise R ∧ ∀ b ∈ l, R b a := by
  rw [List.pairwise_append]
  constructor
  · rintro ⟨h1, _, h2⟩
    exact ⟨h1, fun b hb => h2 b hb a (by simp)⟩
  · rintro ⟨h1, h2⟩
    exact ⟨h1, by simp, fun b hb c hc => by simp at hc; subst hc; exact h2 b hb⟩

noncomputable def nodupB (l : List Int) : Bool := pdec l.Nodup

theorem areDifferent_eq {l : List Int} (hl : l.length < 2 ^ 62) : M_I_areDifferent l = some (nodupB l) := by
  unfold M_I_areDifferent
  have h := loop_check (β := Bool) l (fun i => (l.take i).Nodup) (some true) (some false) (body := (fun (again0 : (Int → (Option Bool))) => (fun (s1 : Int) => (cond (decide (s1 < (((List.length l) : Nat) : Int))) (bindO (getI l s1) (fun (a2 : Int) => (bindO (sliceNH s1 (List.length l)) (fun (a3 : (Nat × Nat)) => (bindO (M_slices_Contains_sint_int ((List.drop a3.1 (List.take a3.2 l)), a2)) (fun (a4 : Bool) => (cond a4 (some false) (bindO (some (IntKind.wrap .i64 (s1 + (1 : Int)))) (fun (a5 : Int) => (again0 a5)))))))))) (some true)))))
    (fun again i a ha hi' hg => ?_) (fun again => ?_) (by simp) (by omega)
  · rw [List.take_length] at h
    exact check_dec (f := some) h
  · have hlen : (l.take i).length < 2 ^ 62 := by simp; omega
    simp only [lt_yes hi', cond_true, getI_nat, ha, bindO_some', sliceNH_nat (show i ≤ l.length by omega), List.drop_zero, contains_eq hlen, i64_succ (show i < 2 ^ 62 by omega), mem_take_succ ha, List.take_length]
    by_cases hm : a ∈ l.take i
    · right
      have : (l.take i).any (· == a) = true := by simpa using hm
      refine ⟨by rw [this]; rfl, fun hn => ?_⟩
      have h2 : (l.take (i + 1)).Nodup := hn.sublist (List.take_sublist _ _)
      rw [mem_take_succ ha] at h2
      have := (pairwise_snoc.1 h2).2 a hm
      exact this rfl
    · left
      have : (l.take i).any (· == a) = false := by
        cases hc : (l.take i).any (· == a)
        · rfl
        · exact absurd (by simpa using hc) hm
      refine ⟨by rw [this]; rfl, pairwise_snoc.2 ⟨hg, fun b hb hba => hm (by subst hba; exact hb)⟩⟩
  · simp

theorem areBelow_eq {l : List Int} {m : Int} (hl : l.length < 2 ^ 62) (h1 : -9223372036854775807 ≤ m) (h2 : m ≤ 9223372036854775807) : M_I_areBelow (l, m) = some (l.all fun n => decide (0 ≤ n ∧ n ≤ m - 1)) := by
  unfold M_I_areBelow
  rw [areAll_eq (p := fun n => decide (0 ≤ n ∧ n ≤ m - 1)) hl fun a _ => by simp [M_I_areBelow_1, i64_in (m - 1) (by omega), within_eq], bindO_some']

theorem areCounts_eq (l : List Int) (hl : l.length < 2 ^ 62) : M_I_areCounts l = some (decide (1 ≤ l.length ∧ l.length ≤ 8) && l.all fun n => decide (0 ≤ n ∧ n ≤ 1000000)) := by
  unfold M_I_areCounts
  have e : decide (1 ≤ ((l.length : Nat) : Int) ∧ ((l.length : Nat) : Int) ≤ 8) = decide (1 ≤ l.length ∧ l.length ≤ 8) := by
    rw [decide_eq_decide]; omega
  rw [within_eq, bindO_some', areAll_eq (p := fun n => decide (0 ≤ n ∧ n ≤ 1000000)) hl fun a _ => by simp [M_I_areCounts_1, within_eq], e]
  cases decide (1 ≤ l.length ∧ l.length ≤ 8) <;> rfl

theorem containsFuncS_eq {l : List (List Int)} {f : List Int → Option Bool} {p : List Int → Bool} (hl : l.length < 2 ^ 62) (hf : ∀ a ∈ l, f a = some (p a)) : M_slices_ContainsFunc_ssint_sint (l, f) = some (l.any p) := by
  obtain ⟨j, h1, h2⟩ := walk_index_mem p f l 0 hf
  unfold M_slices_ContainsFunc_ssint_sint
  have : M_slices_IndexFunc_ssint_sint (l, f) = some j := by
    unfold M_slices_IndexFunc_ssint_sint
    refine (loop_walk l _ _ (fun again i a ha hi => ?_) (fun again => ?_) (by omega)).trans h1
    · simp only [getI_nat, ha, bindO_some', i64_succ (show i < 2 ^ 62 by omega), lt_yes hi, cond_true]
    · simp
  dsimp only
  rw [this, bindO_some', h2]

theorem all_not_any {α : Type} {p q : α → Bool} {l : List α} (h : ∀ a ∈ l, q a = !p a) : l.all p = !l.any q := by
  induction l with
  | nil => rfl
  | cons a l ih =>
    rw [List.all_cons, List.any_cons, ih fun b hb => h b (List.mem_cons_of_mem _ hb), h a (List.mem_cons_self ..)]
    cases p a <;> simp

/-- A square of counts. -/
def okM (m : List (List Int)) : Bool := decide (1 ≤ m.length ∧ m.length ≤ 8) && m.all fun r => (r.length == m.length) && r.all fun n => decide (0 ≤ n ∧ n ≤ 1000000)

theorem Nat.beq_eq_decide_eq' (a b : Nat) : (a == b) = decide (a = b) := rfl

theorem tMatrix_eq {m : List (List Int)} (hr : ∀ r ∈ m, r.length < 2 ^ 62) : M_S_tMatrix m = some (okM m) := by
  unfold M_S_tMatrix okM
  have e : decide (1 ≤ ((m.length : Nat) : Int) ∧ ((m.length : Nat) : Int) ≤ 8) = decide (1 ≤ m.length ∧ m.length ≤ 8) := by
    rw [decide_eq_decide]; omega
  rw [in_eq, bindO_some', e]
  by_cases h : 1 ≤ m.length ∧ m.length ≤ 8
  · simp only [h, and_self, decide_true, Bool.not_true, cond_false, Bool.true_and]
    refine (loop_walk m (fun _ r k => if ((r.length == m.length) && r.all fun n => decide (0 ≤ n ∧ n ≤ 1000000)) = true then k else some false) (some true) (fun again i a ha hi' => ?_) (fun again => ?_) (by omega)).trans (walk_all _ m 0)
    · have hb : (((a.length : Nat) : Int) != ((m.length : Nat) : Int)) = !(a.length == m.length) := by
        rw [bne_dec, Nat.beq_eq_decide_eq', ← decide_not, decide_eq_decide]
        omega
      simp only [getI_nat, ha, bindO_some', i64_succ (show i < 2 ^ 62 by omega), lt_yes hi', cond_true, hb, l1All_eq (hr a (List.mem_of_getElem? ha))]
      cases a.length == m.length
      · rfl
      · cases (a.all fun n => decide (0 ≤ n ∧ n ≤ 1000000)) <;> rfl
    · simp
  · simp [h]

theorem isPairwise_eq {m : List (List Int)} (hm : m.length < 2 ^ 62) (hr : ∀ r ∈ m, r.length < 2 ^ 62) : M_I_isPairwise m = some (okM m) := by
  unfold M_I_isPairwise okM
  have e : decide (1 ≤ ((m.length : Nat) : Int) ∧ ((m.length : Nat) : Int) ≤ 8) = decide (1 ≤ m.length ∧ m.length ≤ 8) := by
    rw [decide_eq_decide]; omega
  rw [within_eq, bindO_some', e]
  by_cases h : 1 ≤ m.length ∧ m.length ≤ 8
  · simp only [h, and_self, decide_true, cond_true, Bool.true_and]
    rw [containsFuncS_eq (p := fun r => !((r.length == m.length) && r.all fun n => decide (0 ≤ n ∧ n ≤ 1000000))) hm fun a ha => ?_, bindO_some']
    · rw [all_not_any fun _ _ => rfl]
    · unfold M_I_isPairwise_1
      have hb : (((a.length : Nat) : Int) != ((m.length : Nat) : Int)) = !(a.length == m.length) := by
        rw [bne_dec, Nat.beq_eq_decide_eq', ← decide_not, decide_eq_decide]
        omega
      dsimp only
      rw [hb, areCounts_eq a (hr a ha)]
      by_cases hc : a.length = m.length
      · have h8 : 1 ≤ a.length ∧ a.length ≤ 8 := by omega
        simp [hc, h]
      · have hc' : (a.length == m.length) = false := by simpa using hc
        simp [hc']
  · simp [h]

theorem okM_spec {m : List (List Int)} (h : okM m = true) : 1 ≤ m.length ∧ m.length ≤ 8 ∧ ∀ r ∈ m, r.length = m.length ∧ ∀ n ∈ r, 0 ≤ n ∧ n ≤ 1000000 := by
  simp only [okM, Bool.and_eq_true, decide_eq_true_eq, List.all_eq_true, beq_iff_eq] at h
  exact ⟨h.1.1, h.1.2, h.2⟩

theorem beats_same : M_I_dominates = M_S_tBeats := rfl

theorem wrap_u64 {i : Nat} (h : i < 2 ^ 62) : IntKind.wrap .u64 ((i : Nat) : Int) = (i : Int) := u64_in _ (by omega)

theorem beats_some {m : List (List Int)} (set : Int) (hm : m.length ≤ 8) (hr : ∀ r ∈ m, r.length = m.length) : ∃ b, M_S_tBeats (m, set) = some b := by
  unfold M_S_tBeats
  refine loopO_ind (fun (_ : Int) (y : Option Bool) => ∃ b, y = some b) (fun s => 0 ≤ s ∧ s ≤ m.length) (fun s => ((m.length : Int) - s).toNat) (fun again s hs ih => ?_) ⟨by omega, by omega⟩ (by omega)
  obtain ⟨i, rfl⟩ := Int.eq_ofNat_of_zero_le hs.1
  by_cases hi : i < m.length
  · simp only [lt_yes hi, cond_true]
    refine loopO_ind (fun (_ : Int) (y : Option Bool) => ∃ b, y = some b) (fun s => 0 ≤ s ∧ s ≤ m.length) (fun s => ((m.length : Int) - s).toNat) (fun again2 t ht ih2 => ?_) ⟨by omega, by omega⟩ (by omega)
    obtain ⟨j, rfl⟩ := Int.eq_ofNat_of_zero_le ht.1
    by_cases hj : j < m.length
    · have g1 : guardO (decide ((0 : Int) ≤ (i : Int))) = some () := guardO_of (by simp)
      have g2 : guardO (decide ((0 : Int) ≤ (j : Int))) = some () := guardO_of (by simp)
      have hri := hr m[i] (List.getElem_mem hi)
      have hrj := hr m[j] (List.getElem_mem hj)
      have next := ih2 ((j + 1 : Nat) : Int) ⟨by omega, by omega⟩ (by omega)
      simp only [lt_yes hj, cond_true, wrap_u64 (show i < 2 ^ 62 by omega), wrap_u64 (show j < 2 ^ 62 by omega), g1, g2, bindO_some', getI_nat, List.getElem?_eq_getElem hi, List.getElem?_eq_getElem hj, List.getElem?_eq_getElem (show j < m[i].length by omega), List.getElem?_eq_getElem (show i < m[j].length by omega), i64_succ (show j < 2 ^ 62 by omega)]
      cases (Vd.bits .and .i64 (Vd.shr .i64 set (i : Int)) 1 == 1)
      · exact next
      · cases (Vd.bits .and .i64 (Vd.shr .i64 set (j : Int)) 1 == 0)
        · exact next
        · cases decide (m[i][j] ≤ m[j][i])
          · exact next
          · exact ⟨false, rfl⟩
    · have hj' : decide ((j : Int) < (m.length : Int)) = false := by simp; omega
      rw [hj', cond_false, i64_succ (by omega), bindO_some']
      exact ih _ ⟨by omega, by omega⟩ (by omega)
  · have hi' : decide ((i : Int) < (m.length : Int)) = false := by simp; omega
    rw [hi', cond_false]
    exact ⟨true, rfl⟩

theorem CondorcetWinner_eq {m : List (List Int)} (hm : m.length < 2 ^ 62) (hr : ∀ r ∈ m, r.length < 2 ^ 62) : M_I_CondorcetWinner m = M_S_CondorcetWinner m := by
  unfold M_I_CondorcetWinner M_S_CondorcetWinner
  rw [isPairwise_eq hm hr, tMatrix_eq hr, beats_same]

theorem CondorcetWinner_some {m : List (List Int)} (hr : ∀ r ∈ m, r.length < 2 ^ 62) : ∃ r, M_S_CondorcetWinner m = some r := by
  unfold M_S_CondorcetWinner
  rw [tMatrix_eq hr, bindO_some']
  cases hok : okM m with
  | false => exact ⟨_, rfl⟩
  | true =>
    obtain ⟨h1, h2, h3⟩ := okM_spec hok
    simp only [Bool.not_true, cond_false]
    refine loopO_ind (fun (_ : Int) (y : Option (Int × Bool)) => ∃ b, y = some b) (fun s => 0 ≤ s ∧ s ≤ m.length) (fun s => ((m.length : Int) - s).toNat) (fun again s hs ih => ?_) ⟨by omega, by omega⟩ (by omega)
    obtain ⟨i, rfl⟩ := Int.eq_ofNat_of_zero_le hs.1
    by_cases hi : i < m.length
    · have g1 : guardO (decide ((0 : Int) ≤ (i : Int))) = some () := guardO_of (by simp)
      simp only [lt_yes hi, cond_true, wrap_u64 (show i < 2 ^ 62 by omega), g1, bindO_some', i64_succ (show i < 2 ^ 62 by omega)]
      obtain ⟨b, hb⟩ := beats_some (m := m) (Vd.shl .i64 1 (i : Int)) h2 fun r hr => (h3 r hr).1
      rw [hb, bindO_some']
      cases b
      · exact ih _ ⟨by omega, by omega⟩ (by omega)
      · exact ⟨_, rfl⟩
    · have hi' : decide ((i : Int) < (m.length : Int)) = false := by simp; omega
      rw [hi', cond_false]
      exact ⟨_, rfl⟩

theorem has_contains {l : List Int} (hl : l.length < 2 ^ 62) (p : Nat × Nat) (a : Int) : M_S_l1Has (List.drop p.1 (List.take p.2 l), a) = M_slices_Contains_sint_int (List.drop p.1 (List.take p.2 l), a) := by
  have : (List.drop p.1 (List.take p.2 l)).length < 2 ^ 62 := by simp; omega
  rw [contains_eq this, has_eq this]

theorem vDifferent_eq {l : List Int} (hl : l.length < 2 ^ 62) : M_S_vDifferent l = some (nodupB l) := by
  rw [← areDifferent_eq hl]
  unfold M_S_vDifferent M_I_areDifferent
  simp only [has_contains hl]

/-- Rankings of options. -/
noncomputable def okR (k : Int) (x : List (List Int)) : Bool := decide (1 ≤ k ∧ k ≤ 8) && (decide (x.length ≤ 24) && x.all fun r => (r.all fun n => decide (0 ≤ n ∧ n ≤ k - 1)) && nodupB r)

theorem tRanks_eq {k : Int} {x : List (List Int)} (hr : ∀ r ∈ x, r.length < 2 ^ 62) : M_S_tRanks (k, x) = some (okR k x) := by
  unfold M_S_tRanks okR
  dsimp only
  rw [in_eq, bindO_some']
  by_cases hk : 1 ≤ k ∧ k ≤ 8
  · simp only [hk, and_self, decide_true, Bool.not_true, cond_false, Bool.true_and]
    have e : decide (((x.length : Nat) : Int) > 24) = !decide (x.length ≤ 24) := by rw [← decide_not, decide_eq_decide]; omega
    rw [e]
    by_cases hx : x.length ≤ 24
    · simp only [hx, decide_true, Bool.not_true, cond_false, Bool.true_and]
      refine (loop_walk x (fun _ r k' => if ((r.all fun n => decide (0 ≤ n ∧ n ≤ k - 1)) && nodupB r) = true then k' else some false) (some true) (fun again i a ha hi' => ?_) (fun again => ?_) (by omega)).trans (walk_all _ x 0)
      · have hal := hr a (List.mem_of_getElem? ha)
        simp only [getI_nat, ha, bindO_some', i64_succ (show i < 2 ^ 62 by omega), lt_yes hi', cond_true, i64_in (k - 1) (by omega), l1All_eq hal, vDifferent_eq hal]
        cases (a.all fun n => decide (0 ≤ n ∧ n ≤ k - 1))
        · rfl
        · cases nodupB a <;> rfl
      · simp
    · simp [hx]
  · simp [hk]

theorem areRankings_eq {k : Int} {x : List (List Int)} (hx : x.length < 2 ^ 62) (hr : ∀ r ∈ x, r.length < 2 ^ 62) : M_I_areRankings (k, x) = some (okR k x) := by
  unfold M_I_areRankings okR
  dsimp only
  rw [within_eq, bindO_some']
  by_cases hk : 1 ≤ k ∧ k ≤ 8
  · simp only [hk, and_self, decide_true, cond_true, Bool.true_and]
    have e : decide (((x.length : Nat) : Int) ≤ 24) = decide (x.length ≤ 24) := by rw [decide_eq_decide]; omega
    rw [e, containsFuncS_eq (p := fun r => !((r.all fun n => decide (0 ≤ n ∧ n ≤ k - 1)) && nodupB r)) hx fun a ha => ?_, bindO_some', all_not_any fun _ _ => rfl]
    · cases decide (x.length ≤ 24) <;> rfl
    · unfold M_I_areRankings_1
      dsimp only
      rw [areBelow_eq (hr a ha) (by omega) (by omega), areDifferent_eq (hr a ha)]
      cases (a.all fun n => decide (0 ≤ n ∧ n ≤ k - 1)) <;> cases nodupB a <;> rfl
  · simp [hk]

theorem okR_spec {k : Int} {x : List (List Int)} (h : okR k x = true) : 1 ≤ k ∧ k ≤ 8 ∧ x.length ≤ 24 ∧ ∀ r ∈ x, (∀ n ∈ r, 0 ≤ n ∧ n ≤ k - 1) ∧ r.Nodup := by
  simp only [okR, Bool.and_eq_true, decide_eq_true_eq, List.all_eq_true, nodupB, pdec_iff] at h
  exact ⟨h.1.1, h.1.2, h.2.1, h.2.2⟩

/-- A list is put together, element by element. -/
theorem append_loop {α β : Type} (y : List α) (fin : List α → Option β) {body : (List α × Int → Option β) → List α × Int → Option β}
    (h : ∀ (again : List α × Int → Option β) (i : Nat) a (s : List α), y[i]? = some a → i < y.length → s.length = i → body again (s, (i : Int)) = again (s ++ [a], ((i + 1 : Nat) : Int)))
    (hend : ∀ (again : List α × Int → Option β) (s : List α), s.length = y.length → body again (s, (y.length : Int)) = fin s) (hl : y.length < 2 ^ 62) : loopO body ([], 0) = fin y := by
  refine (loopO_for (σ := List α) (fun i s => (s, (i : Int))) y.length (fun i s => fin y) (fun i s => s = y.take i) (fun again s hs => ?_) (fun again i s hi hs ih => ?_) (by omega) (i := 0) (s := []) (Nat.zero_le _) (by simp)).trans rfl
  · subst hs
    rw [List.take_length]
    exact hend again y rfl
  · subst hs
    have ha := List.getElem?_eq_getElem hi
    rw [h again i y[i] _ ha hi (by simp; omega)]
    refine ih _ ?_
    rw [List.take_add_one, ha]
    rfl

def onesN (n : Nat) : Nat := ((List.range 8).map fun i => n / 2 ^ i % 2).sum

theorem ones_tab : ((List.range 256).all fun n => decide (M_math_bits_OnesCount ((n : Nat) : Int) = some ((onesN n : Nat) : Int))) = true := by
  simp only [M_math_bits_OnesCount, M_math_bits_OnesCount64, bindO_int]
  kernel_rfl

theorem kOnes_tab : ((List.range 256).all fun n => decide (M_S_kOnes ((n : Nat) : Int) = some ((onesN n : Nat) : Int))) = true := by
  simp only [M_S_kOnes, loopO_eq, bindO_int]
  kernel_rfl

theorem ones_eq {n : Nat} (h : n < 256) : M_math_bits_OnesCount (n : Int) = some (onesN n : Int) := of_decide_eq_true (List.all_eq_true.1 ones_tab n (by simpa using h))

theorem kOnes_eq {n : Nat} (h : n < 256) : M_S_kOnes (n : Int) = some (onesN n : Int) := of_decide_eq_true (List.all_eq_true.1 kOnes_tab n (by simpa using h))

theorem shl_tab : ((List.range 9).all fun n => decide (1 ≤ Vd.shl .i64 1 ((n : Nat) : Int) ∧ Vd.shl .i64 1 ((n : Nat) : Int) ≤ 256)) = true := by kernel_rfl

theorem shl_le {n : Nat} (h : n ≤ 8) : 1 ≤ Vd.shl .i64 1 (n : Int) ∧ Vd.shl .i64 1 (n : Int) ≤ 256 := of_decide_eq_true (List.all_eq_true.1 shl_tab n (by simp; omega))

theorem SmithSet_same {m : List (List Int)} (hm : m.length < 2 ^ 62) (hr : ∀ r ∈ m, r.length < 2 ^ 62) : M_I_SmithSet m = M_S_SmithSet m := by
  unfold M_I_SmithSet M_S_SmithSet
  rw [isPairwise_eq hm hr, tMatrix_eq hr, beats_same, bindO_some', bindO_some']
  cases hok : okM m with
  | false => simp only [bindO_some', Bool.not_false, cond_true]
  | true =>
    obtain ⟨h1, h2, h3⟩ := okM_spec hok
    have hs := shl_le h2
    rw [wrap_u64 hm]
    generalize Vd.shl .i64 1 (m.length : Int) = top at hs
    have hg : guardO (decide ((0 : Int) ≤ (m.length : Int))) = some () := guardO_of (by simp)
    rw [hg]
    simp only [Bool.not_true, cond_false, bindO_some', i64_in (top - 1) (show -9223372036854775808 ≤ top - 1 ∧ top - 1 ≤ 9223372036854775807 by omega)]
    refine loopO_eqv (fun (s t : Int × Int) => s = t ∧ 0 ≤ s.1 ∧ s.1 < 256 ∧ 0 ≤ s.2) ⟨rfl, by dsimp only; omega, by dsimp only; omega, by dsimp only; omega⟩ (fun a1 a2 s t hst ih => ?_)
    obtain ⟨rfl, g1, g2, g3⟩ := hst
    obtain ⟨best, set⟩ := s
    dsimp only at g1 g2 g3 ⊢
    obtain ⟨b, rfl⟩ := Int.eq_ofNat_of_zero_le g1
    obtain ⟨k, rfl⟩ := Int.eq_ofNat_of_zero_le g3
    by_cases hk : (k : Int) < top
    · obtain ⟨z, hz⟩ := beats_some (m := m) (k : Int) h2 fun r hr => (h3 r hr).1
      have e1 : ∀ x : Int × Int, x = (((b : Nat) : Int), IntKind.wrap .i64 ((k : Int) + 1)) → a1 x = a2 x := fun x hx => by
        subst hx
        rw [i64_in ((k : Int) + 1) (by omega)]
        exact ih _ _ ⟨rfl, by dsimp only; omega, by dsimp only; omega, by dsimp only; omega⟩
      have e2 : ∀ x : Int × Int, x = (((k : Nat) : Int), IntKind.wrap .i64 ((k : Int) + 1)) → a1 x = a2 x := fun x hx => by
        subst hx
        rw [i64_in ((k : Int) + 1) (by omega)]
        exact ih _ _ ⟨rfl, by dsimp only; omega, by dsimp only; omega, by dsimp only; omega⟩
      have w1 : IntKind.wrap .u64 ((k : Nat) : Int) = (k : Int) := wrap_u64 (by omega)
      have w2 : IntKind.wrap .u64 ((b : Nat) : Int) = (b : Int) := wrap_u64 (by omega)
      simp only [hk, decide_true, cond_true, w1, w2, ones_eq (show k < 256 by omega), ones_eq (show b < 256 by omega), kOnes_eq (show k < 256 by omega), kOnes_eq (show b < 256 by omega), hz, bindO_some']
      cases z <;> cases decide (((onesN k : Nat) : Int) < ((onesN b : Nat) : Int)) <;> simp only [cond_true, cond_false]
      · exact e1 _ rfl
      · exact e1 _ rfl
      · exact e1 _ rfl
      · exact e2 _ rfl
    · simp only [hk, decide_false, cond_false]

theorem SmithSet_some {m : List (List Int)} (hm : m.length < 2 ^ 62) (hr : ∀ r ∈ m, r.length < 2 ^ 62) : ∃ r b, M_S_SmithSet m = some (r, b) ∧ r.length ≤ 8 := by
  unfold M_S_SmithSet
  rw [tMatrix_eq hr, bindO_some']
  cases hok : okM m with
  | false => exact ⟨[], false, rfl, by simp⟩
  | true =>
    obtain ⟨h1, h2, h3⟩ := okM_spec hok
    have hs := shl_le h2
    rw [wrap_u64 hm]
    generalize Vd.shl .i64 1 (m.length : Int) = top at hs
    have hg : guardO (decide ((0 : Int) ≤ (m.length : Int))) = some () := guardO_of (by simp)
    rw [hg]
    simp only [Bool.not_true, cond_false, bindO_some', i64_in (top - 1) (show -9223372036854775808 ≤ top - 1 ∧ top - 1 ≤ 9223372036854775807 by omega)]
    refine loopO_ind (fun (_ : Int × Int) (y : Option (List Int × Bool)) => ∃ r b, y = some (r, b) ∧ r.length ≤ 8) (fun s => 0 ≤ s.1 ∧ s.1 < 256 ∧ 0 ≤ s.2) (fun s => (top - s.2).toNat) (fun again s hst ih => ?_) ⟨by dsimp only; omega, by dsimp only; omega, by dsimp only; omega⟩ (by dsimp only; omega)
    obtain ⟨best, set⟩ := s
    obtain ⟨g1, g2, g3⟩ := hst
    dsimp only at g1 g2 g3 ih ⊢
    obtain ⟨b, rfl⟩ := Int.eq_ofNat_of_zero_le g1
    obtain ⟨k, rfl⟩ := Int.eq_ofNat_of_zero_le g3
    by_cases hk : (k : Int) < top
    · obtain ⟨z, hz⟩ := beats_some (m := m) (k : Int) h2 fun r hr => (h3 r hr).1
      simp only [hk, decide_true, cond_true, hz, bindO_some', kOnes_eq (show k < 256 by omega), kOnes_eq (show b < 256 by omega), i64_in ((k : Int) + 1) (by omega)]
      cases z
      · exact ih _ ⟨by dsimp only; omega, by dsimp only; omega, by dsimp only; omega⟩ (by dsimp only; omega)
      · cases decide (((onesN k : Nat) : Int) < ((onesN b : Nat) : Int))
        · exact ih _ ⟨by dsimp only; omega, by dsimp only; omega, by dsimp only; omega⟩ (by dsimp only; omega)
        · exact ih _ ⟨by dsimp only; omega, by dsimp only; omega, by dsimp only; omega⟩ (by dsimp only; omega)
    · simp only [hk, decide_false, cond_false]
      refine loopO_ind (fun (_ : List Int × Int) (y : Option (List Int × Bool)) => ∃ r b, y = some (r, b) ∧ r.length ≤ 8) (fun u => 0 ≤ u.2 ∧ u.2 ≤ m.length ∧ (u.1.length : Int) ≤ u.2) (fun u => ((m.length : Int) - u.2).toNat) (fun again2 u hu ih2 => ?_) ⟨Int.le_refl _, by dsimp only; omega, by simp⟩ (by dsimp only; omega)
      obtain ⟨o, j⟩ := u
      obtain ⟨f1, f2, f3⟩ := hu
      dsimp only at f1 f2 f3 ih2 ⊢
      obtain ⟨i, rfl⟩ := Int.eq_ofNat_of_zero_le f1
      by_cases hi : i < m.length
      · have hg2 : guardO (decide ((0 : Int) ≤ (i : Int))) = some () := guardO_of (by simp)
        have hg3 : guardO (lenOk (o.length + [((i : Nat) : Int)].length)) = some () := guardO_of (lenOk_of (by simp; omega))
        simp only [lt_yes hi, cond_true, wrap_u64 (show i < 2 ^ 62 by omega), hg2, hg3, bindO_some', i64_succ (show i < 2 ^ 62 by omega)]
        cases (Vd.bits .and .i64 (Vd.shr .i64 (b : Int) (i : Int)) 1 == 1)
        · exact ih2 _ ⟨by dsimp only; omega, by dsimp only; omega, by dsimp only; omega⟩ (by dsimp only; omega)
        · exact ih2 _ ⟨by dsimp only; omega, by dsimp only; omega, by simp; omega⟩ (by dsimp only; omega)
      · have hi' : decide ((i : Int) < (m.length : Int)) = false := by simp; omega
        rw [hi', cond_false]
        exact ⟨_, _, rfl, by omega⟩

theorem mul_out {p s b : Int} (hs : 0 ≤ s ∧ s < p) : prodM p 1 [s, b] = s * b % p := by
  simp only [prodM]
  rw [Int.one_mul, Int.emod_eq_of_lt hs.1 hs.2]

def sumR (f : Nat → Nat) : Nat → Nat
  | 0 => 0
  | n + 1 => sumR f n + f n

def ind (q s : Int) : Nat := if s % q = 0 then 1 else 0

def cnt (q : Int) (m : Nat) : List Int → Int → Nat
  | [], s => ind q s
  | e :: l, s => sumR (fun d => cnt q m l (s + ((d + 1 : Nat) : Int) * e)) m

/-- The place of k in a ranking; 8 if it has none. -/
def place : List Int → Nat → Int → Int
  | [], _, _ => 8
  | x :: r, i, k => bif x == k then (i : Int) else place r (i + 1) k

theorem placeWalk (k : Int) : ∀ (l : List Int) (i : Nat), walk (fun i a t => bif a == k then some (i : Int) else t) (some 8) i l = some (place l i k)
  | [], _ => rfl
  | a :: l, i => by
    rw [walk, place, placeWalk k l (i + 1)]
    cases a == k <;> rfl

theorem tPlace_eq {r : List Int} {k : Int} (hr : r.length < 2 ^ 62) : M_S_tPlace (r, k) = some (place r 0 k) := by
  unfold M_S_tPlace
  refine (loop_walk r (fun i a t => bif a == k then some (i : Int) else t) (some 8) (fun again i a ha hi => ?_) (fun again => ?_) (by omega)).trans (placeWalk k r 0)
  · simp only [lt_yes hi, cond_true, getI_nat, ha, bindO_some', i64_succ (show i < 2 ^ 62 by omega)]
  · simp only [lt_no, cond_false]

/-- How many rankings have i before j. -/
def ahead (rs : List (List Int)) (i j : Int) : Nat := (rs.filter fun r => decide (place r 0 i < place r 0 j)).length

theorem ahead_cons (r : List Int) (rs : List (List Int)) (i j : Int) : ahead (r :: rs) i j = (if place r 0 i < place r 0 j then 1 else 0) + ahead rs i j := by
  unfold ahead
  rw [List.filter_cons]
  by_cases h : place r 0 i < place r 0 j
  · simp [h]
    omega
  · simp [h]

/-- One entry is counted. -/
theorem entryWalk {β : Type} (K : List Int → Option β) (i j : Int) (n : Nat) : ∀ (rs : List (List Int)) (m : Nat) (s : List Int), walkS (fun _ r s k => bif decide (place r 0 i < place r 0 j) then k (s.set n (s.getD n 0 + 1)) else k s) K m rs s = K (if ahead rs i j = 0 then s else s.set n (s.getD n 0 + ahead rs i j))
  | [], _, s => by
    simp [walkS, ahead]
  | r :: rs, m, s => by
    rw [walkS, ahead_cons]
    by_cases h : place r 0 i < place r 0 j
    · have d : decide (place r 0 i < place r 0 j) = true := by simpa using h
      rw [d, cond_true, entryWalk K i j n rs (m + 1), if_pos h]
      congr 1
      rw [if_neg (show ¬ (1 + ahead rs i j = 0) by omega)]
      by_cases hz : ahead rs i j = 0
      · rw [if_pos hz, hz]
        rfl
      · rw [if_neg hz, List.set_set]
        by_cases hn : n < s.length
        · congr 1
          rw [List.getD_eq_getElem?_getD, List.getElem?_set_self hn, List.getD_eq_getElem?_getD]
          simp only [Option.getD_some]
          omega
        · rw [List.set_eq_of_length_le (by omega), List.set_eq_of_length_le (by omega)]
    · have d : decide (place r 0 i < place r 0 j) = false := by simpa using h
      rw [d, cond_false, entryWalk K i j n rs (m + 1), if_neg h, Nat.zero_add]

theorem entry_loop {β : Type} {rs : List (List Int)} {i : Int} {n : Nat} (K : List Int → Option β) {body : (Int × List Int → Option β) → Int × List Int → Option β} (hn : rs.length ≤ 1000) (hr : ∀ r ∈ rs, r.length < 2 ^ 62)
    (hb : ∀ again s, body again s = cond (decide (s.1 < ((rs.length : Nat) : Int))) (bindO (getI rs s.1) fun a8 => bindO (M_S_tPlace (a8, i)) fun a9 => bindO (M_S_tPlace (a8, (n : Int))) fun a10 => cond (decide (a9 < a10)) (bindO (getI s.2 (n : Int)) fun a11 => bindO (some (IntKind.wrap .i64 (a11 + 1))) fun a12 => bindO (getI s.2 (n : Int)) fun _ => bindO (some (List.set s.2 (Int.toNat (n : Int)) a12)) fun a14 => bindO (some (IntKind.wrap .i64 (s.1 + 1))) fun a15 => again (a15, a14)) (bindO (some (IntKind.wrap .i64 (s.1 + 1))) fun a16 => again (a16, s.2))) (K s.2))
    {s : List Int} (hs : n < s.length) (h0 : 0 ≤ s.getD n 0) (h1 : s.getD n 0 ≤ 1000) : loopO body (0, s) = K (if ahead rs i n = 0 then s else s.set n (s.getD n 0 + ahead rs i n)) := by
  refine (loop_walkI (fun t (s : List Int) => (t, s)) rs (fun _ r s k => bif decide (place r 0 i < place r 0 n) then k (s.set n (s.getD n 0 + 1)) else k s) K (fun t s => n < s.length ∧ 0 ≤ s.getD n 0 ∧ s.getD n 0 ≤ 1000 + t) (fun t r s k k' _ hi hk => ?_) (fun again t r s ha hi hi2 => ?_) (fun again s _ => ?_) (by omega) s ⟨hs, h0, by omega⟩).trans (entryWalk K i n n rs 0 s)
  · cases decide (place r 0 i < place r 0 n)
    · exact hk _ ⟨hi.1, hi.2.1, by omega⟩
    · refine hk _ ?_
      have : (s.set n (s.getD n 0 + 1)).getD n 0 = s.getD n 0 + 1 := by
        rw [List.getD_eq_getElem?_getD, List.getElem?_set_self hi.1]
        rfl
      exact ⟨by rw [List.length_set]; exact hi.1, by omega, by omega⟩
  · have hm := hr r (List.mem_of_getElem? ha)
    have hg : s[n]? = some (s.getD n 0) := by
      rw [List.getD_eq_getElem?_getD, List.getElem?_eq_getElem hi2.1]
      rfl
    rw [hb]
    simp only [lt_yes hi, cond_true, getI_nat, ha, bindO_some', tPlace_eq hm, hg, i64_in (s.getD n 0 + 1) (by omega), Int.toNat_natCast, i64_succ (show t < 2 ^ 62 by omega)]
  · rw [hb]
    simp only [lt_no, cond_false]

def rowOf (k : Nat) (rs : List (List Int)) (i : Int) : List Int := (List.range k).map fun j : Nat => ((ahead rs i (j : Int) : Nat) : Int)

theorem rowOf_len (k : Nat) (rs : List (List Int)) (i : Int) : (rowOf k rs i).length = k := by simp [rowOf]

theorem rowOf_get {k : Nat} (rs : List (List Int)) (i : Int) {t : Nat} (h : t < k) : (rowOf k rs i)[t]? = some ((ahead rs i (t : Int) : Nat) : Int) := by
  simp [rowOf, List.getElem?_range h]

theorem row_loop {β : Type} {rs : List (List Int)} {i : Int} {k : Nat} (K : List Int → Option β) {body : (Int × List Int → Option β) → Int × List Int → Option β} (hk : k ≤ 1000) (hn : rs.length ≤ 1000) (hr : ∀ r ∈ rs, r.length < 2 ^ 62)
    (hb : ∀ again s, body again s = cond (decide (s.1 < ((k : Nat) : Int))) (loopO (fun again6 (s7 : Int × List Int) => cond (decide (s7.1 < ((rs.length : Nat) : Int))) (bindO (getI rs s7.1) fun a8 => bindO (M_S_tPlace (a8, i)) fun a9 => bindO (M_S_tPlace (a8, s.1)) fun a10 => cond (decide (a9 < a10)) (bindO (getI s7.2 s.1) fun a11 => bindO (some (IntKind.wrap .i64 (a11 + 1))) fun a12 => bindO (getI s7.2 s.1) fun _ => bindO (some (List.set s7.2 (Int.toNat s.1) a12)) fun a14 => bindO (some (IntKind.wrap .i64 (s7.1 + 1))) fun a15 => again6 (a15, a14)) (bindO (some (IntKind.wrap .i64 (s7.1 + 1))) fun a16 => again6 (a16, s7.2))) (bindO (some (IntKind.wrap .i64 (s.1 + 1))) fun a17 => again (a17, s7.2))) (0, s.2)) (K s.2)) :
    loopO body (0, List.replicate k 0) = K (rowOf k rs i) := by
  refine (loopO_for (σ := List Int) (fun j s => ((j : Int), s)) k (fun _ _ => K (rowOf k rs i)) (fun j s => s.length = k ∧ ∀ t, t < k → s[t]? = some (if t < j then ((ahead rs i (t : Int) : Nat) : Int) else 0)) (fun again s hs => ?_) (fun again j s hj hs ih => ?_) (by omega) (i := 0) (s := List.replicate k 0) (Nat.zero_le _) ⟨by simp, fun t ht => by simp [ht]⟩)
  · rw [hb]
    have : s = rowOf k rs i := by
      refine List.ext_getElem? fun t => ?_
      by_cases ht : t < k
      · rw [hs.2 t ht, rowOf_get rs i ht, if_pos ht]
      · rw [List.getElem?_eq_none (by omega), List.getElem?_eq_none (by rw [rowOf_len]; omega)]
    rw [this]
    simp only [lt_no, cond_false]
  · rw [hb]
    have hsj : s[j]? = some 0 := by
      rw [hs.2 j hj, if_neg (by omega)]
    have hgd : s.getD j 0 = 0 := by
      rw [List.getD_eq_getElem?_getD, hsj]
      rfl
    dsimp only
    rw [lt_yes hj, cond_true]
    refine (entry_loop (i := i) (n := j) (fun t => bindO (some (IntKind.wrap .i64 ((j : Int) + 1))) fun a17 => again (a17, t)) hn hr (fun _ _ => rfl) (s := s) (by omega) (by omega) (by omega)).trans ?_
    rw [i64_succ (by omega), bindO_some']
    refine ih _ ⟨?_, fun t ht => ?_⟩
    · split
      · exact hs.1
      · rw [List.length_set]; exact hs.1
    · by_cases htj : t = j
      · subst htj
        rw [if_pos (show t < t + 1 by omega)]
        split
        · rename_i hz
          rw [hsj, hz]
          rfl
        · rw [List.getElem?_set_self (by omega), hgd, Int.zero_add]
      · have e : (if t < j + 1 then ((ahead rs i (t : Int) : Nat) : Int) else 0) = if t < j then ((ahead rs i (t : Int) : Nat) : Int) else 0 := by
          by_cases h : t < j
          · rw [if_pos h, if_pos (by omega)]
          · rw [if_neg h, if_neg (by omega)]
        rw [e, ← hs.2 t ht]
        split
        · rfl
        · rw [List.getElem?_set_ne (by omega)]

def matOf (k : Nat) (rs : List (List Int)) : List (List Int) := (List.range k).map fun i : Nat => rowOf k rs (i : Int)

theorem matOf_len (k : Nat) (rs : List (List Int)) : (matOf k rs).length = k := by simp [matOf]

theorem S_PairwiseMatrix_eq {k : Int} {rs : List (List Int)} (hr : ∀ r ∈ rs, r.length < 2 ^ 62) : M_S_PairwiseMatrix (k, rs) = some (bif okR k rs then (matOf k.toNat rs, true) else ([], false)) := by
  unfold M_S_PairwiseMatrix
  dsimp only
  rw [tRanks_eq hr, bindO_some']
  cases hok : okR k rs with
  | false => rfl
  | true =>
    have hok' := hok
    simp only [okR, Bool.and_eq_true, decide_eq_true_eq] at hok'
    obtain ⟨h1, h2, _⟩ := hok'
    obtain ⟨n, rfl⟩ := Int.eq_ofNat_of_zero_le (show 0 ≤ k by omega)
    simp only [Bool.not_true, cond_false, cond_true, Int.toNat_natCast]
    have hl := matOf_len n rs
    have hl' : ((n : Nat) : Int) = (((matOf n rs).length : Nat) : Int) := by rw [hl]
    have key := append_loop (matOf n rs) (fun t => some (t, true)) (body := fun (again1 : List (List Int) × Int → Option (List (List Int) × Bool)) (s2 : List (List Int) × Int) => cond (decide (s2.2 < ((n : Nat) : Int))) (bindO (guardO (((decide ((0 : Int) ≤ (n : Int))) && (decide ((n : Int) ≤ (n : Int)))) && (decide ((n : Int) ≤ ((lim : Nat) : Int))))) fun _ => loopO (fun again4 (s5 : Int × List Int) => cond (decide (s5.1 < (((List.replicate n (0 : Int)).length : Nat) : Int))) (loopO (fun again6 (s7 : Int × List Int) => cond (decide (s7.1 < ((rs.length : Nat) : Int))) (bindO (getI rs s7.1) fun a8 => bindO (M_S_tPlace (a8, s2.2)) fun a9 => bindO (M_S_tPlace (a8, s5.1)) fun a10 => cond (decide (a9 < a10)) (bindO (getI s7.2 s5.1) fun a11 => bindO (some (IntKind.wrap .i64 (a11 + 1))) fun a12 => bindO (getI s7.2 s5.1) fun _ => bindO (some (List.set s7.2 (Int.toNat s5.1) a12)) fun a14 => bindO (some (IntKind.wrap .i64 (s7.1 + 1))) fun a15 => again6 (a15, a14)) (bindO (some (IntKind.wrap .i64 (s7.1 + 1))) fun a16 => again6 (a16, s7.2))) (bindO (some (IntKind.wrap .i64 (s5.1 + 1))) fun a17 => again4 (a17, s7.2))) (0, s5.2)) (bindO (guardO (lenOk (s2.1.length + (s5.2 :: ([] : List (List Int))).length))) fun _ => bindO (some (s2.1 ++ (s5.2 :: ([] : List (List Int))))) fun a19 => bindO (some (IntKind.wrap .i64 (s2.2 + 1))) fun a20 => again1 (a19, a20))) (0, List.replicate n 0)) (some (s2.1, true)))
      (fun again i a t ha hi ht => ?_) (fun again t ht => ?_) (by omega)
    · exact key
    · have hin : i < n := by omega
      have hrow : a = rowOf n rs (i : Int) := by
        simp only [matOf, List.getElem?_map, List.getElem?_range hin, Option.map_some, Option.some.injEq] at ha
        exact ha.symm
      subst hrow
      dsimp only
      rw [lt_yes hin, cond_true, guardO_of (by rw [lim_eq]; simp; omega), bindO_some']
      refine (row_loop (i := (i : Int)) (k := n) (fun r => bindO (guardO (lenOk (t.length + (r :: ([] : List (List Int))).length))) fun _ => bindO (some (t ++ (r :: ([] : List (List Int))))) fun a19 => bindO (some (IntKind.wrap .i64 ((i : Int) + 1))) fun a20 => again (a19, a20)) (by omega) (by omega) hr (fun _ _ => by rw [List.length_replicate])).trans ?_
      rw [guardO_of (lenOk_of (by simp; omega)), bindO_some', bindO_some', i64_succ (by omega), bindO_some']
    · rw [hl]
      simp only [lt_no, cond_false]

theorem getD_at {α : Type} {l : List α} {i : Nat} {d : α} (h : i < l.length) : l[i]? = some (l.getD i d) := by
  rw [List.getElem?_eq_getElem h, List.getD_eq_getElem?_getD, List.getElem?_eq_getElem h]
  rfl

theorem mul_one {p x : Int} (hp : 2 ≤ p) (hx : 0 ≤ x ∧ x < p) : prodM p 1 [1, x] = x := by
  rw [mul_out (by omega), Int.one_mul, Int.emod_eq_of_lt hx.1 hx.2]

def iterN {σ : Type} (f : Nat → σ → σ) (s0 : σ) : Nat → σ
  | 0 => s0
  | n + 1 => f n (iterN f s0 n)

theorem iterN_inv {σ : Type} {f : Nat → σ → σ} {s0 : σ} {Inv : Nat → σ → Prop} (h0 : Inv 0 s0) : ∀ n, (∀ i s, i < n → Inv i s → Inv (i + 1) (f i s)) → Inv n (iterN f s0 n)
  | 0, _ => h0
  | n + 1, h => h n _ (by omega) (iterN_inv h0 n fun i s hi => h i s (by omega))

theorem iter_loop {σ τ β : Type} (f : Nat → σ → σ) (s0 : σ) (n : Nat) (enc : Int → σ → τ) (fin : σ → Option β) (Inv : Nat → σ → Prop) {body : (τ → Option β) → τ → Option β} (hn : n < 2 ^ 62) (h0 : Inv 0 s0) (hs : ∀ i s, i < n → Inv i s → Inv (i + 1) (f i s))
    (h : ∀ (again : τ → Option β) (i : Nat) s, i < n → Inv i s → body again (enc (i : Int) s) = again (enc ((i + 1 : Nat) : Int) (f i s))) (hend : ∀ (again : τ → Option β) s, Inv n s → body again (enc (n : Int) s) = fin s) : loopO body (enc 0 s0) = fin (iterN f s0 n) := by
  refine (loopO_for (σ := σ) (fun i s => enc (i : Int) s) n (fun _ _ => fin (iterN f s0 n)) (fun i s => s = iterN f s0 i ∧ Inv i s) (fun again s hs => ?_) (fun again i s hi hv ih => ?_) (by omega) (i := 0) (s := s0) (Nat.zero_le _) ⟨rfl, h0⟩).trans rfl
  · obtain ⟨rfl, h2⟩ := hs
    exact hend again _ h2
  · obtain ⟨rfl, h2⟩ := hv
    rw [h again i _ hi h2]
    exact ih _ ⟨rfl, hs i _ hi h2⟩

theorem getD_is {α : Type} {l : List α} {i : Nat} {a d : α} (h : l[i]? = some a) : l.getD i d = a := by
  rw [List.getD_eq_getElem?_getD, h]
  rfl

def sumN : Nat → (Nat → Int) → Int
  | 0, _ => 0
  | n + 1, g => sumN n g + g n

theorem sumN_front (g : Nat → Int) : ∀ n, sumN (n + 1) g = g 0 + sumN n fun t => g (t + 1)
  | 0 => by simp [sumN]
  | n + 1 => by
    rw [sumN, sumN_front g n, sumN]
    omega

theorem sumN_congr {g h : Nat → Int} : ∀ n, (∀ t, t < n → g t = h t) → sumN n g = sumN n h
  | 0, _ => rfl
  | n + 1, e => by rw [sumN, sumN, sumN_congr n fun t ht => e t (by omega), e n (by omega)]

theorem sumN_zero {g : Nat → Int} : ∀ n, (∀ t, t < n → g t = 0) → sumN n g = 0
  | 0, _ => rfl
  | n + 1, e => by rw [sumN, sumN_zero n fun t ht => e t (by omega), e n (by omega)]; rfl

theorem sumN_one {c : Nat → Bool} {j : Nat} : ∀ n, sumN n (fun t => if t = j ∧ c t = true then 1 else 0) = if j < n ∧ c j = true then 1 else 0
  | 0 => by simp [sumN]
  | n + 1 => by
    rw [sumN, sumN_one n]
    by_cases h : n = j
    · subst h
      cases c n <;> simp
    · by_cases h2 : j < n
      · cases c j <;> simp [h, h2, show j < n + 1 by omega]
      · simp [h, h2, show ¬ j < n + 1 by omega]

abbrev Mf := Nat → Nat → Int

theorem iterN_add (g : Nat → Mf) (E : Mf) : ∀ n, iterN (fun t (E : Mf) i j => E i j + g t i j) E n = fun i j => E i j + sumN n fun t => g t i j
  | 0 => by funext i j; simp [iterN, sumN]
  | n + 1 => by
    rw [iterN, iterN_add g E n]
    funext i j
    dsimp only
    rw [sumN]
    omega

def rowN (n : Nat) (f : Nat → Int) : List Int := (List.range n).map f

def mat (n : Nat) (E : Mf) : List (List Int) := (List.range n).map fun i => rowN n (E i)

theorem rowN_get {n : Nat} {f : Nat → Int} {j : Nat} (h : j < n) : (rowN n f)[j]? = some (f j) := by
  rw [rowN, List.getElem?_map, List.getElem?_range h]
  rfl

theorem mat_get {n : Nat} {E : Mf} {i : Nat} (h : i < n) : (mat n E)[i]? = some (rowN n (E i)) := by
  rw [mat, List.getElem?_map, List.getElem?_range h]
  rfl

theorem mat_len (n : Nat) (E : Mf) : (mat n E).length = n := by simp [mat]

theorem rowN_len (n : Nat) (f : Nat → Int) : (rowN n f).length = n := by simp [rowN]

theorem mat_modify {n : Nat} {E : Mf} {a j : Nat} {v : Int} : List.modify (mat n E) a (fun _ => (rowN n (E a)).set j v) = mat n fun i' j' => if i' = a ∧ j' = j then v else E i' j' := by
  refine List.ext_getElem? fun i => ?_
  rw [List.getElem?_modify]
  by_cases hi : i < n
  · rw [mat_get hi, mat_get hi]
    by_cases hia : a = i
    · subst hia
      simp only [if_true, Option.map_eq_map, Option.map_some, true_and, Option.some.injEq]
      refine List.ext_getElem? fun t => ?_
      by_cases ht : t < n
      · rw [rowN_get ht, List.getElem?_set]
        by_cases hjt : j = t
        · subst hjt
          rw [if_pos rfl, if_pos (by rw [rowN_len]; exact ht), if_pos rfl]
        · rw [if_neg hjt, rowN_get ht, if_neg (fun h => hjt h.symm)]
      · rw [List.getElem?_eq_none (by rw [List.length_set, rowN_len]; omega), List.getElem?_eq_none (by rw [rowN_len]; omega)]
    · simp only [if_neg hia, Option.map_eq_map, Option.map_some, Option.some.injEq]
      congr 1
      funext t
      rw [if_neg (fun h => hia h.1.symm)]
  · rw [List.getElem?_eq_none (by rw [mat_len]; omega), List.getElem?_eq_none (by rw [mat_len]; omega)]
    simp

theorem mat_congr {n : Nat} {E F : Mf} (h : ∀ i j, i < n → j < n → E i j = F i j) : mat n E = mat n F := by
  refine List.map_congr_left fun i hi => List.map_congr_left fun j hj => ?_
  exact h i j (List.mem_range.1 hi) (List.mem_range.1 hj)

def Bnd (E : Mf) (c : Nat) : Prop := ∀ i j, 0 ≤ E i j ∧ E i j ≤ (c : Int)

/-- What round t of the innermost loop adds. -/
def pmG (r : List Int) (at_ t i j : Nat) : Int := if ((i : Int) = r.getD at_ 0 ∧ j = t) ∧ (!(r.take (at_ + 1)).any (· == (t : Int))) = true then 1 else 0

theorem pmG_in (r : List Int) (at_ t i j : Nat) : 0 ≤ pmG r at_ t i j ∧ pmG r at_ t i j ≤ 1 := by
  unfold pmG
  split <;> omega

def pm3 (r : List Int) (at_ t : Nat) (E : Mf) : Mf := fun i j => E i j + pmG r at_ t i j

def pm2 (n : Nat) (r : List Int) (at_ : Nat) (E : Mf) : Mf := iterN (pm3 r at_) E n

def pm1 (n : Nat) (rs : List (List Int)) (t : Nat) (E : Mf) : Mf := iterN (pm2 n (rs.getD t [])) E (rs.getD t []).length

theorem pm3_bnd {r : List Int} {at_ t : Nat} {E : Mf} {c : Nat} (h : Bnd E c) : Bnd (pm3 r at_ t E) (c + 1) := fun i j => by
  have := h i j
  have := pmG_in r at_ t i j
  unfold pm3
  omega

theorem pm2_bnd {n : Nat} {r : List Int} {at_ : Nat} {E : Mf} {c : Nat} (h : Bnd E c) : Bnd (pm2 n r at_ E) (c + n) :=
  iterN_inv (Inv := fun t E => Bnd E (c + t)) h n fun _ _ _ hv => pm3_bnd hv

theorem pm1_bnd {n : Nat} {rs : List (List Int)} {t : Nat} {E : Mf} {c : Nat} (h : Bnd E c) : Bnd (pm1 n rs t E) (c + n * (rs.getD t []).length) :=
  iterN_inv (Inv := fun u E => Bnd E (c + n * u)) h _ fun u E _ hv => by
    have := pm2_bnd (n := n) (r := rs.getD t []) (at_ := u) hv
    rwa [show c + n * u + n = c + n * (u + 1) by rw [Nat.mul_add, Nat.mul_one, Nat.add_assoc]] at this

theorem inner_loop {β : Type} {n at_ : Nat} {r : List Int} {a : Int} {E : Mf} {c : Nat} (fin' : List (List Int) → Option β) (hn : n ≤ 8) (ha : r[at_]? = some a) (ha0 : 0 ≤ a) (han : a < n) (hr : r.length < 2 ^ 30) (hE : Bnd E c) (hc : c ≤ 1000000)
    {body : (Int × List (List Int) → Option β) → Int × List (List Int) → Option β}
    (hb : ∀ again s, body again s = cond (decide (s.1 < (n : Int))) (bindO (some (IntKind.wrap .i64 ((at_ : Int) + 1))) fun a15 => bindO (sliceNH a15 r.length) fun a16 => bindO (M_slices_Contains_sint_int (List.drop a16.1 (List.take a16.2 r), s.1)) fun a17 => cond (not a17) (bindO (getI s.2 a) fun a18 => bindO (getI a18 s.1) fun a19 => bindO (some (IntKind.wrap .i64 (a19 + 1))) fun a20 => bindO (getI a18 s.1) fun _ => bindO (some (List.modify s.2 (Int.toNat a) fun _ => List.set a18 (Int.toNat s.1) a20)) fun a23 => bindO (some (IntKind.wrap .i64 (s.1 + 1))) fun a24 => again (a24, a23)) (bindO (some (IntKind.wrap .i64 (s.1 + 1))) fun a25 => again (a25, s.2))) (fin' s.2)) :
    loopO body (0, mat n E) = fin' (mat n (pm2 n r at_ E)) := by
  obtain ⟨A, rfl⟩ := Int.eq_ofNat_of_zero_le ha0
  have hat := (List.getElem?_eq_some_iff.1 ha).1
  refine iter_loop (pm3 r at_) E n (fun i E => (i, mat n E)) (fun E => fin' (mat n E)) (fun t E => Bnd E (c + t)) (by omega) hE (fun _ _ _ hv => pm3_bnd hv) (fun again t E ht hv => ?_) (fun again E hv => ?_)
  · rw [hb]
    have hAn : A < n := by omega
    have hb2 := hv A t
    have htk : (r.take (at_ + 1)).length < 2 ^ 62 := by rw [List.length_take]; omega
    simp only [lt_yes ht, cond_true, i64_succ (show at_ < 2 ^ 62 by omega), bindO_some', sliceNH_nat (show at_ + 1 ≤ r.length by omega), List.drop_zero, contains_eq htk, getI_nat, mat_get hAn, rowN_get ht, i64_in (E A t + 1) (by omega), Int.toNat_natCast, i64_succ (show t < 2 ^ 62 by omega)]
    have hg : r.getD at_ 0 = (A : Int) := getD_is ha
    cases hC : (r.take (at_ + 1)).any (· == (t : Int))
    · simp only [Bool.not_false, cond_true]
      rw [mat_modify]
      congr 2
      refine mat_congr fun i j _ _ => ?_
      unfold pm3 pmG
      rw [hC, hg]
      by_cases h1 : i = A ∧ j = t
      · obtain ⟨rfl, rfl⟩ := h1
        simp
      · rw [if_neg h1, if_neg (fun h => h1 ⟨by have := h.1.1; omega, h.1.2⟩)]
        omega
    · simp only [Bool.not_true, cond_false]
      congr 2
      refine mat_congr fun i j _ _ => ?_
      unfold pm3 pmG
      rw [hC]
      simp
  · rw [hb]
    simp only [lt_no, cond_false]

theorem ranks_loop {β : Type} {n : Nat} {rs : List (List Int)} {E : Mf} (fin' : List (List Int) → Option β) (hn : n ≤ 8) (hl : rs.length ≤ 24) (hrl : ∀ r ∈ rs, r.length ≤ 8) (hre : ∀ r ∈ rs, ∀ a ∈ r, 0 ≤ a ∧ a < n) (hE : Bnd E 0)
    {body : (Int × List (List Int) → Option β) → Int × List (List Int) → Option β}
    (hb : ∀ again7 s8, body again7 s8 = cond (decide (s8.1 < ((rs.length : Nat) : Int))) (bindO (getI rs s8.1) fun a9 => loopO (fun (again10 : Int × List (List Int) → Option β) (s11 : Int × List (List Int)) => cond (decide (s11.1 < ((a9.length : Nat) : Int))) (bindO (getI a9 s11.1) fun a12 => loopO (fun (again13 : Int × List (List Int) → Option β) (s : Int × List (List Int)) => cond (decide (s.1 < (n : Int))) (bindO (some (IntKind.wrap .i64 (s11.1 + 1))) fun a15 => bindO (sliceNH a15 a9.length) fun a16 => bindO (M_slices_Contains_sint_int (List.drop a16.1 (List.take a16.2 a9), s.1)) fun a17 => cond (not a17) (bindO (getI s.2 a12) fun a18 => bindO (getI a18 s.1) fun a19 => bindO (some (IntKind.wrap .i64 (a19 + 1))) fun a20 => bindO (getI a18 s.1) fun _ => bindO (some (List.modify s.2 (Int.toNat a12) fun _ => List.set a18 (Int.toNat s.1) a20)) fun a23 => bindO (some (IntKind.wrap .i64 (s.1 + 1))) fun a24 => again13 (a24, a23)) (bindO (some (IntKind.wrap .i64 (s.1 + 1))) fun a25 => again13 (a25, s.2)))
      (bindO (some (IntKind.wrap .i64 (s11.1 + 1))) fun a26 => again10 (a26, s.2))) (0, s11.2)) (bindO (some (IntKind.wrap .i64 (s8.1 + 1))) fun a27 => again7 (a27, s11.2))) (0, s8.2)) (fin' s8.2)) :
    loopO body (0, mat n E) = fin' (mat n (iterN (pm1 n rs) E rs.length)) := by
  refine iter_loop (pm1 n rs) E rs.length (fun i E => (i, mat n E)) (fun E => fin' (mat n E)) (fun t E => Bnd E (64 * t)) (by omega) hE (fun t E ht hv => ?_) (fun again t E ht hv => ?_) (fun again E hv => ?_)
  · have h1 := pm1_bnd (n := n) (rs := rs) (t := t) hv
    have h2 := hrl (rs.getD t []) (List.mem_of_getElem? (getD_at ht))
    have h3 : n * (rs.getD t []).length ≤ 8 * 8 := Nat.mul_le_mul hn h2
    intro i j
    have := h1 i j
    omega
  · rw [hb]
    have hr := getD_at (d := ([] : List Int)) ht
    unfold pm1
    have h2 := hrl (rs.getD t []) (List.mem_of_getElem? hr)
    have h4 := hre (rs.getD t []) (List.mem_of_getElem? hr)
    generalize rs.getD t [] = r at hr h2 h4
    simp only [lt_yes ht, cond_true, getI_nat, hr, bindO_some']
    refine iter_loop (pm2 n r) E r.length (fun i E => (i, mat n E)) (fun E => again (((t + 1 : Nat) : Int), mat n E)) (fun u E => Bnd E (64 * t + n * u)) (by omega) (by simpa using hv) (fun u E hu hw => ?_) (fun again2 u E hu hw => ?_) (fun again2 E hw => ?_)
    · have := pm2_bnd (n := n) (r := r) (at_ := u) hw
      rwa [show 64 * t + n * u + n = 64 * t + n * (u + 1) by rw [Nat.mul_add, Nat.mul_one, Nat.add_assoc]] at this
    · have ha := List.getElem?_eq_getElem hu
      have h5 := h4 _ (List.getElem_mem hu)
      generalize r[u] = a at ha h5
      have h3 : n * u ≤ 8 * 8 := Nat.mul_le_mul hn (by omega)
      simp only [lt_yes hu, cond_true, getI_nat, ha, bindO_some']
      refine (inner_loop (fun m => bindO (some (IntKind.wrap .i64 ((u : Int) + 1))) fun a26 => again2 (a26, m)) hn ha h5.1 h5.2 (by omega) hw (by omega) (fun _ _ => rfl)).trans ?_
      rw [i64_succ (by omega), bindO_some']
    · simp only [lt_no, cond_false, i64_succ (show t < 2 ^ 62 by omega)]
  · rw [hb]
    simp only [lt_no, cond_false]

theorem place_ge : ∀ (l : List Int) (m : Nat) (k : Int), m + l.length ≤ 8 → (m : Int) ≤ place l m k ∧ place l m k ≤ 8
  | [], m, k, h => by simp only [place, List.length_nil] at *; omega
  | x :: r, m, k, h => by
    rw [place]
    cases x == k
    · have := place_ge r (m + 1) k (by simp only [List.length_cons] at h; omega)
      rw [cond_false]
      omega
    · rw [cond_true]
      simp only [List.length_cons] at h
      omega

theorem place_out : ∀ (l : List Int) (m : Nat) (k : Int), k ∉ l → place l m k = 8
  | [], m, k, h => rfl
  | x :: r, m, k, h => by
    simp only [List.mem_cons, not_or] at h
    rw [place, show (x == k) = false from by simpa using fun e => h.1 e.symm, cond_false]
    exact place_out r (m + 1) k h.2

theorem place_cnt (i j : Int) : ∀ (l pre : List Int) (m : Nat), l.Nodup → m + l.length ≤ 8 →
    sumN l.length (fun t => if i = l.getD t 0 ∧ (!(pre ++ l.take (t + 1)).any (· == j)) = true then 1 else 0) = if pre.any (· == j) = true then 0 else if place l m i < place l m j then 1 else 0
  | [], pre, m, _, h => by
    simp [sumN, place]
  | x :: r, pre, m, hn, h => by
    simp only [List.length_cons] at h
    obtain ⟨hx, hn'⟩ := List.nodup_cons.1 hn
    have ih := place_cnt i j r (pre ++ [x]) (m + 1) hn' (by omega)
    rw [List.length_cons, sumN_front]
    have e : (fun t => if i = (x :: r).getD (t + 1) 0 ∧ (!(pre ++ (x :: r).take (t + 1 + 1)).any (· == j)) = true then (1 : Int) else 0) = fun t => if i = r.getD t 0 ∧ (!((pre ++ [x]) ++ r.take (t + 1)).any (· == j)) = true then 1 else 0 := by
      funext t
      rw [List.take_succ_cons, List.append_assoc]
      rfl
    rw [e, ih]
    rw [show (x :: r).getD 0 0 = x from rfl, show (x :: r).take (0 + 1) = [x] from rfl]
    have hpx : (pre ++ [x]).any (· == j) = (pre.any (· == j) || (x == j)) := by simp
    rw [hpx]
    have p1 := place_ge r (m + 1) i (by omega)
    have p2 := place_ge r (m + 1) j (by omega)
    rw [place, place]
    cases hp : pre.any (· == j)
    · by_cases hxj : x = j
      · subst hxj
        cases hxi : x == i
        · simp; omega
        · simp
      · have hxj' : (x == j) = false := by simpa using hxj
        rw [hxj']
        by_cases hxi : i = x
        · subst hxi
          have := place_out r (m + 1) i hx
          simp [this]
          omega
        · have hxi' : (x == i) = false := by simpa using fun e => hxi e.symm
          rw [hxi']
          simp [hxi]
    · simp

theorem pm_final {n : Nat} {rs : List (List Int)} (hrl : ∀ r ∈ rs, r.length ≤ 8 ∧ r.Nodup) : mat n (iterN (pm1 n rs) (fun _ _ => 0) rs.length) = matOf n rs := by
  have e2 : ∀ r, (fun at_ (E : Mf) => pm2 n r at_ E) = fun at_ (E : Mf) => fun i j => E i j + sumN n fun t => pmG r at_ t i j := fun r => by
    funext at_ E
    exact iterN_add (fun t => pmG r at_ t) E n
  have e1 : pm1 n rs = fun t (E : Mf) => fun i j => E i j + sumN (rs.getD t []).length fun at_ => sumN n fun u => pmG (rs.getD t []) at_ u i j := by
    funext t E
    show iterN (fun at_ E => pm2 n (rs.getD t []) at_ E) E _ = _
    rw [e2]
    exact iterN_add (fun at_ => fun i j => sumN n fun u => pmG (rs.getD t []) at_ u i j) E _
  rw [e1, iterN_add (fun t => fun i j => sumN (rs.getD t []).length fun at_ => sumN n fun u => pmG (rs.getD t []) at_ u i j)]
  have cnt : ∀ r ∈ rs, ∀ i j : Nat, j < n → (sumN r.length fun at_ => sumN n fun u => pmG r at_ u i j) = if place r 0 i < place r 0 j then 1 else 0 := fun r hr i j hj => by
    have := place_cnt i j r [] 0 (hrl r hr).2 (by have := (hrl r hr).1; omega)
    simp only [List.any_nil, Bool.false_eq_true, if_false, List.nil_append] at this
    rw [← this]
    refine sumN_congr _ fun t ht => ?_
    by_cases hi : (i : Int) = r.getD t 0
    · have : (fun u => pmG r t u i j) = fun u => if u = j ∧ (!(r.take (t + 1)).any (· == (u : Int))) = true then 1 else 0 := by
        funext u
        unfold pmG
        simp only [hi, true_and, eq_comm (a := j)]
      rw [this, sumN_one n]
      simp only [hj, hi, true_and]
    · rw [if_neg (fun h => hi h.1), sumN_zero]
      intro u _
      unfold pmG
      rw [if_neg (fun h => hi h.1.1)]
  refine mat_congr fun i j hi hj => ?_
  rw [Int.zero_add]
  clear e1 e2
  have : ∀ (l : List (List Int)), (∀ r ∈ l, r ∈ rs) → (sumN l.length fun t => sumN (l.getD t []).length fun at_ => sumN n fun u => pmG (l.getD t []) at_ u i j) = ((ahead l i j : Nat) : Int) := by
    intro l
    induction l with
    | nil => intro _; rfl
    | cons r l ih =>
      intro hl
      rw [List.length_cons, sumN_front, ahead_cons]
      rw [show (r :: l).getD 0 [] = r from rfl, cnt r (hl r List.mem_cons_self) i j hj]
      rw [show (fun t => sumN ((r :: l).getD (t + 1) []).length fun at_ => sumN n fun u => pmG ((r :: l).getD (t + 1) []) at_ u i j) = fun t => sumN (l.getD t []).length fun at_ => sumN n fun u => pmG (l.getD t []) at_ u i j from rfl, ih fun r hr => hl r (List.mem_cons_of_mem _ hr)]
      split <;> simp
  exact this rs fun _ h => h

theorem nodup_short {r : List Int} {k : Int} (hk : k ≤ 8) (hr : ∀ a ∈ r, 0 ≤ a ∧ a ≤ k - 1) (hn : r.Nodup) : r.length ≤ 8 := by
  have h := List.Nodup.length_le_of_subset (l₂ := (List.range 8).map fun i : Nat => (i : Int)) hn fun a ha => by
    have := hr a ha
    obtain ⟨n, rfl⟩ := Int.eq_ofNat_of_zero_le this.1
    exact List.mem_map.2 ⟨n, List.mem_range.2 (by omega), rfl⟩
  simpa using h

theorem rowN_zero (n : Nat) : rowN n (fun _ => 0) = List.replicate n 0 := by
  refine List.ext_getElem? fun j => ?_
  rw [List.getElem?_replicate]
  split
  · rename_i h
    exact rowN_get h
  · rw [List.getElem?_eq_none (by rw [rowN_len]; omega)]

noncomputable def pmBody {β : Type} (n : Nat) (rs : List (List Int)) (fin' : List (List Int) → Option β) : (Int × List (List Int) → Option β) → Int × List (List Int) → Option β := fun again7 s8 => cond (decide (s8.1 < ((rs.length : Nat) : Int))) (bindO (getI rs s8.1) fun a9 => loopO (fun (again10 : Int × List (List Int) → Option β) (s11 : Int × List (List Int)) => cond (decide (s11.1 < ((a9.length : Nat) : Int))) (bindO (getI a9 s11.1) fun a12 => loopO (fun (again13 : Int × List (List Int) → Option β) (s : Int × List (List Int)) => cond (decide (s.1 < ((n : Nat) : Int))) (bindO (some (IntKind.wrap .i64 (s11.1 + 1))) fun a15 => bindO (sliceNH a15 a9.length) fun a16 => bindO (M_slices_Contains_sint_int (List.drop a16.1 (List.take a16.2 a9), s.1)) fun a17 => cond (not a17) (bindO (getI s.2 a12) fun a18 => bindO (getI a18 s.1) fun a19 => bindO (some (IntKind.wrap .i64 (a19 + 1))) fun a20 => bindO (getI a18 s.1) fun _ => bindO (some (List.modify s.2 (Int.toNat a12) fun _ => List.set a18 (Int.toNat s.1) a20)) fun a23 => bindO (some (IntKind.wrap .i64 (s.1 + 1))) fun a24 => again13 (a24, a23)) (bindO (some (IntKind.wrap .i64 (s.1 + 1))) fun a25 => again13 (a25, s.2)))
      (bindO (some (IntKind.wrap .i64 (s11.1 + 1))) fun a26 => again10 (a26, s.2))) (0, s11.2)) (bindO (some (IntKind.wrap .i64 (s8.1 + 1))) fun a27 => again7 (a27, s11.2))) (0, s8.2)) (fin' s8.2)

theorem I_PairwiseMatrix_eq {k : Int} {rs : List (List Int)} (hx : rs.length < 2 ^ 62) (hr : ∀ r ∈ rs, r.length < 2 ^ 62) : M_I_PairwiseMatrix (k, rs) = some (bif okR k rs then (matOf k.toNat rs, true) else ([], false)) := by
  unfold M_I_PairwiseMatrix
  dsimp only
  rw [areRankings_eq hx hr, bindO_some']
  cases hok : okR k rs with
  | false => rfl
  | true =>
    obtain ⟨k1, k2, k3, k4⟩ := okR_spec hok
    obtain ⟨n, rfl⟩ := Int.eq_ofNat_of_zero_le (show 0 ≤ k by omega)
    have hrl : ∀ r ∈ rs, r.length ≤ 8 ∧ r.Nodup := fun r hm => ⟨nodup_short (by omega) (k4 r hm).1 (k4 r hm).2, (k4 r hm).2⟩
    have hml := mat_len n fun _ _ => 0
    simp only [Bool.not_true, cond_false, cond_true, Int.toNat_natCast]
    rw [← pm_final (n := n) hrl]
    have hlim : ((n : Int)) ≤ ((lim : Nat) : Int) := by rw [lim_eq]; omega
    refine (append_loop (mat n fun _ _ => 0) (fun m => loopO (pmBody n rs fun m => some (m, true)) (0, m)) (fun again i a t ha hi ht => ?_) (fun again t ht => ?_) (by omega)).trans (ranks_loop (fun m => some (m, true)) (by omega) k3 (fun r hm => (hrl r hm).1) (fun r hm a ha => by have := (k4 r hm).1 a ha; omega) (fun _ _ => ⟨by omega, by simp⟩) (fun _ _ => rfl))
    · rw [hml] at hi
      rw [mat_get hi, rowN_zero] at ha
      cases ha
      have h3 : guardO (lenOk (t.length + [List.replicate n (0 : Int)].length)) = some () := guardO_of (lenOk_of (by simp only [List.length_cons, List.length_nil]; omega))
      dsimp only
      rw [lt_yes hi, cond_true, guardO_of (by simpa using hlim), bindO_some', h3, bindO_some', bindO_some', i64_succ (by omega), bindO_some']
    · rw [hml]
      dsimp only
      rw [lt_no, cond_false]
      rfl

theorem bits_255 (x : Int) : 0 ≤ Vd.bits .and .u64 x 255 ∧ Vd.bits .and .u64 x 255 ≤ 255 := by
  have h : (BitVec.ofInt (IntKind.bits .u64) x &&& BitVec.ofInt (IntKind.bits .u64) 255).toNat ≤ 255 := by
    rw [BitVec.toNat_and]
    exact Nat.le_trans Nat.and_le_right (by decide)
  show 0 ≤ IntKind.wrap .u64 ((BitVec.ofInt (IntKind.bits .u64) x &&& BitVec.ofInt (IntKind.bits .u64) 255).toNat : Int) ∧ IntKind.wrap .u64 ((BitVec.ofInt (IntKind.bits .u64) x &&& BitVec.ofInt (IntKind.bits .u64) 255).toNat : Int) ≤ 255
  generalize (BitVec.ofInt (IntKind.bits .u64) x &&& BitVec.ofInt (IntKind.bits .u64) 255).toNat = n at h ⊢
  rw [wrap_u64 (by omega)]
  omega

def Bytes (code : List Int) : Prop := ∀ a ∈ code, 0 ≤ a ∧ a ≤ 255

theorem next_ok {code : List Int} {pos seed : Int} (hb : Bytes code) (h0 : 0 ≤ pos) (h1 : pos ≤ 2 ^ 40) : ∃ v seed', M_S_l1Cur_next (code, pos, seed) = some (v, code, pos + 1, seed') ∧ 0 ≤ v ∧ v ≤ 255 := by
  obtain ⟨k, rfl⟩ : ∃ k : Nat, pos = (k : Int) := ⟨pos.toNat, by omega⟩
  unfold M_S_l1Cur_next
  dsimp only
  by_cases hl : k < code.length
  · have hg := List.getElem?_eq_getElem hl
    have ha := hb _ (List.getElem_mem hl)
    rw [lt_yes hl, cond_true, getI_nat, hg, bindO_some', i64_in ((k : Int) + 1) (by omega), bindO_some', bindO_some', bindO_some', bindO_some', decide_eq_true (show (k : Int) + 1 ≤ ((code.length : Nat) : Int) by omega), cond_true, i64_in code[k] (by omega)]
    exact ⟨_, _, rfl, ha.1, ha.2⟩
  · rw [decide_eq_false (show ¬ (k : Int) < ((code.length : Nat) : Int) by omega), cond_false, i64_in ((k : Int) + 1) (by omega), bindO_some', bindO_some', bindO_some', bindO_some', decide_eq_false (show ¬ (k : Int) + 1 ≤ ((code.length : Nat) : Int) by omega), cond_false, guardO_of (by decide), bindO_some', bindO_some', bindO_some']
    have hx := bits_255 (shr .u64 (IntKind.wrap .u64 (IntKind.wrap .u64 (IntKind.wrap .u64 (seed * 6364136223846793005) + IntKind.wrap .u64 0) + 1442695040888963407)) 40)
    rw [i64_in _ (by omega)]
    exact ⟨_, _, rfl, hx.1, hx.2⟩

theorem pick_ok {code : List Int} {pos seed n : Int} (hb : Bytes code) (h0 : 0 ≤ pos) (h1 : pos ≤ 2 ^ 39) (hn : n ≤ 2 ^ 40) : ∃ v pos' seed', M_S_l1Cur_pick ((code, pos, seed), n) = some (v, code, pos', seed') ∧ 0 ≤ v ∧ v ≤ 65535 ∧ (n ≤ 1 → v = 0) ∧ (1 < n → v < n) ∧ pos ≤ pos' ∧ pos' ≤ pos + 2 := by
  unfold M_S_l1Cur_pick
  dsimp only
  by_cases hn1 : n ≤ 1
  · rw [decide_eq_true hn1, cond_true]
    exact ⟨_, _, _, rfl, by omega, by omega, fun _ => rfl, fun h => by omega, by omega, by omega⟩
  have hg0 : guardO (n != 0) = some () := guardO_of (bne_iff_ne.2 (by omega))
  obtain ⟨v, s1, e1, v1, v2⟩ := next_ok (seed := seed) hb h0 (by omega)
  rw [decide_eq_false hn1, cond_false, e1, bindO_some']
  dsimp only
  by_cases h2 : n > 200
  · obtain ⟨w, s2, e2, w1, w2⟩ := next_ok (seed := s1) hb (show 0 ≤ pos + 1 by omega) (by omega)
    rw [decide_eq_true h2, cond_true, i64_in _ (by omega), bindO_some', e2, bindO_some']
    dsimp only
    rw [i64_in _ (by omega), bindO_some', hg0, bindO_some', tmod_nn (by omega), bindO_some']
    have r1 := Int.emod_nonneg (v * 256 + w) (show n ≠ 0 by omega)
    have r2 := Int.emod_lt_of_pos (v * 256 + w) (show 0 < n by omega)
    have r3 : (v * 256 + w) % n ≤ v * 256 + w := by
      by_cases hlt : v * 256 + w < n
      · rw [Int.emod_eq_of_lt (by omega) hlt]
        exact Int.le_refl _
      · omega
    exact ⟨_, _, _, rfl, r1, by omega, fun h => by omega, fun _ => r2, by omega, by omega⟩
  · rw [decide_eq_false h2, cond_false, hg0, bindO_some', tmod_nn v1, bindO_some']
    have r1 := Int.emod_nonneg v (show n ≠ 0 by omega)
    have r2 := Int.emod_lt_of_pos v (show 0 < n by omega)
    exact ⟨_, _, _, rfl, r1, by omega, fun h => by omega, fun _ => r2, by omega, by omega⟩

theorem one_ok {code : List Int} {pos seed n : Int} (hb : Bytes code) (h0 : 0 ≤ pos) (h1 : pos ≤ 2 ^ 39) (hn : n ≤ 2 ^ 40) : ∃ b pos' seed', M_S_l1Cur_one ((code, pos, seed), n) = some (b, code, pos', seed') ∧ pos ≤ pos' ∧ pos' ≤ pos + 2 := by
  obtain ⟨v, p, s, e, -, -, -, -, h3, h4⟩ := pick_ok (seed := seed) hb h0 h1 hn
  refine ⟨v == 0, p, s, ?_, h3, h4⟩
  unfold M_S_l1Cur_one
  dsimp only
  rw [e, bindO_some']

theorem among_ok {code l : List Int} {pos seed : Int} (hb : Bytes code) (h0 : 0 ≤ pos) (h1 : pos ≤ 2 ^ 39) (hl : 1 ≤ l.length ∧ l.length ≤ 1000) : ∃ v pos' seed', M_S_l1Cur_among ((code, pos, seed), l) = some (v, code, pos', seed') ∧ v ∈ l ∧ pos ≤ pos' ∧ pos' ≤ pos + 2 := by
  obtain ⟨v, p, s, e, h2, -, h5, h6, h3, h4⟩ := pick_ok (seed := seed) (n := (l.length : Int)) hb h0 h1 (by omega)
  obtain ⟨k, rfl⟩ : ∃ k : Nat, v = (k : Int) := ⟨v.toNat, by omega⟩
  have hk : k < l.length := by omega
  refine ⟨l[k], p, s, ?_, List.getElem_mem hk, h3, h4⟩
  unfold M_S_l1Cur_among
  dsimp only
  rw [e, bindO_some']
  dsimp only
  rw [getI_nat, List.getElem?_eq_getElem hk, bindO_some']

theorem wf_u8 {code : List Int} (h : WF (.sl (.int .u8)) code) : Bytes code := fun a ha => by
  have h1 : IntKind.u8.min ≤ a ∧ a ≤ IntKind.u8.max := h.2 a ha
  have e1 : IntKind.u8.min = 0 := by decide
  have e2 : IntKind.u8.max = 255 := by decide
  omega

theorem qInts_eq {a : List Int} (h : a.length < 2 ^ 62) : M_L_qInts (a, a) = some true := by
  unfold M_L_qInts
  dsimp only
  rw [bne_self_eq_false, cond_false]
  refine loopO_for (σ := Unit) (fun i _ => (i : Int)) a.length (fun _ _ => some true) (fun _ _ => True) (fun again _ _ => ?_) (fun again i _ hi _ ih => ?_) (by omega) (i := 0) (s := ()) (Nat.zero_le _) trivial
  · rw [lt_no, cond_false]
  · have hg := List.getElem?_eq_getElem hi
    rw [lt_yes hi, cond_true, getI_nat, hg, bindO_some', bindO_some', bne_self_eq_false, cond_false, i64_succ (by omega), bindO_some']
    exact ih () trivial

/-- A loop that counts, to a given end. -/
theorem loopO_to {τ β : Type} {body : (τ → Option β) → τ → Option β} (enc : Nat → τ) (N : Nat) (r : Option β) (hN : N < 2 ^ 62)
    (hend : ∀ again : τ → Option β, body again (enc N) = r) (hin : ∀ (again : τ → Option β) (i : Nat), i < N → again (enc (i + 1)) = r → body again (enc i) = r) : loopO body (enc 0) = r :=
  loopO_for (body := body) (σ := Unit) (fun i _ => enc i) N (fun _ _ => r) (fun _ _ => True) (fun again _ _ => hend again) (fun again i _ hi _ ih => hin again i hi (ih () trivial)) (by omega) (i := 0) (s := ()) (Nat.zero_le _) trivial

theorem bind_to {α β : Type} {m : Option α} {v : α} {f : α → Option β} {r : Option β} (h : m = some v) (h2 : f v = r) : bindO m f = r := by
  rw [h]
  exact h2

theorem yes_to {β : Type} {c : Bool} {a b r : Option β} (h : c = true) (h2 : a = r) : cond c a b = r := by
  rw [h]
  exact h2

theorem no_to {β : Type} {c : Bool} {a b r : Option β} (h : c = false) (h2 : b = r) : cond c a b = r := by
  rw [h]
  exact h2

theorem sameInts_eq {a : List Int} (h : a.length < 2 ^ 62) : M_L_sameInts (a, a) = some true := qInts_eq h

theorem big_some (a b : List Int) : ∃ v, M_L_big (a, b) = some v := by
  unfold M_L_big
  dsimp only
  cases decide (((a.length : Nat) : Int) > 1048576) <;> exact ⟨_, rfl⟩

def Dn {α : Type} (m : Option α) (Q : α → Prop) : Prop := ∃ v, m = some v ∧ Q v

theorem dn_some {α : Type} {v : α} {Q : α → Prop} (h : Q v) : Dn (some v) Q := ⟨v, rfl, h⟩

theorem dn_bind {α β : Type} {m : Option α} {f : α → Option β} {Q : α → Prop} {R : β → Prop} (h : Dn m Q) (k : ∀ v, Q v → Dn (f v) R) : Dn (bindO m f) R := by
  obtain ⟨v, e, hv⟩ := h
  rw [e, bindO_some']
  exact k v hv

theorem dn_is {α β : Type} {m : Option α} {v : α} {f : α → Option β} {R : β → Prop} (h : m = some v) (k : Dn (f v) R) : Dn (bindO m f) R := by
  rw [h, bindO_some']
  exact k

theorem dn_cond {β : Type} {b : Bool} {x y : Option β} {R : β → Prop} (h1 : b = true → Dn x R) (h2 : b = false → Dn y R) : Dn (cond b x y) R := by
  cases b
  · exact h2 rfl
  · exact h1 rfl

theorem dn_yes {β : Type} {b : Bool} {x y : Option β} {R : β → Prop} (h : b = true) (k : Dn x R) : Dn (cond b x y) R := by
  rw [h]
  exact k

theorem dn_no {β : Type} {b : Bool} {x y : Option β} {R : β → Prop} (h : b = false) (k : Dn y R) : Dn (cond b x y) R := by
  rw [h]
  exact k

theorem dn_weak {α : Type} {m : Option α} {Q R : α → Prop} (h : Dn m Q) (k : ∀ v, Q v → R v) : Dn m R := by
  obtain ⟨v, e, hv⟩ := h
  exact ⟨v, e, k v hv⟩

theorem dn_wrap {β : Type} {e : Int} {f : Int → Option β} {R : β → Prop} (h : -1000000000000000000 ≤ e ∧ e ≤ 1000000000000000000) (k : Dn (f e) R) : Dn (bindO (some (IntKind.wrap .i64 e)) f) R := by
  rw [i64_in _ (by omega), bindO_some']
  exact k

theorem dn_len {β : Type} {n : Nat} {f : Unit → Option β} {R : β → Prop} (h : n ≤ 1000000000) (k : Dn (f ()) R) : Dn (bindO (guardO (lenOk n)) f) R := by
  rw [guardO_of (lenOk_of (by omega)), bindO_some']
  exact k

theorem dn_loop {σ β : Type} {body : (σ → Option β) → σ → Option β} {R : β → Prop} (Inv : σ → Prop) (μ : σ → Nat)
    (step : ∀ (again : σ → Option β) s, Inv s → (∀ s', Inv s' → μ s' < μ s → Dn (again s') R) → Dn (body again s) R) {s : σ} (h0 : Inv s) (hm : μ s < 2 ^ 64) : Dn (loopO body s) R :=
  loopO_ind (fun _ y => Dn y R) Inv μ step h0 hm

theorem dn_getI {α β : Type} {l : List α} {i : Int} {f : α → Option β} {R : β → Prop} (h0 : 0 ≤ i) (h1 : i < l.length) (k : ∀ a, l[i.toNat]? = some a → Dn (f a) R) : Dn (bindO (getI l i) f) R := by
  obtain ⟨n, rfl⟩ := Int.eq_ofNat_of_zero_le h0
  have hn : n < l.length := by omega
  have e := List.getElem?_eq_getElem hn
  rw [getI_nat, e, bindO_some']
  exact k _ e

abbrev CurT := List Int × Int × Int

/-- The cursor stands no further than 1000 n. -/
def Cu (n : Nat) (c : CurT) : Prop := Bytes c.1 ∧ 0 ≤ c.2.1 ∧ c.2.1 ≤ 1000 * (n : Int)

theorem cu_up {n m : Nat} {c : CurT} (h : Cu n c) (hm : n ≤ m) : Cu m c := ⟨h.1, h.2.1, by have := h.2.2; omega⟩

theorem cu_start {code : List Int} (h : Bytes code) : Cu 0 (code, 0, 0) := ⟨h, Int.le_refl _, Int.le_refl _⟩

theorem cu_step {n : Nat} {code : List Int} {pos pos' s s' : Int} (h : Cu n (code, pos, s)) (h1 : pos ≤ pos') (h2 : pos' ≤ pos + 1000) : Cu (n + 1) (code, pos', s') := by
  obtain ⟨a, b, c⟩ := h
  dsimp only at b c
  exact ⟨a, by dsimp only; omega, by dsimp only; omega⟩

theorem dn_pick {n : Nat} {c : CurT} {k : Int} (h : Cu n c) (hn : n ≤ 1000000) (hk : k ≤ 2 ^ 40) : Dn (M_S_l1Cur_pick (c, k)) (fun r => (0 ≤ r.1 ∧ r.1 ≤ 65535 ∧ (k ≤ 1 → r.1 = 0) ∧ (1 < k → r.1 < k)) ∧ Cu (n + 1) r.2) := by
  obtain ⟨code, pos, seed⟩ := c
  have h' := h
  obtain ⟨a, b, d⟩ := h
  dsimp only at a b d
  obtain ⟨v, p, s, e, h1, h2, h3, h4, h5, h6⟩ := pick_ok (seed := seed) (n := k) a b (by omega) hk
  exact ⟨_, e, ⟨h1, h2, h3, h4⟩, cu_step h' h5 (by omega)⟩

theorem dn_one {n : Nat} {c : CurT} {k : Int} (h : Cu n c) (hn : n ≤ 1000000) (hk : k ≤ 2 ^ 40) : Dn (M_S_l1Cur_one (c, k)) (fun r => Cu (n + 1) r.2) := by
  obtain ⟨code, pos, seed⟩ := c
  have h' := h
  obtain ⟨a, b, d⟩ := h
  dsimp only at a b d
  obtain ⟨v, p, s, e, h5, h6⟩ := one_ok (seed := seed) (n := k) a b (by omega) hk
  exact ⟨_, e, cu_step h' h5 (by omega)⟩

theorem dn_among {n : Nat} {c : CurT} {l : List Int} (h : Cu n c) (hn : n ≤ 1000000) (hl : 1 ≤ l.length ∧ l.length ≤ 1000) : Dn (M_S_l1Cur_among (c, l)) (fun r => r.1 ∈ l ∧ Cu (n + 1) r.2) := by
  obtain ⟨code, pos, seed⟩ := c
  have h' := h
  obtain ⟨a, b, d⟩ := h
  dsimp only at a b d
  obtain ⟨v, p, s, e, h1, h5, h6⟩ := among_ok (seed := seed) a b (by omega) hl
  exact ⟨_, e, h1, cu_step h' h5 (by omega)⟩

theorem dn_l1In (a b c : Int) : Dn (M_S_l1In (a, b, c)) (fun r => r = true → b ≤ a ∧ a ≤ c) := by
  rw [in_eq]
  exact dn_some fun h => of_decide_eq_true h

theorem dn_shuffle {n : Int} {coins : List Int} (hc : ∀ a ∈ coins, 0 ≤ a ∧ a ≤ 1000) : Dn (M_S_ShuffleCoins (n, coins)) (fun r => r.1.length ≤ 24) := by
  unfold M_S_ShuffleCoins
  dsimp only
  refine dn_bind (dn_l1In _ _ _) fun b hb => dn_cond (fun _ => dn_some (by simp)) fun hbt => ?_
  have hn := hb (by simpa using hbt)
  refine dn_wrap (by omega) (dn_cond (fun _ => dn_some (by simp)) fun hl => ?_)
  have hl' : (coins.length : Int) = n - 1 := by simpa using hl
  refine dn_loop (fun s : List Int × Int => 0 ≤ s.2 ∧ s.2 ≤ n ∧ (s.1.length : Int) = s.2) (fun s => (n - s.2).toNat) (fun again s hs ih => ?_) ⟨by dsimp only; omega, by dsimp only; omega, by simp⟩ (by dsimp only; omega)
  obtain ⟨p, i⟩ := s
  obtain ⟨h1, h2, h3⟩ := hs
  dsimp only at h1 h2 h3 ih ⊢
  refine dn_cond (fun hlt => ?_) fun hge => ?_
  · have hlt' := of_decide_eq_true hlt
    refine dn_len (by simp only [List.length_cons, List.length_nil]; omega) (dn_is rfl (dn_wrap (by omega) (ih _ ⟨by dsimp only; omega, by dsimp only; omega, ?_⟩ (by dsimp only; omega))))
    simp only [List.length_append, List.length_cons, List.length_nil]
    omega
  · have hge' := of_decide_eq_false hge
    have hpn : (p.length : Int) = n := by omega
    refine dn_loop (fun s : Int × List Int => 0 ≤ s.1 ∧ s.1 ≤ coins.length ∧ (s.2.length : Int) = n) (fun s => (n - s.1).toNat) (fun again2 s hs ih2 => ?_) ⟨by dsimp only; omega, by dsimp only; omega, hpn⟩ (by dsimp only; omega)
    obtain ⟨k, p2⟩ := s
    obtain ⟨g1, g2, g3⟩ := hs
    dsimp only at g1 g2 g3 ih2 ⊢
    refine dn_cond (fun hlt => ?_) fun _ => dn_some (by dsimp only; omega)
    have hlt' := of_decide_eq_true hlt
    refine dn_getI g1 hlt' fun a ha => ?_
    have ha' := hc a (List.mem_of_getElem? ha)
    refine dn_no (decide_eq_false (by omega)) (dn_wrap (by omega) (dn_wrap (by omega) (dn_wrap (by omega) (dn_is (guardO_of ?_) (dn_is rfl ?_)))))
    · exact bne_iff_ne.2 (by omega)
    have r1 : 0 ≤ a.tmod (n - 1 - k + 1) := by
      rw [tmod_nn ha'.1]
      exact Int.emod_nonneg _ (by omega)
    have r2 : a.tmod (n - 1 - k + 1) < n - 1 - k + 1 := by
      rw [tmod_nn ha'.1]
      exact Int.emod_lt_of_pos _ (by omega)
    generalize a.tmod (n - 1 - k + 1) = r at r1 r2
    refine dn_getI (by omega) (by omega) fun y hy => dn_getI (by omega) (by omega) fun z hz => dn_getI (by omega) (by omega) fun y2 hy2 => dn_is rfl (dn_getI (by omega) (by rw [List.length_set]; omega) fun z2 hz2 => dn_is rfl (dn_wrap (by omega) (ih2 _ ⟨by dsimp only; omega, by dsimp only; omega, ?_⟩ (by dsimp only; omega))))
    dsimp only
    rw [List.length_set, List.length_set]
    exact g3

theorem dn_perm {N : Nat} {c : CurT} {n : Int} (h : Cu N c) (hN : N ≤ 900000) (hn : n ≤ 30) : Dn (M_S_l1Cur_permutation (c, n)) (fun r => r.1.length ≤ 24 ∧ Cu (N + 40) r.2) := by
  unfold M_S_l1Cur_permutation
  dsimp only
  refine dn_loop (fun s : List Int × Int × CurT => 1 ≤ s.2.1 ∧ s.2.1 ≤ 31 ∧ (∀ a ∈ s.1, 0 ≤ a ∧ a ≤ 1000) ∧ (s.1.length : Int) ≤ s.2.1 ∧ Cu (N + s.2.1.toNat) s.2.2) (fun s => (40 - s.2.1).toNat) (fun again s hs ih => ?_)
    ⟨by dsimp only; omega, by dsimp only; omega, fun a ha => (by cases ha), by simp, cu_up h (by omega)⟩ (by dsimp only; omega)
  obtain ⟨l, k, cc⟩ := s
  obtain ⟨h1, h2, h3, h4, h5⟩ := hs
  dsimp only at h1 h2 h3 h4 h5 ih ⊢
  refine dn_cond (fun hlt => ?_) fun _ => dn_bind (dn_shuffle h3) fun r hr => dn_some ⟨hr, cu_up h5 (by omega)⟩
  have hlt' := of_decide_eq_true hlt
  refine dn_bind (dn_pick h5 (by omega) (by decide)) fun a ha => ?_
  obtain ⟨⟨a1, -, -, a3⟩, a4⟩ := ha
  have a3' := a3 (by decide)
  refine dn_len (by simp only [List.length_cons, List.length_nil]; omega) (dn_is rfl (dn_wrap (by omega) (ih _ ⟨by dsimp only; omega, by dsimp only; omega, ?_, ?_, cu_up a4 (by dsimp only; omega)⟩ (by dsimp only; omega))))
  · intro x hx
    rcases List.mem_append.1 hx with hx | hx
    · exact h3 x hx
    · simp only [List.mem_cons, List.not_mem_nil, or_false] at hx
      rw [hx]
      omega
  · simp only [List.length_append, List.length_cons, List.length_nil]
    omega

noncomputable def RkBody (nn : Int) : (((List (List Int)) × (Int × ((List Int) × (Int × Int)))) → (Option (Int × ((List (List Int)) × ((List Int) × (Int × Int)))))) → ((List (List Int)) × (Int × ((List Int) × (Int × Int)))) → (Option (Int × ((List (List Int)) × ((List Int) × (Int × Int))))) :=
  (fun (again8 : (((List (List Int)) × (Int × ((List Int) × (Int × Int)))) → (Option (Int × ((List (List Int)) × ((List Int) × (Int × Int))))))) => (fun (s9 : ((List (List Int)) × (Int × ((List Int) × (Int × Int))))) => (cond (decide (s9.2.1 > (0 : Int))) (bindO (M_S_l1Cur_permutation (s9.2.2, nn)) (fun (a10 : ((List Int) × ((List Int) × (Int × Int)))) => (cond (decide ((((List.length a10.1) : Nat) : Int) > (0 : Int))) (bindO (M_S_l1Cur_one (a10.2, (3 : Int))) (fun (a11 : (Bool × ((List Int) × (Int × Int)))) => (cond a11.1 (bindO (some (IntKind.wrap .i64 ((((List.length a10.1) : Nat) : Int) + (1 : Int)))) (fun (a12 : Int) => (bindO (M_S_l1Cur_pick (a11.2, a12)) (fun (a13 : (Int × ((List Int) × (Int × Int)))) => (bindO (sliceNH a13.1 (List.length a10.1)) (fun (a14 : (Nat × Nat)) => (bindO (guardO (lenOk ((List.length s9.1) + (List.length ((List.take a14.2 a10.1) :: ([] : List (List Int))))))) (fun (a15 : Unit) => (bindO (some (s9.1 ++ ((List.take a14.2 a10.1) :: ([] : List (List Int))))) (fun (a16 : (List (List Int))) => (bindO (some (IntKind.wrap .i64 (s9.2.1 - (1 : Int)))) (fun (a17 : Int) => (again8 (a16, (a17, a13.2))))))))))))))) (bindO (guardO (lenOk ((List.length s9.1) + (List.length (a10.1 :: ([] : List (List Int))))))) (fun (a18 : Unit) => (bindO (some (s9.1 ++ (a10.1 :: ([] : List (List Int))))) (fun (a19 : (List (List Int))) => (bindO (some (IntKind.wrap .i64 (s9.2.1 - (1 : Int)))) (fun (a20 : Int) => (again8 (a19, (a20, a11.2)))))))))))) (bindO (guardO (lenOk ((List.length s9.1) + (List.length (a10.1 :: ([] : List (List Int))))))) (fun (a21 : Unit) => (bindO (some (s9.1 ++ (a10.1 :: ([] : List (List Int))))) (fun (a22 : (List (List Int))) => (bindO (some (IntKind.wrap .i64 (s9.2.1 - (1 : Int)))) (fun (a23 : Int) => (again8 (a22, (a23, a10.2)))))))))))) (cond (decide ((((List.length s9.1) : Nat) : Int) > (0 : Int))) (bindO (M_S_l1Cur_one (s9.2.2, (12 : Int))) (fun (a24 : (Bool × ((List Int) × (Int × Int)))) => (cond a24.1 (bindO (getI s9.1 (0 : Int)) (fun (a25 : (List Int)) => (bindO (some (IntKind.wrap .i64 (nn + (1 : Int)))) (fun (a26 : Int) => (bindO (M_S_l1Cur_pick (a24.2, a26)) (fun (a27 : (Int × ((List Int) × (Int × Int)))) => (bindO (guardO (lenOk ((List.length a25) + (List.length (a27.1 :: ([] : List Int)))))) (fun (a28 : Unit) => (bindO (some s9.1) (fun (a29 : (List (List Int))) => (bindO (getI a29 (0 : Int)) (fun (a30 : (List Int)) => (bindO (some (List.set a29 (Int.toNat (0 : Int)) (a25 ++ (a27.1 :: ([] : List Int))))) (fun (a31 : (List (List Int))) => (some (nn, (a31, a27.2))))))))))))))))) (some (nn, (s9.1, a24.2)))))) (some (nn, (s9.1, s9.2.2)))))))

def RkOK (N : Nat) (r : Int × List (List Int) × CurT) : Prop := (0 ≤ r.1 ∧ r.1 ≤ 9) ∧ r.2.1.length ≤ 30 ∧ (∀ v ∈ r.2.1, v.length ≤ 30) ∧ Cu N r.2.2

theorem rk_snoc {l : List (List Int)} {v : List Int} (h : ∀ w ∈ l, w.length ≤ 24) (hv : v.length ≤ 24) : ∀ w ∈ l ++ [v], w.length ≤ 24 := fun w hw => by
  rcases List.mem_append.1 hw with hw | hw
  · exact h w hw
  · simp only [List.mem_cons, List.not_mem_nil, or_false] at hw
    rw [hw]
    exact hv

theorem rk_loop {N : Nat} {nn k : Int} {c : CurT} (hnn : 0 ≤ nn ∧ nn ≤ 9) (hk : 0 ≤ k ∧ k ≤ 25) (h : Cu N c) (hN : N ≤ 1000) : Dn (loopO (RkBody nn) ([], k, c)) (RkOK (N + 10000)) := by
  unfold RkBody
  refine dn_loop (fun s : List (List Int) × Int × CurT => 0 ≤ s.2.1 ∧ s.2.1 ≤ 25 ∧ (s.1.length : Int) + s.2.1 ≤ 25 ∧ (∀ v ∈ s.1, v.length ≤ 24) ∧ Cu (N + 100 * (25 - s.2.1.toNat)) s.2.2) (fun s => s.2.1.toNat) (fun again s hs ih => ?_)
    ⟨by dsimp only; omega, by dsimp only; omega, by simp only [List.length_nil]; omega, fun v hv => (by cases hv), cu_up h (by omega)⟩ (by dsimp only; omega)
  obtain ⟨l, k, cc⟩ := s
  obtain ⟨h1, h2, h3, h4, h5⟩ := hs
  dsimp only at h1 h2 h3 h4 h5 ih ⊢
  refine dn_cond (fun hlt => ?_) fun _ => ?_
  · have hlt' := of_decide_eq_true hlt
    refine dn_bind (dn_perm h5 (by omega) (by omega)) fun p hp => ?_
    obtain ⟨p1, p2⟩ := hp
    have go : ∀ (v : List Int) (cur : CurT), v.length ≤ 24 → Cu (N + 100 * (25 - k.toNat) + 60) cur → Dn (bindO (guardO (lenOk (l.length + (v :: ([] : List (List Int))).length))) fun _ => bindO (some (l ++ v :: ([] : List (List Int)))) fun a => bindO (some (IntKind.wrap .i64 (k - 1))) fun a' => again (a, a', cur)) (RkOK (N + 10000)) := by
      intro v cur hv hcur
      refine dn_len (by simp only [List.length_cons, List.length_nil]; omega) (dn_is rfl (dn_wrap (by omega) (ih _ ⟨by dsimp only; omega, by dsimp only; omega, ?_, rk_snoc h4 hv, cu_up hcur (by dsimp only; omega)⟩ (by dsimp only; omega))))
      simp only [List.length_append, List.length_cons, List.length_nil]
      omega
    refine dn_cond (fun hpos => ?_) fun _ => go _ _ p1 (cu_up p2 (by omega))
    refine dn_bind (dn_one p2 (by omega) (by decide)) fun o ho => dn_cond (fun _ => ?_) fun _ => go _ _ p1 (cu_up ho (by omega))
    refine dn_wrap (by omega) (dn_bind (dn_pick ho (by omega) (by omega)) fun q hq => ?_)
    obtain ⟨⟨q1, -, q2, q3⟩, q4⟩ := hq
    have hpos' := of_decide_eq_true hpos
    have q3' := q3 (by omega)
    obtain ⟨Q, hQ⟩ := Int.eq_ofNat_of_zero_le q1
    rw [hQ]
    refine dn_is (sliceNH_nat (by omega)) ?_
    refine go _ _ ?_ (cu_up q4 (by omega))
    rw [List.length_take]
    omega
  · have h4' : ∀ v ∈ l, v.length ≤ 30 := fun v hv => by have := h4 v hv; omega
    refine dn_cond (fun hpos => ?_) fun _ => dn_some ⟨hnn, by dsimp only; omega, h4', cu_up h5 (by omega)⟩
    have hpos' := of_decide_eq_true hpos
    refine dn_bind (dn_one h5 (by omega) (by decide)) fun o ho => dn_cond (fun _ => ?_) fun _ => dn_some ⟨hnn, by dsimp only; omega, h4', cu_up ho (by omega)⟩
    refine dn_getI (by omega) hpos' fun v hv => ?_
    have hv' := h4 v (List.mem_of_getElem? hv)
    refine dn_wrap (by omega) (dn_bind (dn_pick ho (by omega) (by omega)) fun q hq => dn_len (by simp only [List.length_cons, List.length_nil]; omega) (dn_is rfl (dn_getI (by omega) hpos' fun v2 hv2 => dn_is rfl (dn_some ⟨hnn, ?_, fun w hw => ?_, cu_up hq.2 (by omega)⟩))))
    · dsimp only
      rw [List.length_set]
      omega
    · rcases List.mem_or_eq_of_mem_set hw with hw | hw
      · exact h4' w hw
      · rw [hw]
        simp only [List.length_append, List.length_cons, List.length_nil]
        omega

theorem dn_ranks {N : Nat} {c : CurT} (h : Cu N c) (hN : N ≤ 900) : Dn (M_S_l1Cur_ranks c) (RkOK (N + 11000)) := by
  unfold M_S_l1Cur_ranks
  refine dn_bind (dn_pick h (by omega) (by decide)) fun a ha => ?_
  obtain ⟨⟨a1, -, -, a3⟩, a4⟩ := ha
  have a3' := a3 (by decide)
  refine dn_wrap (by omega) ?_
  refine dn_bind (dn_one a4 (by omega) (by decide)) fun o ho => ?_
  have up : ∀ r, RkOK (N + 20 + 10000) r → RkOK (N + 11000) r := fun r hr => ⟨hr.1, hr.2.1, hr.2.2.1, cu_up hr.2.2.2 (by omega)⟩
  refine dn_cond (fun _ => ?_) fun _ => ?_
  · refine dn_bind (dn_among ho (by omega) ⟨by simp, by simp⟩) fun m hm => ?_
    obtain ⟨m1, m2⟩ := hm
    have hnn : 0 ≤ m.1 ∧ m.1 ≤ 9 := by
      simp only [List.mem_cons, List.not_mem_nil, or_false] at m1
      omega
    refine dn_bind (dn_pick m2 (by omega) (by decide)) fun k hk => ?_
    obtain ⟨⟨k1, -, -, k3⟩, k4⟩ := hk
    have k3' := k3 (by decide)
    refine dn_bind (dn_one k4 (by omega) (by decide)) fun o2 ho2 => dn_cond (fun _ => ?_) fun _ => dn_weak (rk_loop (N := N + 20) hnn (by omega) (cu_up ho2 (by omega)) (by omega)) up
    refine dn_bind (dn_pick ho2 (by omega) (by decide)) fun k' hk' => ?_
    obtain ⟨⟨l1, -, -, l3⟩, l4⟩ := hk'
    have l3' := l3 (by decide)
    exact dn_wrap (by omega) (dn_weak (rk_loop (N := N + 20) hnn (by omega) (cu_up l4 (by omega)) (by omega)) up)
  · have hnn : 0 ≤ 1 + a.1 ∧ 1 + a.1 ≤ 9 := by omega
    refine dn_bind (dn_pick ho (by omega) (by decide)) fun k hk => ?_
    obtain ⟨⟨k1, -, -, k3⟩, k4⟩ := hk
    have k3' := k3 (by decide)
    refine dn_bind (dn_one k4 (by omega) (by decide)) fun o2 ho2 => dn_cond (fun _ => ?_) fun _ => dn_weak (rk_loop (N := N + 20) hnn (by omega) (cu_up ho2 (by omega)) (by omega)) up
    refine dn_bind (dn_pick ho2 (by omega) (by decide)) fun k' hk' => ?_
    obtain ⟨⟨l1, -, -, l3⟩, l4⟩ := hk'
    have l3' := l3 (by decide)
    exact dn_wrap (by omega) (dn_weak (rk_loop (N := N + 20) hnn (by omega) (cu_up l4 (by omega)) (by omega)) up)

theorem DrawRunoffRounds_ok {code : List Int} (hb : Bytes code) : Dn (M_S_DrawRunoffRounds code) (fun r => (0 ≤ r.1 ∧ r.1 ≤ 9) ∧ r.2.length ≤ 30 ∧ ∀ v ∈ r.2, v.length ≤ 30) := by
  unfold M_S_DrawRunoffRounds
  exact dn_bind (dn_ranks (cu_start hb) (by decide)) fun r hr => dn_some ⟨hr.1, hr.2.1, hr.2.2.1⟩

theorem sameLists_eq {x : List (List Int)} (h : x.length < 2 ^ 62) (hr : ∀ r ∈ x, r.length < 2 ^ 62) : M_L_sameLists (x, x) = some true := by
  unfold M_L_sameLists
  dsimp only
  refine no_to (bne_self_eq_false _) ?_
  refine loopO_to (fun i => (i : Int)) x.length (some true) h (fun again => ?_) (fun again i hi ih => ?_)
  · exact no_to (lt_no _) rfl
  · refine yes_to (lt_yes hi) ?_
    have ha := getD_at (d := ([] : List Int)) hi
    refine bind_to ((getI_nat _ i).trans ha) ?_
    refine bind_to ((getI_nat _ i).trans ha) ?_
    refine bind_to (sameInts_eq (hr _ (List.mem_of_getElem? ha))) ?_
    refine no_to rfl ?_
    exact bind_to (congrArg some (i64_succ (by omega))) ih

noncomputable def PwBody (nn : Int) : (((List (List Int)) × (Int × ((List Int) × (Int × Int)))) → (Option (List (List Int)))) → ((List (List Int)) × (Int × ((List Int) × (Int × Int)))) → (Option (List (List Int))) :=
  (fun (again4 : (((List (List Int)) × (Int × ((List Int) × (Int × Int)))) → (Option (List (List Int))))) => (fun (s5 : ((List (List Int)) × (Int × ((List Int) × (Int × Int))))) => (cond (decide (s5.2.1 < nn)) (bindO (guardO (((decide ((0 : Int) ≤ nn)) && (decide (nn ≤ nn))) && (decide (nn ≤ ((lim : Nat) : Int))))) (fun (a6 : Unit) => (loopO (fun (again7 : ((Int × ((List Int) × (Int × (Int × (List Int))))) → (Option (List (List Int))))) => (fun (s8 : (Int × ((List Int) × (Int × (Int × (List Int)))))) => (cond (decide (s8.1 < (((List.length (List.replicate (Int.toNat nn) (0 : Int))) : Nat) : Int))) (bindO (M_S_l1Cur_pick ((s8.2.1, (s8.2.2.1, s8.2.2.2.1)), (5 : Int))) (fun (a9 : (Int × ((List Int) × (Int × Int)))) => (bindO (getI s8.2.2.2.2 s8.1) (fun (a10 : Int) => (bindO (some (List.set s8.2.2.2.2 (Int.toNat s8.1) a9.1)) (fun (a11 : (List Int)) => (bindO (some (IntKind.wrap .i64 (s8.1 + (1 : Int)))) (fun (a12 : Int) => (again7 (a12, (a9.2.1, (a9.2.2.1, (a9.2.2.2, a11))))))))))))) (bindO (guardO (lenOk ((List.length s5.1) + (List.length (s8.2.2.2.2 :: ([] : List (List Int))))))) (fun (a13 : Unit) => (bindO (some (s5.1 ++ (s8.2.2.2.2 :: ([] : List (List Int))))) (fun (a14 : (List (List Int))) => (bindO (some (IntKind.wrap .i64 (s5.2.1 + (1 : Int)))) (fun (a15 : Int) => (again4 (a14, (a15, (s8.2.1, (s8.2.2.1, s8.2.2.2.1)))))))))))))) ((0 : Int), (s5.2.2.1, (s5.2.2.2.1, (s5.2.2.2.2, (List.replicate (Int.toNat nn) (0 : Int))))))))) (bindO (M_S_l1Cur_one (s5.2.2, (16 : Int))) (fun (a16 : (Bool × ((List Int) × (Int × Int)))) => (cond a16.1 (bindO (getI s5.1 (0 : Int)) (fun (a17 : (List Int)) => (bindO (guardO (lenOk ((List.length a17) + (List.length ((1 : Int) :: ([] : List Int)))))) (fun (a18 : Unit) => (bindO (some s5.1) (fun (a19 : (List (List Int))) => (bindO (getI a19 (0 : Int)) (fun (a20 : (List Int)) => (bindO (some (List.set a19 (Int.toNat (0 : Int)) (a17 ++ ((1 : Int) :: ([] : List Int))))) (fun (a21 : (List (List Int))) => (some a21))))))))))) (some s5.1)))))))

def PwOK (r : List (List Int)) : Prop := r.length ≤ 30 ∧ ∀ v ∈ r, v.length ≤ 30

theorem pw_end {N : Nat} {m : List (List Int)} {c : CurT} (h : Cu N c) (hN : N ≤ 500000) (h1 : 1 ≤ m.length) (h2 : m.length ≤ 30) (h3 : ∀ v ∈ m, v.length ≤ 20) :
    Dn (bindO (M_S_l1Cur_one (c, (16 : Int))) fun a16 => cond a16.1 (bindO (getI m (0 : Int)) fun a17 => bindO (guardO (lenOk (a17.length + ((1 : Int) :: ([] : List Int)).length))) fun _ => bindO (some m) fun a19 => bindO (getI a19 (0 : Int)) fun _ => bindO (some (List.set a19 (Int.toNat (0 : Int)) (a17 ++ ((1 : Int) :: ([] : List Int))))) fun a21 => some a21) (some m)) PwOK := by
  have h3' : ∀ v ∈ m, v.length ≤ 30 := fun v hv => by have := h3 v hv; omega
  refine dn_bind (dn_one h (by omega) (by decide)) fun o ho => dn_cond (fun _ => ?_) fun _ => dn_some ⟨h2, h3'⟩
  refine dn_getI (by omega) (by omega) fun v hv => ?_
  have hv' := h3 v (List.mem_of_getElem? hv)
  refine dn_len (by simp only [List.length_cons, List.length_nil]; omega) (dn_is rfl (dn_getI (by omega) (by omega) fun v2 hv2 => dn_is rfl (dn_some ⟨?_, fun w hw => ?_⟩)))
  · rw [List.length_set]; exact h2
  · rcases List.mem_or_eq_of_mem_set hw with hw | hw
    · exact h3' w hw
    · rw [hw]
      simp only [List.length_append, List.length_cons, List.length_nil]
      omega

theorem pw_loop {N : Nat} {nn : Int} {c : CurT} (hnn : 1 ≤ nn ∧ nn ≤ 9) (h : Cu N c) (hN : N ≤ 100000) : Dn (loopO (PwBody nn) ([], 0, c)) PwOK := by
  unfold PwBody
  refine dn_loop (fun s : List (List Int) × Int × CurT => 0 ≤ s.2.1 ∧ s.2.1 ≤ nn ∧ (s.1.length : Int) = s.2.1 ∧ (∀ v ∈ s.1, v.length ≤ 20) ∧ Cu (N + 20 * s.2.1.toNat) s.2.2) (fun s => (nn - s.2.1).toNat) (fun again s hs ih => ?_)
    ⟨by dsimp only; omega, by dsimp only; omega, by simp, fun v hv => (by cases hv), cu_up h (by omega)⟩ (by dsimp only; omega)
  obtain ⟨l, k, cc⟩ := s
  obtain ⟨h1, h2, h3, h4, h5⟩ := hs
  dsimp only at h1 h2 h3 h4 h5 ih ⊢
  refine dn_cond (fun hlt => ?_) fun hge => ?_
  · have hlt' := of_decide_eq_true hlt
    have hg : guardO (((decide ((0 : Int) ≤ nn)) && (decide (nn ≤ nn))) && (decide (nn ≤ ((lim : Nat) : Int)))) = some () := guardO_of (by
      rw [lim_eq]
      simp only [Bool.and_eq_true, decide_eq_true_eq]
      omega)
    refine dn_is hg ?_
    refine dn_loop (fun s : Int × List Int × Int × Int × List Int => 0 ≤ s.1 ∧ s.1 ≤ nn ∧ (s.2.2.2.2.length : Int) = nn ∧ Cu (N + 20 * k.toNat + s.1.toNat) (s.2.1, s.2.2.1, s.2.2.2.1)) (fun s => (nn - s.1).toNat) (fun again2 s hs ih2 => ?_)
      ⟨by dsimp only; omega, by dsimp only; omega, by dsimp only; rw [List.length_replicate]; omega, cu_up h5 (by omega)⟩ (by dsimp only; omega)
    obtain ⟨j, code, pos, seed, row⟩ := s
    obtain ⟨g1, g2, g3, g4⟩ := hs
    dsimp only at g1 g2 g3 g4 ih2 ⊢
    rw [List.length_replicate]
    refine dn_cond (fun hlt2 => ?_) fun hge2 => ?_
    · have hlt2' := of_decide_eq_true hlt2
      refine dn_bind (dn_pick g4 (by omega) (by decide)) fun a ha => ?_
      refine dn_getI g1 (by omega) fun z hz => dn_is rfl (dn_wrap (by omega) (ih2 _ ⟨by dsimp only; omega, by dsimp only; omega, by dsimp only; rw [List.length_set]; exact g3, cu_up ha.2 (by dsimp only; omega)⟩ (by dsimp only; omega)))
    · refine dn_len (by simp only [List.length_cons, List.length_nil]; omega) (dn_is rfl (dn_wrap (by omega) (ih _ ⟨by dsimp only; omega, by dsimp only; omega, ?_, fun v hv => ?_, cu_up g4 (by dsimp only; omega)⟩ (by dsimp only; omega))))
      · simp only [List.length_append, List.length_cons, List.length_nil]
        omega
      · rcases List.mem_append.1 hv with hv | hv
        · exact h4 v hv
        · simp only [List.mem_cons, List.not_mem_nil, or_false] at hv
          rw [hv]
          omega
  · have hge' := of_decide_eq_false hge
    exact pw_end h5 (by omega) (by omega) (by omega) h4

theorem matOf_row {k : Nat} {rs : List (List Int)} : ∀ v ∈ matOf k rs, v.length = k := fun v hv => by
  obtain ⟨i, _, rfl⟩ := List.mem_map.1 hv
  exact rowOf_len ..

theorem DrawSmithSet_ok {code : List Int} (hb : Bytes code) : Dn (M_S_DrawSmithSet code) PwOK := by
  unfold M_S_DrawSmithSet M_S_DrawCondorcetWinner
  have key : Dn (M_S_DrawCondorcetWinner code) PwOK := by
    unfold M_S_DrawCondorcetWinner
    refine dn_bind (dn_ranks (cu_start hb) (by decide)) fun r hr => ?_
    obtain ⟨k, rs, c⟩ := r
    obtain ⟨h1, h2, h3, h4⟩ := hr
    dsimp only at h1 h2 h3 h4 ⊢
    have hr' : ∀ r ∈ rs, r.length < 2 ^ 62 := fun r hm => by have := h3 r hm; omega
    refine dn_is (S_PairwiseMatrix_eq hr') ?_
    have start : ∀ {N : Nat} {cur : CurT}, Cu N cur → N ≤ 20000 → Dn (bindO (M_S_l1Cur_pick (cur, (5 : Int))) fun a2 => bindO (some (IntKind.wrap .i64 ((1 : Int) + a2.1))) fun a3 => loopO (PwBody a3) (([] : List (List Int)), ((0 : Int), a2.2))) PwOK := by
      intro N cur hc hN
      refine dn_bind (dn_pick hc (by omega) (by decide)) fun a ha => ?_
      obtain ⟨⟨a1, -, -, a3⟩, a4⟩ := ha
      have a3' := a3 (by decide)
      exact dn_wrap (by omega) (pw_loop (by omega) a4 (by omega))
    cases hok : okR k rs
    · exact dn_yes rfl (start h4 (by decide))
    · obtain ⟨k1, k2, _, _⟩ := okR_spec hok
      refine dn_no rfl ?_
      refine dn_bind (dn_one h4 (by decide) (by decide)) fun o ho => dn_cond (fun _ => start ho (by decide)) fun _ => ?_
      rw [cond_true]
      dsimp only
      have hl := matOf_len k.toNat rs
      exact pw_end ho (by decide) (by omega) (by omega) fun v hv => by rw [matOf_row v hv]; omega
  obtain ⟨v, e, hv⟩ := key
  exact ⟨v, (congrArg (fun m => bindO m fun a0 => some a0) e).trans rfl, hv⟩

def bitC (set : Int) (i : Nat) : Int := Vd.bits .and .i64 (Vd.shr .i64 set (i : Int)) 1

theorem beats_true {m : List (List Int)} {set : Int} (hm : m.length ≤ 8) (hr : ∀ r ∈ m, r.length = m.length) (h : M_S_tBeats (m, set) = some true) :
    ∀ i j : Nat, i < m.length → j < m.length → bitC set i = 1 → bitC set j = 0 → (m.getD j []).getD i 0 < (m.getD i []).getD j 0 := by
  unfold M_S_tBeats at h
  dsimp only at h
  have key := loopO_ind (body := _) (fun (s : Int) (y : Option Bool) => y = some true → ∀ i j : Nat, s ≤ (i : Int) → i < m.length → j < m.length → bitC set i = 1 → bitC set j = 0 → (m.getD j []).getD i 0 < (m.getD i []).getD j 0) (fun s => 0 ≤ s ∧ s ≤ m.length) (fun s => ((m.length : Int) - s).toNat)
    (step := fun again s hs ih => ?_) (s := 0) ⟨Int.le_refl _, by omega⟩ (by omega) h
  · exact fun i j hi hj => key i j (by omega) hi hj
  · obtain ⟨i, rfl⟩ := Int.eq_ofNat_of_zero_le hs.1
    by_cases hi : i < m.length
    rotate_left
    · have hi' : decide ((i : Int) < (m.length : Int)) = false := by simp; omega
      rw [hi', cond_false]
      intro _ i2 j2 h1 h2
      omega
    simp only [lt_yes hi, cond_true]
    intro hy
    have key2 := loopO_ind (body := _) (fun (t : Int) (y : Option Bool) => y = some true → (∀ j : Nat, t ≤ (j : Int) → j < m.length → bitC set i = 1 → bitC set j = 0 → (m.getD j []).getD i 0 < (m.getD i []).getD j 0) ∧ (∀ i2 j : Nat, (i : Int) + 1 ≤ (i2 : Int) → i2 < m.length → j < m.length → bitC set i2 = 1 → bitC set j = 0 → (m.getD j []).getD i2 0 < (m.getD i2 []).getD j 0)) (fun s => 0 ≤ s ∧ s ≤ m.length) (fun s => ((m.length : Int) - s).toNat)
      (step := fun again2 t ht ih2 => ?_) (s := 0) ⟨Int.le_refl _, by omega⟩ (by omega) hy
    · intro i2 j2 h1 h2 h3
      rcases Nat.lt_or_ge i i2 with h | h
      · exact key2.2 i2 j2 (by omega) h2 h3
      · obtain rfl : i = i2 := by omega
        exact key2.1 j2 (by omega) h3
    · obtain ⟨j, rfl⟩ := Int.eq_ofNat_of_zero_le ht.1
      by_cases hj : j < m.length
      · have g1 : guardO (decide ((0 : Int) ≤ (i : Int))) = some () := guardO_of (by simp)
        have g2 : guardO (decide ((0 : Int) ≤ (j : Int))) = some () := guardO_of (by simp)
        have hri := hr _ (List.mem_of_getElem? (getD_at (d := ([] : List Int)) hi))
        have hrj := hr _ (List.mem_of_getElem? (getD_at (d := ([] : List Int)) hj))
        have next := ih2 ((j + 1 : Nat) : Int) ⟨by omega, by omega⟩ (by omega)
        simp only [lt_yes hj, cond_true, wrap_u64 (show i < 2 ^ 62 by omega), wrap_u64 (show j < 2 ^ 62 by omega), g1, g2, bindO_some', getI_nat, getD_at (d := ([] : List Int)) hi, getD_at (d := ([] : List Int)) hj, getD_at (d := (0 : Int)) (show j < (m.getD i []).length by omega), getD_at (d := (0 : Int)) (show i < (m.getD j []).length by omega), i64_succ (show j < 2 ^ 62 by omega)]
        have cont : (bitC set i = 1 → bitC set j = 0 → (m.getD j []).getD i 0 < (m.getD i []).getD j 0) → again2 ((j + 1 : Nat) : Int) = some true → (∀ j2 : Nat, (j : Int) ≤ (j2 : Int) → j2 < m.length → bitC set i = 1 → bitC set j2 = 0 → (m.getD j2 []).getD i 0 < (m.getD i []).getD j2 0) ∧ (∀ i2 j : Nat, (i : Int) + 1 ≤ (i2 : Int) → i2 < m.length → j < m.length → bitC set i2 = 1 → bitC set j = 0 → (m.getD j []).getD i2 0 < (m.getD i2 []).getD j 0) := by
          intro hc hy
          obtain ⟨n1, n2⟩ := next hy
          refine ⟨fun j2 h1 h2 h3 h4 => ?_, n2⟩
          rcases Nat.lt_or_ge j j2 with h | h
          · exact n1 j2 (by omega) h2 h3 h4
          · obtain rfl : j = j2 := by omega
            exact hc h3 h4
        show (cond (bitC set i == 1) _ _ = some true → _)
        cases h1 : (bitC set i == 1)
        · rw [cond_false]
          exact cont fun hb => by
            rw [hb] at h1
            cases h1
        · rw [cond_true]
          show (cond (bitC set j == 0) _ _ = some true → _)
          cases h2 : (bitC set j == 0)
          · rw [cond_false]
            exact cont fun _ hb => by
              rw [hb] at h2
              cases h2
          · rw [cond_true]
            cases h3 : decide ((m.getD i []).getD j 0 ≤ (m.getD j []).getD i 0)
            · rw [cond_false]
              have := of_decide_eq_false h3
              exact cont fun _ _ => by omega
            · rw [cond_true]
              intro hh
              cases hh
      · have hj' : decide ((j : Int) < (m.length : Int)) = false := by simp; omega
        rw [hj', cond_false, i64_succ (by omega), bindO_some']
        intro hy2
        exact ⟨fun j2 h1 h2 => by omega, fun i2 j2 h1 h2 h3 => ih ((i + 1 : Nat) : Int) ⟨by omega, by omega⟩ (by omega) hy2 i2 j2 (by omega) h2 h3⟩

theorem bit_tab : ((List.range 256).all fun k => (List.range 8).all fun i => decide (Vd.bits .and .i64 (Vd.shr .i64 ((k : Nat) : Int) ((i : Nat) : Int)) 1 = ((k / 2 ^ i % 2 : Nat) : Int))) = true := by kernel_rfl

theorem bitC_eq {k i : Nat} (hk : k < 256) (hi : i < 8) : bitC (k : Int) i = ((k / 2 ^ i % 2 : Nat) : Int) :=
  of_decide_eq_true (List.all_eq_true.1 (List.all_eq_true.1 bit_tab k (by simpa using hk)) i (by simpa using hi))

theorem shl1_tab : ((List.range 9).all fun n => decide (Vd.shl .i64 1 ((n : Nat) : Int) = ((2 ^ n : Nat) : Int))) = true := by kernel_rfl

theorem shl1_eq {n : Nat} (h : n ≤ 8) : Vd.shl .i64 1 (n : Int) = ((2 ^ n : Nat) : Int) := of_decide_eq_true (List.all_eq_true.1 shl1_tab n (by simp; omega))

theorem ones_pos_tab : ((List.range 256).all fun k => decide (k = 0 ∨ (1 ≤ onesN k ∧ ∃ i, i < 8 ∧ k / 2 ^ i % 2 = 1))) = true := by decide +kernel

theorem ones_pos {k : Nat} (hk : k < 256) (h : k ≠ 0) : 1 ≤ onesN k ∧ ∃ i, i < 8 ∧ k / 2 ^ i % 2 = 1 := (of_decide_eq_true (List.all_eq_true.1 ones_pos_tab k (by simpa using hk))).resolve_left h

theorem ones_pow_tab : ((List.range 8).all fun w => decide (onesN (2 ^ w) = 1 ∧ 2 ^ w < 256)) = true := by decide +kernel

theorem ones_pow {w : Nat} (h : w < 8) : onesN (2 ^ w) = 1 ∧ 2 ^ w < 256 := of_decide_eq_true (List.all_eq_true.1 ones_pow_tab w (by simpa using h))

theorem ones_full_tab : ((List.range 9).all fun n => decide (onesN (2 ^ n - 1) = n ∧ 2 ^ n - 1 < 256)) = true := by decide +kernel

theorem ones_full {n : Nat} (h : n ≤ 8) : onesN (2 ^ n - 1) = n ∧ 2 ^ n - 1 < 256 := of_decide_eq_true (List.all_eq_true.1 ones_full_tab n (by simp; omega))

theorem pow_bit {w i : Nat} : 2 ^ w / 2 ^ i % 2 = if i = w then 1 else 0 := by
  rcases Nat.lt_trichotomy i w with h | h | h
  · rw [if_neg (by omega), Nat.pow_div (by omega) (by decide), show w - i = (w - i - 1) + 1 by omega, Nat.pow_succ, Nat.mul_mod_left]
  · subst h
    rw [if_pos rfl, Nat.div_self (Nat.pow_pos (by decide))]
  · rw [if_neg (by omega), Nat.div_eq_of_lt (Nat.pow_lt_pow_right (by decide) h)]

theorem small_bit {k w i : Nat} (h : k < 2 ^ w) (hi : k / 2 ^ i % 2 = 1) : i < w := by
  rcases Nat.lt_or_ge i w with h1 | h1
  · exact h1
  · have : 2 ^ w ≤ 2 ^ i := Nat.pow_le_pow_right (by decide) h1
    rw [Nat.div_eq_of_lt (by omega)] at hi
    cases hi

theorem Condorcet_won {m : List (List Int)} {w : Int} (hr : ∀ r ∈ m, r.length < 2 ^ 62) (h : M_S_CondorcetWinner m = some (w, true)) : okM m = true ∧ ∃ i : Nat, w = (i : Int) ∧ i < m.length ∧ M_S_tBeats (m, ((2 ^ i : Nat) : Int)) = some true := by
  unfold M_S_CondorcetWinner at h
  rw [tMatrix_eq hr, bindO_some'] at h
  cases hok : okM m with
  | false =>
    rw [hok] at h
    cases h
  | true =>
    refine ⟨rfl, ?_⟩
    obtain ⟨h1, h2, h3⟩ := okM_spec hok
    rw [hok] at h
    simp only [Bool.not_true, cond_false] at h
    refine loopO_ind (body := _) (fun (s : Int) (y : Option (Int × Bool)) => y = some (w, true) → ∃ i : Nat, w = (i : Int) ∧ i < m.length ∧ M_S_tBeats (m, ((2 ^ i : Nat) : Int)) = some true) (fun s => 0 ≤ s ∧ s ≤ m.length) (fun s => ((m.length : Int) - s).toNat) (step := fun again s hs ih => ?_) (s := 0) ⟨Int.le_refl _, by omega⟩ (by omega) h
    obtain ⟨i, rfl⟩ := Int.eq_ofNat_of_zero_le hs.1
    by_cases hi : i < m.length
    · have g1 : guardO (decide ((0 : Int) ≤ (i : Int))) = some () := guardO_of (by simp)
      simp only [lt_yes hi, cond_true, wrap_u64 (show i < 2 ^ 62 by omega), g1, bindO_some', i64_succ (show i < 2 ^ 62 by omega), shl1_eq (show i ≤ 8 by omega)]
      obtain ⟨b, hb⟩ := beats_some (m := m) ((2 ^ i : Nat) : Int) h2 fun r hr => (h3 r hr).1
      rw [hb, bindO_some']
      cases b
      · exact ih _ ⟨by omega, by omega⟩ (by omega)
      · intro hh
        rw [cond_true, Option.some.injEq, Prod.mk.injEq] at hh
        exact ⟨i, hh.1.symm, hi, hb⟩
    · have hi' : decide ((i : Int) < (m.length : Int)) = false := by simp; omega
      rw [hi', cond_false]
      intro hh
      cases hh

/-- No set below 2^w is better. -/
theorem below_no {m : List (List Int)} {w k : Nat} (hm : m.length ≤ 8) (hr : ∀ r ∈ m, r.length = m.length) (hw : w < m.length) (hb : M_S_tBeats (m, ((2 ^ w : Nat) : Int)) = some true) (hk : k ≠ 0) (hkw : k < 2 ^ w) : M_S_tBeats (m, (k : Int)) = some false := by
  obtain ⟨o1, o2⟩ := ones_pow (w := w) (by omega)
  obtain ⟨_, i, i1, i2⟩ := ones_pos (k := k) (by omega) hk
  have hiw := small_bit hkw i2
  obtain ⟨b, e⟩ := beats_some (m := m) (k : Int) hm hr
  cases b
  · exact e
  · have p1 := beats_true hm hr e i w (by omega) hw (by rw [bitC_eq (by omega) i1, i2]; rfl) (by rw [bitC_eq (by omega) (by omega), Nat.div_eq_of_lt hkw]; rfl)
    have p2 := beats_true hm hr hb w i hw (by omega) (by rw [bitC_eq o2 (by omega), pow_bit, if_pos rfl]; rfl) (by rw [bitC_eq o2 i1, pow_bit, if_neg (by omega)]; rfl)
    omega

theorem Smith_alone {m : List (List Int)} {w : Nat} (hml : m.length < 2 ^ 62) (hr : ∀ r ∈ m, r.length < 2 ^ 62) (hok : okM m = true) (hw : w < m.length) (hb : M_S_tBeats (m, ((2 ^ w : Nat) : Int)) = some true) : M_S_SmithSet m = some ([(w : Int)], true) := by
  unfold M_S_SmithSet
  rw [tMatrix_eq hr, bindO_some', hok]
  obtain ⟨h1, h2, h3⟩ := okM_spec hok
  have hr' : ∀ r ∈ m, r.length = m.length := fun r hm => (h3 r hm).1
  obtain ⟨f1, f2⟩ := ones_full h2
  obtain ⟨o1, o2⟩ := ones_pow (w := w) (by omega)
  have hpw : 2 ^ w < 2 ^ m.length := Nat.pow_lt_pow_right (by decide) hw
  have hwp : 0 < 2 ^ w := Nat.pow_pos (by decide)
  rw [wrap_u64 hml, shl1_eq h2]
  have hg : guardO (decide ((0 : Int) ≤ (m.length : Int))) = some () := guardO_of (by simp)
  rw [hg]
  have hone : m.length = 1 → 2 ^ m.length - 1 = 2 ^ w := fun e => by
    have : w = 0 := by omega
    rw [e, this]
  generalize hT : 2 ^ m.length = top at f1 f2 hpw hone
  simp only [Bool.not_true, cond_false, bindO_some', i64_in ((top : Int) - 1) (show -9223372036854775808 ≤ (top : Int) - 1 ∧ (top : Int) - 1 ≤ 9223372036854775807 by omega)]
  refine loopO_ind (fun (_ : Int × Int) (y : Option (List Int × Bool)) => y = some ([(w : Int)], true)) (fun s => ∃ k : Nat, s.2 = (k : Int) ∧ 1 ≤ k ∧ k ≤ top ∧ (k ≤ 2 ^ w → s.1 = ((top - 1 : Nat) : Int)) ∧ (2 ^ w < k → s.1 = ((2 ^ w : Nat) : Int))) (fun s => ((top : Int) - s.2).toNat) (fun again s hst ih => ?_)
    ⟨1, rfl, by omega, by omega, fun _ => by dsimp only; omega, fun h => by omega⟩ (by dsimp only; omega)
  obtain ⟨best, set⟩ := s
  obtain ⟨k, rfl, k1, k2, k3, k4⟩ := hst
  dsimp only at k3 k4 ih ⊢
  by_cases hk : k < top
  · have hd : decide ((k : Int) < (top : Int)) = true := by simpa using hk
    rw [hd, cond_true]
    have nxt : ∀ b : Int, (k + 1 ≤ 2 ^ w → b = ((top - 1 : Nat) : Int)) → (2 ^ w < k + 1 → b = ((2 ^ w : Nat) : Int)) → (bindO (some (IntKind.wrap .i64 ((k : Int) + (1 : Int)))) fun a => again (b, a)) = some ([(w : Int)], true) := fun b n1 n2 => by
      rw [i64_in ((k : Int) + 1) (by omega), bindO_some']
      exact ih _ ⟨k + 1, rfl, by omega, by omega, n1, n2⟩ (by dsimp only; omega)
    rcases Nat.lt_trichotomy k (2 ^ w) with hlt | heq | hgt
    · rw [below_no h2 hr' hw hb (by omega) hlt, bindO_some', cond_false]
      exact nxt _ (fun _ => k3 (by omega)) (fun h => by omega)
    · subst heq
      rw [hb, bindO_some', cond_true]
      have hbest := k3 (Nat.le_refl _)
      rw [hbest, kOnes_eq o2, bindO_some', kOnes_eq f2, bindO_some', o1, f1]
      by_cases hn1 : m.length = 1
      · rw [decide_eq_false (by omega), cond_false]
        exact nxt _ (fun h => by omega) (fun _ => by rw [hone hn1])
      · rw [decide_eq_true (by omega), cond_true]
        exact nxt _ (fun h => by omega) (fun _ => rfl)
    · have hbest := k4 hgt
      obtain ⟨b, e⟩ := beats_some (m := m) (k : Int) h2 hr'
      rw [e, bindO_some', hbest]
      cases b
      · rw [cond_false]
        exact nxt _ (fun h => by omega) (fun _ => rfl)
      · have hp := (ones_pos (k := k) (by omega) (by omega)).1
        rw [cond_true, kOnes_eq (by omega), bindO_some', kOnes_eq o2, bindO_some', o1, decide_eq_false (by omega), cond_false]
        exact nxt _ (fun h => by omega) (fun _ => rfl)
  · have hd : decide ((k : Int) < (top : Int)) = false := by simpa using hk
    rw [hd, cond_false]
    have hbest := k4 (by omega)
    subst hbest
    refine loopO_to (fun i => (if w < i then [(w : Int)] else [], (i : Int))) m.length (some ([(w : Int)], true)) hml (fun again2 => ?_) (fun again2 i hi ih2 => ?_)
    · dsimp only
      rw [if_pos hw, lt_no, cond_false]
    · dsimp only at ih2 ⊢
      have hg2 : guardO (decide ((0 : Int) ≤ (i : Int))) = some () := guardO_of (by simp)
      rw [lt_yes hi, cond_true, wrap_u64 (by omega), hg2, bindO_some']
      show cond (bitC ((2 ^ w : Nat) : Int) i == 1) _ _ = _
      rw [bitC_eq o2 (by omega), pow_bit, i64_succ (by omega)]
      by_cases hiw : i = w
      · subst hiw
        rw [if_pos rfl, if_neg (Nat.lt_irrefl _)]
        rw [if_pos (by omega)] at ih2
        show cond true _ _ = _
        rw [cond_true, guardO_of (lenOk_of (by simp)), bindO_some']
        exact ih2
      · rw [if_neg hiw]
        show cond false _ _ = _
        rw [cond_false]
        have : (if w < i then [(w : Int)] else []) = if w < i + 1 then [(w : Int)] else [] := by
          by_cases h : w < i
          · rw [if_pos h, if_pos (by omega)]
          · rw [if_neg h, if_neg (by omega)]
        rw [this]
        exact ih2

theorem ahead_both (rs : List (List Int)) (i j : Int) : ahead rs i j + ahead rs j i ≤ rs.length := by
  induction rs with
  | nil => simp [ahead]
  | cons r rs ih =>
    rw [ahead_cons, ahead_cons, List.length_cons]
    split <;> split <;> omega

theorem Smith_rest {more : List Int} (hb : Bytes more) : (bindO (M_S_DrawSmithSet more) fun a16 => bindO (M_I_SmithSet a16) fun a17 => bindO (M_S_SmithSet a16) fun a18 => bindO (M_I_CondorcetWinner a16) fun a19 => bindO (M_S_CondorcetWinner a16) fun a20 => cond (not (a17.2 == a18.2)) (some false) (bindO (M_L_sameInts (a17.1, a18.1)) fun a21 => cond (not a21) (some false) (cond (not (a19.2 == a20.2)) (some false) (cond (a19.1 != a20.1) (some false) (cond (not a19.2) (some true) (cond ((((List.length a17.1) : Nat) : Int) == (1 : Int)) (bindO (getI a17.1 (0 : Int)) fun a22 => some (a22 == a19.1)) (some false))))))) = some true := by
  obtain ⟨m, e, h1, h2⟩ := DrawSmithSet_ok hb
  have hr : ∀ r ∈ m, r.length < 2 ^ 62 := fun r hm => by have := h2 r hm; omega
  obtain ⟨s, b, hs, hl⟩ := SmithSet_some (m := m) (by omega) hr
  obtain ⟨⟨w, three⟩, hc⟩ := CondorcetWinner_some (m := m) hr
  refine bind_to e ?_
  refine bind_to ((SmithSet_same (by omega) hr).trans hs) ?_
  refine bind_to hs ?_
  refine bind_to ((CondorcetWinner_eq (by omega) hr).trans hc) ?_
  refine bind_to hc ?_
  refine no_to (by rw [BEq.rfl]; rfl) ?_
  refine bind_to (sameInts_eq (a := s) (by omega)) ?_
  refine no_to rfl ?_
  refine no_to (by rw [BEq.rfl]; rfl) ?_
  refine no_to (bne_self_eq_false _) ?_
  cases three
  · exact yes_to rfl rfl
  refine no_to rfl ?_
  obtain ⟨hok, i, rfl, hi, hb2⟩ := Condorcet_won hr hc
  have hal := Smith_alone (by omega) hr hok hi hb2
  rw [hs, Option.some.injEq, Prod.mk.injEq] at hal
  rw [hal.1]
  refine yes_to rfl ?_
  exact bind_to rfl (congrArg some (beq_self_eq_true _))

theorem law_FnPairwise (x : List Int × List Int) (h : WFI [.data (.sl (.int .u8)), .data (.sl (.int .u8))] x) : M_L_FnPairwise x = some true := by
  obtain ⟨code, more⟩ := x
  have hb1 : Bytes code := wf_u8 h.1
  have hb2 : Bytes more := wf_u8 h.2
  obtain ⟨gg, hg⟩ := big_some code more
  obtain ⟨⟨k, rs⟩, e1, -, hl, hv⟩ := DrawRunoffRounds_ok hb1
  dsimp only at hl hv
  have hr : ∀ r ∈ rs, r.length < 2 ^ 62 := fun r hm => by have := hv r hm; omega
  have hx : rs.length < 2 ^ 62 := by omega
  have hS := S_PairwiseMatrix_eq (k := k) hr
  have hI := I_PairwiseMatrix_eq (k := k) hx hr
  have hrest := Smith_rest hb2
  obtain ⟨n, b, hm, hn⟩ : ∃ (n : Nat) (b : Bool), (bif okR k rs then (matOf k.toNat rs, true) else ([], false)) = (matOf n rs, b) ∧ n ≤ 8 := by
    cases hok : okR k rs
    · exact ⟨0, false, rfl, by omega⟩
    · obtain ⟨k1, k2, _, _⟩ := okR_spec hok
      exact ⟨k.toNat, true, rfl, by omega⟩
  rw [hm] at hS hI
  unfold M_L_FnPairwise
  dsimp only
  refine bind_to hg ?_
  cases gg
  rotate_left
  · rfl
  refine no_to rfl ?_
  refine bind_to ((congrArg (fun m => bindO m fun a0 => some a0) e1 : M_S_DrawPairwiseMatrix code = some (k, rs))) ?_
  refine bind_to hI ?_
  refine bind_to hS ?_
  refine no_to (by rw [BEq.rfl]; rfl) ?_
  refine bind_to (sameLists_eq (x := matOf n rs) (by rw [matOf_len]; omega) fun r hm => by rw [matOf_row r hm]; omega) ?_
  refine no_to rfl ?_
  dsimp only
  rw [matOf_len]
  have hrow : ∀ i, i < n → (matOf n rs)[i]? = some (rowOf n rs (i : Int)) := fun i hi => by simp [matOf, hi]
  refine loopO_to (fun i => (i : Int)) n (some true) (by omega) (fun again => ?_) (fun again i hi ih => ?_)
  · exact no_to (lt_no _) hrest
  · refine yes_to (lt_yes hi) ?_
    refine loopO_to (fun j => (j : Int)) n (some true) (by omega) (fun again2 => ?_) (fun again2 j hj ih2 => ?_)
    · refine no_to (lt_no _) ?_
      exact bind_to (congrArg some (i64_succ (by omega))) ih
    · refine yes_to (lt_yes hj) ?_
      have hab := ahead_both rs (i : Int) (j : Int)
      refine bind_to ((getI_nat _ i).trans (hrow i hi)) ?_
      refine bind_to ((getI_nat _ j).trans (rowOf_get rs (i : Int) hj)) ?_
      refine bind_to ((getI_nat _ j).trans (hrow j hj)) ?_
      refine bind_to ((getI_nat _ i).trans (rowOf_get rs (j : Int) hi)) ?_
      refine bind_to (congrArg some (i64_in _ (by omega))) ?_
      refine no_to (decide_eq_false (by omega)) ?_
      exact bind_to (congrArg some (i64_succ (by omega))) ih2

end Go.Proofs.Ytgjneigkkgaaiaa.Vd
