/- The law FnRunoff as plain functions on data returns true for all arguments. No conditions. -/
import Derived.Test.YtgjneigkkgaaiaaRnfMod
set_option linter.unusedVariables false
set_option linter.unusedSimpArgs false
set_option linter.unusedSectionVars false
set_option linter.unnecessarySimpa false
namespace Go.Proofs.Ytgjneigkkgaaiaa.Vd
open Go.IntWalk

theorem i64_succ {i : Nat} (h : i < 2 ^ 62) : IntKind.wrap .i64 ((i : Int) + 1) = ((i + 1 : Nat) : Int) := by
  rw [i64_in _ (by omega)]
  rfl

theorem lt_yes {i n : Nat} (h : i < n) : decide ((i : Int) < (n : Int)) = true := by simp [h]

theorem lt_no (n : Nat) : decide ((n : Int) < (n : Int)) = false := by simp

/-- A walk over a list by its numbers, with no other state. -/
def walk {α β : Type} (step : Nat → α → Option β → Option β) (fin : Option β) : Nat → List α → Option β
  | _, [] => fin
  | i, a :: r => step i a (walk step fin (i + 1) r)

theorem loop_walk {α β : Type} {body : (Int → Option β) → Int → Option β} (l : List α) (step : Nat → α → Option β → Option β) (fin : Option β)
    (h : ∀ (again : Int → Option β) (i : Nat) a, l[i]? = some a → i < l.length → body again (i : Int) = step i a (again ((i + 1 : Nat) : Int)))
    (hend : ∀ again : Int → Option β, body again (l.length : Int) = fin) (hl : l.length < 2 ^ 64) : loopO body 0 = walk step fin 0 l := by
  refine (loopO_for (σ := Unit) (fun i _ => (i : Int)) l.length (fun i _ => walk step fin i (l.drop i)) (fun _ _ => True) (fun again _ _ => ?_) (fun again i _ hi _ ih => ?_) hl (i := 0) (s := ()) (Nat.zero_le _) trivial).trans rfl
  · simp [hend, walk]
  · rw [h again i l[i] (List.getElem?_eq_getElem hi) hi, ih () trivial, List.drop_eq_getElem_cons hi, walk]

theorem walk_any {α : Type} (p : α → Bool) : ∀ (l : List α) (i : Nat), walk (fun _ a k => if p a = true then some true else k) (some false) i l = some (l.any p)
  | [], _ => rfl
  | a :: l, i => by
    rw [walk, walk_any p l]
    cases h : p a <;> simp [h]

theorem walk_all {α : Type} (p : α → Bool) : ∀ (l : List α) (i : Nat), walk (fun _ a k => if p a = true then k else some false) (some true) i l = some (l.all p)
  | [], _ => rfl
  | a :: l, i => by
    rw [walk, walk_all p l]
    cases h : p a <;> simp [h]

theorem walk_index {α : Type} (p : α → Bool) : ∀ (l : List α) (i : Nat), ∃ j : Int, walk (fun i a k => if p a = true then some (i : Int) else k) (some (-1)) i l = some j ∧ decide (j ≥ 0) = l.any p
  | [], _ => ⟨-1, rfl, rfl⟩
  | a :: l, i => by
    obtain ⟨j, h1, h2⟩ := walk_index p l (i + 1)
    cases h : p a
    · exact ⟨j, by simp [walk, h, h1], by simp [h, h2]⟩
    · exact ⟨i, by simp [walk, h], by simp [h]⟩

theorem has_eq {l : List Int} {n : Int} (hl : l.length < 2 ^ 62) : M_S_l1Has (l, n) = some (l.any (· == n)) := by
  unfold M_S_l1Has
  refine (loop_walk l (fun _ a k => if (a == n) = true then some true else k) (some false) (fun again i a ha hi => ?_) (fun again => ?_) (by omega)).trans (walk_any _ l 0)
  · simp only [getI_nat, ha, bindO_some', i64_succ (show i < 2 ^ 62 by omega)]
    cases h : a == n <;> simp [h, hi]
  · simp

theorem index_eq {l : List Int} {n : Int} (hl : l.length < 2 ^ 62) : ∃ j : Int, M_slices_Index_sint_int (l, n) = some j ∧ decide (j ≥ 0) = l.any (· == n) := by
  obtain ⟨j, h1, h2⟩ := walk_index (fun a : Int => a == n) l 0
  refine ⟨j, ?_, h2⟩
  unfold M_slices_Index_sint_int
  refine (loop_walk l (fun i a k => if (a == n) = true then some (i : Int) else k) (some (-1)) (fun again i a ha hi => ?_) (fun again => ?_) (by omega)).trans h1
  · simp only [getI_nat, ha, bindO_some', i64_succ (show i < 2 ^ 62 by omega), lt_yes hi, cond_true]
    rw [show (n == a) = (a == n) from BEq.comm]
    cases h : a == n <;> simp [h]
  · simp

theorem lenOk_of {n : Nat} (h : n ≤ 68719476736) : lenOk n = true := by simp [lenOk, lim_eq, h]

theorem sliceNH_nat {h n : Nat} (hh : h ≤ n) : sliceNH (h : Int) n = some (0, h) := by
  unfold sliceNH
  rw [if_pos ⟨by omega, by omega⟩]
  simp

theorem contains_eq {l : List Int} {n : Int} (hl : l.length < 2 ^ 62) : M_slices_Contains_sint_int (l, n) = some (l.any (· == n)) := by
  obtain ⟨j, h1, h2⟩ := index_eq (n := n) hl
  unfold M_slices_Contains_sint_int
  dsimp only
  rw [h1, bindO_some', h2]

/-- A loop whose states go down: a property of its answer. -/
theorem loopO_ind {σ β : Type} {body : (σ → Option β) → σ → Option β} (Q : σ → Option β → Prop) (Inv : σ → Prop) (μ : σ → Nat)
    (step : ∀ (again : σ → Option β) s, Inv s → (∀ s', Inv s' → μ s' < μ s → Q s' (again s')) → Q s (body again s)) {s : σ} (h0 : Inv s) (hm : μ s < 2 ^ 64) : Q s (loopO body s) := by
  rw [loopO_eq]
  have H : ∀ (n : Nat) (s : σ), Inv s → μ s < n → Q s (iter body n s) := by
    intro n
    induction n with
    | zero => intro s _ h; exact absurd h (Nat.not_lt_zero _)
    | succ n ih => intro s hs h; exact step _ s hs fun s' hs' h' => ih s' hs' (by omega)
  exact H many s h0 hm

theorem in_eq (x a b : Int) : M_S_l1In (x, a, b) = some (decide (a ≤ x ∧ x ≤ b)) := by
  by_cases h : a ≤ x <;> by_cases h2 : x ≤ b <;> simp [M_S_l1In, h, h2]

theorem within_eq (x a b : Int) : M_I_within (x, a, b) = some (decide (a ≤ x ∧ x ≤ b)) := by
  by_cases h : a ≤ x <;> by_cases h2 : x ≤ b <;> simp [M_I_within, h, h2]

theorem l1All_eq {l : List Int} {lo hi : Int} (hl : l.length < 2 ^ 62) : M_S_l1All (l, lo, hi) = some (l.all fun n => decide (lo ≤ n ∧ n ≤ hi)) := by
  unfold M_S_l1All
  refine (loop_walk l (fun _ a k => if (decide (lo ≤ a ∧ a ≤ hi)) = true then k else some false) (some true) (fun again i a ha hi' => ?_) (fun again => ?_) (by omega)).trans (walk_all (fun n => decide (lo ≤ n ∧ n ≤ hi)) l 0)
  · simp only [getI_nat, ha, bindO_some', i64_succ (show i < 2 ^ 62 by omega), lt_yes hi', cond_true, in_eq]
    cases decide (lo ≤ a ∧ a ≤ hi) <;> rfl
  · simp

theorem walk_index_mem {α : Type} (p : α → Bool) (f : α → Option Bool) : ∀ (l : List α) (i : Nat), (∀ a ∈ l, f a = some (p a)) →
    ∃ j : Int, walk (fun i a k => bindO (f a) fun b => cond b (some (i : Int)) k) (some (-1)) i l = some j ∧ decide (j ≥ 0) = l.any p
  | [], _, _ => ⟨-1, rfl, rfl⟩
  | a :: l, i, hf => by
    obtain ⟨j, h1, h2⟩ := walk_index_mem p f l (i + 1) fun b hb => hf b (List.mem_cons_of_mem _ hb)
    have ha := hf a (List.mem_cons_self ..)
    cases h : p a
    · exact ⟨j, by simp [walk, ha, h, h1], by simp [h, h2]⟩
    · exact ⟨i, by simp [walk, ha, h], by simp [h]⟩

theorem containsFunc_eq {l : List Int} {f : Int → Option Bool} {p : Int → Bool} (hl : l.length < 2 ^ 62) (hf : ∀ a ∈ l, f a = some (p a)) : M_slices_ContainsFunc_sint_int (l, f) = some (l.any p) := by
  obtain ⟨j, h1, h2⟩ := walk_index_mem p f l 0 hf
  unfold M_slices_ContainsFunc_sint_int
  have : M_slices_IndexFunc_sint_int (l, f) = some j := by
    unfold M_slices_IndexFunc_sint_int
    refine (loop_walk l _ _ (fun again i a ha hi => ?_) (fun again => ?_) (by omega)).trans h1
    · simp only [getI_nat, ha, bindO_some', i64_succ (show i < 2 ^ 62 by omega), lt_yes hi, cond_true]
    · simp
  dsimp only
  rw [this, bindO_some', h2]

theorem areAll_eq {l : List Int} {f : Int → Option Bool} {p : Int → Bool} (hl : l.length < 2 ^ 62) (hf : ∀ a ∈ l, f a = some (p a)) : M_I_areAll (l, f) = some (l.all p) := by
  unfold M_I_areAll
  dsimp only
  rw [containsFunc_eq (p := fun a => !p a) hl fun a ha => by simp [M_I_areAll_1, hf a ha], bindO_some']
  congr 1
  rw [List.any_eq_not_all_not]
  simp

/-- A product of residues. -/
def prodM (p : Int) : Int → List Int → Int
  | out, [] => out
  | out, x :: l => prodM p (out * x % p) l

def hstep (c s k : Int) : Int := (c * s + k + 1) % 2147483647

/-- a over b. -/
def over (p q a b : Int) : Int := prodM p 1 [a, b ^ (q - 1).toNat % p]

/-- A proposition as a Boolean. -/
noncomputable def pdec (p : Prop) : Bool := @decide p (Classical.propDecidable p)

theorem pdec_iff {p : Prop} : pdec p = true ↔ p := by simp [pdec]

theorem pdec_yes {p : Prop} (h : p) : pdec p = true := pdec_iff.2 h

theorem pdec_no {p : Prop} (h : ¬ p) : pdec p = false := by simp [pdec, h]

/-- A walk that checks: `G i` holds of the first i elements. -/
theorem loop_check {α β : Type} {body : (Int → Option β) → Int → Option β} (l : List α) (G : Nat → Prop) (yes no : Option β)
    (hstep : ∀ (again : Int → Option β) (i : Nat) a, l[i]? = some a → i < l.length → G i → (body again (i : Int) = again ((i + 1 : Nat) : Int) ∧ G (i + 1)) ∨ (body again (i : Int) = no ∧ ¬ G l.length))
    (hend : ∀ again : Int → Option β, body again (l.length : Int) = yes) (h0 : G 0) (hl : l.length < 2 ^ 64) : (G l.length → loopO body 0 = yes) ∧ (¬ G l.length → loopO body 0 = no) := by
  constructor
  · intro hG
    refine (loopO_for (σ := Unit) (fun i _ => (i : Int)) l.length (fun _ _ => yes) (fun i _ => G i) (fun again _ hg => hend again) (fun again i _ hi hg ih => ?_) hl (i := 0) (s := ()) (Nat.zero_le _) h0).trans rfl
    rcases hstep again i l[i] (List.getElem?_eq_getElem hi) hi hg with ⟨h1, h2⟩ | ⟨h1, h2⟩
    · rw [h1]
      exact ih () h2
    · exact absurd hG h2
  · intro hG
    refine (loopO_for (σ := Unit) (fun i _ => (i : Int)) l.length (fun _ _ => no) (fun i _ => G i) (fun again _ hg => absurd hg hG) (fun again i _ hi hg ih => ?_) hl (i := 0) (s := ()) (Nat.zero_le _) h0).trans rfl
    rcases hstep again i l[i] (List.getElem?_eq_getElem hi) hi hg with ⟨h1, h2⟩ | ⟨h1, h2⟩
    · rw [h1]
      exact ih () h2
    · exact h1

theorem check_dec {β : Type} {m : Option β} {G : Prop} {f : Bool → Option β} (h : (G → m = f true) ∧ (¬ G → m = f false)) : m = f (pdec G) := by
  by_cases hg : G
  · rw [h.1 hg, pdec_yes hg]
  · rw [h.2 hg, pdec_no hg]

theorem mem_take_succ {α : Type} {l : List α} {i : Nat} {a : α} (h : l[i]? = some a) : l.take (i + 1) = l.take i ++ [a] := by
  rw [List.take_add_one, h]
  rfl

theorem pairwise_snoc {α : Type} {R : α → α → Prop} {l : List α} {a : α} : (l ++ [a]).Pairwise R ↔ l.Pairwise R ∧ ∀ b ∈ l, R b a := by
  rw [List.pairwise_append]
  constructor
  · rintro ⟨h1, _, h2⟩
    exact ⟨h1, fun b hb => h2 b hb a (by simp)⟩
  · rintro ⟨h1, h2⟩
    exact ⟨h1, by simp, fun b hb c hc => by simp at hc; subst hc; exact h2 b hb⟩

noncomputable def nodupB (l : List Int) : Bool := pdec l.Nodup

theorem areDifferent_eq {l : List Int} (hl : l.length < 2 ^ 62) : M_I_areDifferent l = some (nodupB l) := by
  unfold M_I_areDifferent
  have h := loop_check (β := Bool) l (fun i => (l.take i).Nodup) (some true) (some false) (body := (fun (again0 : (Int → (Option Bool))) => (fun (s1 : Int) => (cond (decide (s1 < (((List.length l) : Nat) : Int))) (bindO (getI l s1) (fun (a2 : Int) => (bindO (sliceNH s1 (List.length l)) (fun (a3 : (Nat × Nat)) => (bindO (M_slices_Contains_sint_int ((List.drop a3.1 (List.take a3.2 l)), a2)) (fun (a4 : Bool) => (cond a4 (some false) (bindO (some (IntKind.wrap .i64 (s1 + (1 : Int)))) (fun (a5 : Int) => (again0 a5)))))))))) (some true)))))
    (fun again i a ha hi' hg => ?_) (fun again => ?_) (by simp) (by omega)
  · rw [List.take_length] at h
    exact check_dec (f := some) h
  · have hlen : (l.take i).length < 2 ^ 62 := by simp; omega
    simp only [lt_yes hi', cond_true, getI_nat, ha, bindO_some', sliceNH_nat (show i ≤ l.length by omega), List.drop_zero, contains_eq hlen, i64_succ (show i < 2 ^ 62 by omega), mem_take_succ ha, List.take_length]
    by_cases hm : a ∈ l.take i
    · right
      have : (l.take i).any (· == a) = true := by simpa using hm
      refine ⟨by rw [this]; rfl, fun hn => ?_⟩
      have h2 : (l.take (i + 1)).Nodup := hn.sublist (List.take_sublist _ _)
      rw [mem_take_succ ha] at h2
      have := (pairwise_snoc.1 h2).2 a hm
      exact this rfl
    · left
      have : (l.take i).any (· == a) = false := by
        cases hc : (l.take i).any (· == a)
        · rfl
        · exact absurd (by simpa using hc) hm
      refine ⟨by rw [this]; rfl, pairwise_snoc.2 ⟨hg, fun b hb hba => hm (by subst hba; exact hb)⟩⟩
  · simp

theorem areBelow_eq {l : List Int} {m : Int} (hl : l.length < 2 ^ 62) (h1 : -9223372036854775807 ≤ m) (h2 : m ≤ 9223372036854775807) : M_I_areBelow (l, m) = some (l.all fun n => decide (0 ≤ n ∧ n ≤ m - 1)) := by
  unfold M_I_areBelow
  rw [areAll_eq (p := fun n => decide (0 ≤ n ∧ n ≤ m - 1)) hl fun a _ => by simp [M_I_areBelow_1, i64_in (m - 1) (by omega), within_eq], bindO_some']

theorem getI_ex {α : Type} {l : List α} {i : Int} (h0 : 0 ≤ i) (h : i < l.length) : ∃ a, getI l i = some a := by
  refine ⟨l[i.toNat]'(by omega), ?_⟩
  simp [getI, h0]

def tot (x : List (List Int)) : Nat := (x.map List.length).sum

theorem row_le {x : List (List Int)} {r : List Int} (h : r ∈ x) : r.length ≤ tot x := by
  induction x with
  | nil => cases h
  | cons a x ih =>
    simp only [tot, List.map_cons, List.sum_cons] at ih ⊢
    rcases List.mem_cons.1 h with rfl | h
    · omega
    · have := ih h
      omega

theorem containsFuncS_eq {l : List (List Int)} {f : List Int → Option Bool} {p : List Int → Bool} (hl : l.length < 2 ^ 62) (hf : ∀ a ∈ l, f a = some (p a)) : M_slices_ContainsFunc_ssint_sint (l, f) = some (l.any p) := by
  obtain ⟨j, h1, h2⟩ := walk_index_mem p f l 0 hf
  unfold M_slices_ContainsFunc_ssint_sint
  have : M_slices_IndexFunc_ssint_sint (l, f) = some j := by
    unfold M_slices_IndexFunc_ssint_sint
    refine (loop_walk l _ _ (fun again i a ha hi => ?_) (fun again => ?_) (by omega)).trans h1
    · simp only [getI_nat, ha, bindO_some', i64_succ (show i < 2 ^ 62 by omega), lt_yes hi, cond_true]
    · simp
  dsimp only
  rw [this, bindO_some', h2]

theorem all_not_any {α : Type} {p q : α → Bool} {l : List α} (h : ∀ a ∈ l, q a = !p a) : l.all p = !l.any q := by
  induction l with
  | nil => rfl
  | cons a l ih =>
    rw [List.all_cons, List.any_cons, ih fun b hb => h b (List.mem_cons_of_mem _ hb), h a (List.mem_cons_self ..)]
    cases p a <;> simp

theorem wrap_u64 {i : Nat} (h : i < 2 ^ 62) : IntKind.wrap .u64 ((i : Nat) : Int) = (i : Int) := u64_in _ (by omega)

theorem has_contains {l : List Int} (hl : l.length < 2 ^ 62) (p : Nat × Nat) (a : Int) : M_S_l1Has (List.drop p.1 (List.take p.2 l), a) = M_slices_Contains_sint_int (List.drop p.1 (List.take p.2 l), a) := by
  have : (List.drop p.1 (List.take p.2 l)).length < 2 ^ 62 := by simp; omega
  rw [contains_eq this, has_eq this]

theorem vDifferent_eq {l : List Int} (hl : l.length < 2 ^ 62) : M_S_vDifferent l = some (nodupB l) := by
  rw [← areDifferent_eq hl]
  unfold M_S_vDifferent M_I_areDifferent
  simp only [has_contains hl]

/-- Rankings of options. -/
noncomputable def okR (k : Int) (x : List (List Int)) : Bool := decide (1 ≤ k ∧ k ≤ 8) && (decide (x.length ≤ 24) && x.all fun r => (r.all fun n => decide (0 ≤ n ∧ n ≤ k - 1)) && nodupB r)

theorem tRanks_eq {k : Int} {x : List (List Int)} (hr : ∀ r ∈ x, r.length < 2 ^ 62) : M_S_tRanks (k, x) = some (okR k x) := by
  unfold M_S_tRanks okR
  dsimp only
  rw [in_eq, bindO_some']
  by_cases hk : 1 ≤ k ∧ k ≤ 8
  · simp only [hk, and_self, decide_true, Bool.not_true, cond_false, Bool.true_and]
    have e : decide (((x.length : Nat) : Int) > 24) = !decide (x.length ≤ 24) := by rw [← decide_not, decide_eq_decide]; omega
    rw [e]
    by_cases hx : x.length ≤ 24
    · simp only [hx, decide_true, Bool.not_true, cond_false, Bool.true_and]
      refine (loop_walk x (fun _ r k' => if ((r.all fun n => decide (0 ≤ n ∧ n ≤ k - 1)) && nodupB r) = true then k' else some false) (some true) (fun again i a ha hi' => ?_) (fun again => ?_) (by omega)).trans (walk_all _ x 0)
      · have hal := hr a (List.mem_of_getElem? ha)
        simp only [getI_nat, ha, bindO_some', i64_succ (show i < 2 ^ 62 by omega), lt_yes hi', cond_true, i64_in (k - 1) (by omega), l1All_eq hal, vDifferent_eq hal]
        cases (a.all fun n => decide (0 ≤ n ∧ n ≤ k - 1))
        · rfl
        · cases nodupB a <;> rfl
      · simp
    · simp [hx]
  · simp [hk]

theorem areRankings_eq {k : Int} {x : List (List Int)} (hx : x.length < 2 ^ 62) (hr : ∀ r ∈ x, r.length < 2 ^ 62) : M_I_areRankings (k, x) = some (okR k x) := by
  unfold M_I_areRankings okR
  dsimp only
  rw [within_eq, bindO_some']
  by_cases hk : 1 ≤ k ∧ k ≤ 8
  · simp only [hk, and_self, decide_true, cond_true, Bool.true_and]
    have e : decide (((x.length : Nat) : Int) ≤ 24) = decide (x.length ≤ 24) := by rw [decide_eq_decide]; omega
    rw [e, containsFuncS_eq (p := fun r => !((r.all fun n => decide (0 ≤ n ∧ n ≤ k - 1)) && nodupB r)) hx fun a ha => ?_, bindO_some', all_not_any fun _ _ => rfl]
    · cases decide (x.length ≤ 24) <;> rfl
    · unfold M_I_areRankings_1
      dsimp only
      rw [areBelow_eq (hr a ha) (by omega) (by omega), areDifferent_eq (hr a ha)]
      cases (a.all fun n => decide (0 ≤ n ∧ n ≤ k - 1)) <;> cases nodupB a <;> rfl
  · simp [hk]

theorem okR_spec {k : Int} {x : List (List Int)} (h : okR k x = true) : 1 ≤ k ∧ k ≤ 8 ∧ x.length ≤ 24 ∧ ∀ r ∈ x, (∀ n ∈ r, 0 ≤ n ∧ n ≤ k - 1) ∧ r.Nodup := by
  simp only [okR, Bool.and_eq_true, decide_eq_true_eq, List.all_eq_true, nodupB, pdec_iff] at h
  exact ⟨h.1.1, h.1.2, h.2.1, h.2.2⟩

theorem BordaScores_same {k : Int} {x : List (List Int)} (hx : x.length < 2 ^ 62) (hr : ∀ r ∈ x, r.length < 2 ^ 62) : M_I_BordaScores (k, x) = M_S_BordaScores (k, x) := by
  unfold M_I_BordaScores M_S_BordaScores
  dsimp only
  rw [areRankings_eq hx hr, tRanks_eq hr]

theorem BordaScores_some {k : Int} {x : List (List Int)} (hr : ∀ r ∈ x, r.length < 2 ^ 62) : ∃ r b, M_S_BordaScores (k, x) = some (r, b) ∧ r.length ≤ 8 := by
  unfold M_S_BordaScores
  dsimp only
  rw [tRanks_eq hr, bindO_some']
  cases hok : okR k x with
  | false => exact ⟨[], false, rfl, by simp⟩
  | true =>
    obtain ⟨h1, h2, h3, h4⟩ := okR_spec hok
    simp only [Bool.not_true, cond_false]
    have hk : k ≤ ((lim : Nat) : Int) := by rw [lim_eq]; omega
    rw [guardO_of (by simp [hk]; omega), bindO_some']
    refine loopO_ind (fun (_ : Int × List Int) (y : Option (List Int × Bool)) => ∃ r b, y = some (r, b) ∧ r.length ≤ 8) (fun s => 0 ≤ s.1 ∧ s.1 ≤ x.length ∧ s.2.length = k.toNat) (fun s => ((x.length : Int) - s.1).toNat) (fun again s hs ih => ?_) ⟨Int.le_refl _, by dsimp only; omega, by simp⟩ (by dsimp only; omega)
    obtain ⟨j, s2⟩ := s
    obtain ⟨g1, g2, g3⟩ := hs
    dsimp only at g1 g2 g3 ih ⊢
    obtain ⟨i, rfl⟩ := Int.eq_ofNat_of_zero_le g1
    by_cases hi : i < x.length
    · have hrow := h4 x[i] (List.getElem_mem hi)
      have hrl := hr x[i] (List.getElem_mem hi)
      simp only [lt_yes hi, cond_true, getI_nat, List.getElem?_eq_getElem hi, bindO_some']
      refine loopO_ind (fun (_ : Int × List Int) (y : Option (List Int × Bool)) => ∃ r b, y = some (r, b) ∧ r.length ≤ 8) (fun u => 0 ≤ u.1 ∧ u.1 ≤ x[i].length ∧ u.2.length = k.toNat) (fun u => ((x[i].length : Int) - u.1).toNat) (fun again2 u hu ih2 => ?_) ⟨Int.le_refl _, by dsimp only; omega, g3⟩ (by dsimp only; omega)
      obtain ⟨j2, u2⟩ := u
      obtain ⟨e1, e2, e3⟩ := hu
      dsimp only at e1 e2 e3 ih2 ⊢
      obtain ⟨m, rfl⟩ := Int.eq_ofNat_of_zero_le e1
      by_cases hm : m < x[i].length
      · have hv := hrow.1 x[i][m] (List.getElem_mem hm)
        obtain ⟨a, ha⟩ := getI_ex (l := u2) hv.1 (by omega)
        simp only [lt_yes hm, cond_true, getI_nat, List.getElem?_eq_getElem hm, bindO_some', ha, i64_succ (show m < 2 ^ 62 by omega)]
        exact ih2 _ ⟨by dsimp only; omega, by dsimp only; omega, by simp [e3]⟩ (by dsimp only; omega)
      · have hm' : decide ((m : Int) < (x[i].length : Int)) = false := by simp; omega
        rw [hm', cond_false, i64_succ (by omega)]
        exact ih _ ⟨by dsimp only; omega, by dsimp only; omega, e3⟩ (by dsimp only; omega)
    · have hi' : decide ((i : Int) < (x.length : Int)) = false := by simp; omega
      rw [hi', cond_false]
      exact ⟨_, _, rfl, by omega⟩

theorem getD_at {α : Type} {l : List α} {i : Nat} {d : α} (h : i < l.length) : l[i]? = some (l.getD i d) := by
  rw [List.getElem?_eq_getElem h, List.getD_eq_getElem?_getD, List.getElem?_eq_getElem h]
  rfl

def iterN {σ : Type} (f : Nat → σ → σ) (s0 : σ) : Nat → σ
  | 0 => s0
  | n + 1 => f n (iterN f s0 n)

theorem iterN_pair {σ τ : Type} (f : Nat → σ → σ) (g : Nat → τ → τ) (a : σ) (b : τ) : ∀ n, iterN (fun i (s : σ × τ) => (f i s.1, g i s.2)) (a, b) n = (iterN f a n, iterN g b n)
  | 0 => rfl
  | n + 1 => by simp only [iterN, iterN_pair f g a b n]

theorem iterN_inv {σ : Type} {f : Nat → σ → σ} {s0 : σ} {Inv : Nat → σ → Prop} (h0 : Inv 0 s0) : ∀ n, (∀ i s, i < n → Inv i s → Inv (i + 1) (f i s)) → Inv n (iterN f s0 n)
  | 0, _ => h0
  | n + 1, h => h n _ (by omega) (iterN_inv h0 n fun i s hi => h i s (by omega))

theorem iter_loop {σ τ β : Type} (f : Nat → σ → σ) (s0 : σ) (n : Nat) (enc : Int → σ → τ) (fin : σ → Option β) (Inv : Nat → σ → Prop) {body : (τ → Option β) → τ → Option β} (hn : n < 2 ^ 62) (h0 : Inv 0 s0) (hs : ∀ i s, i < n → Inv i s → Inv (i + 1) (f i s))
    (h : ∀ (again : τ → Option β) (i : Nat) s, i < n → Inv i s → body again (enc (i : Int) s) = again (enc ((i + 1 : Nat) : Int) (f i s))) (hend : ∀ (again : τ → Option β) s, Inv n s → body again (enc (n : Int) s) = fin s) : loopO body (enc 0 s0) = fin (iterN f s0 n) := by
  refine (loopO_for (σ := σ) (fun i s => enc (i : Int) s) n (fun _ _ => fin (iterN f s0 n)) (fun i s => s = iterN f s0 i ∧ Inv i s) (fun again s hs => ?_) (fun again i s hi hv ih => ?_) (by omega) (i := 0) (s := s0) (Nat.zero_le _) ⟨rfl, h0⟩).trans rfl
  · obtain ⟨rfl, h2⟩ := hs
    exact hend again _ h2
  · obtain ⟨rfl, h2⟩ := hv
    rw [h again i _ hi h2]
    exact ih _ ⟨rfl, hs i _ hi h2⟩

def rowN (n : Nat) (f : Nat → Int) : List Int := (List.range n).map f

theorem rowN_get {n : Nat} {f : Nat → Int} {j : Nat} (h : j < n) : (rowN n f)[j]? = some (f j) := by
  rw [rowN, List.getElem?_map, List.getElem?_range h]
  rfl

theorem rowN_len (n : Nat) (f : Nat → Int) : (rowN n f).length = n := by simp [rowN]

theorem nodup_short {r : List Int} {k : Int} (hk : k ≤ 8) (hr : ∀ a ∈ r, 0 ≤ a ∧ a ≤ k - 1) (hn : r.Nodup) : r.length ≤ 8 := by
  have h := List.Nodup.length_le_of_subset (l₂ := (List.range 8).map fun i : Nat => (i : Int)) hn fun a ha => by
    have := hr a ha
    obtain ⟨n, rfl⟩ := Int.eq_ofNat_of_zero_le this.1
    exact List.mem_map.2 ⟨n, List.mem_range.2 (by omega), rfl⟩
  simpa using h

theorem rowN_zero (n : Nat) : rowN n (fun _ => 0) = List.replicate n 0 := by
  refine List.ext_getElem? fun j => ?_
  rw [List.getElem?_replicate]
  split
  · rename_i h
    exact rowN_get h
  · rw [List.getElem?_eq_none (by rw [rowN_len]; omega)]

theorem loop_walk2 {α β τ : Type} {body : (τ → Option β) → τ → Option β} (enc : Int → τ) (l : List α) (step : Nat → α → Option β → Option β) (fin : Option β)
    (h : ∀ (again : τ → Option β) (i : Nat) a, l[i]? = some a → i < l.length → body again (enc (i : Int)) = step i a (again (enc ((i + 1 : Nat) : Int))))
    (hend : ∀ again : τ → Option β, body again (enc (l.length : Int)) = fin) (hl : l.length < 2 ^ 64) : loopO body (enc 0) = walk step fin 0 l := by
  refine (loopO_for (σ := Unit) (fun i _ => enc (i : Int)) l.length (fun i _ => walk step fin i (l.drop i)) (fun _ _ => True) (fun again _ _ => ?_) (fun again i _ hi _ ih => ?_) hl (i := 0) (s := ()) (Nat.zero_le _) trivial).trans rfl
  · simp [hend, walk]
  · rw [h again i l[i] (List.getElem?_eq_getElem hi) hi, ih () trivial, List.drop_eq_getElem_cons hi, walk]

theorem walk_findQ {α β : Type} (p : α → Bool) (F : α → Option β) (G : Option β) : ∀ (l : List α) (i : Nat), walk (fun _ a k => bif p a then F a else k) G i l = match l.find? p with | some a => F a | none => G
  | [], _ => rfl
  | a :: l, i => by
    rw [walk, walk_findQ p F G l (i + 1), List.find?_cons]
    cases p a <;> rfl

theorem walk_idx {α : Type} (p : α → Bool) : ∀ (l : List α) (i : Nat), ∃ z : Int, walk (fun i a k => bif p a then some (i : Int) else k) (some (-1)) i l = some z ∧ match l.find? p with | some a => ∃ j : Nat, z = ((i + j : Nat) : Int) ∧ l[j]? = some a | none => z = -1
  | [], i => ⟨-1, rfl, rfl⟩
  | a :: l, i => by
    rw [walk, List.find?_cons]
    cases p a
    · obtain ⟨z, h1, h2⟩ := walk_idx p l (i + 1)
      refine ⟨z, h1, ?_⟩
      dsimp only
      cases hf : l.find? p with
      | none => rw [hf] at h2; exact h2
      | some b =>
        rw [hf] at h2
        obtain ⟨j, h3, h4⟩ := h2
        exact ⟨j + 1, by rw [h3]; omega, by simpa using h4⟩
    · exact ⟨(i : Int), rfl, 0, by simp, by simp⟩

theorem indexFunc_find {l : List Int} {f : Int → Option Bool} {p : Int → Bool} (hl : l.length < 2 ^ 62) (hf : ∀ a ∈ l, f a = some (p a)) : ∃ z : Int, M_slices_IndexFunc_sint_int (l, f) = some z ∧ match l.find? p with | some a => ∃ j : Nat, z = (j : Int) ∧ l[j]? = some a | none => z = -1 := by
  obtain ⟨z, h1, h2⟩ := walk_idx p l 0
  refine ⟨z, ?_, ?_⟩
  · unfold M_slices_IndexFunc_sint_int
    refine (loop_walk l (fun i a k => bif p a then some (i : Int) else k) (some (-1)) (fun again i a ha hi => ?_) (fun again => ?_) (by omega)).trans h1
    · simp only [getI_nat, ha, bindO_some', hf a (List.mem_of_getElem? ha), i64_succ (show i < 2 ^ 62 by omega), lt_yes hi, cond_true]
    · simp
  · cases hf : l.find? p with
    | none => rw [hf] at h2; exact h2
    | some b =>
      rw [hf] at h2
      obtain ⟨j, h3, h4⟩ := h2
      exact ⟨j, by rw [h3, Nat.zero_add], h4⟩

abbrev Rem := Nat → Bool

def fstQ (rem : Rem) (r : List Int) : Option Int := r.find? fun a => !rem a.toNat

def bumpC (rem : Rem) (r : List Int) (C : Nat → Int) : Nat → Int := fun k => if fstQ rem r = some (k : Int) then C k + 1 else C k

def c0 (rem : Rem) : Nat → Int := fun k => if rem k = true then -1 else 0

def cntC (rem : Rem) (rs : List (List Int)) : Nat → Int := iterN (fun t C => bumpC rem (rs.getD t []) C) (c0 rem) rs.length

/-- Removed: below zero; else at most t. -/
def CntOK (rem : Rem) (t : Nat) (C : Nat → Int) : Prop := ∀ k, (rem k = true → C k = -1) ∧ (rem k = false → 0 ≤ C k ∧ C k ≤ (t : Int))

theorem c0_ok (rem : Rem) : CntOK rem 0 (c0 rem) := fun k => by
  unfold c0
  cases rem k <;> simp

theorem fst_free {rem : Rem} {r : List Int} {a : Int} (h : fstQ rem r = some a) : a ∈ r ∧ rem a.toNat = false := by
  unfold fstQ at h
  exact ⟨List.mem_of_find?_eq_some h, by simpa using List.find?_some h⟩

theorem bump_ok {rem : Rem} {t : Nat} {r : List Int} {C : Nat → Int} (h : CntOK rem t C) : CntOK rem (t + 1) (bumpC rem r C) := fun k => by
  obtain ⟨h1, h2⟩ := h k
  unfold bumpC
  split
  · rename_i hf
    have := (fst_free hf).2
    rw [Int.toNat_natCast] at this
    refine ⟨fun hr => (by rw [this] at hr; cases hr), fun hr => ?_⟩
    have := h2 hr
    omega
  · exact ⟨h1, fun hr => by have := h2 hr; omega⟩

theorem cnt_ok (rem : Rem) (rs : List (List Int)) : CntOK rem rs.length (cntC rem rs) := iterN_inv (Inv := fun t C => CntOK rem t C) (c0_ok rem) rs.length fun _ _ _ hv => bump_ok hv

theorem rowN_set {n a : Nat} {f : Nat → Int} {v : Int} : (rowN n f).set a v = rowN n fun k => if k = a then v else f k := by
  refine List.ext_getElem? fun t => ?_
  by_cases ht : t < n
  · rw [rowN_get ht, List.getElem?_set]
    by_cases hat : a = t
    · subst hat
      rw [if_pos rfl, if_pos (by rw [rowN_len]; exact ht), if_pos rfl]
    · rw [if_neg hat, rowN_get ht, if_neg (fun h => hat h.symm)]
  · rw [List.getElem?_eq_none (by rw [List.length_set, rowN_len]; omega), List.getElem?_eq_none (by rw [rowN_len]; omega)]

theorem rowN_congr {n : Nat} {f g : Nat → Int} (h : ∀ k, k < n → f k = g k) : rowN n f = rowN n g := List.map_congr_left fun k hk => h k (List.mem_range.1 hk)

def inO (out : List Int) : Rem := fun k => out.any (· == (k : Int))

theorem S_tFirst_eq {n : Nat} {rs : List (List Int)} {out : List Int} (hn : n ≤ 8) (hrs : rs.length ≤ 24) (hre : ∀ r ∈ rs, r.length ≤ 8 ∧ ∀ a ∈ r, 0 ≤ a ∧ a < n) (ho : out.length ≤ 8) (hoe : ∀ a ∈ out, 0 ≤ a ∧ a < n) :
    M_S_tFirst ((n : Int), rs, out) = some (rowN n (cntC (inO out) rs)) := by
  unfold M_S_tFirst
  dsimp only
  have hlim : ((n : Int)) ≤ ((lim : Nat) : Int) := by rw [lim_eq]; omega
  rw [guardO_of (by simpa using hlim), bindO_some', Int.toNat_natCast, ← rowN_zero]
  refine (iter_loop (fun t (C : Nat → Int) => fun k => if (k : Int) = out.getD t 0 then -1 else C k) (fun _ => 0) out.length (fun i C => (i, rowN n C)) (fun _ => some (rowN n (cntC (inO out) rs))) (fun t C => ∀ k, C k = if (out.take t).any (· == (k : Int)) = true then -1 else 0) (by omega) (fun k => by simp) (fun t C ht hv k => ?_) (fun again t C ht hv => ?_) (fun again C hv => ?_)).trans rfl
  · have ha := getD_at (d := (0 : Int)) ht
    rw [List.take_add_one, ha]
    dsimp only
    rw [hv k]
    by_cases hk : (k : Int) = out.getD t 0
    · rw [if_pos hk, if_pos]
      simp only [Option.toList_some, List.any_append, List.any_cons, List.any_nil, Bool.or_false, Bool.or_eq_true, beq_iff_eq]
      exact .inr hk.symm
    · rw [if_neg hk]
      have : ((out.take t ++ (some (out.getD t 0)).toList).any (· == (k : Int))) = (out.take t).any (· == (k : Int)) := by
        simp only [Option.toList_some, List.any_append, List.any_cons, List.any_nil, Bool.or_false]
        rw [show (out.getD t 0 == (k : Int)) = false from beq_eq_false_iff_ne.2 fun e => hk e.symm, Bool.or_false]
      rw [this]
  · have ha := getD_at (d := (0 : Int)) ht
    obtain ⟨a1, a2⟩ := hoe _ (List.mem_of_getElem? ha)
    obtain ⟨A, hA⟩ := Int.eq_ofNat_of_zero_le a1
    rw [hA] at ha a2 ⊢
    have hAn : A < n := by omega
    simp only [lt_yes ht, cond_true, getI_nat, ha, bindO_some', rowN_get hAn, Int.toNat_natCast, i64_succ (show t < 2 ^ 62 by omega), rowN_set]
    congr 2
    exact rowN_congr fun k _ => by
      by_cases hk : k = A
      · subst hk; simp
      · rw [if_neg hk, if_neg (by omega)]
  · have hC : rowN n C = rowN n (c0 (inO out)) := rowN_congr fun k _ => by
      rw [hv k, List.take_length]
      rfl
    simp only [lt_no, cond_false]
    rw [hC]
    refine iter_loop (fun t C => bumpC (inO out) (rs.getD t []) C) (c0 (inO out)) rs.length (fun i C => (i, rowN n C)) (fun C => some (rowN n C)) (fun t C => CntOK (inO out) t C) (by omega) (c0_ok _) (fun _ _ _ hv => bump_ok hv) (fun again7 t C ht hv => ?_) (fun again7 C hv => ?_)
    · have hr := getD_at (d := ([] : List Int)) ht
      obtain ⟨r1, r2⟩ := hre _ (List.mem_of_getElem? hr)
      generalize rs.getD t [] = r at hr r1 r2
      simp only [lt_yes ht, cond_true, getI_nat, hr, bindO_some']
      refine (loop_walk2 (fun i => (i, rowN n C)) r (fun _ a k => bif !inO out a.toNat then again7 (((t + 1 : Nat) : Int), rowN n fun k => if k = a.toNat then C k + 1 else C k) else k) (again7 (((t + 1 : Nat) : Int), rowN n C)) (fun again10 i a ha hi => ?_) (fun again10 => ?_) (by omega)).trans ?_
      · obtain ⟨a1, a2⟩ := r2 a (List.mem_of_getElem? ha)
        obtain ⟨A, rfl⟩ := Int.eq_ofNat_of_zero_le a1
        have hAn : A < n := by omega
        obtain ⟨v1, v2⟩ := hv A
        simp only [lt_yes hi, cond_true, getI_nat, ha, bindO_some', rowN_get hAn, Int.toNat_natCast, i64_succ (show t < 2 ^ 62 by omega), i64_succ (show i < 2 ^ 62 by omega)]
        cases hrem : inO out A
        · have := v2 hrem
          rw [decide_eq_true (show C A ≥ 0 by omega), i64_in (C A + 1) (by omega)]
          simp only [cond_true, Bool.not_false, rowN_set]
          congr 2
          exact rowN_congr fun k _ => by
            by_cases hk : k = A
            · rw [if_pos hk, if_pos hk, hk]
            · rw [if_neg hk, if_neg hk]
        · rw [decide_eq_false (show ¬ C A ≥ 0 by have := v1 hrem; omega)]
          rfl
      · simp only [lt_no, cond_false, i64_succ (show t < 2 ^ 62 by omega)]
      · rw [walk_findQ (fun a : Int => !inO out a.toNat)]
        rw [show (r.find? fun a => !inO out a.toNat) = fstQ (inO out) r from rfl]
        unfold bumpC
        cases hf : fstQ (inO out) r with
        | none =>
          dsimp only
          congr 2
        | some a =>
          obtain ⟨f1, f2⟩ := fst_free hf
          obtain ⟨a1, a2⟩ := r2 a f1
          dsimp only
          congr 2
          exact rowN_congr fun k _ => by
            by_cases hk : k = a.toNat
            · rw [if_pos hk, if_pos (by congr 1; omega)]
            · rw [if_neg hk, if_neg (fun e => hk (by have := Option.some.inj e; omega))]
    · simp only [lt_no, cond_false]

def remB (out : List Bool) : Rem := fun k => out.getD k false

theorem I_round_eq {n : Nat} {rs : List (List Int)} {out : List Bool} (hn : n ≤ 8) (hrs : rs.length ≤ 24) (hre : ∀ r ∈ rs, r.length ≤ 8 ∧ ∀ a ∈ r, 0 ≤ a ∧ a < n) (ho : out.length = n) :
    M_I_round (rs, out) = some (rowN n (cntC (remB out) rs)) := by
  unfold M_I_round
  dsimp only
  have hlim : ((n : Int)) ≤ ((lim : Nat) : Int) := by rw [lim_eq]; omega
  rw [ho, guardO_of (by simpa using hlim), bindO_some', Int.toNat_natCast, ← rowN_zero]
  refine (iter_loop (fun t (C : Nat → Int) => fun k => if k = t ∧ remB out t = true then -1 else C k) (fun _ => 0) n (fun i C => (i, rowN n C)) (fun _ => some (rowN n (cntC (remB out) rs))) (fun t C => ∀ k, C k = if k < t ∧ remB out k = true then -1 else 0) (by omega) (fun k => by simp) (fun t C ht hv k => ?_) (fun again t C ht hv => ?_) (fun again C hv => ?_)).trans rfl
  · dsimp only
    rw [hv k]
    by_cases hk : k = t
    · subst hk
      cases remB out k <;> simp
    · by_cases hkt : k < t
      · simp [hk, hkt, show k < t + 1 by omega]
      · simp [hk, hkt, show ¬ k < t + 1 by omega]
  · have ha := getD_at (d := false) (show t < out.length by omega)
    simp only [lt_yes ht, cond_true, getI_nat, ha, bindO_some', rowN_get ht, Int.toNat_natCast, i64_succ (show t < 2 ^ 62 by omega), rowN_set]
    unfold remB
    cases out.getD t false
    · rw [cond_false]
      congr 2
      exact rowN_congr fun k _ => by simp
    · rw [cond_true]
      congr 2
      exact rowN_congr fun k _ => by simp
  · have hC : rowN n C = rowN n (c0 (remB out)) := rowN_congr fun k hk => by
      rw [hv k]
      unfold c0
      simp [hk]
    simp only [lt_no, cond_false]
    rw [hC]
    refine iter_loop (fun t C => bumpC (remB out) (rs.getD t []) C) (c0 (remB out)) rs.length (fun i C => (i, rowN n C)) (fun C => some (rowN n C)) (fun t C => CntOK (remB out) t C) (by omega) (c0_ok _) (fun _ _ _ hv => bump_ok hv) (fun again7 t C ht hv => ?_) (fun again7 C hv => ?_)
    · have hr := getD_at (d := ([] : List Int)) ht
      obtain ⟨r1, r2⟩ := hre _ (List.mem_of_getElem? hr)
      generalize rs.getD t [] = r at hr r1 r2
      obtain ⟨z, z1, z2⟩ := indexFunc_find (l := r) (f := fun a11 => bindO (M_I_round_1 (a11, out)) fun a12 => some a12) (p := fun a => !remB out a.toNat) (by omega) (fun a ha => by
        obtain ⟨a1, a2⟩ := r2 a ha
        obtain ⟨A, rfl⟩ := Int.eq_ofNat_of_zero_le a1
        unfold M_I_round_1
        dsimp only
        rw [getI_nat, getD_at (d := false) (show A < out.length by omega), bindO_some', bindO_some']
        rfl)
      simp only [lt_yes ht, cond_true, getI_nat, hr, bindO_some']
      rw [z1, bindO_some']
      rw [show (r.find? fun a => !remB out a.toNat) = fstQ (remB out) r from rfl] at z2
      unfold bumpC
      cases hf : fstQ (remB out) r with
      | none =>
        rw [hf] at z2
        dsimp only at z2
        subst z2
        rw [decide_eq_false (show ¬ (-1 : Int) ≥ 0 by omega), cond_false, i64_succ (by omega)]
        simp
      | some a =>
        rw [hf] at z2
        obtain ⟨j, rfl, hj⟩ := z2
        obtain ⟨f1, f2⟩ := fst_free hf
        obtain ⟨a1, a2⟩ := r2 a f1
        obtain ⟨A, rfl⟩ := Int.eq_ofNat_of_zero_le a1
        have hAn : A < n := by omega
        obtain ⟨v1, v2⟩ := hv A
        rw [Int.toNat_natCast] at f2
        have := v2 f2
        rw [decide_eq_true (show (j : Int) ≥ 0 by omega)]
        simp only [cond_true, getI_nat, hj, bindO_some', rowN_get hAn, Int.toNat_natCast, i64_in (C A + 1) (by omega), i64_succ (show t < 2 ^ 62 by omega), rowN_set]
        congr 2
        exact rowN_congr fun k _ => by
          by_cases hk : k = A
          · subst hk; simp
          · rw [if_neg hk, if_neg (fun e => hk (by have := Option.some.inj e; omega))]
    · simp only [lt_no, cond_false]

def scan (C : Nat → Int) (i : Nat) (s : Int × Int) : Int × Int := if C i < 0 then s else (s.1 + C i, if s.2 < 0 then (i : Int) else if C i ≤ C s.2.toNat then (i : Int) else s.2)

def mostF (C : Nat → Int) (i : Nat) (m : Int) : Int := if C i < 0 then m else if m > C i then m else C i

def freeF (rem : Rem) (i : Nat) (c : Nat) : Nat := if rem i = true then c else c + 1

def scanN (C : Nat → Int) (n : Nat) : Int × Int := iterN (scan C) (0, -1) n

def mostN (C : Nat → Int) (n : Nat) : Int := iterN (mostF C) 0 n

def freeN (rem : Rem) (n : Nat) : Nat := iterN (freeF rem) 0 n

theorem scan_ok {C : Nat → Int} {B : Nat} (hC : ∀ k, C k ≤ B) : ∀ n, (0 ≤ (scanN C n).1 ∧ (scanN C n).1 ≤ n * B) ∧ (((scanN C n).2 = -1 ∧ ∀ k, k < n → C k < 0) ∨ (0 ≤ (scanN C n).2 ∧ (scanN C n).2 < n ∧ 0 ≤ C (scanN C n).2.toNat))
  | 0 => ⟨⟨by simp [scanN, iterN], by simp [scanN, iterN]⟩, .inl ⟨rfl, fun k hk => by omega⟩⟩
  | n + 1 => by
    obtain ⟨⟨h1, h2⟩, h3⟩ := scan_ok hC n
    have e : scanN C (n + 1) = scan C n (scanN C n) := rfl
    have hCn := hC n
    rw [e]
    generalize scanN C n = s at h1 h2 h3
    have em : ((n + 1 : Nat) : Int) * (B : Int) = n * B + B := by
      rw [Int.natCast_add, Int.add_mul]
      simp
    rw [em]
    unfold scan
    by_cases hn : C n < 0
    · rw [if_pos hn]
      refine ⟨⟨h1, by omega⟩, ?_⟩
      rcases h3 with ⟨a, b⟩ | ⟨a, b, c⟩
      · exact .inl ⟨a, fun k hk => by
          by_cases hkn : k = n
          · rw [hkn]; exact hn
          · exact b k (by omega)⟩
      · exact .inr ⟨a, by omega, c⟩
    · rw [if_neg hn]
      refine ⟨⟨by dsimp only; omega, by dsimp only; omega⟩, .inr ?_⟩
      dsimp only
      rcases h3 with ⟨a, b⟩ | ⟨a, b, c⟩
      · rw [a]
        simp only [show (-1 : Int) < 0 by omega, if_true, Int.toNat_natCast]
        omega
      · rw [if_neg (show ¬ s.2 < 0 by omega)]
        split
        · simp only [Int.toNat_natCast]
          omega
        · exact ⟨a, by omega, c⟩

theorem most_ok {C : Nat → Int} : ∀ n, 0 ≤ mostN C n ∧ (∀ k, k < n → C k ≤ mostN C n) ∧ (mostN C n = 0 ∨ ∃ k, k < n ∧ mostN C n = C k)
  | 0 => ⟨by simp [mostN, iterN], fun k hk => by omega, .inl rfl⟩
  | n + 1 => by
    obtain ⟨h1, h2, h3⟩ := most_ok (C := C) n
    have e : mostN C (n + 1) = mostF C n (mostN C n) := rfl
    rw [e]
    generalize mostN C n = m at h1 h2 h3
    unfold mostF
    by_cases hn : C n < 0
    · rw [if_pos hn]
      refine ⟨h1, fun k hk => ?_, ?_⟩
      · by_cases hkn : k = n
        · rw [hkn]; omega
        · exact h2 k (by omega)
      · rcases h3 with h3 | ⟨k, hk, h3⟩
        · exact .inl h3
        · exact .inr ⟨k, by omega, h3⟩
    · rw [if_neg hn]
      by_cases hm : m > C n
      · rw [if_pos hm]
        refine ⟨h1, fun k hk => ?_, ?_⟩
        · by_cases hkn : k = n
          · rw [hkn]; omega
          · exact h2 k (by omega)
        · rcases h3 with h3 | ⟨k, hk, h3⟩
          · exact .inl h3
          · exact .inr ⟨k, by omega, h3⟩
      · rw [if_neg hm]
        refine ⟨by omega, fun k hk => ?_, .inr ⟨n, by omega, rfl⟩⟩
        by_cases hkn : k = n
        · rw [hkn]; omega
        · have := h2 k (by omega)
          omega

theorem free_pos {rem : Rem} : ∀ n, (0 < freeN rem n ↔ ∃ k, k < n ∧ rem k = false) ∧ freeN rem n ≤ n
  | 0 => ⟨⟨fun h => by simp [freeN, iterN] at h, fun ⟨k, hk, _⟩ => by omega⟩, by simp [freeN, iterN]⟩
  | n + 1 => by
    obtain ⟨h1, h2⟩ := free_pos (rem := rem) n
    have e : freeN rem (n + 1) = freeF rem n (freeN rem n) := rfl
    rw [e]
    unfold freeF
    cases hr : rem n
    · simp only [Bool.false_eq_true, if_false]
      exact ⟨⟨fun _ => ⟨n, by omega, hr⟩, fun _ => by omega⟩, by omega⟩
    · simp only [if_true]
      refine ⟨⟨fun h => ?_, fun ⟨k, hk, h⟩ => ?_⟩, by omega⟩
      · obtain ⟨k, hk, h3⟩ := h1.1 h
        exact ⟨k, by omega, h3⟩
      · by_cases hkn : k = n
        · rw [hkn, hr] at h; cases h
        · exact h1.2 ⟨k, by omega, h⟩

/-- One more is removed. -/
theorem free_add {rem rem' : Rem} {a : Nat} (hr : rem a = false) (hr' : ∀ k, rem' k = (rem k || k == a)) : ∀ n, freeN rem' n + (if a < n then 1 else 0) = freeN rem n
  | 0 => rfl
  | n + 1 => by
    have ih := free_add hr hr' n
    have e : freeN rem (n + 1) = freeF rem n (freeN rem n) := rfl
    have e' : freeN rem' (n + 1) = freeF rem' n (freeN rem' n) := rfl
    rw [e, e']
    unfold freeF
    rw [hr' n]
    by_cases hna : n = a
    · subst hna
      rw [hr]
      simp at ih ⊢
      omega
    · have hb : (n == a) = false := by simpa using hna
      rw [hb, Bool.or_false]
      by_cases h1 : a < n
      · rw [if_pos h1] at ih
        rw [if_pos (show a < n + 1 by omega)]
        split <;> omega
      · rw [if_neg h1] at ih
        rw [if_neg (show ¬ a < n + 1 by omega)]
        split <;> omega

def stopB (C : Nat → Int) (rem : Rem) (n : Nat) : Bool := decide (2 * mostN C n > (scanN C n).1) || decide (freeN rem n ≤ 1)

def remA (rem : Rem) (a : Nat) : Rem := fun k => rem k || k == a

def rndF (n : Nat) (rs : List (List Int)) : Nat → Rem → List (List Int) → List (List Int)
  | 0, _, acc => acc
  | f + 1, rem, acc => bif stopB (cntC rem rs) rem n then acc ++ [rowN n (cntC rem rs)] else rndF n rs f (remA rem (scanN (cntC rem rs) n).2.toNat) (acc ++ [rowN n (cntC rem rs)])

theorem most_eq (a b : Int) : M_S_l1Most (a, b) = some (if a > b then a else b) := by
  unfold M_S_l1Most
  dsimp only
  by_cases h : a > b <;> simp [h]

theorem cntC_le {rem : Rem} {rs : List (List Int)} (hrs : rs.length ≤ 24) : ∀ k, cntC rem rs k ≤ 24 := fun k => by
  obtain ⟨h1, h2⟩ := cnt_ok rem rs k
  cases h : rem k
  · have := h2 h; omega
  · have := h1 h; omega

theorem cnt_neg {rem : Rem} {rs : List (List Int)} (k : Nat) : cntC rem rs k < 0 ↔ rem k = true := by
  obtain ⟨h1, h2⟩ := cnt_ok rem rs k
  cases h : rem k
  · have := h2 h
    simp
    omega
  · have := h1 h
    simp
    omega

theorem scan_free {rem : Rem} {rs : List (List Int)} {n : Nat} (hrs : rs.length ≤ 24) (hf : 0 < freeN rem n) : 0 ≤ (scanN (cntC rem rs) n).2 ∧ (scanN (cntC rem rs) n).2 < n ∧ rem (scanN (cntC rem rs) n).2.toNat = false := by
  rcases (scan_ok (C := cntC rem rs) (B := 24) (cntC_le hrs) n).2 with ⟨h1, h2⟩ | ⟨h1, h2, h3⟩
  · obtain ⟨k, hk, h4⟩ := (free_pos n).1.1 hf
    have := (cnt_neg k).1 (h2 k hk)
    rw [h4] at this
    cases this
  · refine ⟨h1, h2, ?_⟩
    cases h : rem (scanN (cntC rem rs) n).2.toNat
    · rfl
    · have := (cnt_neg (rs := rs) _).2 h
      omega

theorem mostN_le {C : Nat → Int} (hC : ∀ k, C k ≤ 24) (n : Nat) : mostN C n ≤ 24 := by
  obtain ⟨h1, h2, h3⟩ := most_ok (C := C) n
  rcases h3 with h | ⟨k, _, h⟩
  · omega
  · rw [h]; exact hC k

theorem S_scan_loop {β : Type} {n : Nat} {C : Nat → Int} (hn : n ≤ 8) (hC : ∀ k, C k ≤ 24) (fin : Int → Int → Int → Option β) {body : (Int × Int × Int × Int → Option β) → Int × Int × Int × Int → Option β}
    (hb : ∀ again s, body again s = cond (decide (s.2.2.2 < (((rowN n C).length : Nat) : Int))) (bindO (getI (rowN n C) s.2.2.2) fun a7 => cond (decide (a7 < 0)) (bindO (some (IntKind.wrap .i64 (s.2.2.2 + 1))) fun a8 => again (s.1, s.2.1, s.2.2.1, a8)) (bindO (some (IntKind.wrap .i64 (s.1 + a7))) fun a9 => bindO (M_S_l1Most (s.2.1, a7)) fun a10 => cond (decide (s.2.2.1 < 0)) (bindO (some (IntKind.wrap .i64 (s.2.2.2 + 1))) fun a11 => again (a9, a10, s.2.2.2, a11)) (bindO (getI (rowN n C) s.2.2.1) fun a12 => cond (decide (a7 ≤ a12)) (bindO (some (IntKind.wrap .i64 (s.2.2.2 + 1))) fun a13 => again (a9, a10, s.2.2.2, a13)) (bindO (some (IntKind.wrap .i64 (s.2.2.2 + 1))) fun a14 => again (a9, a10, s.2.2.1, a14))))) (fin s.1 s.2.1 s.2.2.1)) :
    loopO body (0, 0, -1, 0) = fin (scanN C n).1 (mostN C n) (scanN C n).2 := by
  have e : iterN (fun i (s : (Int × Int) × Int) => (scan C i s.1, mostF C i s.2)) ((0, -1), 0) n = (scanN C n, mostN C n) := iterN_pair (scan C) (mostF C) (0, -1) 0 n
  refine (iter_loop (fun i (s : (Int × Int) × Int) => (scan C i s.1, mostF C i s.2)) ((0, -1), 0) n (fun i s => (s.1.1, s.2, s.1.2, i)) (fun s => fin s.1.1 s.2 s.1.2) (fun i s => s = (scanN C i, mostN C i)) (by omega) rfl (fun i s _ hv => by subst hv; rfl) (fun again i s hi hv => ?_) (fun again s hv => ?_)).trans (by rw [e])
  · subst hv
    obtain ⟨⟨h1, h2⟩, h3⟩ := scan_ok (C := C) (B := 24) hC i
    have hm := mostN_le hC i
    have hCi := hC i
    rw [hb]
    dsimp only
    unfold scan mostF
    generalize scanN C i = s at h1 h2 h3
    rw [rowN_len, lt_yes hi]
    simp only [cond_true, getI_nat, rowN_get hi, bindO_some', i64_succ (show i < 2 ^ 62 by omega), most_eq]
    by_cases hneg : C i < 0
    · simp only [hneg, decide_true, cond_true, if_true]
    · rw [if_neg hneg, if_neg hneg, decide_eq_false hneg, cond_false, i64_in (s.1 + C i) (by omega)]
      rcases h3 with ⟨a, b⟩ | ⟨a, b, c⟩
      · rw [a]
        simp
      · rw [decide_eq_false (show ¬ s.2 < 0 by omega), if_neg (show ¬ s.2 < 0 by omega)]
        obtain ⟨L, hL⟩ := Int.eq_ofNat_of_zero_le a
        rw [hL]
        have hLn : L < n := by omega
        simp only [cond_false, getI_nat, rowN_get hLn, bindO_some', Int.toNat_natCast]
        by_cases hle : C i ≤ C L
        · simp [hle]
        · simp [hle]
  · subst hv
    rw [hb]
    dsimp only
    rw [rowN_len, lt_no, cond_false]

theorem inO_snoc (out : List Int) (a : Nat) : inO (out ++ [(a : Int)]) = remA (inO out) a := by
  funext k
  unfold inO remA
  rw [List.any_append]
  congr 1
  simp only [List.any_cons, List.any_nil, Bool.or_false]
  rw [Bool.eq_iff_iff]
  simp only [beq_iff_eq]
  omega

theorem S_tRounds_eq {n : Nat} {rs : List (List Int)} (hn : n ≤ 8) (hn1 : 1 ≤ n) (hrs : rs.length ≤ 24) (hre : ∀ r ∈ rs, r.length ≤ 8 ∧ ∀ a ∈ r, 0 ≤ a ∧ a < n) : M_S_tRounds ((n : Int), rs) = some (rndF n rs (freeN (inO []) n) (inO []) []) := by
  unfold M_S_tRounds
  dsimp only
  have hf0 : freeN (inO []) n = n := by
    have : ∀ m, freeN (inO []) m = m := fun m => by
      induction m with
      | zero => rfl
      | succ m ih => exact congrArg (· + 1) ih
    exact this n
  refine loopO_spec (fun (s : List (List Int) × List Int) => some (rndF n rs (freeN (inO s.2) n) (inO s.2) s.1)) (fun s => s.2.length + freeN (inO s.2) n = n ∧ 1 ≤ freeN (inO s.2) n ∧ s.1.length = s.2.length ∧ ∀ a ∈ s.2, 0 ≤ a ∧ a < n) (fun s => freeN (inO s.2) n) (fun again s hs ih => ?_) (s := ([], [])) ⟨by simp [hf0], by dsimp only; omega, rfl, fun a ha => by simp at ha⟩ (by dsimp only; omega)
  obtain ⟨acc, out⟩ := s
  obtain ⟨h1, h2, h3, h4⟩ := hs
  dsimp only at h1 h2 h3 h4 ih ⊢
  rw [S_tFirst_eq hn hrs hre (by omega) h4, bindO_some', guardO_of (lenOk_of (by simp; omega)), bindO_some', bindO_some']
  obtain ⟨F, hF⟩ : ∃ F, freeN (inO out) n = F + 1 := ⟨freeN (inO out) n - 1, by omega⟩
  rw [hF, rndF]
  have hle := cntC_le (rem := inO out) hrs
  have hsf := scan_free (rem := inO out) (n := n) hrs (by omega)
  refine (S_scan_loop hn hle (fun sum most least => bindO (some (IntKind.wrap .i64 (2 * most))) fun a15 => cond (decide (a15 > sum)) (some (acc ++ [rowN n (cntC (inO out) rs)])) (bindO (some (IntKind.wrap .i64 ((n : Int) - 1))) fun a16 => cond (decide (((out.length : Nat) : Int) ≥ a16)) (some (acc ++ [rowN n (cntC (inO out) rs)])) (bindO (guardO (lenOk (out.length + [least].length))) fun _ => bindO (some (out ++ [least])) fun a18 => again (acc ++ [rowN n (cntC (inO out) rs)], a18)))) (fun _ _ => rfl)).trans ?_
  have hm := mostN_le hle n
  have hm0 := (most_ok (C := cntC (inO out) rs) n).1
  unfold stopB
  generalize hS : scanN (cntC (inO out) rs) n = sc at hsf
  rw [i64_in (2 * mostN (cntC (inO out) rs) n) (by omega), bindO_some', i64_in ((n : Int) - 1) (by omega), bindO_some']
  by_cases hst : 2 * mostN (cntC (inO out) rs) n > sc.1
  · simp [hst]
  · rw [decide_eq_false hst, cond_false, Bool.false_or]
    by_cases hl : F = 0
    · rw [decide_eq_true (show ((out.length : Nat) : Int) ≥ (n : Int) - 1 by omega), decide_eq_true (show freeN (inO out) n ≤ 1 by omega)]
      rfl
    · rw [decide_eq_false (show ¬ ((out.length : Nat) : Int) ≥ (n : Int) - 1 by omega), decide_eq_false (show ¬ freeN (inO out) n ≤ 1 by omega), cond_false, cond_false, guardO_of (lenOk_of (by simp; omega)), bindO_some', bindO_some']
      obtain ⟨L, hL⟩ := Int.eq_ofNat_of_zero_le hsf.1
      rw [hL] at hsf ⊢
      rw [Int.toNat_natCast] at hsf
      have hadd := free_add (rem := inO out) (rem' := inO (out ++ [(L : Int)])) (a := L) hsf.2.2 (fun k => by rw [inO_snoc]; rfl) n
      rw [if_pos (show L < n by omega)] at hadd
      have := ih (acc ++ [rowN n (cntC (inO out) rs)], out ++ [(L : Int)]) ⟨by simp; omega, by dsimp only; omega, by simp [h3], fun a ha => ?_⟩ (by dsimp only; omega)
      · rw [this]
        dsimp only
        rw [show freeN (inO (out ++ [(L : Int)])) n = F by omega, inO_snoc, Int.toNat_natCast]
      · simp only [List.mem_append, List.mem_singleton] at ha
        rcases ha with ha | rfl
        · exact h4 a ha
        · omega

theorem max_row {n : Nat} {C : Nat → Int} (hn : n ≤ 8) (hn1 : 1 ≤ n) : ∃ M, M_slices_Max_sint_int (rowN n C) = some M ∧ (∀ k, k < n → C k ≤ M) ∧ ∃ k, k < n ∧ M = C k := by
  have h0 := rowN_get (f := C) (show 0 < n by omega)
  refine ⟨iterN (fun i m => if i = 0 then C 0 else if m < C i then C i else m) (C 0) n, ?_, ?_⟩
  · unfold M_slices_Max_sint_int
    rw [rowN_len, decide_eq_false (show ¬ ((n : Nat) : Int) < 1 by omega), cond_false, getI_zero, h0, bindO_some']
    refine (loopO_for (σ := Int) (fun i m => (m, (i : Int))) n (fun _ _ => some (iterN (fun i m => if i = 0 then C 0 else if m < C i then C i else m) (C 0) n)) (fun i m => 1 ≤ i ∧ m = iterN (fun i m => if i = 0 then C 0 else if m < C i then C i else m) (C 0) i) (fun again m hv => ?_) (fun again i m hi hv ih => ?_) (by omega) (i := 1) (s := C 0) hn1 ⟨Nat.le_refl _, by simp [iterN]⟩).trans rfl
    · obtain ⟨_, rfl⟩ := hv
      simp only [lt_no, cond_false]
    · obtain ⟨h1, rfl⟩ := hv
      simp only [lt_yes hi, cond_true, getI_nat, rowN_get hi, bindO_some', i64_succ (show i < 2 ^ 62 by omega)]
      refine ih _ ⟨by omega, ?_⟩
      rw [iterN, if_neg (show ¬ i = 0 by omega)]
  · have := iterN_inv (f := fun i m => if i = 0 then C 0 else if m < C i then C i else m) (s0 := C 0) (Inv := fun i m => (∀ k, k < i → C k ≤ m) ∧ (i = 0 ∨ ∃ k, k < i ∧ m = C k)) ⟨fun k hk => by omega, .inl rfl⟩ n (fun i m hi hv => by
      obtain ⟨v1, v2⟩ := hv
      by_cases hz : i = 0
      · subst hz
        rw [if_pos rfl]
        exact ⟨fun k hk => by rw [show k = 0 by omega]; exact Int.le_refl _, .inr ⟨0, by omega, rfl⟩⟩
      · rw [if_neg hz]
        rcases v2 with v2 | ⟨k0, k1, k2⟩
        · omega
        · split
          · rename_i hlt
            exact ⟨fun k hk => by
              by_cases hki : k = i
              · rw [hki]; exact Int.le_refl _
              · have := v1 k (by omega); omega, .inr ⟨i, by omega, rfl⟩⟩
          · rename_i hlt
            exact ⟨fun k hk => by
              by_cases hki : k = i
              · rw [hki]; omega
              · exact v1 k (by omega), .inr ⟨k0, by omega, k2⟩⟩)
    refine ⟨this.1, ?_⟩
    rcases this.2 with h | h
    · omega
    · exact h

/-- The greatest count is the most. -/
theorem max_most {n : Nat} {rem : Rem} {rs : List (List Int)} (hn : n ≤ 8) (hf : 0 < freeN rem n) : M_slices_Max_sint_int (rowN n (cntC rem rs)) = some (mostN (cntC rem rs) n) := by
  obtain ⟨k0, hk0, hr0⟩ := (free_pos n).1.1 hf
  obtain ⟨M, m1, m2, k, hk, m3⟩ := max_row (C := cntC rem rs) hn (show 1 ≤ n by omega)
  obtain ⟨g1, g2, g3⟩ := most_ok (C := cntC rem rs) n
  have hp := ((cnt_ok rem rs k0).2 hr0).1
  have h1 := m2 k0 hk0
  have h2 := g2 k hk
  rw [m1]
  congr 1
  rcases g3 with g3 | ⟨j, hj, g3⟩
  · omega
  · have := m2 j hj
    omega

def leftF (C : Nat → Int) (i : Nat) (c : Int) : Int := if C i < 0 then c else c + 1

theorem left_free {rem : Rem} {rs : List (List Int)} : ∀ n, iterN (leftF (cntC rem rs)) 0 n = ((freeN rem n : Nat) : Int)
  | 0 => rfl
  | n + 1 => by
    have e : freeN rem (n + 1) = freeF rem n (freeN rem n) := rfl
    rw [iterN, left_free n, e]
    unfold leftF freeF
    by_cases h : rem n = true
    · rw [if_pos h, if_pos ((cnt_neg n).2 h)]
    · rw [if_neg h, if_neg (fun hh => h ((cnt_neg n).1 hh))]
      omega

theorem I_scan_loop {β : Type} {n : Nat} {rem : Rem} {rs : List (List Int)} (hn : n ≤ 8) (hrs : rs.length ≤ 24) (fin : Int → Int → Int → Option β) {body : (Int × Int × Int × Int → Option β) → Int × Int × Int × Int → Option β}
    (hb : ∀ again s, body again s = cond (decide (s.2.2.2 < (((rowN n (cntC rem rs)).length : Nat) : Int))) (bindO (getI (rowN n (cntC rem rs)) s.2.2.2) fun a8 => cond (decide (a8 < 0)) (bindO (some (IntKind.wrap .i64 (s.2.2.2 + 1))) fun a9 => again (s.1, s.2.1, s.2.2.1, a9)) (bindO (some (IntKind.wrap .i64 (s.1 + a8))) fun a10 => bindO (some (IntKind.wrap .i64 (s.2.1 + 1))) fun a11 => cond (decide (s.2.2.1 < 0)) (bindO (some (IntKind.wrap .i64 (s.2.2.2 + 1))) fun a12 => again (a10, a11, s.2.2.2, a12)) (bindO (getI (rowN n (cntC rem rs)) s.2.2.1) fun a13 => cond (decide (a8 ≤ a13)) (bindO (some (IntKind.wrap .i64 (s.2.2.2 + 1))) fun a14 => again (a10, a11, s.2.2.2, a14)) (bindO (some (IntKind.wrap .i64 (s.2.2.2 + 1))) fun a15 => again (a10, a11, s.2.2.1, a15))))) (fin s.1 s.2.1 s.2.2.1)) :
    loopO body (0, 0, -1, 0) = fin (scanN (cntC rem rs) n).1 ((freeN rem n : Nat) : Int) (scanN (cntC rem rs) n).2 := by
  have hC := cntC_le (rem := rem) hrs
  have e : iterN (fun i (s : (Int × Int) × Int) => (scan (cntC rem rs) i s.1, leftF (cntC rem rs) i s.2)) ((0, -1), 0) n = (scanN (cntC rem rs) n, ((freeN rem n : Nat) : Int)) := (iterN_pair (scan (cntC rem rs)) (leftF (cntC rem rs)) (0, -1) 0 n).trans (by rw [left_free]; rfl)
  refine (iter_loop (fun i (s : (Int × Int) × Int) => (scan (cntC rem rs) i s.1, leftF (cntC rem rs) i s.2)) ((0, -1), 0) n (fun i s => (s.1.1, s.2, s.1.2, i)) (fun s => fin s.1.1 s.2 s.1.2) (fun i s => s = (scanN (cntC rem rs) i, ((freeN rem i : Nat) : Int))) (by omega) rfl (fun i s _ hv => by
      subst hv
      refine Prod.ext rfl ?_
      have e1 := left_free (rem := rem) (rs := rs) i
      have e2 := left_free (rem := rem) (rs := rs) (i + 1)
      rw [iterN, e1] at e2
      exact e2) (fun again i s hi hv => ?_) (fun again s hv => ?_)).trans (by rw [e])
  · subst hv
    obtain ⟨⟨h1, h2⟩, h3⟩ := scan_ok (C := cntC rem rs) (B := 24) hC i
    have hm := (free_pos (rem := rem) i).2
    have hCi := hC i
    rw [hb]
    dsimp only
    unfold scan leftF
    generalize scanN (cntC rem rs) i = s at h1 h2 h3
    rw [rowN_len, lt_yes hi]
    simp only [cond_true, getI_nat, rowN_get hi, bindO_some', i64_succ (show i < 2 ^ 62 by omega), i64_in (((freeN rem i : Nat) : Int) + 1) (by omega)]
    by_cases hneg : cntC rem rs i < 0
    · simp only [hneg, decide_true, cond_true, if_true]
    · rw [if_neg hneg, if_neg hneg, decide_eq_false hneg, cond_false, i64_in (s.1 + cntC rem rs i) (by omega)]
      rcases h3 with ⟨a, b⟩ | ⟨a, b, c⟩
      · rw [a]
        simp
      · rw [decide_eq_false (show ¬ s.2 < 0 by omega), if_neg (show ¬ s.2 < 0 by omega)]
        obtain ⟨L, hL⟩ := Int.eq_ofNat_of_zero_le a
        rw [hL]
        have hLn : L < n := by omega
        simp only [cond_false, getI_nat, rowN_get hLn, bindO_some', Int.toNat_natCast]
        by_cases hle : cntC rem rs i ≤ cntC rem rs L
        · simp [hle]
        · simp [hle]
  · subst hv
    rw [hb]
    dsimp only
    rw [rowN_len, lt_no, cond_false]

theorem remB_set {out : List Bool} {a : Nat} (ha : a < out.length) : remB (out.set a true) = remA (remB out) a := by
  funext k
  show (out.set a true).getD k false = (out.getD k false || k == a)
  rw [List.getD_eq_getElem?_getD, List.getD_eq_getElem?_getD, List.getElem?_set]
  by_cases hk : a = k
  · subst hk
    simp [ha]
  · have : (k == a) = false := beq_eq_false_iff_ne.2 fun e => hk e.symm
    rw [if_neg hk, this, Bool.or_false]

theorem I_rounds_eq {n : Nat} {rs : List (List Int)} (hn : n ≤ 8) (hn1 : 1 ≤ n) (hrs : rs.length ≤ 24) (hre : ∀ r ∈ rs, r.length ≤ 8 ∧ ∀ a ∈ r, 0 ≤ a ∧ a < n) : M_I_rounds ((n : Int), rs) = some (rndF n rs (freeN (inO []) n) (inO []) []) := by
  unfold M_I_rounds
  dsimp only
  have hlim : ((n : Int)) ≤ ((lim : Nat) : Int) := by rw [lim_eq]; omega
  have hrem0 : remB (List.replicate n false) = inO [] := by
    funext k
    unfold remB inO
    rw [List.getD_eq_getElem?_getD, List.getElem?_replicate]
    split <;> rfl
  have hf0 : freeN (inO []) n = n := by
    have : ∀ m, freeN (inO []) m = m := fun m => by
      induction m with
      | zero => rfl
      | succ m ih => exact congrArg (· + 1) ih
    exact this n
  rw [guardO_of (by simpa using hlim), bindO_some', Int.toNat_natCast]
  refine (loopO_spec (fun (s : List (List Int) × List Bool) => some (rndF n rs (freeN (remB s.2) n) (remB s.2) s.1)) (fun s => s.2.length = n ∧ 1 ≤ freeN (remB s.2) n ∧ s.1.length + freeN (remB s.2) n = n) (fun s => freeN (remB s.2) n) (fun again s hs ih => ?_) (s := ([], List.replicate n false)) ⟨by simp, by dsimp only; rw [hrem0, hf0]; omega, by dsimp only; rw [hrem0, hf0]; simp⟩ (by dsimp only; rw [hrem0, hf0]; omega)).trans (by dsimp only; rw [hrem0])
  obtain ⟨acc, out⟩ := s
  obtain ⟨h1, h2, h3⟩ := hs
  dsimp only at h1 h2 h3 ih ⊢
  rw [I_round_eq hn hrs hre h1, bindO_some', guardO_of (lenOk_of (by simp; omega)), bindO_some', bindO_some']
  obtain ⟨F, hF⟩ : ∃ F, freeN (remB out) n = F + 1 := ⟨freeN (remB out) n - 1, by omega⟩
  have hle := cntC_le (rem := remB out) hrs
  have hsf := scan_free (rem := remB out) (n := n) hrs (by omega)
  refine (I_scan_loop hn hrs (fun total left least => cond (decide (left ≤ 1)) (some (acc ++ [rowN n (cntC (remB out) rs)])) (bindO (M_slices_Max_sint_int (rowN n (cntC (remB out) rs))) fun a16 => bindO (some (IntKind.wrap .i64 (2 * a16))) fun a17 => cond (decide (a17 > total)) (some (acc ++ [rowN n (cntC (remB out) rs)])) (bindO (getI out least) fun _ => bindO (some (List.set out (Int.toNat least) true)) fun a19 => again (acc ++ [rowN n (cntC (remB out) rs)], a19)))) (fun _ _ => rfl)).trans ?_
  have hm := mostN_le hle n
  have hm0 := (most_ok (C := cntC (remB out) rs) n).1
  rw [max_most hn (by omega), bindO_some', i64_in (2 * mostN (cntC (remB out) rs) n) (by omega), bindO_some']
  rw [show some (rndF n rs (freeN (remB out) n) (remB out) acc) = some (rndF n rs (F + 1) (remB out) acc) by rw [hF], rndF]
  unfold stopB
  generalize hS : scanN (cntC (remB out) rs) n = sc at hsf
  by_cases hst : 2 * mostN (cntC (remB out) rs) n > sc.1
  · by_cases hl : F = 0 <;> simp [hst]
  · rw [decide_eq_false hst, Bool.false_or, cond_false]
    by_cases hl : F = 0
    · rw [decide_eq_true (show ((freeN (remB out) n : Nat) : Int) ≤ 1 by omega), decide_eq_true (show freeN (remB out) n ≤ 1 by omega)]
      rfl
    · rw [decide_eq_false (show ¬ ((freeN (remB out) n : Nat) : Int) ≤ 1 by omega), decide_eq_false (show ¬ freeN (remB out) n ≤ 1 by omega), cond_false, cond_false]
      obtain ⟨L, hL⟩ := Int.eq_ofNat_of_zero_le hsf.1
      rw [hL] at hsf ⊢
      rw [Int.toNat_natCast] at hsf
      have hLo : L < out.length := by omega
      have hadd := free_add (rem := remB out) (rem' := remB (out.set L true)) (a := L) hsf.2.2 (fun k => by rw [remB_set hLo]; rfl) n
      rw [if_pos (show L < n by omega)] at hadd
      rw [getI_nat, getD_at (d := false) hLo, bindO_some', bindO_some', Int.toNat_natCast]
      have := ih (acc ++ [rowN n (cntC (remB out) rs)], out.set L true) ⟨by simp [h1], by dsimp only; omega, by simp; omega⟩ (by dsimp only; omega)
      rw [this]
      dsimp only
      rw [show freeN (remB (out.set L true)) n = F by omega, remB_set hLo]

theorem rndF_size {n : Nat} {rs : List (List Int)} : ∀ (f : Nat) (rem : Rem) (acc : List (List Int)), (∀ r ∈ acc, r.length = n) → (rndF n rs f rem acc).length ≤ acc.length + f ∧ ∀ r ∈ rndF n rs f rem acc, r.length = n
  | 0, rem, acc, h => ⟨Nat.le_refl _, h⟩
  | f + 1, rem, acc, h => by
    have h' : ∀ r ∈ acc ++ [rowN n (cntC rem rs)], r.length = n := fun r hr => by
      simp only [List.mem_append, List.mem_singleton] at hr
      rcases hr with hr | rfl
      · exact h r hr
      · exact rowN_len ..
    rw [rndF]
    cases stopB (cntC rem rs) rem n
    · have := rndF_size (rs := rs) f (remA rem (scanN (cntC rem rs) n).2.toNat) (acc ++ [rowN n (cntC rem rs)]) h'
      rw [cond_false]
      simp only [List.length_append, List.length_cons, List.length_nil] at this ⊢
      exact ⟨by omega, this.2⟩
    · rw [cond_true]
      exact ⟨by simp, h'⟩

theorem tot_le {n : Nat} : ∀ (l : List (List Int)), (∀ r ∈ l, r.length = n) → tot l = l.length * n
  | [], _ => by simp [tot]
  | r :: l, h => by
    have ih := tot_le l fun x hx => h x (List.mem_cons_of_mem _ hx)
    have h1 := h r List.mem_cons_self
    simp only [tot, List.map_cons, List.sum_cons, List.length_cons, Nat.add_mul, Nat.one_mul] at ih ⊢
    omega

noncomputable def roundsR (k : Int) (rs : List (List Int)) : List (List Int) × Bool := bif okR k rs then (rndF k.toNat rs (freeN (inO []) k.toNat) (inO []) [], true) else ([], false)

theorem okR_re {k : Int} {rs : List (List Int)} (h : okR k rs = true) : ∃ n : Nat, k = (n : Int) ∧ 1 ≤ n ∧ n ≤ 8 ∧ rs.length ≤ 24 ∧ ∀ r ∈ rs, r.length ≤ 8 ∧ ∀ a ∈ r, 0 ≤ a ∧ a < n := by
  obtain ⟨h1, h2, h3, h4⟩ := okR_spec h
  obtain ⟨n, rfl⟩ := Int.eq_ofNat_of_zero_le (show 0 ≤ k by omega)
  exact ⟨n, rfl, by omega, by omega, h3, fun r hr => ⟨nodup_short h2 (h4 r hr).1 (h4 r hr).2, fun a ha => by have := (h4 r hr).1 a ha; omega⟩⟩

theorem S_RunoffRounds_eq {k : Int} {rs : List (List Int)} (hr : ∀ r ∈ rs, r.length < 2 ^ 62) : M_S_RunoffRounds (k, rs) = some (roundsR k rs) := by
  unfold M_S_RunoffRounds roundsR
  dsimp only
  rw [tRanks_eq hr, bindO_some']
  cases hok : okR k rs
  · rfl
  obtain ⟨n, rfl, h1, h2, h3, h4⟩ := okR_re hok
  rw [S_tRounds_eq h2 h1 h3 h4, bindO_some', Int.toNat_natCast]
  rfl

theorem I_RunoffRounds_eq {k : Int} {rs : List (List Int)} (hx : rs.length < 2 ^ 62) (hr : ∀ r ∈ rs, r.length < 2 ^ 62) : M_I_RunoffRounds (k, rs) = some (roundsR k rs) := by
  unfold M_I_RunoffRounds roundsR
  dsimp only
  rw [areRankings_eq hx hr, bindO_some']
  cases hok : okR k rs
  · rfl
  obtain ⟨n, rfl, h1, h2, h3, h4⟩ := okR_re hok
  rw [I_rounds_eq h2 h1 h3 h4, bindO_some', Int.toNat_natCast]
  rfl

theorem roundsR_size (k : Int) (rs : List (List Int)) : (roundsR k rs).1.length ≤ 8 ∧ tot (roundsR k rs).1 ≤ 64 := by
  unfold roundsR
  cases hok : okR k rs
  · exact ⟨by simp, by simp [tot]⟩
  obtain ⟨n, rfl, h1, h2, h3, h4⟩ := okR_re hok
  obtain ⟨g1, g2⟩ := rndF_size (n := n) (rs := rs) (freeN (inO []) n) (inO []) [] (fun r hr => by simp at hr)
  have hf := (free_pos (rem := inO []) n).2
  rw [cond_true, Int.toNat_natCast]
  simp only [List.length_nil] at g1
  have hl : (rndF n rs (freeN (inO []) n) (inO []) []).length ≤ 8 := by omega
  refine ⟨hl, ?_⟩
  rw [tot_le _ g2]
  exact Nat.mul_le_mul hl h2

def bestF (C : Nat → Int) (i : Nat) (b : Int) : Int := if b < 0 then (i : Int) else if C i > C b.toNat then (i : Int) else b

def bestN (C : Nat → Int) (n : Nat) : Int := iterN (bestF C) (-1) n

theorem best_ok {C : Nat → Int} : ∀ n, (n = 0 ∧ bestN C n = -1) ∨ ∃ b : Nat, bestN C n = (b : Int) ∧ b < n ∧ (∀ k, k < n → C k ≤ C b) ∧ ∀ k, k < b → C k < C b
  | 0 => .inl ⟨rfl, rfl⟩
  | n + 1 => by
    have e : bestN C (n + 1) = bestF C n (bestN C n) := rfl
    rw [e]
    right
    unfold bestF
    rcases best_ok (C := C) n with ⟨h0, h1⟩ | ⟨b, h1, h2, h3, h4⟩
    · subst h0
      rw [h1, if_pos (by omega)]
      exact ⟨0, rfl, by omega, fun k hk => by rw [show k = 0 by omega]; exact Int.le_refl _, fun k hk => by omega⟩
    · rw [h1, if_neg (by omega), Int.toNat_natCast]
      by_cases hlt : C n > C b
      · rw [if_pos hlt]
        refine ⟨n, rfl, by omega, fun k hk => ?_, fun k hk => ?_⟩
        · by_cases hkn : k = n
          · rw [hkn]; exact Int.le_refl _
          · have := h3 k (by omega); omega
        · have := h3 k hk; omega
      · rw [if_neg hlt]
        refine ⟨b, rfl, by omega, fun k hk => ?_, h4⟩
        by_cases hkn : k = n
        · rw [hkn]; omega
        · exact h3 k (by omega)

theorem index_best {n b : Nat} {C : Nat → Int} (hn : n ≤ 8) (hb : b < n) (h : ∀ k, k < b → C k < C b) : M_slices_Index_sint_int (rowN n C, C b) = some (b : Int) := by
  unfold M_slices_Index_sint_int
  dsimp only
  refine (loopO_for (σ := Unit) (fun i _ => (i : Int)) n (fun _ _ => some (b : Int)) (fun i _ => i ≤ b) (fun again _ hv => by omega) (fun again i _ hi hv ih => ?_) (by omega) (i := 0) (s := ()) (Nat.zero_le _) (Nat.zero_le _)).trans rfl
  simp only [rowN_len, lt_yes hi, cond_true, getI_nat, rowN_get hi, bindO_some', i64_succ (show i < 2 ^ 62 by omega)]
  by_cases hib : i = b
  · subst hib
    simp
  · have := h i (by omega)
    simp only [beq_eq_false_iff_ne.2 (show C b ≠ C i by omega), cond_false]
    exact ih () (by omega)

theorem row_of {l : List Int} : l = rowN l.length fun k => l.getD k 0 := by
  refine List.ext_getElem? fun k => ?_
  by_cases hk : k < l.length
  · rw [rowN_get hk, getD_at hk]
  · rw [List.getElem?_eq_none (by omega), List.getElem?_eq_none (by rw [rowN_len]; omega)]

theorem rndF_last {n : Nat} {rs : List (List Int)} (f : Nat) (rem : Rem) (acc : List (List Int)) (hf : 1 ≤ f) (hf8 : acc.length + f ≤ 1000) (h : ∀ r ∈ acc, r.length = n) : ∃ l, getI (rndF n rs f rem acc) (IntKind.wrap .i64 (((rndF n rs f rem acc).length : Int) - 1)) = some l ∧ l.length = n := by
  obtain ⟨g1, g2⟩ := rndF_size (n := n) (rs := rs) f rem acc h
  have g3 : ∀ (f : Nat) (rem : Rem) (acc : List (List Int)), acc.length ≤ (rndF n rs f rem acc).length := fun f => by
    induction f with
    | zero => intro rem acc; exact Nat.le_refl _
    | succ f ih =>
      intro rem acc
      rw [rndF]
      cases stopB (cntC rem rs) rem n
      · have := ih (remA rem (scanN (cntC rem rs) n).2.toNat) (acc ++ [rowN n (cntC rem rs)])
        rw [cond_false]
        rw [List.length_append] at this
        omega
      · rw [cond_true, List.length_append]; omega
  have g4 : 1 ≤ (rndF n rs f rem acc).length := by
    obtain ⟨f, rfl⟩ : ∃ f', f = f' + 1 := ⟨f - 1, by omega⟩
    rw [rndF]
    cases stopB (cntC rem rs) rem n
    · have := g3 f (remA rem (scanN (cntC rem rs) n).2.toNat) (acc ++ [rowN n (cntC rem rs)])
      rw [cond_false]
      simp at this
      omega
    · simp
  generalize rndF n rs f rem acc = L at g1 g2 g4
  have hi : L.length - 1 < L.length := by omega
  refine ⟨L[L.length - 1], ?_, g2 _ (List.getElem_mem hi)⟩
  rw [i64_in _ (by omega), show (L.length : Int) - 1 = ((L.length - 1 : Nat) : Int) by omega, getI_nat, List.getElem?_eq_getElem hi]

theorem bits_255 (x : Int) : 0 ≤ Vd.bits .and .u64 x 255 ∧ Vd.bits .and .u64 x 255 ≤ 255 := by
  have h : (BitVec.ofInt (IntKind.bits .u64) x &&& BitVec.ofInt (IntKind.bits .u64) 255).toNat ≤ 255 := by
    rw [BitVec.toNat_and]
    exact Nat.le_trans Nat.and_le_right (by decide)
  show 0 ≤ IntKind.wrap .u64 ((BitVec.ofInt (IntKind.bits .u64) x &&& BitVec.ofInt (IntKind.bits .u64) 255).toNat : Int) ∧ IntKind.wrap .u64 ((BitVec.ofInt (IntKind.bits .u64) x &&& BitVec.ofInt (IntKind.bits .u64) 255).toNat : Int) ≤ 255
  generalize (BitVec.ofInt (IntKind.bits .u64) x &&& BitVec.ofInt (IntKind.bits .u64) 255).toNat = n at h ⊢
  rw [wrap_u64 (by omega)]
  omega

def Bytes (code : List Int) : Prop := ∀ a ∈ code, 0 ≤ a ∧ a ≤ 255

theorem next_ok {code : List Int} {pos seed : Int} (hb : Bytes code) (h0 : 0 ≤ pos) (h1 : pos ≤ 2 ^ 40) : ∃ v seed', M_S_l1Cur_next (code, pos, seed) = some (v, code, pos + 1, seed') ∧ 0 ≤ v ∧ v ≤ 255 := by
  obtain ⟨k, rfl⟩ : ∃ k : Nat, pos = (k : Int) := ⟨pos.toNat, by omega⟩
  unfold M_S_l1Cur_next
  dsimp only
  by_cases hl : k < code.length
  · have hg := List.getElem?_eq_getElem hl
    have ha := hb _ (List.getElem_mem hl)
    rw [lt_yes hl, cond_true, getI_nat, hg, bindO_some', i64_in ((k : Int) + 1) (by omega), bindO_some', bindO_some', bindO_some', bindO_some', decide_eq_true (show (k : Int) + 1 ≤ ((code.length : Nat) : Int) by omega), cond_true, i64_in code[k] (by omega)]
    exact ⟨_, _, rfl, ha.1, ha.2⟩
  · rw [decide_eq_false (show ¬ (k : Int) < ((code.length : Nat) : Int) by omega), cond_false, i64_in ((k : Int) + 1) (by omega), bindO_some', bindO_some', bindO_some', bindO_some', decide_eq_false (show ¬ (k : Int) + 1 ≤ ((code.length : Nat) : Int) by omega), cond_false, guardO_of (by decide), bindO_some', bindO_some', bindO_some']
    have hx := bits_255 (shr .u64 (IntKind.wrap .u64 (IntKind.wrap .u64 (IntKind.wrap .u64 (seed * 6364136223846793005) + IntKind.wrap .u64 0) + 1442695040888963407)) 40)
    rw [i64_in _ (by omega)]
    exact ⟨_, _, rfl, hx.1, hx.2⟩

theorem pick_ok {code : List Int} {pos seed n : Int} (hb : Bytes code) (h0 : 0 ≤ pos) (h1 : pos ≤ 2 ^ 39) (hn : n ≤ 2 ^ 40) : ∃ v pos' seed', M_S_l1Cur_pick ((code, pos, seed), n) = some (v, code, pos', seed') ∧ 0 ≤ v ∧ v ≤ 65535 ∧ (n ≤ 1 → v = 0) ∧ (1 < n → v < n) ∧ pos ≤ pos' ∧ pos' ≤ pos + 2 := by
  unfold M_S_l1Cur_pick
  dsimp only
  by_cases hn1 : n ≤ 1
  · rw [decide_eq_true hn1, cond_true]
    exact ⟨_, _, _, rfl, by omega, by omega, fun _ => rfl, fun h => by omega, by omega, by omega⟩
  have hg0 : guardO (n != 0) = some () := guardO_of (bne_iff_ne.2 (by omega))
  obtain ⟨v, s1, e1, v1, v2⟩ := next_ok (seed := seed) hb h0 (by omega)
  rw [decide_eq_false hn1, cond_false, e1, bindO_some']
  dsimp only
  by_cases h2 : n > 200
  · obtain ⟨w, s2, e2, w1, w2⟩ := next_ok (seed := s1) hb (show 0 ≤ pos + 1 by omega) (by omega)
    rw [decide_eq_true h2, cond_true, i64_in _ (by omega), bindO_some', e2, bindO_some']
    dsimp only
    rw [i64_in _ (by omega), bindO_some', hg0, bindO_some', tmod_nn (by omega), bindO_some']
    have r1 := Int.emod_nonneg (v * 256 + w) (show n ≠ 0 by omega)
    have r2 := Int.emod_lt_of_pos (v * 256 + w) (show 0 < n by omega)
    have r3 : (v * 256 + w) % n ≤ v * 256 + w := by
      by_cases hlt : v * 256 + w < n
      · rw [Int.emod_eq_of_lt (by omega) hlt]
        exact Int.le_refl _
      · omega
    exact ⟨_, _, _, rfl, r1, by omega, fun h => by omega, fun _ => r2, by omega, by omega⟩
  · rw [decide_eq_false h2, cond_false, hg0, bindO_some', tmod_nn v1, bindO_some']
    have r1 := Int.emod_nonneg v (show n ≠ 0 by omega)
    have r2 := Int.emod_lt_of_pos v (show 0 < n by omega)
    exact ⟨_, _, _, rfl, r1, by omega, fun h => by omega, fun _ => r2, by omega, by omega⟩

theorem one_ok {code : List Int} {pos seed n : Int} (hb : Bytes code) (h0 : 0 ≤ pos) (h1 : pos ≤ 2 ^ 39) (hn : n ≤ 2 ^ 40) : ∃ b pos' seed', M_S_l1Cur_one ((code, pos, seed), n) = some (b, code, pos', seed') ∧ pos ≤ pos' ∧ pos' ≤ pos + 2 := by
  obtain ⟨v, p, s, e, -, -, -, -, h3, h4⟩ := pick_ok (seed := seed) hb h0 h1 hn
  refine ⟨v == 0, p, s, ?_, h3, h4⟩
  unfold M_S_l1Cur_one
  dsimp only
  rw [e, bindO_some']

theorem among_ok {code l : List Int} {pos seed : Int} (hb : Bytes code) (h0 : 0 ≤ pos) (h1 : pos ≤ 2 ^ 39) (hl : 1 ≤ l.length ∧ l.length ≤ 1000) : ∃ v pos' seed', M_S_l1Cur_among ((code, pos, seed), l) = some (v, code, pos', seed') ∧ v ∈ l ∧ pos ≤ pos' ∧ pos' ≤ pos + 2 := by
  obtain ⟨v, p, s, e, h2, -, h5, h6, h3, h4⟩ := pick_ok (seed := seed) (n := (l.length : Int)) hb h0 h1 (by omega)
  obtain ⟨k, rfl⟩ : ∃ k : Nat, v = (k : Int) := ⟨v.toNat, by omega⟩
  have hk : k < l.length := by omega
  refine ⟨l[k], p, s, ?_, List.getElem_mem hk, h3, h4⟩
  unfold M_S_l1Cur_among
  dsimp only
  rw [e, bindO_some']
  dsimp only
  rw [getI_nat, List.getElem?_eq_getElem hk, bindO_some']

theorem wf_u8 {code : List Int} (h : WF (.sl (.int .u8)) code) : Bytes code := fun a ha => by
  have h1 : IntKind.u8.min ≤ a ∧ a ≤ IntKind.u8.max := h.2 a ha
  have e1 : IntKind.u8.min = 0 := by decide
  have e2 : IntKind.u8.max = 255 := by decide
  omega

theorem qInts_eq {a : List Int} (h : a.length < 2 ^ 62) : M_L_qInts (a, a) = some true := by
  unfold M_L_qInts
  dsimp only
  rw [bne_self_eq_false, cond_false]
  refine loopO_for (σ := Unit) (fun i _ => (i : Int)) a.length (fun _ _ => some true) (fun _ _ => True) (fun again _ _ => ?_) (fun again i _ hi _ ih => ?_) (by omega) (i := 0) (s := ()) (Nat.zero_le _) trivial
  · rw [lt_no, cond_false]
  · have hg := List.getElem?_eq_getElem hi
    rw [lt_yes hi, cond_true, getI_nat, hg, bindO_some', bindO_some', bne_self_eq_false, cond_false, i64_succ (by omega), bindO_some']
    exact ih () trivial

/-- A loop that counts, to a given end. -/
theorem loopO_to {τ β : Type} {body : (τ → Option β) → τ → Option β} (enc : Nat → τ) (N : Nat) (r : Option β) (hN : N < 2 ^ 62)
    (hend : ∀ again : τ → Option β, body again (enc N) = r) (hin : ∀ (again : τ → Option β) (i : Nat), i < N → again (enc (i + 1)) = r → body again (enc i) = r) : loopO body (enc 0) = r :=
  loopO_for (body := body) (σ := Unit) (fun i _ => enc i) N (fun _ _ => r) (fun _ _ => True) (fun again _ _ => hend again) (fun again i _ hi _ ih => hin again i hi (ih () trivial)) (by omega) (i := 0) (s := ()) (Nat.zero_le _) trivial

theorem bind_to {α β : Type} {m : Option α} {v : α} {f : α → Option β} {r : Option β} (h : m = some v) (h2 : f v = r) : bindO m f = r := by
  rw [h]
  exact h2

theorem yes_to {β : Type} {c : Bool} {a b r : Option β} (h : c = true) (h2 : a = r) : cond c a b = r := by
  rw [h]
  exact h2

theorem no_to {β : Type} {c : Bool} {a b r : Option β} (h : c = false) (h2 : b = r) : cond c a b = r := by
  rw [h]
  exact h2

theorem sameInts_eq {a : List Int} (h : a.length < 2 ^ 62) : M_L_sameInts (a, a) = some true := qInts_eq h

theorem big_some (a b : List Int) : ∃ v, M_L_big (a, b) = some v := by
  unfold M_L_big
  dsimp only
  cases decide (((a.length : Nat) : Int) > 1048576) <;> exact ⟨_, rfl⟩

def Dn {α : Type} (m : Option α) (Q : α → Prop) : Prop := ∃ v, m = some v ∧ Q v

theorem dn_some {α : Type} {v : α} {Q : α → Prop} (h : Q v) : Dn (some v) Q := ⟨v, rfl, h⟩

theorem dn_bind {α β : Type} {m : Option α} {f : α → Option β} {Q : α → Prop} {R : β → Prop} (h : Dn m Q) (k : ∀ v, Q v → Dn (f v) R) : Dn (bindO m f) R := by
  obtain ⟨v, e, hv⟩ := h
  rw [e, bindO_some']
  exact k v hv

theorem dn_is {α β : Type} {m : Option α} {v : α} {f : α → Option β} {R : β → Prop} (h : m = some v) (k : Dn (f v) R) : Dn (bindO m f) R := by
  rw [h, bindO_some']
  exact k

theorem dn_cond {β : Type} {b : Bool} {x y : Option β} {R : β → Prop} (h1 : b = true → Dn x R) (h2 : b = false → Dn y R) : Dn (cond b x y) R := by
  cases b
  · exact h2 rfl
  · exact h1 rfl

theorem dn_no {β : Type} {b : Bool} {x y : Option β} {R : β → Prop} (h : b = false) (k : Dn y R) : Dn (cond b x y) R := by
  rw [h]
  exact k

theorem dn_weak {α : Type} {m : Option α} {Q R : α → Prop} (h : Dn m Q) (k : ∀ v, Q v → R v) : Dn m R := by
  obtain ⟨v, e, hv⟩ := h
  exact ⟨v, e, k v hv⟩

theorem dn_wrap {β : Type} {e : Int} {f : Int → Option β} {R : β → Prop} (h : -1000000000000000000 ≤ e ∧ e ≤ 1000000000000000000) (k : Dn (f e) R) : Dn (bindO (some (IntKind.wrap .i64 e)) f) R := by
  rw [i64_in _ (by omega), bindO_some']
  exact k

theorem dn_len {β : Type} {n : Nat} {f : Unit → Option β} {R : β → Prop} (h : n ≤ 1000000000) (k : Dn (f ()) R) : Dn (bindO (guardO (lenOk n)) f) R := by
  rw [guardO_of (lenOk_of (by omega)), bindO_some']
  exact k

theorem dn_loop {σ β : Type} {body : (σ → Option β) → σ → Option β} {R : β → Prop} (Inv : σ → Prop) (μ : σ → Nat)
    (step : ∀ (again : σ → Option β) s, Inv s → (∀ s', Inv s' → μ s' < μ s → Dn (again s') R) → Dn (body again s) R) {s : σ} (h0 : Inv s) (hm : μ s < 2 ^ 64) : Dn (loopO body s) R :=
  loopO_ind (fun _ y => Dn y R) Inv μ step h0 hm

theorem dn_getI {α β : Type} {l : List α} {i : Int} {f : α → Option β} {R : β → Prop} (h0 : 0 ≤ i) (h1 : i < l.length) (k : ∀ a, l[i.toNat]? = some a → Dn (f a) R) : Dn (bindO (getI l i) f) R := by
  obtain ⟨n, rfl⟩ := Int.eq_ofNat_of_zero_le h0
  have hn : n < l.length := by omega
  have e := List.getElem?_eq_getElem hn
  rw [getI_nat, e, bindO_some']
  exact k _ e

abbrev CurT := List Int × Int × Int

/-- The cursor stands no further than 1000 n. -/
def Cu (n : Nat) (c : CurT) : Prop := Bytes c.1 ∧ 0 ≤ c.2.1 ∧ c.2.1 ≤ 1000 * (n : Int)

theorem cu_up {n m : Nat} {c : CurT} (h : Cu n c) (hm : n ≤ m) : Cu m c := ⟨h.1, h.2.1, by have := h.2.2; omega⟩

theorem cu_start {code : List Int} (h : Bytes code) : Cu 0 (code, 0, 0) := ⟨h, Int.le_refl _, Int.le_refl _⟩

theorem cu_step {n : Nat} {code : List Int} {pos pos' s s' : Int} (h : Cu n (code, pos, s)) (h1 : pos ≤ pos') (h2 : pos' ≤ pos + 1000) : Cu (n + 1) (code, pos', s') := by
  obtain ⟨a, b, c⟩ := h
  dsimp only at b c
  exact ⟨a, by dsimp only; omega, by dsimp only; omega⟩

theorem dn_pick {n : Nat} {c : CurT} {k : Int} (h : Cu n c) (hn : n ≤ 1000000) (hk : k ≤ 2 ^ 40) : Dn (M_S_l1Cur_pick (c, k)) (fun r => (0 ≤ r.1 ∧ r.1 ≤ 65535 ∧ (k ≤ 1 → r.1 = 0) ∧ (1 < k → r.1 < k)) ∧ Cu (n + 1) r.2) := by
  obtain ⟨code, pos, seed⟩ := c
  have h' := h
  obtain ⟨a, b, d⟩ := h
  dsimp only at a b d
  obtain ⟨v, p, s, e, h1, h2, h3, h4, h5, h6⟩ := pick_ok (seed := seed) (n := k) a b (by omega) hk
  exact ⟨_, e, ⟨h1, h2, h3, h4⟩, cu_step h' h5 (by omega)⟩

theorem dn_one {n : Nat} {c : CurT} {k : Int} (h : Cu n c) (hn : n ≤ 1000000) (hk : k ≤ 2 ^ 40) : Dn (M_S_l1Cur_one (c, k)) (fun r => Cu (n + 1) r.2) := by
  obtain ⟨code, pos, seed⟩ := c
  have h' := h
  obtain ⟨a, b, d⟩ := h
  dsimp only at a b d
  obtain ⟨v, p, s, e, h5, h6⟩ := one_ok (seed := seed) (n := k) a b (by omega) hk
  exact ⟨_, e, cu_step h' h5 (by omega)⟩

theorem dn_among {n : Nat} {c : CurT} {l : List Int} (h : Cu n c) (hn : n ≤ 1000000) (hl : 1 ≤ l.length ∧ l.length ≤ 1000) : Dn (M_S_l1Cur_among (c, l)) (fun r => r.1 ∈ l ∧ Cu (n + 1) r.2) := by
  obtain ⟨code, pos, seed⟩ := c
  have h' := h
  obtain ⟨a, b, d⟩ := h
  dsimp only at a b d
  obtain ⟨v, p, s, e, h1, h5, h6⟩ := among_ok (seed := seed) a b (by omega) hl
  exact ⟨_, e, h1, cu_step h' h5 (by omega)⟩

theorem dn_l1In (a b c : Int) : Dn (M_S_l1In (a, b, c)) (fun r => r = true → b ≤ a ∧ a ≤ c) := by
  rw [in_eq]
  exact dn_some fun h => of_decide_eq_true h

theorem dn_shuffle {n : Int} {coins : List Int} (hc : ∀ a ∈ coins, 0 ≤ a ∧ a ≤ 1000) : Dn (M_S_ShuffleCoins (n, coins)) (fun r => r.1.length ≤ 24) := by
  unfold M_S_ShuffleCoins
  dsimp only
  refine dn_bind (dn_l1In _ _ _) fun b hb => dn_cond (fun _ => dn_some (by simp)) fun hbt => ?_
  have hn := hb (by simpa using hbt)
  refine dn_wrap (by omega) (dn_cond (fun _ => dn_some (by simp)) fun hl => ?_)
  have hl' : (coins.length : Int) = n - 1 := by simpa using hl
  refine dn_loop (fun s : List Int × Int => 0 ≤ s.2 ∧ s.2 ≤ n ∧ (s.1.length : Int) = s.2) (fun s => (n - s.2).toNat) (fun again s hs ih => ?_) ⟨by dsimp only; omega, by dsimp only; omega, by simp⟩ (by dsimp only; omega)
  obtain ⟨p, i⟩ := s
  obtain ⟨h1, h2, h3⟩ := hs
  dsimp only at h1 h2 h3 ih ⊢
  refine dn_cond (fun hlt => ?_) fun hge => ?_
  · have hlt' := of_decide_eq_true hlt
    refine dn_len (by simp only [List.length_cons, List.length_nil]; omega) (dn_is rfl (dn_wrap (by omega) (ih _ ⟨by dsimp only; omega, by dsimp only; omega, ?_⟩ (by dsimp only; omega))))
    simp only [List.length_append, List.length_cons, List.length_nil]
    omega
  · have hge' := of_decide_eq_false hge
    have hpn : (p.length : Int) = n := by omega
    refine dn_loop (fun s : Int × List Int => 0 ≤ s.1 ∧ s.1 ≤ coins.length ∧ (s.2.length : Int) = n) (fun s => (n - s.1).toNat) (fun again2 s hs ih2 => ?_) ⟨by dsimp only; omega, by dsimp only; omega, hpn⟩ (by dsimp only; omega)
    obtain ⟨k, p2⟩ := s
    obtain ⟨g1, g2, g3⟩ := hs
    dsimp only at g1 g2 g3 ih2 ⊢
    refine dn_cond (fun hlt => ?_) fun _ => dn_some (by dsimp only; omega)
    have hlt' := of_decide_eq_true hlt
    refine dn_getI g1 hlt' fun a ha => ?_
    have ha' := hc a (List.mem_of_getElem? ha)
    refine dn_no (decide_eq_false (by omega)) (dn_wrap (by omega) (dn_wrap (by omega) (dn_wrap (by omega) (dn_is (guardO_of ?_) (dn_is rfl ?_)))))
    · exact bne_iff_ne.2 (by omega)
    have r1 : 0 ≤ a.tmod (n - 1 - k + 1) := by
      rw [tmod_nn ha'.1]
      exact Int.emod_nonneg _ (by omega)
    have r2 : a.tmod (n - 1 - k + 1) < n - 1 - k + 1 := by
      rw [tmod_nn ha'.1]
      exact Int.emod_lt_of_pos _ (by omega)
    generalize a.tmod (n - 1 - k + 1) = r at r1 r2
    refine dn_getI (by omega) (by omega) fun y hy => dn_getI (by omega) (by omega) fun z hz => dn_getI (by omega) (by omega) fun y2 hy2 => dn_is rfl (dn_getI (by omega) (by rw [List.length_set]; omega) fun z2 hz2 => dn_is rfl (dn_wrap (by omega) (ih2 _ ⟨by dsimp only; omega, by dsimp only; omega, ?_⟩ (by dsimp only; omega))))
    dsimp only
    rw [List.length_set, List.length_set]
    exact g3

theorem dn_perm {N : Nat} {c : CurT} {n : Int} (h : Cu N c) (hN : N ≤ 900000) (hn : n ≤ 30) : Dn (M_S_l1Cur_permutation (c, n)) (fun r => r.1.length ≤ 24 ∧ Cu (N + 40) r.2) := by
  unfold M_S_l1Cur_permutation
  dsimp only
  refine dn_loop (fun s : List Int × Int × CurT => 1 ≤ s.2.1 ∧ s.2.1 ≤ 31 ∧ (∀ a ∈ s.1, 0 ≤ a ∧ a ≤ 1000) ∧ (s.1.length : Int) ≤ s.2.1 ∧ Cu (N + s.2.1.toNat) s.2.2) (fun s => (40 - s.2.1).toNat) (fun again s hs ih => ?_)
    ⟨by dsimp only; omega, by dsimp only; omega, fun a ha => (by cases ha), by simp, cu_up h (by omega)⟩ (by dsimp only; omega)
  obtain ⟨l, k, cc⟩ := s
  obtain ⟨h1, h2, h3, h4, h5⟩ := hs
  dsimp only at h1 h2 h3 h4 h5 ih ⊢
  refine dn_cond (fun hlt => ?_) fun _ => dn_bind (dn_shuffle h3) fun r hr => dn_some ⟨hr, cu_up h5 (by omega)⟩
  have hlt' := of_decide_eq_true hlt
  refine dn_bind (dn_pick h5 (by omega) (by decide)) fun a ha => ?_
  obtain ⟨⟨a1, -, -, a3⟩, a4⟩ := ha
  have a3' := a3 (by decide)
  refine dn_len (by simp only [List.length_cons, List.length_nil]; omega) (dn_is rfl (dn_wrap (by omega) (ih _ ⟨by dsimp only; omega, by dsimp only; omega, ?_, ?_, cu_up a4 (by dsimp only; omega)⟩ (by dsimp only; omega))))
  · intro x hx
    rcases List.mem_append.1 hx with hx | hx
    · exact h3 x hx
    · simp only [List.mem_cons, List.not_mem_nil, or_false] at hx
      rw [hx]
      omega
  · simp only [List.length_append, List.length_cons, List.length_nil]
    omega

noncomputable def RkBody (nn : Int) : (((List (List Int)) × (Int × ((List Int) × (Int × Int)))) → (Option (Int × ((List (List Int)) × ((List Int) × (Int × Int)))))) → ((List (List Int)) × (Int × ((List Int) × (Int × Int)))) → (Option (Int × ((List (List Int)) × ((List Int) × (Int × Int))))) :=
  (fun (again8 : (((List (List Int)) × (Int × ((List Int) × (Int × Int)))) → (Option (Int × ((List (List Int)) × ((List Int) × (Int × Int))))))) => (fun (s9 : ((List (List Int)) × (Int × ((List Int) × (Int × Int))))) => (cond (decide (s9.2.1 > (0 : Int))) (bindO (M_S_l1Cur_permutation (s9.2.2, nn)) (fun (a10 : ((List Int) × ((List Int) × (Int × Int)))) => (cond (decide ((((List.length a10.1) : Nat) : Int) > (0 : Int))) (bindO (M_S_l1Cur_one (a10.2, (3 : Int))) (fun (a11 : (Bool × ((List Int) × (Int × Int)))) => (cond a11.1 (bindO (some (IntKind.wrap .i64 ((((List.length a10.1) : Nat) : Int) + (1 : Int)))) (fun (a12 : Int) => (bindO (M_S_l1Cur_pick (a11.2, a12)) (fun (a13 : (Int × ((List Int) × (Int × Int)))) => (bindO (sliceNH a13.1 (List.length a10.1)) (fun (a14 : (Nat × Nat)) => (bindO (guardO (lenOk ((List.length s9.1) + (List.length ((List.take a14.2 a10.1) :: ([] : List (List Int))))))) (fun (a15 : Unit) => (bindO (some (s9.1 ++ ((List.take a14.2 a10.1) :: ([] : List (List Int))))) (fun (a16 : (List (List Int))) => (bindO (some (IntKind.wrap .i64 (s9.2.1 - (1 : Int)))) (fun (a17 : Int) => (again8 (a16, (a17, a13.2))))))))))))))) (bindO (guardO (lenOk ((List.length s9.1) + (List.length (a10.1 :: ([] : List (List Int))))))) (fun (a18 : Unit) => (bindO (some (s9.1 ++ (a10.1 :: ([] : List (List Int))))) (fun (a19 : (List (List Int))) => (bindO (some (IntKind.wrap .i64 (s9.2.1 - (1 : Int)))) (fun (a20 : Int) => (again8 (a19, (a20, a11.2)))))))))))) (bindO (guardO (lenOk ((List.length s9.1) + (List.length (a10.1 :: ([] : List (List Int))))))) (fun (a21 : Unit) => (bindO (some (s9.1 ++ (a10.1 :: ([] : List (List Int))))) (fun (a22 : (List (List Int))) => (bindO (some (IntKind.wrap .i64 (s9.2.1 - (1 : Int)))) (fun (a23 : Int) => (again8 (a22, (a23, a10.2)))))))))))) (cond (decide ((((List.length s9.1) : Nat) : Int) > (0 : Int))) (bindO (M_S_l1Cur_one (s9.2.2, (12 : Int))) (fun (a24 : (Bool × ((List Int) × (Int × Int)))) => (cond a24.1 (bindO (getI s9.1 (0 : Int)) (fun (a25 : (List Int)) => (bindO (some (IntKind.wrap .i64 (nn + (1 : Int)))) (fun (a26 : Int) => (bindO (M_S_l1Cur_pick (a24.2, a26)) (fun (a27 : (Int × ((List Int) × (Int × Int)))) => (bindO (guardO (lenOk ((List.length a25) + (List.length (a27.1 :: ([] : List Int)))))) (fun (a28 : Unit) => (bindO (some s9.1) (fun (a29 : (List (List Int))) => (bindO (getI a29 (0 : Int)) (fun (a30 : (List Int)) => (bindO (some (List.set a29 (Int.toNat (0 : Int)) (a25 ++ (a27.1 :: ([] : List Int))))) (fun (a31 : (List (List Int))) => (some (nn, (a31, a27.2))))))))))))))))) (some (nn, (s9.1, a24.2)))))) (some (nn, (s9.1, s9.2.2)))))))

def RkOK (N : Nat) (r : Int × List (List Int) × CurT) : Prop := (0 ≤ r.1 ∧ r.1 ≤ 9) ∧ r.2.1.length ≤ 30 ∧ (∀ v ∈ r.2.1, v.length ≤ 30) ∧ Cu N r.2.2

theorem rk_snoc {l : List (List Int)} {v : List Int} (h : ∀ w ∈ l, w.length ≤ 24) (hv : v.length ≤ 24) : ∀ w ∈ l ++ [v], w.length ≤ 24 := fun w hw => by
  rcases List.mem_append.1 hw with hw | hw
  · exact h w hw
  · simp only [List.mem_cons, List.not_mem_nil, or_false] at hw
    rw [hw]
    exact hv

theorem rk_loop {N : Nat} {nn k : Int} {c : CurT} (hnn : 0 ≤ nn ∧ nn ≤ 9) (hk : 0 ≤ k ∧ k ≤ 25) (h : Cu N c) (hN : N ≤ 1000) : Dn (loopO (RkBody nn) ([], k, c)) (RkOK (N + 10000)) := by
  unfold RkBody
  refine dn_loop (fun s : List (List Int) × Int × CurT => 0 ≤ s.2.1 ∧ s.2.1 ≤ 25 ∧ (s.1.length : Int) + s.2.1 ≤ 25 ∧ (∀ v ∈ s.1, v.length ≤ 24) ∧ Cu (N + 100 * (25 - s.2.1.toNat)) s.2.2) (fun s => s.2.1.toNat) (fun again s hs ih => ?_)
    ⟨by dsimp only; omega, by dsimp only; omega, by simp only [List.length_nil]; omega, fun v hv => (by cases hv), cu_up h (by omega)⟩ (by dsimp only; omega)
  obtain ⟨l, k, cc⟩ := s
  obtain ⟨h1, h2, h3, h4, h5⟩ := hs
  dsimp only at h1 h2 h3 h4 h5 ih ⊢
  refine dn_cond (fun hlt => ?_) fun _ => ?_
  · have hlt' := of_decide_eq_true hlt
    refine dn_bind (dn_perm h5 (by omega) (by omega)) fun p hp => ?_
    obtain ⟨p1, p2⟩ := hp
    have go : ∀ (v : List Int) (cur : CurT), v.length ≤ 24 → Cu (N + 100 * (25 - k.toNat) + 60) cur → Dn (bindO (guardO (lenOk (l.length + (v :: ([] : List (List Int))).length))) fun _ => bindO (some (l ++ v :: ([] : List (List Int)))) fun a => bindO (some (IntKind.wrap .i64 (k - 1))) fun a' => again (a, a', cur)) (RkOK (N + 10000)) := by
      intro v cur hv hcur
      refine dn_len (by simp only [List.length_cons, List.length_nil]; omega) (dn_is rfl (dn_wrap (by omega) (ih _ ⟨by dsimp only; omega, by dsimp only; omega, ?_, rk_snoc h4 hv, cu_up hcur (by dsimp only; omega)⟩ (by dsimp only; omega))))
      simp only [List.length_append, List.length_cons, List.length_nil]
      omega
    refine dn_cond (fun hpos => ?_) fun _ => go _ _ p1 (cu_up p2 (by omega))
    refine dn_bind (dn_one p2 (by omega) (by decide)) fun o ho => dn_cond (fun _ => ?_) fun _ => go _ _ p1 (cu_up ho (by omega))
    refine dn_wrap (by omega) (dn_bind (dn_pick ho (by omega) (by omega)) fun q hq => ?_)
    obtain ⟨⟨q1, -, q2, q3⟩, q4⟩ := hq
    have hpos' := of_decide_eq_true hpos
    have q3' := q3 (by omega)
    obtain ⟨Q, hQ⟩ := Int.eq_ofNat_of_zero_le q1
    rw [hQ]
    refine dn_is (sliceNH_nat (by omega)) ?_
    refine go _ _ ?_ (cu_up q4 (by omega))
    rw [List.length_take]
    omega
  · have h4' : ∀ v ∈ l, v.length ≤ 30 := fun v hv => by have := h4 v hv; omega
    refine dn_cond (fun hpos => ?_) fun _ => dn_some ⟨hnn, by dsimp only; omega, h4', cu_up h5 (by omega)⟩
    have hpos' := of_decide_eq_true hpos
    refine dn_bind (dn_one h5 (by omega) (by decide)) fun o ho => dn_cond (fun _ => ?_) fun _ => dn_some ⟨hnn, by dsimp only; omega, h4', cu_up ho (by omega)⟩
    refine dn_getI (by omega) hpos' fun v hv => ?_
    have hv' := h4 v (List.mem_of_getElem? hv)
    refine dn_wrap (by omega) (dn_bind (dn_pick ho (by omega) (by omega)) fun q hq => dn_len (by simp only [List.length_cons, List.length_nil]; omega) (dn_is rfl (dn_getI (by omega) hpos' fun v2 hv2 => dn_is rfl (dn_some ⟨hnn, ?_, fun w hw => ?_, cu_up hq.2 (by omega)⟩))))
    · dsimp only
      rw [List.length_set]
      omega
    · rcases List.mem_or_eq_of_mem_set hw with hw | hw
      · exact h4' w hw
      · rw [hw]
        simp only [List.length_append, List.length_cons, List.length_nil]
        omega

theorem dn_ranks {N : Nat} {c : CurT} (h : Cu N c) (hN : N ≤ 900) : Dn (M_S_l1Cur_ranks c) (RkOK (N + 11000)) := by
  unfold M_S_l1Cur_ranks
  refine dn_bind (dn_pick h (by omega) (by decide)) fun a ha => ?_
  obtain ⟨⟨a1, -, -, a3⟩, a4⟩ := ha
  have a3' := a3 (by decide)
  refine dn_wrap (by omega) ?_
  refine dn_bind (dn_one a4 (by omega) (by decide)) fun o ho => ?_
  have up : ∀ r, RkOK (N + 20 + 10000) r → RkOK (N + 11000) r := fun r hr => ⟨hr.1, hr.2.1, hr.2.2.1, cu_up hr.2.2.2 (by omega)⟩
  refine dn_cond (fun _ => ?_) fun _ => ?_
  · refine dn_bind (dn_among ho (by omega) ⟨by simp, by simp⟩) fun m hm => ?_
    obtain ⟨m1, m2⟩ := hm
    have hnn : 0 ≤ m.1 ∧ m.1 ≤ 9 := by
      simp only [List.mem_cons, List.not_mem_nil, or_false] at m1
      omega
    refine dn_bind (dn_pick m2 (by omega) (by decide)) fun k hk => ?_
    obtain ⟨⟨k1, -, -, k3⟩, k4⟩ := hk
    have k3' := k3 (by decide)
    refine dn_bind (dn_one k4 (by omega) (by decide)) fun o2 ho2 => dn_cond (fun _ => ?_) fun _ => dn_weak (rk_loop (N := N + 20) hnn (by omega) (cu_up ho2 (by omega)) (by omega)) up
    refine dn_bind (dn_pick ho2 (by omega) (by decide)) fun k' hk' => ?_
    obtain ⟨⟨l1, -, -, l3⟩, l4⟩ := hk'
    have l3' := l3 (by decide)
    exact dn_wrap (by omega) (dn_weak (rk_loop (N := N + 20) hnn (by omega) (cu_up l4 (by omega)) (by omega)) up)
  · have hnn : 0 ≤ 1 + a.1 ∧ 1 + a.1 ≤ 9 := by omega
    refine dn_bind (dn_pick ho (by omega) (by decide)) fun k hk => ?_
    obtain ⟨⟨k1, -, -, k3⟩, k4⟩ := hk
    have k3' := k3 (by decide)
    refine dn_bind (dn_one k4 (by omega) (by decide)) fun o2 ho2 => dn_cond (fun _ => ?_) fun _ => dn_weak (rk_loop (N := N + 20) hnn (by omega) (cu_up ho2 (by omega)) (by omega)) up
    refine dn_bind (dn_pick ho2 (by omega) (by decide)) fun k' hk' => ?_
    obtain ⟨⟨l1, -, -, l3⟩, l4⟩ := hk'
    have l3' := l3 (by decide)
    exact dn_wrap (by omega) (dn_weak (rk_loop (N := N + 20) hnn (by omega) (cu_up l4 (by omega)) (by omega)) up)

theorem DrawRunoffRounds_ok {code : List Int} (hb : Bytes code) : Dn (M_S_DrawRunoffRounds code) (fun r => (0 ≤ r.1 ∧ r.1 ≤ 9) ∧ r.2.length ≤ 30 ∧ ∀ v ∈ r.2, v.length ≤ 30) := by
  unfold M_S_DrawRunoffRounds
  exact dn_bind (dn_ranks (cu_start hb) (by decide)) fun r hr => dn_some ⟨hr.1, hr.2.1, hr.2.2.1⟩

def psum (C : Nat → Int) (n : Nat) : Int := iterN (fun i s => if C i > 0 then s + C i else s) 0 n

theorem psum_succ (C : Nat → Int) (n : Nat) : psum C (n + 1) = if C n > 0 then psum C n + C n else psum C n := rfl

theorem psum_scan (C : Nat → Int) : ∀ n, (scanN C n).1 = psum C n
  | 0 => rfl
  | n + 1 => by
    have e : scanN C (n + 1) = scan C n (scanN C n) := rfl
    have ih := psum_scan C n
    rw [e, psum_succ, ← ih]
    unfold scan
    by_cases h : C n < 0
    · simp [h, show ¬ (C n > 0) by omega]
    · by_cases h2 : C n > 0
      · simp [h, h2]
      · simp [h, h2]
        omega

theorem psum_in {C : Nat → Int} {B : Int} (hB : 0 ≤ B) (hC : ∀ k, C k ≤ B) : ∀ n, 0 ≤ psum C n ∧ psum C n ≤ n * B
  | 0 => ⟨Int.le_refl _, by simp [psum, iterN]⟩
  | n + 1 => by
    obtain ⟨h1, h2⟩ := psum_in hB hC n
    have h3 := hC n
    have em : ((n + 1 : Nat) : Int) * B = n * B + B := by
      rw [Int.natCast_add, Int.add_mul]
      simp
    rw [psum_succ, em]
    split <;> omega

theorem psum_one {C : Nat → Int} {k : Nat} (hk : 0 < C k) : ∀ n, k < n → C k ≤ psum C n ∧ 0 ≤ psum C n
  | 0, h => by omega
  | n + 1, h => by
    have h0 : 0 ≤ psum C n := by
      clear h
      induction n with
      | zero => exact Int.le_refl _
      | succ n ih =>
        rw [psum_succ]
        split <;> omega
    rw [psum_succ]
    by_cases hkn : k = n
    · subst hkn
      rw [if_pos hk]
      omega
    · have := (psum_one hk n (by omega)).1
      split <;> omega

theorem psum_two {C : Nat → Int} {k b : Nat} (hk : 0 < C k) (hb : 0 < C b) (hkb : k ≠ b) : ∀ n, k < n → b < n → C k + C b ≤ psum C n
  | 0, h, _ => by omega
  | n + 1, h1, h2 => by
    rw [psum_succ]
    by_cases hkn : k = n
    · subst hkn
      have := (psum_one hb k (by omega)).1
      rw [if_pos hk]
      omega
    · by_cases hbn : b = n
      · subst hbn
        have := (psum_one hk b (by omega)).1
        rw [if_pos hb]
        omega
      · have := psum_two hk hb hkb n (by omega) (by omega)
        split <;> omega

theorem psum_bump {rem : Rem} {r : List Int} {C : Nat → Int} {A : Nat} (hA : fstQ rem r = some (A : Int)) (hC : 0 ≤ C A) : ∀ n, psum (bumpC rem r C) n = psum C n + if A < n then 1 else 0
  | 0 => by simp [psum, iterN]
  | n + 1 => by
    have ih := psum_bump hA hC n
    rw [psum_succ, psum_succ, ih]
    by_cases hn : A = n
    · subst hn
      have eb : bumpC rem r C A = C A + 1 := by
        unfold bumpC
        rw [hA, if_pos rfl]
      rw [eb, if_pos (show C A + 1 > 0 by omega), show (if A < A then (1 : Int) else 0) = 0 from if_neg (Nat.lt_irrefl _), show (if A < A + 1 then (1 : Int) else 0) = 1 from if_pos (by omega)]
      split <;> omega
    · have eb : bumpC rem r C n = C n := by
        unfold bumpC
        rw [hA, if_neg fun e => hn (by have := Option.some.inj e; omega)]
      rw [eb]
      by_cases hlt : A < n
      · rw [show (if A < n then (1 : Int) else 0) = 1 from if_pos hlt, show (if A < n + 1 then (1 : Int) else 0) = 1 from if_pos (by omega)]
        split <;> omega
      · rw [show (if A < n then (1 : Int) else 0) = 0 from if_neg hlt, show (if A < n + 1 then (1 : Int) else 0) = 0 from if_neg (by omega)]
        split <;> omega

theorem psum_c0 (rem : Rem) : ∀ n, psum (c0 rem) n = 0
  | 0 => rfl
  | n + 1 => by
    rw [psum_succ, psum_c0 rem n, if_neg]
    unfold c0
    split <;> omega

def liveT (rem : Rem) (rs : List (List Int)) (t : Nat) : Nat := iterN (fun i c => if (fstQ rem (rs.getD i [])).isSome = true then c + 1 else c) 0 t

theorem live_succ (rem : Rem) (rs : List (List Int)) (t : Nat) : liveT rem rs (t + 1) = if (fstQ rem (rs.getD t [])).isSome = true then liveT rem rs t + 1 else liveT rem rs t := rfl

theorem live_le (rem : Rem) (rs : List (List Int)) : ∀ t, liveT rem rs t ≤ t
  | 0 => Nat.le_refl _
  | t + 1 => by
    have := live_le rem rs t
    rw [live_succ]
    split <;> omega

theorem live_mono {rem rem' : Rem} (h : ∀ k, rem k = true → rem' k = true) (rs : List (List Int)) : ∀ t, liveT rem' rs t ≤ liveT rem rs t
  | 0 => Nat.le_refl _
  | t + 1 => by
    have ih := live_mono h rs t
    rw [live_succ, live_succ]
    have hf : (fstQ rem' (rs.getD t [])).isSome = true → (fstQ rem (rs.getD t [])).isSome = true := by
      intro hs
      unfold fstQ at hs ⊢
      rw [List.find?_isSome] at hs ⊢
      obtain ⟨a, ha, hp⟩ := hs
      refine ⟨a, ha, ?_⟩
      cases hr : rem a.toNat
      · rfl
      · rw [h _ hr] at hp
        cases hp
    by_cases h1 : (fstQ rem' (rs.getD t [])).isSome = true
    · rw [if_pos h1, if_pos (hf h1)]
      omega
    · rw [if_neg h1]
      split <;> omega

theorem psum_live {n : Nat} {rem : Rem} {rs : List (List Int)} (hre : ∀ r ∈ rs, ∀ a ∈ r, 0 ≤ a ∧ a < (n : Int)) : ∀ t, t ≤ rs.length → psum (iterN (fun t C => bumpC rem (rs.getD t []) C) (c0 rem) t) n = (liveT rem rs t : Int)
  | 0, _ => psum_c0 rem n
  | t + 1, ht => by
    have ih := psum_live (rem := rem) hre t (by omega)
    have hok : CntOK rem t (iterN (fun t C => bumpC rem (rs.getD t []) C) (c0 rem) t) := iterN_inv (Inv := fun t C => CntOK rem t C) (c0_ok rem) t fun _ _ _ hv => bump_ok hv
    show psum (bumpC rem (rs.getD t []) (iterN (fun t C => bumpC rem (rs.getD t []) C) (c0 rem) t)) n = _
    rw [live_succ]
    generalize iterN (fun t C => bumpC rem (rs.getD t []) C) (c0 rem) t = C at ih hok
    have hr := getD_at (d := ([] : List Int)) (show t < rs.length by omega)
    have hre' := hre _ (List.mem_of_getElem? hr)
    cases hf : fstQ rem (rs.getD t []) with
    | none =>
      have e : bumpC rem (rs.getD t []) C = C := funext fun k => by
        unfold bumpC
        rw [hf, if_neg (by simp)]
      rw [e, if_neg (by simp)]
      exact ih
    | some a =>
      obtain ⟨f1, f2⟩ := fst_free hf
      obtain ⟨a1, a2⟩ := hre' a f1
      obtain ⟨A, rfl⟩ := Int.eq_ofNat_of_zero_le a1
      rw [Int.toNat_natCast] at f2
      have h0 := (hok A).2 f2
      rw [psum_bump hf h0.1, ih, if_pos (by omega), if_pos (by simp)]
      rfl

def Falling (n : Nat) : Int → List (List Int) → Prop
  | _, [] => True
  | last, r :: L => ∃ C, r = rowN n C ∧ (∀ k, C k ≤ 24) ∧ psum C n ≤ last ∧ Falling n (psum C n) L

theorem rndF_fall {n : Nat} {rs : List (List Int)} (hrs : rs.length ≤ 24) (hre : ∀ r ∈ rs, ∀ a ∈ r, 0 ≤ a ∧ a < (n : Int)) : ∀ (f : Nat) (rem : Rem) (acc : List (List Int)), ∃ L, rndF n rs f rem acc = acc ++ L ∧ (∀ last : Int, (liveT rem rs rs.length : Int) ≤ last → Falling n last L) ∧
    (1 ≤ f → ∃ L', L = rowN n (cntC rem rs) :: L' ∧ (stopB (cntC rem rs) rem n = true → L' = []))
  | 0, rem, acc => ⟨[], by simp [rndF], fun _ _ => trivial, fun h => by omega⟩
  | f + 1, rem, acc => by
    have hp : psum (cntC rem rs) n = (liveT rem rs rs.length : Int) := psum_live hre rs.length (Nat.le_refl _)
    rw [rndF]
    cases hst : stopB (cntC rem rs) rem n
    · obtain ⟨L, h1, h2, _⟩ := rndF_fall hrs hre f (remA rem (scanN (cntC rem rs) n).2.toNat) (acc ++ [rowN n (cntC rem rs)])
      rw [cond_false]
      refine ⟨rowN n (cntC rem rs) :: L, by rw [h1, List.append_assoc]; rfl, fun last hl => ⟨cntC rem rs, rfl, cntC_le hrs, by omega, h2 _ ?_⟩, fun _ => ⟨L, rfl, fun h => by cases h⟩⟩
      have := live_mono (rem := rem) (rem' := remA rem (scanN (cntC rem rs) n).2.toNat) (fun k hk => by unfold remA; rw [hk]; rfl) rs rs.length
      omega
    · rw [cond_true]
      exact ⟨[rowN n (cntC rem rs)], rfl, fun last hl => ⟨cntC rem rs, rfl, cntC_le hrs, by omega, trivial⟩, fun _ => ⟨[], rfl, fun _ => rfl⟩⟩

theorem winner_of2 {l : List Int} (h1 : 1 ≤ l.length) (h8 : l.length ≤ 8) : ∃ (b : Nat) (M : Int), b < l.length ∧ (∀ k, k < l.length → l.getD k 0 ≤ l.getD b 0) ∧ M_slices_Max_sint_int l = some M ∧ M_slices_Index_sint_int (l, M) = some (b : Int) := by
  generalize hn : l.length = n at h1 h8
  have hl : l = rowN n fun k => l.getD k 0 := by rw [← hn]; exact row_of
  generalize (fun k => l.getD k 0) = C at hl
  have hg : ∀ k, k < n → l.getD k 0 = C k := fun k hk => by rw [hl, List.getD_eq_getElem?_getD, rowN_get hk]; rfl
  obtain ⟨M, m1, m2, k, hk, m3⟩ := max_row (C := C) h8 h1
  rcases best_ok (C := C) n with ⟨h0, _⟩ | ⟨b, b1, b2, b3, b4⟩
  · omega
  · have hMb : M = C b := by
      have := m2 b b2
      have := b3 k hk
      omega
    refine ⟨b, M, b2, fun k hk => ?_, ?_, ?_⟩
    · rw [hg k hk, hg b b2]
      exact b3 k hk
    · rw [hl, m1]
    · rw [hl, hMb, index_best h8 b2 b4]

theorem free_all : ∀ m, freeN (inO []) m = m
  | 0 => rfl
  | m + 1 => congrArg (· + 1) (free_all m)

theorem I_winner {n : Nat} {rs : List (List Int)} (hx : rs.length < 2 ^ 62) (hr : ∀ r ∈ rs, r.length < 2 ^ 62) (hok : okR (n : Int) rs = true) (h1 : 1 ≤ n) (h2 : n ≤ 8) (h3 : rs.length ≤ 24) (h4 : ∀ r ∈ rs, r.length ≤ 8 ∧ ∀ a ∈ r, 0 ≤ a ∧ a < (n : Int)) :
    ∃ (b : Nat) (l : List Int), M_I_RunoffWinner ((n : Int), rs) = some ((b : Int), true) ∧ b < n ∧ l.length = n ∧ (∀ k, k < n → l.getD k 0 ≤ l.getD b 0) ∧
      getI (rndF n rs (freeN (inO []) n) (inO []) []) (IntKind.wrap .i64 (((rndF n rs (freeN (inO []) n) (inO []) []).length : Int) - 1)) = some l := by
  obtain ⟨l, l1, l2⟩ := rndF_last (n := n) (rs := rs) (freeN (inO []) n) (inO []) [] (by rw [free_all]; exact h1) (by rw [free_all]; simp; omega) (fun r hr => by simp at hr)
  obtain ⟨b, M, b1, b2, w2, w3⟩ := winner_of2 (l := l) (by omega) (by omega)
  refine ⟨b, l, ?_, by omega, l2, fun k hk => b2 k (by omega), l1⟩
  unfold M_I_RunoffWinner
  dsimp only
  rw [areRankings_eq hx hr, bindO_some', hok]
  simp only [Bool.not_true, cond_false, I_rounds_eq h2 h1 h3 h4, bindO_some', l1, w2, w3]

theorem sameLists_eq {x : List (List Int)} (h : x.length < 2 ^ 62) (hr : ∀ r ∈ x, r.length < 2 ^ 62) : M_L_sameLists (x, x) = some true := by
  unfold M_L_sameLists
  dsimp only
  refine no_to (bne_self_eq_false _) ?_
  refine loopO_to (fun i => (i : Int)) x.length (some true) h (fun again => ?_) (fun again i hi ih => ?_)
  · exact no_to (lt_no _) rfl
  · refine yes_to (lt_yes hi) ?_
    have ha := getD_at (d := ([] : List Int)) hi
    refine bind_to ((getI_nat _ i).trans ha) ?_
    refine bind_to ((getI_nat _ i).trans ha) ?_
    refine bind_to (sameInts_eq (hr _ (List.mem_of_getElem? ha))) ?_
    refine no_to rfl ?_
    exact bind_to (congrArg some (i64_succ (by omega))) ih

theorem borda_rest {more : List Int} (hb : Bytes more) : (bindO (M_S_DrawBordaScores more) fun a24 => bindO (M_I_BordaScores (a24.1, a24.2)) fun a25 => bindO (M_S_BordaScores (a24.1, a24.2)) fun a26 => cond (a25.2 == a26.2) (bindO (M_L_sameInts (a25.1, a26.1)) fun a27 => some a27) (some false)) = some true := by
  obtain ⟨⟨k, x⟩, e, -, hl, hr⟩ := DrawRunoffRounds_ok hb
  dsimp only at hl hr
  have hr' : ∀ r ∈ x, r.length < 2 ^ 62 := fun r hm => by have := hr r hm; omega
  obtain ⟨r, b, hs, hl2⟩ := BordaScores_some (k := k) hr'
  have hi := (BordaScores_same (k := k) (by omega) hr').trans hs
  unfold M_S_DrawBordaScores
  rw [e, bindO_some', bindO_some']
  refine bind_to hi ?_
  refine bind_to hs ?_
  refine yes_to (beq_self_eq_true b) ?_
  exact bind_to (sameInts_eq (a := r) (by omega)) rfl

theorem law_FnRunoff (x : List Int × List Int) (h : WFI [.data (.sl (.int .u8)), .data (.sl (.int .u8))] x) : M_L_FnRunoff x = some true := by
  obtain ⟨code, more⟩ := x
  have hb1 : Bytes code := wf_u8 h.1
  have hb2 : Bytes more := wf_u8 h.2
  obtain ⟨gg, hg⟩ := big_some code more
  obtain ⟨⟨k, rs⟩, e1, -, hl, hv⟩ := DrawRunoffRounds_ok hb1
  dsimp only at hl hv
  have hr : ∀ r ∈ rs, r.length < 2 ^ 62 := fun r hm => by have := hv r hm; omega
  have hx : rs.length < 2 ^ 62 := by omega
  have hS := S_RunoffRounds_eq (k := k) hr
  have hI := I_RunoffRounds_eq (k := k) hx hr
  obtain ⟨hsz, htot⟩ := roundsR_size k rs
  have hrest := borda_rest hb2
  have hsame : M_L_sameLists ((roundsR k rs).1, (roundsR k rs).1) = some true := sameLists_eq (by omega) fun r hm => by have := row_le hm; omega
  unfold M_L_FnRunoff
  dsimp only
  refine bind_to hg ?_
  cases gg
  rotate_left
  · rfl
  refine no_to rfl ?_
  refine bind_to e1 ?_
  refine bind_to hI ?_
  refine bind_to hS ?_
  refine no_to (by rw [BEq.rfl]; rfl) ?_
  refine bind_to hsame ?_
  refine no_to rfl ?_
  clear hS hI hsame hsz htot
  unfold roundsR
  cases hok : okR k rs
  · exact no_to rfl hrest
  obtain ⟨n, rfl, h1, h2, h3, h4⟩ := okR_re hok
  obtain ⟨b, l, hw, hb, hln, hbest, hlast⟩ := I_winner hx hr hok h1 h2 h3 h4
  rw [cond_true]
  dsimp only
  rw [Int.toNat_natCast]
  obtain ⟨L, hL, hfall, hhead⟩ := rndF_fall (n := n) h3 (fun r hm => (h4 r hm).2) (freeN (inO []) n) (inO []) []
  obtain ⟨L', hL', hstop⟩ := hhead (by rw [free_all]; exact h1)
  rw [List.nil_append] at hL
  have hsz := (rndF_size (n := n) (rs := rs) (freeN (inO []) n) (inO []) [] (fun r hr => by simp at hr)).1
  rw [hL, List.length_nil] at hsz
  have hfr := free_all n
  rw [hL] at hlast ⊢
  have hlive := live_le (inO []) rs rs.length
  have hps : psum (cntC (inO []) rs) n = (liveT (inO []) rs rs.length : Int) := psum_live (fun r hm => (h4 r hm).2) rs.length (Nat.le_refl _)
  refine yes_to rfl ?_
  refine bind_to (congrArg some (i64_in _ (by omega))) ?_
  have tail : (bindO (M_I_RunoffWinner ((n : Int), rs)) fun a16 => cond (not a16.2) (some false) (cond (decide (a16.1 < (0 : Int))) (some false) (cond (decide (a16.1 ≥ (n : Int))) (some false) (bindO (getI L (0 : Int)) fun a17 => loopO (fun (again18 : Int → Option Bool) (s19 : Int) => cond (decide (s19 < ((List.length a17 : Nat) : Int))) (bindO (getI a17 s19) fun a20 => bindO (some (IntKind.wrap .i64 ((2 : Int) * a20))) fun a21 => cond (decide (a21 > ((List.length rs : Nat) : Int))) (cond (a16.1 != s19) (some false) (bindO (some (IntKind.wrap .i64 (s19 + (1 : Int)))) fun a22 => again18 a22)) (bindO (some (IntKind.wrap .i64 (s19 + (1 : Int)))) fun a23 => again18 a23)) (bindO (M_S_DrawBordaScores more) fun a24 => bindO (M_I_BordaScores (a24.1, a24.2)) fun a25 => bindO (M_S_BordaScores (a24.1, a24.2)) fun a26 => cond (a25.2 == a26.2) (bindO (M_L_sameInts (a25.1, a26.1)) fun a27 => some a27) (some false))) (0 : Int))))) = some true := by
    refine bind_to hw ?_
    refine no_to rfl (no_to (decide_eq_false (by dsimp only; omega)) (no_to (decide_eq_false (by dsimp only; omega)) ?_))
    refine bind_to (show getI L (0 : Int) = some (rowN n (cntC (inO []) rs)) by rw [hL']; rfl) ?_
    have hcle := cntC_le (rem := inO []) h3
    have hmaj : ∀ t, t < n → 2 * cntC (inO []) rs t > (rs.length : Int) → b = t := by
      intro t ht h2t
      have hm := (most_ok (C := cntC (inO []) rs) n).2.1 t ht
      have hst : stopB (cntC (inO []) rs) (inO []) n = true := by
        unfold stopB
        rw [psum_scan, decide_eq_true (by omega)]
        rfl
      rw [hL', hstop hst] at hlast
      have hll : l = rowN n (cntC (inO []) rs) := by
        have e : getI [rowN n (cntC (inO []) rs)] (IntKind.wrap .i64 ((([rowN n (cntC (inO []) rs)] : List (List Int)).length : Int) - 1)) = some (rowN n (cntC (inO []) rs)) := rfl
        exact (Option.some.inj (e.symm.trans hlast)).symm
      have hget : ∀ j, j < n → l.getD j 0 = cntC (inO []) rs j := fun j hj => by rw [hll, List.getD_eq_getElem?_getD, rowN_get hj]; rfl
      have hbb := hbest t ht
      rw [hget t ht, hget b hb] at hbb
      by_cases hbt : t = b
      · exact hbt.symm
      · have := psum_two (C := cntC (inO []) rs) (k := t) (b := b) (by omega) (by omega) hbt n ht hb
        omega
    have hcge : ∀ t, -1 ≤ cntC (inO []) rs t := fun t => by
      obtain ⟨q1, q2⟩ := cnt_ok (inO []) rs t
      cases hh : inO [] t
      · have := (q2 hh).1; omega
      · have := q1 hh; omega
    generalize cntC (inO []) rs = C at hcle hmaj hcge
    dsimp only
    rw [rowN_len]
    refine loopO_to (fun i => (i : Int)) n (some true) (by omega) (fun again => ?_) (fun again i hi ih => ?_)
    · exact no_to (lt_no _) hrest
    · have c1 := hcle i
      have c2 := hcge i
      refine yes_to (lt_yes hi) ?_
      refine bind_to ((getI_nat _ i).trans (rowN_get hi)) ?_
      refine bind_to (congrArg some (i64_in _ (by omega))) ?_
      have nxt : (bindO (some (IntKind.wrap .i64 ((i : Int) + (1 : Int)))) fun a22 => again a22) = some true := bind_to (congrArg some (i64_succ (by omega))) ih
      by_cases h2 : 2 * C i > (rs.length : Int)
      · refine yes_to (decide_eq_true h2) ?_
        rw [hmaj i hi h2]
        exact no_to (bne_self_eq_false _) nxt
      · exact no_to (decide_eq_false h2) nxt
  have hfl := hfall ((rs.length : Int) + 1) (by omega)
  clear hw hbest hlast hL hhead hfall hL' hstop hps hlive
  refine loopO_ind (fun _ y => y = some true) (fun (st : Int × Int) => ∃ i : Nat, st.2 = (i : Int) ∧ i ≤ L.length ∧ Falling n st.1 (L.drop i)) (fun st => L.length - st.2.toNat) (fun again st hs ih => ?_) ⟨0, rfl, Nat.zero_le _, hfl⟩ (by dsimp only; omega)
  obtain ⟨last, ii⟩ := st
  obtain ⟨i, q1, q2, q3⟩ := hs
  dsimp only at q1 q3 ih ⊢
  subst q1
  rcases Nat.lt_or_ge i L.length with hi | hi
  rotate_left
  · exact no_to (decide_eq_false (by omega)) tail
  refine yes_to (lt_yes hi) ?_
  rw [List.drop_eq_getElem_cons hi] at q3
  obtain ⟨C, g1, g2, g3, g4⟩ := q3
  refine bind_to ((getI_nat _ i).trans ((List.getElem?_eq_getElem hi).trans (congrArg some g1))) ?_
  rw [rowN_len]
  refine loopO_to (fun k => (psum C k, (k : Int))) n (some true) (by omega) (fun again2 => ?_) (fun again2 k hk2 ih2 => ?_)
  · dsimp only
    refine no_to (lt_no _) (no_to (decide_eq_false (by omega)) ?_)
    refine bind_to (congrArg some (i64_succ (by omega))) ?_
    exact ih _ ⟨i + 1, rfl, by omega, g4⟩ (by dsimp only; omega)
  · dsimp only at ih2 ⊢
    have c1 := g2 k
    obtain ⟨p1, p2⟩ := psum_in (C := C) (B := 24) (by decide) g2 k
    refine yes_to (lt_yes hk2) ?_
    refine bind_to ((getI_nat _ k).trans (rowN_get hk2)) ?_
    rw [psum_succ] at ih2
    by_cases hp : C k > 0
    · rw [if_pos hp] at ih2
      refine yes_to (decide_eq_true hp) ?_
      refine bind_to (congrArg some (i64_in _ (by omega))) ?_
      exact bind_to (congrArg some (i64_succ (by omega))) ih2
    · rw [if_neg hp] at ih2
      refine no_to (decide_eq_false hp) ?_
      exact bind_to (congrArg some (i64_succ (by omega))) ih2

end Go.Proofs.Ytgjneigkkgaaiaa.Vd
