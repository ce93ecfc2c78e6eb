/- The law FnExactDivisorSeats as plain functions on data returns true for all arguments. No conditions. -/
import Derived.Test.YtlacogoljcpijaaDivsMod
set_option linter.unusedVariables false
set_option linter.unusedSimpArgs false
set_option linter.unusedSectionVars false
set_option linter.unnecessarySimpa false
namespace Go.Proofs.Ytlacogoljcpijaa.Vd
open Go.IntWalk

theorem i64_succ {i : Nat} (h : i < 2 ^ 62) : IntKind.wrap .i64 ((i : Int) + 1) = ((i + 1 : Nat) : Int) := by
  rw [i64_in _ (by omega)]
  rfl

theorem lt_yes {i n : Nat} (h : i < n) : decide ((i : Int) < (n : Int)) = true := by simp [h]

def walk {α β : Type} (step : Nat → α → Option β → Option β) (fin : Option β) : Nat → List α → Option β
  | _, [] => fin
  | i, a :: r => step i a (walk step fin (i + 1) r)

theorem loop_walk {α β : Type} {body : (Int → Option β) → Int → Option β} (l : List α) (step : Nat → α → Option β → Option β) (fin : Option β)
    (h : ∀ (again : Int → Option β) (i : Nat) a, l[i]? = some a → i < l.length → body again (i : Int) = step i a (again ((i + 1 : Nat) : Int)))
    (hend : ∀ again : Int → Option β, body again (l.length : Int) = fin) (hl : l.length < 2 ^ 64) : loopO body 0 = walk step fin 0 l := by
  refine (loopO_for (σ := Unit) (fun i _ => (i : Int)) l.length (fun i _ => walk step fin i (l.drop i)) (fun _ _ => True) (fun again _ _ => ?_) (fun again i _ hi _ ih => ?_) hl (i := 0) (s := ()) (Nat.zero_le _) trivial).trans rfl
  · simp [hend, walk]
  · rw [h again i l[i] (List.getElem?_eq_getElem hi) hi, ih () trivial, List.drop_eq_getElem_cons hi, walk]

/-- A walk over a list by its numbers, with a state (before the number). -/

theorem walk_all {α : Type} (p : α → Bool) : ∀ (l : List α) (i : Nat), walk (fun _ a k => if p a = true then k else some false) (some true) i l = some (l.all p)
  | [], _ => rfl
  | a :: l, i => by
    rw [walk, walk_all p l]
    cases h : p a <;> simp [h]

theorem toIntS_eq {x : List Int} (h : x.length ≤ 1048576) : M_L_toIntS x = some x := by
  unfold M_L_toIntS
  have hx : (x.length : Int) ≤ ((lim : Nat) : Int) := by rw [lim_eq]; omega
  rw [guardO_of (by simpa using hx), bindO_some']
  refine (loopO_for (σ := List Int) (fun i s => ((i : Int), s)) x.length (fun i s => some (x.take i ++ x.drop i)) (fun i s => s = x.take i ++ List.replicate (x.length - i) 0) (fun again s hs => ?_) (fun again i s hi hs ih => ?_) (by omega) (i := 0) (s := List.replicate x.length 0) (Nat.zero_le _) (by simp)).trans (by simp)
  · subst hs; simp
  · subst hs
    have h1 : (x.take i ++ List.replicate (x.length - i) (0 : Int))[i]? = some 0 := by
      rw [List.getElem?_append_right (by simp; omega)]
      simp [List.getElem?_replicate]
      omega
    have h2 : (x.take i ++ List.replicate (x.length - i) (0 : Int)).set i x[i] = x.take (i + 1) ++ List.replicate (x.length - (i + 1)) 0 := by
      refine List.ext_getElem? fun j => ?_
      rw [List.getElem?_set]
      by_cases hij : i = j
      · subst hij
        rw [if_pos rfl, if_pos (by simp; omega), List.getElem?_append_left (by simp; omega), List.getElem?_take, if_pos (by omega), List.getElem?_eq_getElem hi]
      · rw [if_neg hij]
        by_cases hj : j < i
        · rw [List.getElem?_append_left (by simp; omega), List.getElem?_append_left (by simp; omega), List.getElem?_take, List.getElem?_take, if_pos hj, if_pos (by omega)]
        · rw [List.getElem?_append_right (by simp; omega), List.getElem?_append_right (by simp; omega)]
          simp only [List.length_take, List.getElem?_replicate]
          rw [Nat.min_eq_left (by omega), Nat.min_eq_left (by omega)]
          by_cases hjx : j < x.length
          · rw [if_pos (by omega), if_pos (by omega)]
          · rw [if_neg (by omega), if_neg (by omega)]
    simp only [getI_nat, List.getElem?_eq_getElem hi, h1, bindO_some', Int.toNat_natCast, h2, i64_succ (show i < 2 ^ 62 by omega)]
    rw [ih _ rfl]
    simp [hi]

theorem eqIntS_eq {a b : List Int} (h : a.length < 2 ^ 62) : M_L_eqIntS (a, b) = some (decide (a = b)) := by
  unfold M_L_eqIntS
  by_cases hl : a.length = b.length
  · have e1 : ((a.length : Int) != (b.length : Int)) = false := by simp [hl]
    dsimp only
    rw [e1]
    simp only [cond_false]
    refine (loopO_for (σ := Unit) (fun i _ => (i : Int)) a.length (fun i _ => some (decide (a.drop i = b.drop i))) (fun _ _ => True) (fun again _ _ => ?_) (fun again i _ hi _ ih => ?_) (by omega) (i := 0) (s := ()) (Nat.zero_le _) trivial).trans (by simp)
    · simp [hl]
    · have hi' : i < b.length := by omega
      simp only [getI_nat, List.getElem?_eq_getElem hi, List.getElem?_eq_getElem hi', bindO_some', i64_succ (show i < 2 ^ 62 by omega), ih () trivial]
      rw [List.drop_eq_getElem_cons hi, List.drop_eq_getElem_cons hi']
      by_cases he : a[i] = b[i] <;> simp [bne_dec, he, hi, -List.getElem_cons_drop]
  · have e1 : ((a.length : Int) != (b.length : Int)) = true := by simp; omega
    dsimp only
    rw [e1]
    simp only [cond_true, Option.some.injEq]
    symm
    simp only [decide_eq_false_iff_not]
    rintro rfl
    exact hl rfl

def marks (n : Nat) (k : Int) : List Int := (List.range n).map fun (i : Nat) => k + (i : Int)

theorem marks_length (n : Nat) (k : Int) : (marks n k).length = n := by simp [marks]

theorem marks_get {n i : Nat} {k : Int} (h : i < n) : (marks n k)[i]? = some (k + i) := by
  simp [marks, h]

theorem markIntS_eq {a : List Int} {k : Int} (h : a.length < 2 ^ 40) (h0 : 0 ≤ k) (h1 : k < 2 ^ 40) : M_L_markIntS (a, k) = some (k + a.length, marks a.length k) := by
  unfold M_L_markIntS
  refine (loopO_for (σ := Int × List Int) (fun i s => (s.1, ((i : Int), s.2))) a.length (fun i s => some (k + a.length, marks a.length k)) (fun i s => s.1 = k + i ∧ s.2 = marks i k ++ a.drop i) (fun again s hs => ?_) (fun again i s hi hs ih => ?_) (by omega) (i := 0) (s := (k, a)) (Nat.zero_le _) (by simp [marks])).trans rfl
  · obtain ⟨s1, s2⟩ := s
    obtain ⟨rfl, rfl⟩ := hs
    simp [marks_length]
  · obtain ⟨s1, s2⟩ := s
    obtain ⟨rfl, rfl⟩ := hs
    have h2 : (marks i k ++ a.drop i)[i]? = some a[i] := by
      rw [List.getElem?_append_right (by simp [marks_length])]
      simp [marks_length, hi]
    have h3 : (marks i k ++ a.drop i).set i (k + i) = marks (i + 1) k ++ a.drop (i + 1) := by
      rw [List.set_append_right _ _ (by simp [marks_length]), marks_length, Nat.sub_self, List.drop_eq_getElem_cons hi, List.set_cons_zero]
      simp [marks, List.range_succ]
    have hlen : (marks i k ++ a.drop i).length = a.length := by simp [marks_length]; omega
    simp only [getI_nat, h2, bindO_some', Int.toNat_natCast, h3, i64_succ (show i < 2 ^ 62 by omega), hlen]
    rw [i64_in _ (by omega)]
    simp only [lt_yes hi, cond_true]
    exact ih (k + i + 1, marks (i + 1) k ++ a.drop (i + 1)) ⟨by simp; omega, rfl⟩

theorem heldIntS_eq {n : Nat} {k : Int} (h : n < 2 ^ 40) (h0 : 0 ≤ k) (h1 : k < 2 ^ 40) : M_L_heldIntS (marks n k, k) = some (k + n) := by
  unfold M_L_heldIntS
  refine (loopO_for (σ := Int) (fun i s => (s, (i : Int))) n (fun i s => some (k + n)) (fun i s => s = k + i) (fun again s hs => ?_) (fun again i s hi hs ih => ?_) (by omega) (i := 0) (s := k) (Nat.zero_le _) (by simp)).trans rfl
  · subst hs; simp [marks_length]
  · subst hs
    simp only [getI_nat, marks_get hi, marks_length, bindO_some', i64_succ (show i < 2 ^ 62 by omega)]
    rw [i64_in _ (by omega)]
    simp only [lt_yes hi, cond_true, bne_self_eq_false, cond_false]
    exact ih (k + i + 1) (by simp; omega)

theorem one_nn (n : Nat) : ((1 : Int) + (n : Int) < 0) = False := by
  simp only [eq_iff_iff, iff_false]
  omega


/-- A loop whose states go down: a property of its answer. -/
theorem loopO_ind {σ β : Type} {body : (σ → Option β) → σ → Option β} (Q : σ → Option β → Prop) (Inv : σ → Prop) (μ : σ → Nat)
    (step : ∀ (again : σ → Option β) s, Inv s → (∀ s', Inv s' → μ s' < μ s → Q s' (again s')) → Q s (body again s)) {s : σ} (h0 : Inv s) (hm : μ s < 2 ^ 64) : Q s (loopO body s) := by
  rw [loopO_eq]
  have H : ∀ (n : Nat) (s : σ), Inv s → μ s < n → Q s (iter body n s) := by
    intro n
    induction n with
    | zero => intro s _ h; exact absurd h (Nat.not_lt_zero _)
    | succ n ih => intro s hs h; exact step _ s hs fun s' hs' h' => ih s' hs' (by omega)
  exact H many s h0 hm

/-- Two loops of the same steps have the same answer. -/
theorem loopO_eqv {σ τ β : Type} {b1 : (σ → Option β) → σ → Option β} {b2 : (τ → Option β) → τ → Option β} {s : σ} {t : τ} (R : σ → τ → Prop) (h0 : R s t)
    (step : ∀ (a1 : σ → Option β) (a2 : τ → Option β) s t, R s t → (∀ s' t', R s' t' → a1 s' = a2 t') → b1 a1 s = b2 a2 t) : loopO b1 s = loopO b2 t :=
  loopO_rel R (fun y z => y = z) rfl step h0

theorem in_eq (x a b : Int) : M_S_l1In (x, a, b) = some (decide (a ≤ x ∧ x ≤ b)) := by
  by_cases h : a ≤ x <;> by_cases h2 : x ≤ b <;> simp [M_S_l1In, h, h2]

theorem within_eq (x a b : Int) : M_I_within (x, a, b) = some (decide (a ≤ x ∧ x ≤ b)) := by
  by_cases h : a ≤ x <;> by_cases h2 : x ≤ b <;> simp [M_I_within, h, h2]

theorem l1All_eq {l : List Int} {lo hi : Int} (hl : l.length < 2 ^ 62) : M_S_l1All (l, lo, hi) = some (l.all fun n => decide (lo ≤ n ∧ n ≤ hi)) := by
  unfold M_S_l1All
  refine (loop_walk l (fun _ a k => if (decide (lo ≤ a ∧ a ≤ hi)) = true then k else some false) (some true) (fun again i a ha hi' => ?_) (fun again => ?_) (by omega)).trans (walk_all (fun n => decide (lo ≤ n ∧ n ≤ hi)) l 0)
  · simp only [getI_nat, ha, bindO_some', i64_succ (show i < 2 ^ 62 by omega), lt_yes hi', cond_true, in_eq]
    cases decide (lo ≤ a ∧ a ≤ hi) <;> rfl
  · simp

theorem walk_index_mem {α : Type} (p : α → Bool) (f : α → Option Bool) : ∀ (l : List α) (i : Nat), (∀ a ∈ l, f a = some (p a)) →
    ∃ j : Int, walk (fun i a k => bindO (f a) fun b => cond b (some (i : Int)) k) (some (-1)) i l = some j ∧ decide (j ≥ 0) = l.any p
  | [], _, _ => ⟨-1, rfl, rfl⟩
  | a :: l, i, hf => by
    obtain ⟨j, h1, h2⟩ := walk_index_mem p f l (i + 1) fun b hb => hf b (List.mem_cons_of_mem _ hb)
    have ha := hf a (List.mem_cons_self ..)
    cases h : p a
    · exact ⟨j, by simp [walk, ha, h, h1], by simp [h, h2]⟩
    · exact ⟨i, by simp [walk, ha, h], by simp [h]⟩

theorem containsFunc_eq {l : List Int} {f : Int → Option Bool} {p : Int → Bool} (hl : l.length < 2 ^ 62) (hf : ∀ a ∈ l, f a = some (p a)) : M_slices_ContainsFunc_sint_int (l, f) = some (l.any p) := by
  obtain ⟨j, h1, h2⟩ := walk_index_mem p f l 0 hf
  unfold M_slices_ContainsFunc_sint_int
  have : M_slices_IndexFunc_sint_int (l, f) = some j := by
    unfold M_slices_IndexFunc_sint_int
    refine (loop_walk l _ _ (fun again i a ha hi => ?_) (fun again => ?_) (by omega)).trans h1
    · simp only [getI_nat, ha, bindO_some', i64_succ (show i < 2 ^ 62 by omega), lt_yes hi, cond_true]
    · simp
  dsimp only
  rw [this, bindO_some', h2]

theorem areAll_eq {l : List Int} {f : Int → Option Bool} {p : Int → Bool} (hl : l.length < 2 ^ 62) (hf : ∀ a ∈ l, f a = some (p a)) : M_I_areAll (l, f) = some (l.all p) := by
  unfold M_I_areAll
  dsimp only
  rw [containsFunc_eq (p := fun a => !p a) hl fun a ha => by simp [M_I_areAll_1, hf a ha], bindO_some']
  congr 1
  rw [List.any_eq_not_all_not]
  simp

/-! ### Groups -/

def prodM (p : Int) : Int → List Int → Int
  | out, [] => out
  | out, x :: l => prodM p (out * x % p) l

def over (p q a b : Int) : Int := prodM p 1 [a, b ^ (q - 1).toNat % p]

theorem getI_ex {α : Type} {l : List α} {i : Int} (h0 : 0 ≤ i) (h : i < l.length) : ∃ a, getI l i = some a := by
  refine ⟨l[i.toNat]'(by omega), ?_⟩
  simp [getI, h0]

theorem tCounts_eq (l : List Int) (hl : l.length < 2 ^ 62) : M_S_tCounts l = some (decide (1 ≤ l.length ∧ l.length ≤ 8) && l.all fun n => decide (0 ≤ n ∧ n ≤ 1000000)) := by
  unfold M_S_tCounts
  have e : decide (1 ≤ ((l.length : Nat) : Int) ∧ ((l.length : Nat) : Int) ≤ 8) = decide (1 ≤ l.length ∧ l.length ≤ 8) := by
    rw [decide_eq_decide]; omega
  simp only [in_eq, bindO_some', l1All_eq hl, e]
  cases decide (1 ≤ l.length ∧ l.length ≤ 8) <;> rfl

theorem areCounts_eq (l : List Int) (hl : l.length < 2 ^ 62) : M_I_areCounts l = some (decide (1 ≤ l.length ∧ l.length ≤ 8) && l.all fun n => decide (0 ≤ n ∧ n ≤ 1000000)) := by
  unfold M_I_areCounts
  have e : decide (1 ≤ ((l.length : Nat) : Int) ∧ ((l.length : Nat) : Int) ≤ 8) = decide (1 ≤ l.length ∧ l.length ≤ 8) := by
    rw [decide_eq_decide]; omega
  rw [within_eq, bindO_some', areAll_eq (p := fun n => decide (0 ≤ n ∧ n ≤ 1000000)) hl fun a _ => by simp [M_I_areCounts_1, within_eq], e]
  cases decide (1 ≤ l.length ∧ l.length ≤ 8) <;> rfl

theorem DivisorSeats_same (l : List Int) (k : Int) (hl : l.length < 2 ^ 62) : M_I_DivisorSeats (l, k) = M_S_DivisorSeats (l, k) := by
  unfold M_I_DivisorSeats M_S_DivisorSeats
  dsimp only
  rw [areCounts_eq l hl, tCounts_eq l hl, within_eq, in_eq]
  simp only [bindO_some']
  cases hc : (decide (1 ≤ l.length ∧ l.length ≤ 8) && l.all fun n => decide (0 ≤ n ∧ n ≤ 1000000))
  · simp only [Bool.not_false, cond_true]
  · simp only [Bool.not_true, cond_false]
    by_cases hk : 1 ≤ k ∧ k ≤ 20
    · simp only [hk, and_self, decide_true, Bool.not_true, cond_false]
      refine congrArg (bindO _) (funext fun _ => ?_)
      refine loopO_eqv (fun (s t : Int × List Int) => 0 ≤ s.1 ∧ s.1 ≤ k ∧ t.1 = k - s.1 ∧ s.2 = t.2) ⟨by omega, by dsimp only; omega, by dsimp only; omega, rfl⟩ (fun a1 a2 s t hst ih => ?_)
      obtain ⟨s1, s2⟩ := s
      obtain ⟨t1, t2⟩ := t
      obtain ⟨h1, h2, h3, h4⟩ := hst
      dsimp only at h1 h2 h3 h4
      subst h4
      dsimp only
      have e : decide (s1 < k) = decide (t1 > 0) := by rw [decide_eq_decide]; omega
      rw [e]
      by_cases hp : t1 > 0
      · simp only [hp, decide_true, cond_true]
        refine loopO_eqv (fun s t => s = t) rfl (fun b1 b2 u v huv ih2 => ?_)
        subst huv
        have hb : b1 = b2 := funext fun z => ih2 z z rfl
        subst hb
        have hx : ∀ z : List Int, a1 (s1 + 1, z) = a2 (t1 - 1, z) := fun z => ih _ _ ⟨by dsimp only; omega, by dsimp only; omega, by dsimp only; omega, rfl⟩
        rw [i64_in (s1 + 1) (by omega), i64_in (t1 - 1) (by omega)]
        simp only [bindO_some', Int.add_comm (1 : Int), hx]
      · simp [hp]
    · simp only [hk, decide_false, Bool.not_false, cond_true]

theorem DivisorSeats_some (l : List Int) (k : Int) (hl : l.length < 2 ^ 62) : ∃ r b, M_S_DivisorSeats (l, k) = some (r, b) ∧ r.length ≤ 8 := by
  unfold M_S_DivisorSeats
  dsimp only
  rw [tCounts_eq l hl, in_eq]
  simp only [bindO_some']
  cases hc : (decide (1 ≤ l.length ∧ l.length ≤ 8) && l.all fun n => decide (0 ≤ n ∧ n ≤ 1000000))
  · exact ⟨[], false, rfl, by simp⟩
  · simp only [Bool.not_true, cond_false]
    simp only [Bool.and_eq_true, decide_eq_true_eq] at hc
    have hlen := hc.1
    by_cases hk : 1 ≤ k ∧ k ≤ 20
    · simp only [hk, and_self, decide_true, Bool.not_true, cond_false]
      have hx : (l.length : Int) ≤ ((lim : Nat) : Int) := by rw [lim_eq]; omega
      rw [guardO_of (by simpa using hx)]
      refine loopO_ind (fun (_ : Int × List Int) (y : Option (List Int × Bool)) => ∃ r b, y = some (r, b) ∧ r.length ≤ 8) (fun s => 0 ≤ s.1 ∧ s.1 ≤ 20 ∧ s.2.length = l.length) (fun s => s.1.toNat) (fun again s hs ih => ?_) ⟨by dsimp only; omega, by dsimp only; omega, by simp⟩ (by dsimp only; omega)
      obtain ⟨h1, h2, h3⟩ := hs
      by_cases hp : s.1 > 0
      · simp only [hp, decide_true, cond_true]
        refine loopO_ind (fun (_ : Int × Int) (y : Option (List Int × Bool)) => ∃ r b, y = some (r, b) ∧ r.length ≤ 8) (fun u => 0 ≤ u.1 ∧ u.1 < l.length ∧ 0 ≤ u.2 ∧ u.2 ≤ l.length) (fun u => ((l.length : Int) - u.2).toNat) (fun again2 u hu ih2 => ?_) ⟨by decide, by dsimp only; omega, by decide, by dsimp only; omega⟩ (by dsimp only; omega)
        obtain ⟨g1, g2, g3, g4⟩ := hu
        by_cases hi : u.2 < (l.length : Int)
        · obtain ⟨a, ha⟩ := getI_ex g3 hi
          obtain ⟨b, hb⟩ := getI_ex (l := s.2) g1 (by omega)
          obtain ⟨c, hc⟩ := getI_ex g1 g2
          obtain ⟨d, hd⟩ := getI_ex (l := s.2) g3 (by omega)
          simp only [hi, decide_true, cond_true, ha, hb, hc, hd, bindO_some', i64_in (u.2 + 1) (by omega), cond_dec]
          split
          · exact ih2 _ ⟨by dsimp only; omega, by dsimp only; omega, by dsimp only; omega, by dsimp only; omega⟩ (by dsimp only; omega)
          · exact ih2 _ ⟨by dsimp only; omega, by dsimp only; omega, by dsimp only; omega, by dsimp only; omega⟩ (by dsimp only; omega)
        · obtain ⟨b, hb⟩ := getI_ex (l := s.2) g1 (by omega)
          simp only [hi, decide_false, cond_false, hb, bindO_some', i64_in (s.1 - 1) (by omega)]
          exact ih _ ⟨by dsimp only; omega, by dsimp only; omega, by simp [h3]⟩ (by dsimp only; omega)
      · simp only [hp, decide_false, cond_false]
        exact ⟨_, _, rfl, by omega⟩
    · simp only [hk, decide_false, Bool.not_false, cond_true]
      exact ⟨[], false, rfl, by simp⟩

theorem law_FnExactDivisorSeats (x : List Int × Int) : M_L_FnExactDivisorSeats x = some true := by
  obtain ⟨x, k⟩ := x
  unfold M_L_FnExactDivisorSeats
  dsimp only
  by_cases hl : x.length ≤ 1048576
  · have e0 : decide (((x.length : Nat) : Int) > 1048576) = false := by simp; omega
    rw [e0, cond_false]
    obtain ⟨r, b, h1, h2⟩ := DivisorSeats_some x k (by omega)
    have hr : r.length < 2 ^ 40 := by omega
    have hx : x.length < 2 ^ 40 := by omega
    simp [DivisorSeats_same x k (by omega), toIntS_eq hl, h1, eqIntS_eq (show r.length < 2 ^ 62 by omega), eqIntS_eq (show x.length < 2 ^ 62 by omega), markIntS_eq hr, markIntS_eq hx, heldIntS_eq hr, one_nn]
  · have e0 : decide (((x.length : Nat) : Int) > 1048576) = true := by simp; omega
    rw [e0, cond_true]

end Go.Proofs.Ytlacogoljcpijaa.Vd
