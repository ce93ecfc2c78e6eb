/- The law FnExactPossibleLinks as plain functions on data returns true for all arguments. No conditions. -/
import Derived.Test.YtlacogoljcpijaaPossMod
set_option linter.unusedVariables false
set_option linter.unusedSimpArgs false
set_option linter.unusedSectionVars false
set_option linter.unnecessarySimpa false
namespace Go.Proofs.Ytlacogoljcpijaa.Vd
open Go.IntWalk

theorem i64_succ {i : Nat} (h : i < 2 ^ 62) : IntKind.wrap .i64 ((i : Int) + 1) = ((i + 1 : Nat) : Int) := by
  rw [i64_in _ (by omega)]
  rfl

theorem lt_yes {i n : Nat} (h : i < n) : decide ((i : Int) < (n : Int)) = true := by simp [h]

def walk {α β : Type} (step : Nat → α → Option β → Option β) (fin : Option β) : Nat → List α → Option β
  | _, [] => fin
  | i, a :: r => step i a (walk step fin (i + 1) r)

theorem loop_walk {α β : Type} {body : (Int → Option β) → Int → Option β} (l : List α) (step : Nat → α → Option β → Option β) (fin : Option β)
    (h : ∀ (again : Int → Option β) (i : Nat) a, l[i]? = some a → i < l.length → body again (i : Int) = step i a (again ((i + 1 : Nat) : Int)))
    (hend : ∀ again : Int → Option β, body again (l.length : Int) = fin) (hl : l.length < 2 ^ 64) : loopO body 0 = walk step fin 0 l := by
  refine (loopO_for (σ := Unit) (fun i _ => (i : Int)) l.length (fun i _ => walk step fin i (l.drop i)) (fun _ _ => True) (fun again _ _ => ?_) (fun again i _ hi _ ih => ?_) hl (i := 0) (s := ()) (Nat.zero_le _) trivial).trans rfl
  · simp [hend, walk]
  · rw [h again i l[i] (List.getElem?_eq_getElem hi) hi, ih () trivial, List.drop_eq_getElem_cons hi, walk]

/-- A walk over a list by its numbers, with a state (before the number). -/

theorem walk_index {α : Type} (p : α → Bool) : ∀ (l : List α) (i : Nat), ∃ j : Int, walk (fun i a k => if p a = true then some (i : Int) else k) (some (-1)) i l = some j ∧ decide (j ≥ 0) = l.any p
  | [], _ => ⟨-1, rfl, rfl⟩
  | a :: l, i => by
    obtain ⟨j, h1, h2⟩ := walk_index p l (i + 1)
    cases h : p a
    · exact ⟨j, by simp [walk, h, h1], by simp [h, h2]⟩
    · exact ⟨i, by simp [walk, h], by simp [h]⟩

theorem toIntS_eq {x : List Int} (h : x.length ≤ 1048576) : M_L_toIntS x = some x := by
  unfold M_L_toIntS
  have hx : (x.length : Int) ≤ ((lim : Nat) : Int) := by rw [lim_eq]; omega
  rw [guardO_of (by simpa using hx), bindO_some']
  refine (loopO_for (σ := List Int) (fun i s => ((i : Int), s)) x.length (fun i s => some (x.take i ++ x.drop i)) (fun i s => s = x.take i ++ List.replicate (x.length - i) 0) (fun again s hs => ?_) (fun again i s hi hs ih => ?_) (by omega) (i := 0) (s := List.replicate x.length 0) (Nat.zero_le _) (by simp)).trans (by simp)
  · subst hs; simp
  · subst hs
    have h1 : (x.take i ++ List.replicate (x.length - i) (0 : Int))[i]? = some 0 := by
      rw [List.getElem?_append_right (by simp; omega)]
      simp [List.getElem?_replicate]
      omega
    have h2 : (x.take i ++ List.replicate (x.length - i) (0 : Int)).set i x[i] = x.take (i + 1) ++ List.replicate (x.length - (i + 1)) 0 := by
      refine List.ext_getElem? fun j => ?_
      rw [List.getElem?_set]
      by_cases hij : i = j
      · subst hij
        rw [if_pos rfl, if_pos (by simp; omega), List.getElem?_append_left (by simp; omega), List.getElem?_take, if_pos (by omega), List.getElem?_eq_getElem hi]
      · rw [if_neg hij]
        by_cases hj : j < i
        · rw [List.getElem?_append_left (by simp; omega), List.getElem?_append_left (by simp; omega), List.getElem?_take, List.getElem?_take, if_pos hj, if_pos (by omega)]
        · rw [List.getElem?_append_right (by simp; omega), List.getElem?_append_right (by simp; omega)]
          simp only [List.length_take, List.getElem?_replicate]
          rw [Nat.min_eq_left (by omega), Nat.min_eq_left (by omega)]
          by_cases hjx : j < x.length
          · rw [if_pos (by omega), if_pos (by omega)]
          · rw [if_neg (by omega), if_neg (by omega)]
    simp only [getI_nat, List.getElem?_eq_getElem hi, h1, bindO_some', Int.toNat_natCast, h2, i64_succ (show i < 2 ^ 62 by omega)]
    rw [ih _ rfl]
    simp [hi]

theorem eqIntS_eq {a b : List Int} (h : a.length < 2 ^ 62) : M_L_eqIntS (a, b) = some (decide (a = b)) := by
  unfold M_L_eqIntS
  by_cases hl : a.length = b.length
  · have e1 : ((a.length : Int) != (b.length : Int)) = false := by simp [hl]
    dsimp only
    rw [e1]
    simp only [cond_false]
    refine (loopO_for (σ := Unit) (fun i _ => (i : Int)) a.length (fun i _ => some (decide (a.drop i = b.drop i))) (fun _ _ => True) (fun again _ _ => ?_) (fun again i _ hi _ ih => ?_) (by omega) (i := 0) (s := ()) (Nat.zero_le _) trivial).trans (by simp)
    · simp [hl]
    · have hi' : i < b.length := by omega
      simp only [getI_nat, List.getElem?_eq_getElem hi, List.getElem?_eq_getElem hi', bindO_some', i64_succ (show i < 2 ^ 62 by omega), ih () trivial]
      rw [List.drop_eq_getElem_cons hi, List.drop_eq_getElem_cons hi']
      by_cases he : a[i] = b[i] <;> simp [bne_dec, he, hi, -List.getElem_cons_drop]
  · have e1 : ((a.length : Int) != (b.length : Int)) = true := by simp; omega
    dsimp only
    rw [e1]
    simp only [cond_true, Option.some.injEq]
    symm
    simp only [decide_eq_false_iff_not]
    rintro rfl
    exact hl rfl

theorem index_eq {l : List Int} {n : Int} (hl : l.length < 2 ^ 62) : ∃ j : Int, M_slices_Index_sint_int (l, n) = some j ∧ decide (j ≥ 0) = l.any (· == n) := by
  obtain ⟨j, h1, h2⟩ := walk_index (fun a : Int => a == n) l 0
  refine ⟨j, ?_, h2⟩
  unfold M_slices_Index_sint_int
  refine (loop_walk l (fun i a k => if (a == n) = true then some (i : Int) else k) (some (-1)) (fun again i a ha hi => ?_) (fun again => ?_) (by omega)).trans h1
  · simp only [getI_nat, ha, bindO_some', i64_succ (show i < 2 ^ 62 by omega), lt_yes hi, cond_true]
    rw [show (n == a) = (a == n) from BEq.comm]
    cases h : a == n <;> simp [h]
  · simp

theorem sliceNH_nat {h n : Nat} (hh : h ≤ n) : sliceNH (h : Int) n = some (0, h) := by
  unfold sliceNH
  rw [if_pos ⟨by omega, by omega⟩]
  simp

theorem contains_eq {l : List Int} {n : Int} (hl : l.length < 2 ^ 62) : M_slices_Contains_sint_int (l, n) = some (l.any (· == n)) := by
  obtain ⟨j, h1, h2⟩ := index_eq (n := n) hl
  unfold M_slices_Contains_sint_int
  dsimp only
  rw [h1, bindO_some', h2]


/-- A loop whose states go down: a property of its answer. -/
theorem loopO_ind {σ β : Type} {body : (σ → Option β) → σ → Option β} (Q : σ → Option β → Prop) (Inv : σ → Prop) (μ : σ → Nat)
    (step : ∀ (again : σ → Option β) s, Inv s → (∀ s', Inv s' → μ s' < μ s → Q s' (again s')) → Q s (body again s)) {s : σ} (h0 : Inv s) (hm : μ s < 2 ^ 64) : Q s (loopO body s) := by
  rw [loopO_eq]
  have H : ∀ (n : Nat) (s : σ), Inv s → μ s < n → Q s (iter body n s) := by
    intro n
    induction n with
    | zero => intro s _ h; exact absurd h (Nat.not_lt_zero _)
    | succ n ih => intro s hs h; exact step _ s hs fun s' hs' h' => ih s' hs' (by omega)
  exact H many s h0 hm

/-- Two loops of the same steps have the same answer. -/
theorem loopO_eqv {σ τ β : Type} {b1 : (σ → Option β) → σ → Option β} {b2 : (τ → Option β) → τ → Option β} {s : σ} {t : τ} (R : σ → τ → Prop) (h0 : R s t)
    (step : ∀ (a1 : σ → Option β) (a2 : τ → Option β) s t, R s t → (∀ s' t', R s' t' → a1 s' = a2 t') → b1 a1 s = b2 a2 t) : loopO b1 s = loopO b2 t :=
  loopO_rel R (fun y z => y = z) rfl step h0

theorem in_eq (x a b : Int) : M_S_l1In (x, a, b) = some (decide (a ≤ x ∧ x ≤ b)) := by
  by_cases h : a ≤ x <;> by_cases h2 : x ≤ b <;> simp [M_S_l1In, h, h2]

theorem within_eq (x a b : Int) : M_I_within (x, a, b) = some (decide (a ≤ x ∧ x ≤ b)) := by
  by_cases h : a ≤ x <;> by_cases h2 : x ≤ b <;> simp [M_I_within, h, h2]

theorem walk_index_mem {α : Type} (p : α → Bool) (f : α → Option Bool) : ∀ (l : List α) (i : Nat), (∀ a ∈ l, f a = some (p a)) →
    ∃ j : Int, walk (fun i a k => bindO (f a) fun b => cond b (some (i : Int)) k) (some (-1)) i l = some j ∧ decide (j ≥ 0) = l.any p
  | [], _, _ => ⟨-1, rfl, rfl⟩
  | a :: l, i, hf => by
    obtain ⟨j, h1, h2⟩ := walk_index_mem p f l (i + 1) fun b hb => hf b (List.mem_cons_of_mem _ hb)
    have ha := hf a (List.mem_cons_self ..)
    cases h : p a
    · exact ⟨j, by simp [walk, ha, h, h1], by simp [h, h2]⟩
    · exact ⟨i, by simp [walk, ha, h], by simp [h]⟩

theorem containsFunc_eq {l : List Int} {f : Int → Option Bool} {p : Int → Bool} (hl : l.length < 2 ^ 62) (hf : ∀ a ∈ l, f a = some (p a)) : M_slices_ContainsFunc_sint_int (l, f) = some (l.any p) := by
  obtain ⟨j, h1, h2⟩ := walk_index_mem p f l 0 hf
  unfold M_slices_ContainsFunc_sint_int
  have : M_slices_IndexFunc_sint_int (l, f) = some j := by
    unfold M_slices_IndexFunc_sint_int
    refine (loop_walk l _ _ (fun again i a ha hi => ?_) (fun again => ?_) (by omega)).trans h1
    · simp only [getI_nat, ha, bindO_some', i64_succ (show i < 2 ^ 62 by omega), lt_yes hi, cond_true]
    · simp
  dsimp only
  rw [this, bindO_some', h2]

theorem areAll_eq {l : List Int} {f : Int → Option Bool} {p : Int → Bool} (hl : l.length < 2 ^ 62) (hf : ∀ a ∈ l, f a = some (p a)) : M_I_areAll (l, f) = some (l.all p) := by
  unfold M_I_areAll
  dsimp only
  rw [containsFunc_eq (p := fun a => !p a) hl fun a ha => by simp [M_I_areAll_1, hf a ha], bindO_some']
  congr 1
  rw [List.any_eq_not_all_not]
  simp

/-! ### Groups -/

def prodM (p : Int) : Int → List Int → Int
  | out, [] => out
  | out, x :: l => prodM p (out * x % p) l

def hstep (c s k : Int) : Int := (c * s + k + 1) % 2147483647

def over (p q a b : Int) : Int := prodM p 1 [a, b ^ (q - 1).toNat % p]


/-- A proposition as a Boolean. -/
noncomputable def pdec (p : Prop) : Bool := @decide p (Classical.propDecidable p)

theorem pdec_iff {p : Prop} : pdec p = true ↔ p := by simp [pdec]

theorem pdec_yes {p : Prop} (h : p) : pdec p = true := pdec_iff.2 h

theorem pdec_no {p : Prop} (h : ¬ p) : pdec p = false := by simp [pdec, h]

theorem loop_check {α β : Type} {body : (Int → Option β) → Int → Option β} (l : List α) (G : Nat → Prop) (yes no : Option β)
    (hstep : ∀ (again : Int → Option β) (i : Nat) a, l[i]? = some a → i < l.length → G i → (body again (i : Int) = again ((i + 1 : Nat) : Int) ∧ G (i + 1)) ∨ (body again (i : Int) = no ∧ ¬ G l.length))
    (hend : ∀ again : Int → Option β, body again (l.length : Int) = yes) (h0 : G 0) (hl : l.length < 2 ^ 64) : (G l.length → loopO body 0 = yes) ∧ (¬ G l.length → loopO body 0 = no) := by
  constructor
  · intro hG
    refine (loopO_for (σ := Unit) (fun i _ => (i : Int)) l.length (fun _ _ => yes) (fun i _ => G i) (fun again _ hg => hend again) (fun again i _ hi hg ih => ?_) hl (i := 0) (s := ()) (Nat.zero_le _) h0).trans rfl
    rcases hstep again i l[i] (List.getElem?_eq_getElem hi) hi hg with ⟨h1, h2⟩ | ⟨h1, h2⟩
    · rw [h1]
      exact ih () h2
    · exact absurd hG h2
  · intro hG
    refine (loopO_for (σ := Unit) (fun i _ => (i : Int)) l.length (fun _ _ => no) (fun i _ => G i) (fun again _ hg => absurd hg hG) (fun again i _ hi hg ih => ?_) hl (i := 0) (s := ()) (Nat.zero_le _) h0).trans rfl
    rcases hstep again i l[i] (List.getElem?_eq_getElem hi) hi hg with ⟨h1, h2⟩ | ⟨h1, h2⟩
    · rw [h1]
      exact ih () h2
    · exact h1

theorem check_dec {β : Type} {m : Option β} {G : Prop} {f : Bool → Option β} (h : (G → m = f true) ∧ (¬ G → m = f false)) : m = f (pdec G) := by
  by_cases hg : G
  · rw [h.1 hg, pdec_yes hg]
  · rw [h.2 hg, pdec_no hg]

theorem mem_take_succ {α : Type} {l : List α} {i : Nat} {a : α} (h : l[i]? = some a) : l.take (i + 1) = l.take i ++ [a] := by
  rw [List.take_add_one, h]
  rfl

theorem pairwise_snoc {α : Type} {R : α → α → Prop} {l : List α} {a : α} : (l ++ [a]).Pairwise R ↔ l.Pairwise R ∧ ∀ b ∈ l, R b a := by
  rw [List.pairwise_append]
  constructor
  · rintro ⟨h1, _, h2⟩
    exact ⟨h1, fun b hb => h2 b hb a (by simp)⟩
  · rintro ⟨h1, h2⟩
    exact ⟨h1, by simp, fun b hb c hc => by simp at hc; subst hc; exact h2 b hb⟩

/-- Rising and within bounds. -/

def Rising (lo hi : Int) (l : List Int) : Prop := (∀ a ∈ l, lo ≤ a ∧ a ≤ hi) ∧ l.Pairwise (· < ·)

noncomputable def rising (lo hi : Int) (l : List Int) : Bool := pdec (Rising lo hi l)

theorem last_max {l : List Int} {b : Int} (h : (l ++ [b]).Pairwise (· < ·)) : ∀ a ∈ l ++ [b], a ≤ b := fun a ha => by
  rcases List.mem_append.1 ha with ha | ha
  · exact Int.le_of_lt ((pairwise_snoc.1 h).2 a ha)
  · simp at ha; omega

theorem l1Rising_eq {l : List Int} {lo hi : Int} (hl : l.length < 2 ^ 62) : M_S_l1Rising (l, lo, hi) = some (rising lo hi l) := by
  unfold M_S_l1Rising
  have h := loop_check (β := Bool) l (fun i => Rising lo hi (l.take i)) (some true) (some false) (body := (fun (again0 : (Int → (Option Bool))) => (fun (s1 : Int) => (cond (decide (s1 < (((List.length l) : Nat) : Int))) (bindO (getI l s1) (fun (a2 : Int) => (bindO (M_S_l1In (a2, (lo, hi))) (fun (a3 : Bool) => (cond (not a3) (some false) (cond (decide (s1 > (0 : Int))) (bindO (some (IntKind.wrap .i64 (s1 - (1 : Int)))) (fun (a4 : Int) => (bindO (getI l a4) (fun (a5 : Int) => (cond (decide (a5 ≥ a2)) (some false) (bindO (some (IntKind.wrap .i64 (s1 + (1 : Int)))) (fun (a6 : Int) => (again0 a6)))))))) (bindO (some (IntKind.wrap .i64 (s1 + (1 : Int)))) (fun (a7 : Int) => (again0 a7))))))))) (some true)))))
    (fun again i a ha hi' hg => ?_) (fun again => ?_) ⟨by simp, by simp⟩ (by omega)
  · rw [List.take_length] at h
    exact check_dec (f := some) h
  · simp only [lt_yes hi', cond_true, getI_nat, ha, bindO_some', in_eq, i64_succ (show i < 2 ^ 62 by omega), List.take_length, mem_take_succ ha]
    by_cases hin : lo ≤ a ∧ a ≤ hi
    · simp only [hin, and_self, decide_true, Bool.not_true, cond_false]
      cases i with
      | zero =>
        left
        refine ⟨by simp, ?_⟩
        simp [Rising, hin]
      | succ i =>
        have hb : ∃ b, l[i]? = some b := ⟨l[i]'(by omega), List.getElem?_eq_getElem _⟩
        obtain ⟨b, hb⟩ := hb
        have e1 : decide (((i + 1 : Nat) : Int) > 0) = true := by simp only [decide_eq_true_eq]; omega
        have e2 : IntKind.wrap .i64 (((i + 1 : Nat) : Int) - 1) = ((i : Nat) : Int) := by rw [i64_in _ (by omega)]; omega
        simp only [e1, cond_true, bindO_some', e2, getI_nat, hb]
        rw [mem_take_succ hb] at hg ⊢
        have hmax := last_max hg.2
        by_cases hba : b ≥ a
        · right
          refine ⟨by simp [hba], fun hr => ?_⟩
          have h1 := List.pairwise_iff_getElem.1 hr.2 i (i + 1) (by omega) (by omega) (by omega)
          rw [(List.getElem?_eq_some_iff.1 ha).2, (List.getElem?_eq_some_iff.1 hb).2] at h1
          omega
        · left
          refine ⟨by simp [hba], fun c hc => ?_, pairwise_snoc.2 ⟨hg.2, fun c hc => ?_⟩⟩
          · rcases List.mem_append.1 hc with hc | hc
            · exact hg.1 c hc
            · simp at hc; subst hc; exact hin
          · have := hmax c hc
            omega
    · right
      refine ⟨by simp [hin], fun hr => hin (hr.1 a (List.mem_of_getElem? ha))⟩
  · simp

def Sorted (l : List Int) : Prop := l.Pairwise (· ≤ ·)

noncomputable def sortedB (l : List Int) : Bool := pdec (Sorted l)

theorem sorted_of_adj : ∀ (l : List Int), (∀ (j : Nat) a b, l[j]? = some a → l[j + 1]? = some b → a ≤ b) → Sorted l
  | [], _ => .nil
  | a :: l, h => by
    have ih := sorted_of_adj l fun j b c hb hc => h (j + 1) b c (by simpa using hb) (by simpa using hc)
    refine .cons (fun b hb => ?_) ih
    match l, h, ih, hb with
    | c :: r, h, ih, hb =>
      have h1 := h 0 a c rfl rfl
      rcases List.mem_cons.1 hb with rfl | hb
      · exact h1
      · have := (List.pairwise_cons.1 ih).1 b hb
        omega

theorem less_eq (a b : Int) : M_cmp_Less_int (a, b) = some (decide (a < b)) := by
  unfold M_cmp_Less_int M_cmp_isNaN_int
  simp

theorem isSorted_eq {l : List Int} (hl : l.length < 2 ^ 62) : M_slices_IsSorted_sint_int l = some (sortedB l) := by
  unfold M_slices_IsSorted_sint_int
  rw [i64_in ((l.length : Int) - 1) (by omega), bindO_some']
  refine loopO_spec (fun _ => some (sortedB l)) (fun s => s ≤ (l.length : Int) - 1 ∧ -1 ≤ s ∧ ∀ (j : Nat) a b, s ≤ (j : Int) → l[j]? = some a → l[j + 1]? = some b → a ≤ b) (fun s => s.toNat) (fun again s hs ih => ?_)
    ⟨Int.le_refl _, by omega, fun j a b hj ha hb => ?_⟩ (by omega)
  · obtain ⟨h1, h2, h3⟩ := hs
    by_cases hpos : s > 0
    · obtain ⟨n, rfl⟩ : ∃ n : Nat, s = ((n + 1 : Nat) : Int) := ⟨(s - 1).toNat, by omega⟩
      have hn : n + 1 < l.length := by omega
      have ha := List.getElem?_eq_getElem (l := l) hn
      have hb := List.getElem?_eq_getElem (l := l) (show n < l.length by omega)
      have e2 : IntKind.wrap .i64 (((n + 1 : Nat) : Int) - 1) = ((n : Nat) : Int) := by rw [i64_in _ (by omega)]; omega
      simp only [hpos, decide_true, cond_true, getI_nat, ha, bindO_some', e2, hb, less_eq]
      by_cases hlt : l[n + 1] < l[n]
      · simp only [hlt, decide_true, cond_true]
        congr 1
        symm
        refine pdec_no fun hs => ?_
        have := List.pairwise_iff_getElem.1 hs n (n + 1) (by omega) hn (by omega)
        omega
      · simp only [hlt, decide_false, cond_false]
        refine ih _ ⟨by omega, by omega, fun j a b hj hja hjb => ?_⟩ (by omega)
        by_cases hjn : j = n
        · subst hjn
          rw [hb] at hja
          rw [ha] at hjb
          cases hja
          cases hjb
          omega
        · exact h3 j a b (by omega) hja hjb
    · have e1 : decide (s > 0) = false := by simp; omega
      rw [e1, cond_false]
      congr 1
      symm
      refine pdec_yes ?_
      exact sorted_of_adj l fun j a b hja hjb => h3 j a b (by omega) hja hjb
  · have := (List.getElem?_eq_some_iff.1 hb).1
    omega

noncomputable def nodupB (l : List Int) : Bool := pdec l.Nodup

theorem areDifferent_eq {l : List Int} (hl : l.length < 2 ^ 62) : M_I_areDifferent l = some (nodupB l) := by
  unfold M_I_areDifferent
  have h := loop_check (β := Bool) l (fun i => (l.take i).Nodup) (some true) (some false) (body := (fun (again0 : (Int → (Option Bool))) => (fun (s1 : Int) => (cond (decide (s1 < (((List.length l) : Nat) : Int))) (bindO (getI l s1) (fun (a2 : Int) => (bindO (sliceNH s1 (List.length l)) (fun (a3 : (Nat × Nat)) => (bindO (M_slices_Contains_sint_int ((List.drop a3.1 (List.take a3.2 l)), a2)) (fun (a4 : Bool) => (cond a4 (some false) (bindO (some (IntKind.wrap .i64 (s1 + (1 : Int)))) (fun (a5 : Int) => (again0 a5)))))))))) (some true)))))
    (fun again i a ha hi' hg => ?_) (fun again => ?_) (by simp) (by omega)
  · rw [List.take_length] at h
    exact check_dec (f := some) h
  · have hlen : (l.take i).length < 2 ^ 62 := by simp; omega
    simp only [lt_yes hi', cond_true, getI_nat, ha, bindO_some', sliceNH_nat (show i ≤ l.length by omega), List.drop_zero, contains_eq hlen, i64_succ (show i < 2 ^ 62 by omega), mem_take_succ ha, List.take_length]
    by_cases hm : a ∈ l.take i
    · right
      have : (l.take i).any (· == a) = true := by simpa using hm
      refine ⟨by rw [this]; rfl, fun hn => ?_⟩
      have h2 : (l.take (i + 1)).Nodup := hn.sublist (List.take_sublist _ _)
      rw [mem_take_succ ha] at h2
      have := (pairwise_snoc.1 h2).2 a hm
      exact this rfl
    · left
      have : (l.take i).any (· == a) = false := by
        cases hc : (l.take i).any (· == a)
        · rfl
        · exact absurd (by simpa using hc) hm
      refine ⟨by rw [this]; rfl, pairwise_snoc.2 ⟨hg, fun b hb hba => hm (by subst hba; exact hb)⟩⟩
  · simp

theorem areBelow_eq {l : List Int} {m : Int} (hl : l.length < 2 ^ 62) (h1 : -9223372036854775807 ≤ m) (h2 : m ≤ 9223372036854775807) : M_I_areBelow (l, m) = some (l.all fun n => decide (0 ≤ n ∧ n ≤ m - 1)) := by
  unfold M_I_areBelow
  rw [areAll_eq (p := fun n => decide (0 ≤ n ∧ n ≤ m - 1)) hl fun a _ => by simp [M_I_areBelow_1, i64_in (m - 1) (by omega), within_eq], bindO_some']

theorem rising_parts (lo hi : Int) (l : List Int) : rising lo hi l = ((l.all fun n => decide (lo ≤ n ∧ n ≤ hi)) && (sortedB l && nodupB l)) := by
  rw [Bool.eq_iff_iff]
  simp only [rising, sortedB, nodupB, Bool.and_eq_true, decide_eq_true_eq, List.all_eq_true, pdec_iff]
  constructor
  · rintro ⟨h1, h2⟩
    exact ⟨h1, h2.imp fun h => by omega, h2.imp fun h => by omega⟩
  · rintro ⟨h1, h2, h3⟩
    exact ⟨h1, (h2.and h3).imp fun h => by obtain ⟨a, b⟩ := h; omega⟩

/-- The factorial by its loop. -/

theorem fact_loop {β : Type} (x : Int) (k : Int → Option β) : (loopO (fun (again4 : ((Int × Int) → (Option β))) => (fun (s5 : (Int × Int)) => (cond (decide (s5.2 ≤ x)) (bindO (some (IntKind.wrap .i64 (s5.1 * s5.2))) (fun (a6 : Int) => (bindO (some (IntKind.wrap .i64 (s5.2 + (1 : Int)))) (fun (a7 : Int) => (again4 (a6, a7)))))) (k s5.1)))) ((1 : Int), (2 : Int))) = bindO (M_I_factorial x) k := by
  refine loopO_rel (fun s t => s = t) (fun y z => y = bindO z k) rfl (fun a1 a2 s t hst ih => ?_) rfl
  subst hst
  by_cases h : s.2 ≤ x
  · simp only [h, decide_true, cond_true, bindO_some']
    exact ih _ _ rfl
  · simp [h]

theorem fact_some {x : Int} (hx : x ≤ 12) : ∃ r, M_I_factorial x = some r := by
  unfold M_I_factorial
  refine loopO_ind (fun (_ : Int × Int) y => ∃ r, y = some r) (fun s => 0 ≤ s.2 ∧ s.2 ≤ 100) (fun s => (100 - s.2).toNat) (fun again s hs ih => ?_) (by decide) (by decide)
  by_cases h : s.2 ≤ x
  · simp only [h, decide_true, cond_true, bindO_some']
    rw [i64_in (s.2 + 1) (by omega)]
    exact ih _ (by dsimp only; omega) (by dsimp only; omega)
  · simp [h]

theorem PossibleLinks_eq (n m : Int) (l : List Int) (hl : l.length < 2 ^ 62) : ∃ r, M_S_PossibleLinks (n, m, l) = some r ∧ M_I_PossibleLinks (n, m, l) = some r := by
  unfold M_S_PossibleLinks M_I_PossibleLinks
  dsimp only
  rw [fact_loop n (fun r => some (r, true))]
  simp only [in_eq, within_eq, bindO_some']
  by_cases h1 : 0 ≤ n ∧ n ≤ 12
  · by_cases h2 : 1 ≤ m ∧ m ≤ 6
    · obtain ⟨r, hr⟩ := fact_some h1.2
      simp only [h1, h2, and_self, decide_true, Bool.not_true, cond_false, i64_in (m - 1) (by omega), l1Rising_eq hl, areBelow_eq hl (show -9223372036854775807 ≤ m by omega) (by omega), isSorted_eq hl, areDifferent_eq hl, bindO_some', rising_parts, fact_loop n (fun r => some (r, true)), hr]
      cases l.all fun n => decide (0 ≤ n ∧ n ≤ m - 1)
      · first | exact ⟨_, rfl, rfl⟩ | exact ⟨_, rfl⟩
      · cases sortedB l
        · first | exact ⟨_, rfl, rfl⟩ | exact ⟨_, rfl⟩
        · cases nodupB l
          · first | exact ⟨_, rfl, rfl⟩ | exact ⟨_, rfl⟩
          · cases ((l.length : Nat) : Int) == m <;> first | exact ⟨_, rfl, rfl⟩ | exact ⟨_, rfl⟩
    · simp only [h1, h2, and_self, decide_true, decide_false, Bool.not_true, Bool.not_false, cond_false, cond_true]
      first | exact ⟨_, rfl, rfl⟩ | exact ⟨_, rfl⟩
  · simp only [h1, decide_false, Bool.not_false, cond_true]
    first | exact ⟨_, rfl, rfl⟩ | exact ⟨_, rfl⟩

theorem law_FnExactPossibleLinks (x : Int × Int × List Int) : M_L_FnExactPossibleLinks x = some true := by
  obtain ⟨n, m, l⟩ := x
  unfold M_L_FnExactPossibleLinks
  by_cases hl : l.length ≤ 1048576
  · have e0 : decide (((l.length : Nat) : Int) > 1048576) = false := by simp; omega
    obtain ⟨r, h1, h2⟩ := PossibleLinks_eq n m l (by omega)
    simp only [e0, cond_false, toIntS_eq hl, bindO_some', h1, h2, eqIntS_eq (show l.length < 2 ^ 62 by omega)]
    simp
  · have e0 : decide (((l.length : Nat) : Int) > 1048576) = true := by simp; omega
    simp only [e0, cond_true]

end Go.Proofs.Ytlacogoljcpijaa.Vd
