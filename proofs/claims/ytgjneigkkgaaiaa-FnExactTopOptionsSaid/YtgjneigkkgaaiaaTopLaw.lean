/- The law FnExactTopOptions as plain functions on data returns true for all arguments. No conditions. -/
import Derived.Test.YtgjneigkkgaaiaaTopMod
set_option linter.unusedVariables false
set_option linter.unusedSimpArgs false
set_option linter.unusedSectionVars false
set_option linter.unnecessarySimpa false
namespace Go.Proofs.Ytgjneigkkgaaiaa.Vd
open Go.IntWalk

theorem i64_succ {i : Nat} (h : i < 2 ^ 62) : IntKind.wrap .i64 ((i : Int) + 1) = ((i + 1 : Nat) : Int) := by
  rw [i64_in _ (by omega)]
  rfl

theorem lt_yes {i n : Nat} (h : i < n) : decide ((i : Int) < (n : Int)) = true := by simp [h]

theorem lt_no (n : Nat) : decide ((n : Int) < (n : Int)) = false := by simp

/-- A walk over a list by its numbers, with no other state. -/
def walk {α β : Type} (step : Nat → α → Option β → Option β) (fin : Option β) : Nat → List α → Option β
  | _, [] => fin
  | i, a :: r => step i a (walk step fin (i + 1) r)

theorem loop_walk {α β : Type} {body : (Int → Option β) → Int → Option β} (l : List α) (step : Nat → α → Option β → Option β) (fin : Option β)
    (h : ∀ (again : Int → Option β) (i : Nat) a, l[i]? = some a → i < l.length → body again (i : Int) = step i a (again ((i + 1 : Nat) : Int)))
    (hend : ∀ again : Int → Option β, body again (l.length : Int) = fin) (hl : l.length < 2 ^ 64) : loopO body 0 = walk step fin 0 l := by
  refine (loopO_for (σ := Unit) (fun i _ => (i : Int)) l.length (fun i _ => walk step fin i (l.drop i)) (fun _ _ => True) (fun again _ _ => ?_) (fun again i _ hi _ ih => ?_) hl (i := 0) (s := ()) (Nat.zero_le _) trivial).trans rfl
  · simp [hend, walk]
  · rw [h again i l[i] (List.getElem?_eq_getElem hi) hi, ih () trivial, List.drop_eq_getElem_cons hi, walk]

theorem walk_any {α : Type} (p : α → Bool) : ∀ (l : List α) (i : Nat), walk (fun _ a k => if p a = true then some true else k) (some false) i l = some (l.any p)
  | [], _ => rfl
  | a :: l, i => by
    rw [walk, walk_any p l]
    cases h : p a <;> simp [h]

theorem walk_all {α : Type} (p : α → Bool) : ∀ (l : List α) (i : Nat), walk (fun _ a k => if p a = true then k else some false) (some true) i l = some (l.all p)
  | [], _ => rfl
  | a :: l, i => by
    rw [walk, walk_all p l]
    cases h : p a <;> simp [h]

theorem toIntS_eq {x : List Int} (h : x.length ≤ 1048576) : M_L_toIntS x = some x := by
  unfold M_L_toIntS
  have hx : (x.length : Int) ≤ ((lim : Nat) : Int) := by rw [lim_eq]; omega
  rw [guardO_of (by simpa using hx), bindO_some']
  refine (loopO_for (σ := List Int) (fun i s => ((i : Int), s)) x.length (fun i s => some (x.take i ++ x.drop i)) (fun i s => s = x.take i ++ List.replicate (x.length - i) 0) (fun again s hs => ?_) (fun again i s hi hs ih => ?_) (by omega) (i := 0) (s := List.replicate x.length 0) (Nat.zero_le _) (by simp)).trans (by simp)
  · subst hs; simp
  · subst hs
    have h1 : (x.take i ++ List.replicate (x.length - i) (0 : Int))[i]? = some 0 := by
      rw [List.getElem?_append_right (by simp; omega)]
      simp [List.getElem?_replicate]
      omega
    have h2 : (x.take i ++ List.replicate (x.length - i) (0 : Int)).set i x[i] = x.take (i + 1) ++ List.replicate (x.length - (i + 1)) 0 := by
      refine List.ext_getElem? fun j => ?_
      rw [List.getElem?_set]
      by_cases hij : i = j
      · subst hij
        rw [if_pos rfl, if_pos (by simp; omega), List.getElem?_append_left (by simp; omega), List.getElem?_take, if_pos (by omega), List.getElem?_eq_getElem hi]
      · rw [if_neg hij]
        by_cases hj : j < i
        · rw [List.getElem?_append_left (by simp; omega), List.getElem?_append_left (by simp; omega), List.getElem?_take, List.getElem?_take, if_pos hj, if_pos (by omega)]
        · rw [List.getElem?_append_right (by simp; omega), List.getElem?_append_right (by simp; omega)]
          simp only [List.length_take, List.getElem?_replicate]
          rw [Nat.min_eq_left (by omega), Nat.min_eq_left (by omega)]
          by_cases hjx : j < x.length
          · rw [if_pos (by omega), if_pos (by omega)]
          · rw [if_neg (by omega), if_neg (by omega)]
    simp only [getI_nat, List.getElem?_eq_getElem hi, h1, bindO_some', Int.toNat_natCast, h2, i64_succ (show i < 2 ^ 62 by omega)]
    rw [ih _ rfl]
    simp [hi]

theorem eqIntS_eq {a b : List Int} (h : a.length < 2 ^ 62) : M_L_eqIntS (a, b) = some (decide (a = b)) := by
  unfold M_L_eqIntS
  by_cases hl : a.length = b.length
  · have e1 : ((a.length : Int) != (b.length : Int)) = false := by simp [hl]
    dsimp only
    rw [e1]
    simp only [cond_false]
    refine (loopO_for (σ := Unit) (fun i _ => (i : Int)) a.length (fun i _ => some (decide (a.drop i = b.drop i))) (fun _ _ => True) (fun again _ _ => ?_) (fun again i _ hi _ ih => ?_) (by omega) (i := 0) (s := ()) (Nat.zero_le _) trivial).trans (by simp)
    · simp [hl]
    · have hi' : i < b.length := by omega
      simp only [getI_nat, List.getElem?_eq_getElem hi, List.getElem?_eq_getElem hi', bindO_some', i64_succ (show i < 2 ^ 62 by omega), ih () trivial]
      rw [List.drop_eq_getElem_cons hi, List.drop_eq_getElem_cons hi']
      by_cases he : a[i] = b[i] <;> simp [bne_dec, he, hi, -List.getElem_cons_drop]
  · have e1 : ((a.length : Int) != (b.length : Int)) = true := by simp; omega
    dsimp only
    rw [e1]
    simp only [cond_true, Option.some.injEq]
    symm
    simp only [decide_eq_false_iff_not]
    rintro rfl
    exact hl rfl

def marks (n : Nat) (k : Int) : List Int := (List.range n).map fun (i : Nat) => k + (i : Int)

theorem marks_length (n : Nat) (k : Int) : (marks n k).length = n := by simp [marks]

theorem marks_get {n i : Nat} {k : Int} (h : i < n) : (marks n k)[i]? = some (k + i) := by
  simp [marks, h]

theorem markIntS_eq {a : List Int} {k : Int} (h : a.length < 2 ^ 40) (h0 : 0 ≤ k) (h1 : k < 2 ^ 40) : M_L_markIntS (a, k) = some (k + a.length, marks a.length k) := by
  unfold M_L_markIntS
  refine (loopO_for (σ := Int × List Int) (fun i s => (s.1, ((i : Int), s.2))) a.length (fun i s => some (k + a.length, marks a.length k)) (fun i s => s.1 = k + i ∧ s.2 = marks i k ++ a.drop i) (fun again s hs => ?_) (fun again i s hi hs ih => ?_) (by omega) (i := 0) (s := (k, a)) (Nat.zero_le _) (by simp [marks])).trans rfl
  · obtain ⟨s1, s2⟩ := s
    obtain ⟨rfl, rfl⟩ := hs
    simp [marks_length]
  · obtain ⟨s1, s2⟩ := s
    obtain ⟨rfl, rfl⟩ := hs
    have h2 : (marks i k ++ a.drop i)[i]? = some a[i] := by
      rw [List.getElem?_append_right (by simp [marks_length])]
      simp [marks_length, hi]
    have h3 : (marks i k ++ a.drop i).set i (k + i) = marks (i + 1) k ++ a.drop (i + 1) := by
      rw [List.set_append_right _ _ (by simp [marks_length]), marks_length, Nat.sub_self, List.drop_eq_getElem_cons hi, List.set_cons_zero]
      simp [marks, List.range_succ]
    have hlen : (marks i k ++ a.drop i).length = a.length := by simp [marks_length]; omega
    simp only [getI_nat, h2, bindO_some', Int.toNat_natCast, h3, i64_succ (show i < 2 ^ 62 by omega), hlen]
    rw [i64_in _ (by omega)]
    simp only [lt_yes hi, cond_true]
    exact ih (k + i + 1, marks (i + 1) k ++ a.drop (i + 1)) ⟨by simp; omega, rfl⟩

theorem heldIntS_eq {n : Nat} {k : Int} (h : n < 2 ^ 40) (h0 : 0 ≤ k) (h1 : k < 2 ^ 40) : M_L_heldIntS (marks n k, k) = some (k + n) := by
  unfold M_L_heldIntS
  refine (loopO_for (σ := Int) (fun i s => (s, (i : Int))) n (fun i s => some (k + n)) (fun i s => s = k + i) (fun again s hs => ?_) (fun again i s hi hs ih => ?_) (by omega) (i := 0) (s := k) (Nat.zero_le _) (by simp)).trans rfl
  · subst hs; simp [marks_length]
  · subst hs
    simp only [getI_nat, marks_get hi, marks_length, bindO_some', i64_succ (show i < 2 ^ 62 by omega)]
    rw [i64_in _ (by omega)]
    simp only [lt_yes hi, cond_true, bne_self_eq_false, cond_false]
    exact ih (k + i + 1) (by simp; omega)

theorem has_eq {l : List Int} {n : Int} (hl : l.length < 2 ^ 62) : M_S_l1Has (l, n) = some (l.any (· == n)) := by
  unfold M_S_l1Has
  refine (loop_walk l (fun _ a k => if (a == n) = true then some true else k) (some false) (fun again i a ha hi => ?_) (fun again => ?_) (by omega)).trans (walk_any _ l 0)
  · simp only [getI_nat, ha, bindO_some', i64_succ (show i < 2 ^ 62 by omega)]
    cases h : a == n <;> simp [h, hi]
  · simp

theorem one_nn (n : Nat) : ((1 : Int) + (n : Int) < 0) = False := by
  simp only [eq_iff_iff, iff_false]
  omega

theorem lenOk_of {n : Nat} (h : n ≤ 68719476736) : lenOk n = true := by simp [lenOk, lim_eq, h]

theorem sliceNH_nat {h n : Nat} (hh : h ≤ n) : sliceNH (h : Int) n = some (0, h) := by
  unfold sliceNH
  rw [if_pos ⟨by omega, by omega⟩]
  simp

/-- A loop whose states go down: a property of its answer. -/
theorem loopO_ind {σ β : Type} {body : (σ → Option β) → σ → Option β} (Q : σ → Option β → Prop) (Inv : σ → Prop) (μ : σ → Nat)
    (step : ∀ (again : σ → Option β) s, Inv s → (∀ s', Inv s' → μ s' < μ s → Q s' (again s')) → Q s (body again s)) {s : σ} (h0 : Inv s) (hm : μ s < 2 ^ 64) : Q s (loopO body s) := by
  rw [loopO_eq]
  have H : ∀ (n : Nat) (s : σ), Inv s → μ s < n → Q s (iter body n s) := by
    intro n
    induction n with
    | zero => intro s _ h; exact absurd h (Nat.not_lt_zero _)
    | succ n ih => intro s hs h; exact step _ s hs fun s' hs' h' => ih s' hs' (by omega)
  exact H many s h0 hm

theorem in_eq (x a b : Int) : M_S_l1In (x, a, b) = some (decide (a ≤ x ∧ x ≤ b)) := by
  by_cases h : a ≤ x <;> by_cases h2 : x ≤ b <;> simp [M_S_l1In, h, h2]

theorem within_eq (x a b : Int) : M_I_within (x, a, b) = some (decide (a ≤ x ∧ x ≤ b)) := by
  by_cases h : a ≤ x <;> by_cases h2 : x ≤ b <;> simp [M_I_within, h, h2]

theorem l1All_eq {l : List Int} {lo hi : Int} (hl : l.length < 2 ^ 62) : M_S_l1All (l, lo, hi) = some (l.all fun n => decide (lo ≤ n ∧ n ≤ hi)) := by
  unfold M_S_l1All
  refine (loop_walk l (fun _ a k => if (decide (lo ≤ a ∧ a ≤ hi)) = true then k else some false) (some true) (fun again i a ha hi' => ?_) (fun again => ?_) (by omega)).trans (walk_all (fun n => decide (lo ≤ n ∧ n ≤ hi)) l 0)
  · simp only [getI_nat, ha, bindO_some', i64_succ (show i < 2 ^ 62 by omega), lt_yes hi', cond_true, in_eq]
    cases decide (lo ≤ a ∧ a ≤ hi) <;> rfl
  · simp

theorem walk_index_mem {α : Type} (p : α → Bool) (f : α → Option Bool) : ∀ (l : List α) (i : Nat), (∀ a ∈ l, f a = some (p a)) →
    ∃ j : Int, walk (fun i a k => bindO (f a) fun b => cond b (some (i : Int)) k) (some (-1)) i l = some j ∧ decide (j ≥ 0) = l.any p
  | [], _, _ => ⟨-1, rfl, rfl⟩
  | a :: l, i, hf => by
    obtain ⟨j, h1, h2⟩ := walk_index_mem p f l (i + 1) fun b hb => hf b (List.mem_cons_of_mem _ hb)
    have ha := hf a (List.mem_cons_self ..)
    cases h : p a
    · exact ⟨j, by simp [walk, ha, h, h1], by simp [h, h2]⟩
    · exact ⟨i, by simp [walk, ha, h], by simp [h]⟩

theorem containsFunc_eq {l : List Int} {f : Int → Option Bool} {p : Int → Bool} (hl : l.length < 2 ^ 62) (hf : ∀ a ∈ l, f a = some (p a)) : M_slices_ContainsFunc_sint_int (l, f) = some (l.any p) := by
  obtain ⟨j, h1, h2⟩ := walk_index_mem p f l 0 hf
  unfold M_slices_ContainsFunc_sint_int
  have : M_slices_IndexFunc_sint_int (l, f) = some j := by
    unfold M_slices_IndexFunc_sint_int
    refine (loop_walk l _ _ (fun again i a ha hi => ?_) (fun again => ?_) (by omega)).trans h1
    · simp only [getI_nat, ha, bindO_some', i64_succ (show i < 2 ^ 62 by omega), lt_yes hi, cond_true]
    · simp
  dsimp only
  rw [this, bindO_some', h2]

theorem areAll_eq {l : List Int} {f : Int → Option Bool} {p : Int → Bool} (hl : l.length < 2 ^ 62) (hf : ∀ a ∈ l, f a = some (p a)) : M_I_areAll (l, f) = some (l.all p) := by
  unfold M_I_areAll
  dsimp only
  rw [containsFunc_eq (p := fun a => !p a) hl fun a ha => by simp [M_I_areAll_1, hf a ha], bindO_some']
  congr 1
  rw [List.any_eq_not_all_not]
  simp

/-- A product of residues. -/
def prodM (p : Int) : Int → List Int → Int
  | out, [] => out
  | out, x :: l => prodM p (out * x % p) l

/-- a over b. -/
def over (p q a b : Int) : Int := prodM p 1 [a, b ^ (q - 1).toNat % p]

theorem tCounts_eq (l : List Int) (hl : l.length < 2 ^ 62) : M_S_tCounts l = some (decide (1 ≤ l.length ∧ l.length ≤ 8) && l.all fun n => decide (0 ≤ n ∧ n ≤ 1000000)) := by
  unfold M_S_tCounts
  have e : decide (1 ≤ ((l.length : Nat) : Int) ∧ ((l.length : Nat) : Int) ≤ 8) = decide (1 ≤ l.length ∧ l.length ≤ 8) := by
    rw [decide_eq_decide]; omega
  simp only [in_eq, bindO_some', l1All_eq hl, e]
  cases decide (1 ≤ l.length ∧ l.length ≤ 8) <;> rfl

theorem areCounts_eq (l : List Int) (hl : l.length < 2 ^ 62) : M_I_areCounts l = some (decide (1 ≤ l.length ∧ l.length ≤ 8) && l.all fun n => decide (0 ≤ n ∧ n ≤ 1000000)) := by
  unfold M_I_areCounts
  have e : decide (1 ≤ ((l.length : Nat) : Int) ∧ ((l.length : Nat) : Int) ≤ 8) = decide (1 ≤ l.length ∧ l.length ≤ 8) := by
    rw [decide_eq_decide]; omega
  rw [within_eq, bindO_some', areAll_eq (p := fun n => decide (0 ≤ n ∧ n ≤ 1000000)) hl fun a _ => by simp [M_I_areCounts_1, within_eq], e]
  cases decide (1 ≤ l.length ∧ l.length ≤ 8) <;> rfl

theorem clone_eq {l : List Int} (hl : l.length ≤ 1048576) : M_slices_Clone_sint_int l = some l := by
  unfold M_slices_Clone_sint_int
  rw [guardO_of (lenOk_of (by simp; omega))]
  simp only [bindO_some', List.nil_append, Bool.not_true, cond_false]
  cases l with
  | nil => simp [ambO]
  | cons a l => rfl

/-- The place of k in a ranking; 8 if it has none. -/
def place : List Int → Nat → Int → Int
  | [], _, _ => 8
  | x :: r, i, k => bif x == k then (i : Int) else place r (i + 1) k

abbrev El := Int × Int × Int × Int

def e0 : El := (0, 0, 0, 0)

/-- a put at place j. -/
def putIn (l : List Int) (j : Nat) (a : Int) : List Int := l.take j ++ a :: l.drop j

theorem putIn_length {l : List Int} {j : Nat} {a : Int} (h : j ≤ l.length) : (putIn l j a).length = l.length + 1 := by
  simp only [putIn, List.length_append, List.length_take, List.length_cons, List.length_drop]
  omega

theorem putIn_perm (l : List Int) (j : Nat) (a : Int) : (putIn l j a).Perm (a :: l) := by
  unfold putIn
  refine List.perm_middle.trans (List.Perm.cons _ ?_)
  rw [List.take_append_drop]

theorem putIn_set {l : List Int} {j : Nat} {a b : Int} (h : j ≤ l.length) : (putIn l j a).set j b = putIn l j b := by
  unfold putIn
  rw [List.set_append_right _ _ (by rw [List.length_take]; omega), List.length_take, Nat.min_eq_left h, Nat.sub_self]
  rfl

theorem putIn_down {l : List Int} {j : Nat} {x : Int} (h : l[j]? = some x) : putIn l (j + 1) x = putIn l j x := by
  obtain ⟨hj, e⟩ := List.getElem?_eq_some_iff.1 h
  unfold putIn
  rw [List.take_add_one, h, List.drop_eq_getElem_cons hj, e]
  simp

theorem putIn_get {l : List Int} {j : Nat} {a x : Int} (h : l[j]? = some x) : (putIn l (j + 1) a)[j]? = some x := by
  have hj := (List.getElem?_eq_some_iff.1 h).1
  unfold putIn
  rw [List.getElem?_append_left (by rw [List.length_take]; omega), List.getElem?_take_of_lt (by omega)]
  exact h

theorem putIn_at {l : List Int} {j : Nat} {a : Int} (h : j ≤ l.length) : (putIn l j a)[j]? = some a := by
  unfold putIn
  rw [List.getElem?_append_right (by rw [List.length_take]; omega), List.length_take, Nat.min_eq_left h, Nat.sub_self]
  rfl

theorem i64_less {j : Nat} (h : j < 2 ^ 62) : IntKind.wrap .i64 (((j + 1 : Nat) : Int) - 1) = (j : Int) := by
  rw [i64_in _ (by omega)]
  omega

def voc (c : List Int) (i : Int) : Int := c.getD i.toNat 0

def bef (c : List Int) (a b : Int) : Prop := voc c b < voc c a ∨ (voc c b = voc c a ∧ a < b)

def ids (n : Nat) : List Int := (List.range n).map Nat.cast

theorem ids_length (n : Nat) : (ids n).length = n := by simp [ids]

theorem ids_get {n i : Nat} (h : i < n) : (ids n)[i]? = some (i : Int) := by simp [ids, List.getElem?_range h]

theorem ids_succ (n : Nat) : ids (n + 1) = ids n ++ [(n : Int)] := by simp [ids, List.range_succ]

theorem ids_mem {n : Nat} {x : Int} : x ∈ ids n ↔ 0 ≤ x ∧ x < n := by
  simp only [ids, List.mem_map, List.mem_range]
  constructor
  · rintro ⟨i, h, rfl⟩
    omega
  · intro h
    exact ⟨x.toNat, by omega, by omega⟩

theorem ids_take {n i : Nat} (h : i ≤ n) : (ids n).take i = ids i := by
  simp only [ids, ← List.map_take, List.take_range, Nat.min_eq_left h]

theorem bef_trans {c : List Int} {a b d : Int} (h1 : bef c a b) (h2 : bef c b d) : bef c a d := by
  unfold bef at *
  omega

theorem bef_antisymm {c : List Int} {a b : Int} (h1 : bef c a b) (h2 : bef c b a) : a = b := by
  unfold bef at *
  omega

/-- In order: a is put where those behind come after it, those before come before it. -/
theorem putIn_bef {c l : List Int} {j : Nat} {a : Int} (h : l.Pairwise (bef c)) (h1 : ∀ x ∈ l.drop j, bef c a x) (h2 : ∀ x ∈ l.take j, bef c x a) : (putIn l j a).Pairwise (bef c) := by
  unfold putIn
  refine List.pairwise_append.2 ⟨h.sublist (List.take_sublist _ _), List.pairwise_cons.2 ⟨fun b hb => h1 b hb, h.sublist (List.drop_sublist _ _)⟩, fun x hx y hy => ?_⟩
  rcases List.mem_cons.1 hy with e | e
  · subst e
    exact h2 x hx
  · exact bef_trans (h2 x hx) (h1 y e)

theorem compare_lt (a b : Int) : ∃ v, M_cmp_Compare_int (a, b) = some v ∧ decide (v < 0) = decide (a < b) := by
  unfold M_cmp_Compare_int M_cmp_isNaN_int
  simp only [bne_self_eq_false, bindO_some', cond_false]
  by_cases h : a < b
  · exact ⟨-1, by simp [h], by simp [h]⟩
  · by_cases h' : a > b
    · exact ⟨1, by simp [h, h'], by simp [h]⟩
    · exact ⟨0, by simp [h, h'], by simp [h]⟩

theorem voc_get {c : List Int} {i : Int} (h0 : 0 ≤ i) (h1 : i < c.length) : getI c i = some (voc c i) := by
  obtain ⟨k, rfl⟩ : ∃ k : Nat, i = (k : Int) := ⟨i.toNat, by omega⟩
  have hk : k < c.length := by omega
  rw [getI_nat, voc, Int.toNat_natCast, List.getD_eq_getElem?_getD, List.getElem?_eq_getElem hk]
  rfl

/-- What the sort compares with. -/
noncomputable def topF (c : List Int) : Int × Int → Option Int := fun a7 => bindO (M_I_TopOptions_1 (a7.1, (a7.2, c))) (fun (a8 : Int) => (some a8))

theorem topF_lt {c : List Int} {a b : Int} (ha : 0 ≤ a ∧ a < c.length) (hb : 0 ≤ b ∧ b < c.length) : ∃ v, topF c (a, b) = some v ∧ decide (v < 0) = decide (voc c b < voc c a) := by
  unfold topF M_I_TopOptions_1
  dsimp only
  rw [voc_get hb.1 hb.2, bindO_some', voc_get ha.1 ha.2, bindO_some']
  obtain ⟨v, h1, h2⟩ := compare_lt (voc c b) (voc c a)
  exact ⟨v, by rw [h1]; rfl, h2⟩

theorem ids_drop {n k : Nat} (h : k < n) : (ids n).drop k = (k : Int) :: (ids n).drop (k + 1) := by
  have hk : k < (ids n).length := by rw [ids_length]; exact h
  rw [List.drop_eq_getElem_cons hk]
  congr 1
  have := ids_get h
  rw [List.getElem?_eq_getElem hk] at this
  exact Option.some.inj this

theorem app_get {l m : List Int} {j : Nat} {x : Int} (h : l[j]? = some x) : (l ++ m)[j]? = some x := by
  rw [List.getElem?_append_left (List.getElem?_eq_some_iff.1 h).1]
  exact h

theorem app_set {l m : List Int} {j : Nat} {x : Int} (h : j < l.length) : (l ++ m).set j x = l.set j x ++ m := List.set_append_left _ _ h

def Ranked (c : List Int) (k : Nat) (st : List Int) : Prop := st.Pairwise (bef c) ∧ st.Perm (ids k)

theorem Ranked.put {c st : List Int} {k j : Nat} (h : Ranked c k st) (h1 : ∀ x ∈ st.drop j, bef c k x) (h2 : ∀ x ∈ st.take j, bef c x k) : Ranked c (k + 1) (putIn st j k) := by
  refine ⟨putIn_bef h.1 h1 h2, (putIn_perm _ _ _).trans ?_⟩
  rw [ids_succ]
  exact (List.Perm.cons _ h.2).trans (List.perm_append_singleton _ _).symm

theorem insSort_eq {c : List Int} {n : Nat} (hn : 1 ≤ n ∧ n ≤ 8) (hc : c.length = n) : ∃ st, M_slices_insertionSortCmpFunc_int (ids n, 0, (n : Int), topF c) = some st ∧ Ranked c n st := by
  unfold M_slices_insertionSortCmpFunc_int
  dsimp only
  rw [i64_in _ (by omega), bindO_some']
  refine loopO_ind (fun _ (r : Option (List Int)) => ∃ st, r = some st ∧ Ranked c n st) (fun s2 : Int × List Int => ∃ (k : Nat) (st : List Int), s2 = ((k : Int), st ++ (ids n).drop k) ∧ 1 ≤ k ∧ k ≤ n ∧ Ranked c k st) (fun s2 => ((n : Int) - s2.1).toNat) (fun again s2 hs ih => ?_) ⟨1, ids 1, ?_, Nat.le_refl _, hn.1, ?_, List.Perm.refl _⟩ ?_
  · obtain ⟨k, st, rfl, h1, hk, hst⟩ := hs
    dsimp only
    by_cases hkn : k < n
    · rw [lt_yes hkn, cond_true]
      have hlen : st.length = k := by rw [hst.2.length_eq, ids_length]
      have hmem : ∀ x ∈ st, 0 ≤ x ∧ x < k := fun x hx => ids_mem.1 (hst.2.mem_iff.1 hx)
      have hnext : ∀ jj, jj ≤ k → (∀ x ∈ st.drop jj, bef c k x) → (∀ x ∈ st.take jj, bef c x k) → ∃ st', bindO (some (IntKind.wrap .i64 ((k : Int) + 1))) (fun a18 => again (a18, putIn st jj k ++ (ids n).drop (k + 1))) = some st' ∧ Ranked c n st' := fun jj hjj g1 g2 => by
        rw [i64_succ (by omega), bindO_some']
        exact ih _ ⟨k + 1, _, rfl, by omega, hkn, hst.put g1 g2⟩ (by dsimp only; omega)
      refine loopO_ind (fun _ (r : Option (List Int)) => ∃ st, r = some st ∧ Ranked c n st) (fun s4 : Int × List Int => ∃ jj : Nat, s4 = ((jj : Int), putIn st jj k ++ (ids n).drop (k + 1)) ∧ jj ≤ k ∧ ∀ x ∈ st.drop jj, bef c k x) (fun s4 => s4.1.toNat) (fun again3 s4 hs4 ih3 => ?_) ⟨k, ?_, Nat.le_refl _, by rw [← hlen, List.drop_length]; intro x hx; cases hx⟩ (by show ((k : Nat) : Int).toNat < 2 ^ 64; omega)
      · obtain ⟨jj, rfl, hjk, hd⟩ := hs4
        dsimp only
        rcases jj with _ | j
        · rw [decide_eq_false (by omega), cond_false]
          exact hnext 0 (by omega) hd (by simp)
        · rw [decide_eq_true (by omega), cond_true]
          obtain ⟨y, hy⟩ : ∃ y, st[j]? = some y := ⟨_, List.getElem?_eq_getElem (by omega)⟩
          have hy0 := hmem y (List.mem_of_getElem? hy)
          have hpl : (putIn st (j + 1) (k : Int)).length = st.length + 1 := putIn_length (by omega)
          obtain ⟨v, v1, v2⟩ := topF_lt (c := c) (a := (k : Int)) (b := y) (by omega) (by omega)
          rw [getI_nat, app_get (putIn_at (by omega)), bindO_some', i64_less (by omega), bindO_some', getI_nat, app_get (putIn_get hy), bindO_some', v1, bindO_some', v2]
          by_cases hv : voc c y < voc c k
          · rw [decide_eq_true hv, cond_true, bindO_some', bindO_some', getI_nat, app_get (putIn_get hy), bindO_some', bindO_some', bindO_some', bindO_some', Int.toNat_natCast, app_set (by omega), putIn_set (by omega), putIn_down hy, getI_nat, app_get (putIn_at (by omega)), bindO_some', bindO_some', Int.toNat_natCast, app_set (by rw [putIn_length (by omega)]; omega), putIn_set (by omega), bindO_some']
            refine ih3 _ ⟨j, rfl, by omega, fun x hx => ?_⟩ (by show (j : Int).toNat < ((j + 1 : Nat) : Int).toNat; omega)
            have hjl := List.getElem?_eq_some_iff.1 hy
            rw [List.drop_eq_getElem_cons hjl.1, hjl.2] at hx
            rcases List.mem_cons.1 hx with e | e
            · subst e
              exact .inl hv
            · exact hd x e
          · rw [decide_eq_false hv, cond_false]
            refine hnext (j + 1) hjk hd fun x hx => ?_
            have hyk : bef c y k := by
              unfold bef
              omega
            rw [List.take_add_one, hy] at hx
            rcases List.mem_append.1 hx with e | e
            · have hjl := List.getElem?_eq_some_iff.1 hy
              have h2 := List.pairwise_append.1 (show (st.take j ++ st.drop j).Pairwise (bef c) from by rw [List.take_append_drop]; exact hst.1)
              exact bef_trans (h2.2.2 x e y (by rw [List.drop_eq_getElem_cons hjl.1, hjl.2]; exact List.mem_cons_self)) hyk
            · have e : x = y := by simpa using e
              rw [e]
              exact hyk
      · rw [ids_drop hkn]
        unfold putIn
        rw [← hlen, List.take_length, List.drop_length, List.append_assoc]
        rfl
    · have hkn : k = n := by omega
      subst hkn
      rw [lt_no, cond_false]
      refine ⟨_, rfl, ?_⟩
      rw [List.drop_eq_nil_of_le (by rw [ids_length]; exact Nat.le_refl _), List.append_nil]
      exact hst
  · have := List.take_append_drop 1 (ids n)
    rw [ids_take hn.1] at this
    rw [this]
    rfl
  · simp [ids, List.range_succ]
  · show ((n : Int) - (0 + 1)).toNat < 2 ^ 64
    omega

theorem stable_eq {c : List Int} {n : Nat} (hn : 1 ≤ n ∧ n ≤ 8) (hc : c.length = n) : ∃ st, M_slices_SortStableFunc_sint_int (ids n, topF c) = some st ∧ Ranked c n st := by
  obtain ⟨st, h1, h2⟩ := insSort_eq hn hc
  refine ⟨st, ?_, h2⟩
  unfold M_slices_SortStableFunc_sint_int M_slices_stableCmpFunc_int
  dsimp only
  rw [ids_length]
  rw [show ∀ x : Option (List Int), bindO x (fun a0 => some a0) = x from fun x => by cases x <;> rfl]
  refine loopO_spec (fun _ => some st) (fun s : Int × Int × List Int => s = (0, 20, ids n)) (fun _ => 0) (fun again s hs ih => ?_) rfl (by decide)
  subst hs
  dsimp only
  rw [decide_eq_false (by omega), cond_false, h1, bindO_some']
  refine loopO_spec (fun _ => some st) (fun s : Int × List Int => s = (20, st)) (fun _ => 0) (fun again s hs ih => ?_) rfl (by decide)
  subst hs
  dsimp only
  rw [decide_eq_false (by omega), cond_false]

theorem I_TopOptions_eq {c : List Int} {k : Int} (hl : c.length < 2 ^ 62) : ∃ r b, M_I_TopOptions (c, k) = some (r, b) ∧ r.length ≤ 8 ∧ M_S_TopOptions (c, k) = some (r, b) := by
  unfold M_I_TopOptions M_S_TopOptions
  dsimp only
  rw [areCounts_eq c hl, tCounts_eq c hl, bindO_some', bindO_some']
  cases hco : decide (1 ≤ c.length ∧ c.length ≤ 8) && c.all fun n => decide (0 ≤ n ∧ n ≤ 1000000)
  · exact ⟨[], false, rfl, by simp, rfl⟩
  rw [Bool.not_true, cond_false, cond_false, within_eq, in_eq, bindO_some', bindO_some']
  cases hk : decide (1 ≤ k ∧ k ≤ ((c.length : Nat) : Int))
  · exact ⟨[], false, rfl, by simp, rfl⟩
  rw [Bool.not_true, cond_false, cond_false]
  simp only [Bool.and_eq_true, decide_eq_true_eq] at hco hk
  obtain ⟨hn, -⟩ := hco
  obtain ⟨K, rfl⟩ : ∃ K : Nat, k = (K : Int) := ⟨k.toNat, by omega⟩
  obtain ⟨st, e1, e2, e3⟩ := stable_eq (c := c) hn rfl
  have hlen : st.length = c.length := by rw [e3.length_eq, ids_length]
  refine ⟨st.take K, true, ?_, by rw [List.length_take]; omega, ?_⟩
  · refine loopO_for (σ := Unit) (fun i _ => (ids i, (i : Int))) c.length (fun _ _ => some (st.take K, true)) (fun _ _ => True) (fun again _ _ => ?_) (fun again i _ hi _ ih => ?_) (by omega) (i := 0) (s := ()) (Nat.zero_le _) trivial
    · dsimp only
      rw [lt_no, cond_false, show M_slices_SortStableFunc_sint_int (ids c.length, fun a7 => bindO (M_I_TopOptions_1 (a7.1, a7.2, c)) fun a8 => some a8) = some st from e1, bindO_some', sliceNH_nat (by omega), bindO_some', clone_eq (by rw [List.length_take]; omega), bindO_some']
    · dsimp only
      rw [lt_yes hi, cond_true, guardO_of (lenOk_of (by rw [ids_length]; simp only [List.length_cons, List.length_nil]; omega)), bindO_some', bindO_some', i64_succ (by omega), bindO_some', ← ids_succ]
      exact ih () trivial
  · have hmem : ∀ x, x ∈ st ↔ 0 ≤ x ∧ x < c.length := fun x => e3.mem_iff.trans ids_mem
    have hnodup : ∀ {a b : Int}, bef c a b → a ≠ b := fun {a b} h => by
      unfold bef at h
      intro e
      subst e
      omega
    have htop : M_S_tTop (c, (K : Int)) = some (st.take K) := by
      unfold M_S_tTop
      dsimp only
      refine loopO_for (σ := Unit) (fun i _ => st.take i) K (fun _ _ => some (st.take K)) (fun _ _ => True) (fun again _ _ => ?_) (fun again i _ hi _ ih => ?_) (by omega) (i := 0) (s := ()) (Nat.zero_le _) trivial
      · rw [List.length_take, Nat.min_eq_left (by omega), lt_no, cond_false]
      · obtain ⟨y, hy⟩ : ∃ y, st[i]? = some y := ⟨_, List.getElem?_eq_getElem (by omega)⟩
        have hyl := List.getElem?_eq_some_iff.1 hy
        have hsplit : st.drop i = y :: st.drop (i + 1) := by rw [List.drop_eq_getElem_cons hyl.1, hyl.2]
        have hp := List.pairwise_append.1 (show (st.take i ++ st.drop i).Pairwise (bef c) from by rw [List.take_append_drop]; exact e2)
        have hp2 := List.pairwise_cons.1 (hsplit ▸ hp.2.1)
        have hyt : ¬ y ∈ st.take i := fun h => hnodup (hp.2.2 y h y (by rw [hsplit]; exact List.mem_cons_self)) rfl
        have htl : (st.take i).length = i := by rw [List.length_take]; omega
        rw [htl, lt_yes hi, cond_true]
        refine loopO_for (σ := Int) (fun j b => (b, (j : Int))) c.length (fun _ _ => some (st.take K)) (fun j b => (b = -1 ∧ ∀ x : Int, 0 ≤ x → x < j → x ∈ st.take i) ∨ (0 ≤ b ∧ b < j ∧ b ∉ st.take i ∧ ∀ x : Int, 0 ≤ x → x < j → x ∉ st.take i → x = b ∨ bef c b x)) (fun again2 b hb => ?_) (fun again2 j b hj hb ih2 => ?_) (by omega) (i := 0) (s := -1) (Nat.zero_le _) (.inl ⟨rfl, fun x h1 h2 => by omega⟩)
        · dsimp only
          have hby : b = y := by
            have hy0 := (hmem y).1 (List.mem_of_getElem? hy)
            rcases hb with ⟨rfl, hb⟩ | ⟨b0, b1, b2, b3⟩
            · exact absurd (hb y hy0.1 hy0.2) hyt
            · rcases b3 y hy0.1 hy0.2 hyt with e | e
              · exact e.symm
              · have hbs : b ∈ st := (hmem b).2 ⟨b0, b1⟩
                rw [← List.take_append_drop i st] at hbs
                rcases List.mem_append.1 hbs with h | h
                · exact absurd h b2
                · rw [hsplit] at h
                  rcases List.mem_cons.1 h with h | h
                  · exact h
                  · exact bef_antisymm e (hp2.1 b h)
          rw [lt_no, cond_false, guardO_of (lenOk_of (by simp only [List.length_cons, List.length_nil]; omega)), bindO_some', bindO_some', hby]
          have := ih () trivial
          rwa [List.take_add_one, hy] at this
        · dsimp only
          have hjg : getI c (j : Int) = some (voc c j) := voc_get (by omega) (by omega)
          rw [lt_yes hj, cond_true, hjg, bindO_some', has_eq (by omega), bindO_some', i64_succ (by omega)]
          cases hin : (st.take i).any (· == (j : Int))
          · have hjn : ¬ (j : Int) ∈ st.take i := fun h => by
              have : (st.take i).any (· == (j : Int)) = true := List.any_eq_true.2 ⟨_, h, by simp⟩
              rw [hin] at this
              cases this
            rw [Bool.not_false, cond_true]
            rcases hb with ⟨rfl, hb⟩ | ⟨b0, b1, b2, b3⟩
            · rw [decide_eq_true (by omega), cond_true, bindO_some']
              refine ih2 _ (.inr ⟨by omega, by omega, hjn, fun x h1 h2 h3 => ?_⟩)
              by_cases e : x < (j : Int)
              · exact absurd (hb x h1 e) h3
              · exact .inl (by omega)
            · rw [decide_eq_false (by omega), cond_false, voc_get b0 (by omega), bindO_some']
              by_cases hgt : voc c j > voc c b
              · rw [decide_eq_true hgt, cond_true, bindO_some']
                have hjb : bef c j b := .inl hgt
                refine ih2 _ (.inr ⟨by omega, by omega, hjn, fun x h1 h2 h3 => ?_⟩)
                by_cases e : x < (j : Int)
                · rcases b3 x h1 e h3 with e | e
                  · rw [e]; exact .inr hjb
                  · exact .inr (bef_trans hjb e)
                · exact .inl (by omega)
              · rw [decide_eq_false hgt, cond_false, bindO_some']
                refine ih2 _ (.inr ⟨b0, by omega, b2, fun x h1 h2 h3 => ?_⟩)
                by_cases e : x < (j : Int)
                · exact b3 x h1 e h3
                · have hxj : x = j := by omega
                  rw [hxj]
                  refine .inr ?_
                  unfold bef
                  omega
          · rw [Bool.not_true, cond_false, bindO_some']
            have hjm : (j : Int) ∈ st.take i := by
              obtain ⟨a, ha, hq⟩ := List.any_eq_true.1 hin
              have hq : a = (j : Int) := by simpa using hq
              rw [← hq]
              exact ha
            refine ih2 _ ?_
            rcases hb with ⟨rfl, hb⟩ | ⟨b0, b1, b2, b3⟩
            · refine .inl ⟨rfl, fun x h1 h2 => ?_⟩
              by_cases e : x < (j : Int)
              · exact hb x h1 e
              · rw [show x = j by omega]
                exact hjm
            · refine .inr ⟨b0, by omega, b2, fun x h1 h2 h3 => ?_⟩
              by_cases e : x < (j : Int)
              · exact b3 x h1 e h3
              · rw [show x = j by omega] at h3
                exact absurd hjm h3
    rw [htop, bindO_some']

theorem law_FnExactTopOptions (x : List Int × Int) : M_L_FnExactTopOptions x = some true := by
  obtain ⟨x, k⟩ := x
  unfold M_L_FnExactTopOptions
  dsimp only
  by_cases hl : x.length ≤ 1048576
  · have e0 : decide (((x.length : Nat) : Int) > 1048576) = false := by simp; omega
    rw [e0, cond_false]
    obtain ⟨r, b, h1, h2, h3⟩ := I_TopOptions_eq (c := x) (k := k) (by omega)
    have hr : r.length < 2 ^ 40 := by omega
    have hx : x.length < 2 ^ 40 := by omega
    simp [h3, toIntS_eq hl, h1, eqIntS_eq (show r.length < 2 ^ 62 by omega), eqIntS_eq (show x.length < 2 ^ 62 by omega), markIntS_eq hr, markIntS_eq hx, heldIntS_eq hr, one_nn]
  · have e0 : decide (((x.length : Nat) : Int) > 1048576) = true := by simp; omega
    rw [e0, cond_true]

end Go.Proofs.Ytgjneigkkgaaiaa.Vd
