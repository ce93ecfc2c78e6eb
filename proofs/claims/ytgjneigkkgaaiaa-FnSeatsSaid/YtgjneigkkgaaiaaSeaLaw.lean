/- The law FnSeats as plain functions on data returns true for all arguments. No conditions. -/
import Derived.Test.YtgjneigkkgaaiaaSeaMod
set_option linter.unusedVariables false
set_option linter.unusedSimpArgs false
set_option linter.unusedSectionVars false
set_option linter.unnecessarySimpa false
namespace Go.Proofs.Ytgjneigkkgaaiaa.Vd
open Go.IntWalk

theorem i64_succ {i : Nat} (h : i < 2 ^ 62) : IntKind.wrap .i64 ((i : Int) + 1) = ((i + 1 : Nat) : Int) := by
  rw [i64_in _ (by omega)]
  rfl

theorem lt_yes {i n : Nat} (h : i < n) : decide ((i : Int) < (n : Int)) = true := by simp [h]

theorem lt_no (n : Nat) : decide ((n : Int) < (n : Int)) = false := by simp

/-- A walk over a list by its numbers, with no other state. -/
def walk {α β : Type} (step : Nat → α → Option β → Option β) (fin : Option β) : Nat → List α → Option β
  | _, [] => fin
  | i, a :: r => step i a (walk step fin (i + 1) r)

theorem loop_walk {α β : Type} {body : (Int → Option β) → Int → Option β} (l : List α) (step : Nat → α → Option β → Option β) (fin : Option β)
    (h : ∀ (again : Int → Option β) (i : Nat) a, l[i]? = some a → i < l.length → body again (i : Int) = step i a (again ((i + 1 : Nat) : Int)))
    (hend : ∀ again : Int → Option β, body again (l.length : Int) = fin) (hl : l.length < 2 ^ 64) : loopO body 0 = walk step fin 0 l := by
  refine (loopO_for (σ := Unit) (fun i _ => (i : Int)) l.length (fun i _ => walk step fin i (l.drop i)) (fun _ _ => True) (fun again _ _ => ?_) (fun again i _ hi _ ih => ?_) hl (i := 0) (s := ()) (Nat.zero_le _) trivial).trans rfl
  · simp [hend, walk]
  · rw [h again i l[i] (List.getElem?_eq_getElem hi) hi, ih () trivial, List.drop_eq_getElem_cons hi, walk]

theorem walk_any {α : Type} (p : α → Bool) : ∀ (l : List α) (i : Nat), walk (fun _ a k => if p a = true then some true else k) (some false) i l = some (l.any p)
  | [], _ => rfl
  | a :: l, i => by
    rw [walk, walk_any p l]
    cases h : p a <;> simp [h]

theorem walk_all {α : Type} (p : α → Bool) : ∀ (l : List α) (i : Nat), walk (fun _ a k => if p a = true then k else some false) (some true) i l = some (l.all p)
  | [], _ => rfl
  | a :: l, i => by
    rw [walk, walk_all p l]
    cases h : p a <;> simp [h]

theorem has_eq {l : List Int} {n : Int} (hl : l.length < 2 ^ 62) : M_S_l1Has (l, n) = some (l.any (· == n)) := by
  unfold M_S_l1Has
  refine (loop_walk l (fun _ a k => if (a == n) = true then some true else k) (some false) (fun again i a ha hi => ?_) (fun again => ?_) (by omega)).trans (walk_any _ l 0)
  · simp only [getI_nat, ha, bindO_some', i64_succ (show i < 2 ^ 62 by omega)]
    cases h : a == n <;> simp [h, hi]
  · simp

theorem lenOk_of {n : Nat} (h : n ≤ 68719476736) : lenOk n = true := by simp [lenOk, lim_eq, h]

theorem sliceNH_nat {h n : Nat} (hh : h ≤ n) : sliceNH (h : Int) n = some (0, h) := by
  unfold sliceNH
  rw [if_pos ⟨by omega, by omega⟩]
  simp

/-- A loop whose states go down: a property of its answer. -/
theorem loopO_ind {σ β : Type} {body : (σ → Option β) → σ → Option β} (Q : σ → Option β → Prop) (Inv : σ → Prop) (μ : σ → Nat)
    (step : ∀ (again : σ → Option β) s, Inv s → (∀ s', Inv s' → μ s' < μ s → Q s' (again s')) → Q s (body again s)) {s : σ} (h0 : Inv s) (hm : μ s < 2 ^ 64) : Q s (loopO body s) := by
  rw [loopO_eq]
  have H : ∀ (n : Nat) (s : σ), Inv s → μ s < n → Q s (iter body n s) := by
    intro n
    induction n with
    | zero => intro s _ h; exact absurd h (Nat.not_lt_zero _)
    | succ n ih => intro s hs h; exact step _ s hs fun s' hs' h' => ih s' hs' (by omega)
  exact H many s h0 hm

/-- Two loops of the same steps have the same answer. -/
theorem loopO_eqv {σ τ β : Type} {b1 : (σ → Option β) → σ → Option β} {b2 : (τ → Option β) → τ → Option β} {s : σ} {t : τ} (R : σ → τ → Prop) (h0 : R s t)
    (step : ∀ (a1 : σ → Option β) (a2 : τ → Option β) s t, R s t → (∀ s' t', R s' t' → a1 s' = a2 t') → b1 a1 s = b2 a2 t) : loopO b1 s = loopO b2 t :=
  loopO_rel R (fun y z => y = z) rfl step h0

theorem in_eq (x a b : Int) : M_S_l1In (x, a, b) = some (decide (a ≤ x ∧ x ≤ b)) := by
  by_cases h : a ≤ x <;> by_cases h2 : x ≤ b <;> simp [M_S_l1In, h, h2]

theorem within_eq (x a b : Int) : M_I_within (x, a, b) = some (decide (a ≤ x ∧ x ≤ b)) := by
  by_cases h : a ≤ x <;> by_cases h2 : x ≤ b <;> simp [M_I_within, h, h2]

theorem l1All_eq {l : List Int} {lo hi : Int} (hl : l.length < 2 ^ 62) : M_S_l1All (l, lo, hi) = some (l.all fun n => decide (lo ≤ n ∧ n ≤ hi)) := by
  unfold M_S_l1All
  refine (loop_walk l (fun _ a k => if (decide (lo ≤ a ∧ a ≤ hi)) = true then k else some false) (some true) (fun again i a ha hi' => ?_) (fun again => ?_) (by omega)).trans (walk_all (fun n => decide (lo ≤ n ∧ n ≤ hi)) l 0)
  · simp only [getI_nat, ha, bindO_some', i64_succ (show i < 2 ^ 62 by omega), lt_yes hi', cond_true, in_eq]
    cases decide (lo ≤ a ∧ a ≤ hi) <;> rfl
  · simp

theorem walk_index_mem {α : Type} (p : α → Bool) (f : α → Option Bool) : ∀ (l : List α) (i : Nat), (∀ a ∈ l, f a = some (p a)) →
    ∃ j : Int, walk (fun i a k => bindO (f a) fun b => cond b (some (i : Int)) k) (some (-1)) i l = some j ∧ decide (j ≥ 0) = l.any p
  | [], _, _ => ⟨-1, rfl, rfl⟩
  | a :: l, i, hf => by
    obtain ⟨j, h1, h2⟩ := walk_index_mem p f l (i + 1) fun b hb => hf b (List.mem_cons_of_mem _ hb)
    have ha := hf a (List.mem_cons_self ..)
    cases h : p a
    · exact ⟨j, by simp [walk, ha, h, h1], by simp [h, h2]⟩
    · exact ⟨i, by simp [walk, ha, h], by simp [h]⟩

theorem containsFunc_eq {l : List Int} {f : Int → Option Bool} {p : Int → Bool} (hl : l.length < 2 ^ 62) (hf : ∀ a ∈ l, f a = some (p a)) : M_slices_ContainsFunc_sint_int (l, f) = some (l.any p) := by
  obtain ⟨j, h1, h2⟩ := walk_index_mem p f l 0 hf
  unfold M_slices_ContainsFunc_sint_int
  have : M_slices_IndexFunc_sint_int (l, f) = some j := by
    unfold M_slices_IndexFunc_sint_int
    refine (loop_walk l _ _ (fun again i a ha hi => ?_) (fun again => ?_) (by omega)).trans h1
    · simp only [getI_nat, ha, bindO_some', i64_succ (show i < 2 ^ 62 by omega), lt_yes hi, cond_true]
    · simp
  dsimp only
  rw [this, bindO_some', h2]

theorem areAll_eq {l : List Int} {f : Int → Option Bool} {p : Int → Bool} (hl : l.length < 2 ^ 62) (hf : ∀ a ∈ l, f a = some (p a)) : M_I_areAll (l, f) = some (l.all p) := by
  unfold M_I_areAll
  dsimp only
  rw [containsFunc_eq (p := fun a => !p a) hl fun a ha => by simp [M_I_areAll_1, hf a ha], bindO_some']
  congr 1
  rw [List.any_eq_not_all_not]
  simp

/-- A product of residues. -/
def prodM (p : Int) : Int → List Int → Int
  | out, [] => out
  | out, x :: l => prodM p (out * x % p) l

def hstep (c s k : Int) : Int := (c * s + k + 1) % 2147483647

/-- a over b. -/
def over (p q a b : Int) : Int := prodM p 1 [a, b ^ (q - 1).toNat % p]

theorem getI_ex {α : Type} {l : List α} {i : Int} (h0 : 0 ≤ i) (h : i < l.length) : ∃ a, getI l i = some a := by
  refine ⟨l[i.toNat]'(by omega), ?_⟩
  simp [getI, h0]

theorem tCounts_eq (l : List Int) (hl : l.length < 2 ^ 62) : M_S_tCounts l = some (decide (1 ≤ l.length ∧ l.length ≤ 8) && l.all fun n => decide (0 ≤ n ∧ n ≤ 1000000)) := by
  unfold M_S_tCounts
  have e : decide (1 ≤ ((l.length : Nat) : Int) ∧ ((l.length : Nat) : Int) ≤ 8) = decide (1 ≤ l.length ∧ l.length ≤ 8) := by
    rw [decide_eq_decide]; omega
  simp only [in_eq, bindO_some', l1All_eq hl, e]
  cases decide (1 ≤ l.length ∧ l.length ≤ 8) <;> rfl

theorem areCounts_eq (l : List Int) (hl : l.length < 2 ^ 62) : M_I_areCounts l = some (decide (1 ≤ l.length ∧ l.length ≤ 8) && l.all fun n => decide (0 ≤ n ∧ n ≤ 1000000)) := by
  unfold M_I_areCounts
  have e : decide (1 ≤ ((l.length : Nat) : Int) ∧ ((l.length : Nat) : Int) ≤ 8) = decide (1 ≤ l.length ∧ l.length ≤ 8) := by
    rw [decide_eq_decide]; omega
  rw [within_eq, bindO_some', areAll_eq (p := fun n => decide (0 ≤ n ∧ n ≤ 1000000)) hl fun a _ => by simp [M_I_areCounts_1, within_eq], e]
  cases decide (1 ≤ l.length ∧ l.length ≤ 8) <;> rfl

theorem DivisorSeats_same (l : List Int) (k : Int) (hl : l.length < 2 ^ 62) : M_I_DivisorSeats (l, k) = M_S_DivisorSeats (l, k) := by
  unfold M_I_DivisorSeats M_S_DivisorSeats
  dsimp only
  rw [areCounts_eq l hl, tCounts_eq l hl, within_eq, in_eq]
  simp only [bindO_some']
  cases hc : (decide (1 ≤ l.length ∧ l.length ≤ 8) && l.all fun n => decide (0 ≤ n ∧ n ≤ 1000000))
  · simp only [Bool.not_false, cond_true]
  · simp only [Bool.not_true, cond_false]
    by_cases hk : 1 ≤ k ∧ k ≤ 20
    · simp only [hk, and_self, decide_true, Bool.not_true, cond_false]
      refine congrArg (bindO _) (funext fun _ => ?_)
      refine loopO_eqv (fun (s t : Int × List Int) => 0 ≤ s.1 ∧ s.1 ≤ k ∧ t.1 = k - s.1 ∧ s.2 = t.2) ⟨by omega, by dsimp only; omega, by dsimp only; omega, rfl⟩ (fun a1 a2 s t hst ih => ?_)
      obtain ⟨s1, s2⟩ := s
      obtain ⟨t1, t2⟩ := t
      obtain ⟨h1, h2, h3, h4⟩ := hst
      dsimp only at h1 h2 h3 h4
      subst h4
      dsimp only
      have e : decide (s1 < k) = decide (t1 > 0) := by rw [decide_eq_decide]; omega
      rw [e]
      by_cases hp : t1 > 0
      · simp only [hp, decide_true, cond_true]
        refine loopO_eqv (fun s t => s = t) rfl (fun b1 b2 u v huv ih2 => ?_)
        subst huv
        have hb : b1 = b2 := funext fun z => ih2 z z rfl
        subst hb
        have hx : ∀ z : List Int, a1 (s1 + 1, z) = a2 (t1 - 1, z) := fun z => ih _ _ ⟨by dsimp only; omega, by dsimp only; omega, by dsimp only; omega, rfl⟩
        rw [i64_in (s1 + 1) (by omega), i64_in (t1 - 1) (by omega)]
        simp only [bindO_some', Int.add_comm (1 : Int), hx]
      · simp [hp]
    · simp only [hk, decide_false, Bool.not_false, cond_true]

theorem wrap_u64 {i : Nat} (h : i < 2 ^ 62) : IntKind.wrap .u64 ((i : Nat) : Int) = (i : Int) := u64_in _ (by omega)

theorem clone_eq {l : List Int} (hl : l.length ≤ 1048576) : M_slices_Clone_sint_int l = some l := by
  unfold M_slices_Clone_sint_int
  rw [guardO_of (lenOk_of (by simp; omega))]
  simp only [bindO_some', List.nil_append, Bool.not_true, cond_false]
  cases l with
  | nil => simp [ambO]
  | cons a l => rfl

/-- The place of k in a ranking; 8 if it has none. -/
def place : List Int → Nat → Int → Int
  | [], _, _ => 8
  | x :: r, i, k => bif x == k then (i : Int) else place r (i + 1) k

/-- a put at place j. -/
def putIn (l : List Int) (j : Nat) (a : Int) : List Int := l.take j ++ a :: l.drop j

theorem putIn_length {l : List Int} {j : Nat} {a : Int} (h : j ≤ l.length) : (putIn l j a).length = l.length + 1 := by
  simp only [putIn, List.length_append, List.length_take, List.length_cons, List.length_drop]
  omega

theorem putIn_perm (l : List Int) (j : Nat) (a : Int) : (putIn l j a).Perm (a :: l) := by
  unfold putIn
  refine List.perm_middle.trans (List.Perm.cons _ ?_)
  rw [List.take_append_drop]

theorem putIn_set {l : List Int} {j : Nat} {a b : Int} (h : j ≤ l.length) : (putIn l j a).set j b = putIn l j b := by
  unfold putIn
  rw [List.set_append_right _ _ (by rw [List.length_take]; omega), List.length_take, Nat.min_eq_left h, Nat.sub_self]
  rfl

theorem putIn_down {l : List Int} {j : Nat} {x : Int} (h : l[j]? = some x) : putIn l (j + 1) x = putIn l j x := by
  obtain ⟨hj, e⟩ := List.getElem?_eq_some_iff.1 h
  unfold putIn
  rw [List.take_add_one, h, List.drop_eq_getElem_cons hj, e]
  simp

theorem putIn_get {l : List Int} {j : Nat} {a x : Int} (h : l[j]? = some x) : (putIn l (j + 1) a)[j]? = some x := by
  have hj := (List.getElem?_eq_some_iff.1 h).1
  unfold putIn
  rw [List.getElem?_append_left (by rw [List.length_take]; omega), List.getElem?_take_of_lt (by omega)]
  exact h

theorem putIn_at {l : List Int} {j : Nat} {a : Int} (h : j ≤ l.length) : (putIn l j a)[j]? = some a := by
  unfold putIn
  rw [List.getElem?_append_right (by rw [List.length_take]; omega), List.length_take, Nat.min_eq_left h, Nat.sub_self]
  rfl

theorem i64_less {j : Nat} (h : j < 2 ^ 62) : IntKind.wrap .i64 (((j + 1 : Nat) : Int) - 1) = (j : Int) := by
  rw [i64_in _ (by omega)]
  omega

def voc (c : List Int) (i : Int) : Int := c.getD i.toNat 0

def bef (c : List Int) (a b : Int) : Prop := voc c b < voc c a ∨ (voc c b = voc c a ∧ a < b)

def ids (n : Nat) : List Int := (List.range n).map Nat.cast

theorem ids_length (n : Nat) : (ids n).length = n := by simp [ids]

theorem ids_get {n i : Nat} (h : i < n) : (ids n)[i]? = some (i : Int) := by simp [ids, List.getElem?_range h]

theorem ids_succ (n : Nat) : ids (n + 1) = ids n ++ [(n : Int)] := by simp [ids, List.range_succ]

theorem ids_mem {n : Nat} {x : Int} : x ∈ ids n ↔ 0 ≤ x ∧ x < n := by
  simp only [ids, List.mem_map, List.mem_range]
  constructor
  · rintro ⟨i, h, rfl⟩
    omega
  · intro h
    exact ⟨x.toNat, by omega, by omega⟩

theorem ids_take {n i : Nat} (h : i ≤ n) : (ids n).take i = ids i := by
  simp only [ids, ← List.map_take, List.take_range, Nat.min_eq_left h]

theorem bef_trans {c : List Int} {a b d : Int} (h1 : bef c a b) (h2 : bef c b d) : bef c a d := by
  unfold bef at *
  omega

theorem bef_antisymm {c : List Int} {a b : Int} (h1 : bef c a b) (h2 : bef c b a) : a = b := by
  unfold bef at *
  omega

/-- In order: a is put where those behind come after it, those before come before it. -/
theorem putIn_bef {c l : List Int} {j : Nat} {a : Int} (h : l.Pairwise (bef c)) (h1 : ∀ x ∈ l.drop j, bef c a x) (h2 : ∀ x ∈ l.take j, bef c x a) : (putIn l j a).Pairwise (bef c) := by
  unfold putIn
  refine List.pairwise_append.2 ⟨h.sublist (List.take_sublist _ _), List.pairwise_cons.2 ⟨fun b hb => h1 b hb, h.sublist (List.drop_sublist _ _)⟩, fun x hx y hy => ?_⟩
  rcases List.mem_cons.1 hy with e | e
  · subst e
    exact h2 x hx
  · exact bef_trans (h2 x hx) (h1 y e)

theorem compare_lt (a b : Int) : ∃ v, M_cmp_Compare_int (a, b) = some v ∧ decide (v < 0) = decide (a < b) := by
  unfold M_cmp_Compare_int M_cmp_isNaN_int
  simp only [bne_self_eq_false, bindO_some', cond_false]
  by_cases h : a < b
  · exact ⟨-1, by simp [h], by simp [h]⟩
  · by_cases h' : a > b
    · exact ⟨1, by simp [h, h'], by simp [h]⟩
    · exact ⟨0, by simp [h, h'], by simp [h]⟩

theorem voc_get {c : List Int} {i : Int} (h0 : 0 ≤ i) (h1 : i < c.length) : getI c i = some (voc c i) := by
  obtain ⟨k, rfl⟩ : ∃ k : Nat, i = (k : Int) := ⟨i.toNat, by omega⟩
  have hk : k < c.length := by omega
  rw [getI_nat, voc, Int.toNat_natCast, List.getD_eq_getElem?_getD, List.getElem?_eq_getElem hk]
  rfl

/-- What the sort compares with. -/
noncomputable def topF (c : List Int) : Int × Int → Option Int := fun a7 => bindO (M_I_TopOptions_1 (a7.1, (a7.2, c))) (fun (a8 : Int) => (some a8))

theorem topF_lt {c : List Int} {a b : Int} (ha : 0 ≤ a ∧ a < c.length) (hb : 0 ≤ b ∧ b < c.length) : ∃ v, topF c (a, b) = some v ∧ decide (v < 0) = decide (voc c b < voc c a) := by
  unfold topF M_I_TopOptions_1
  dsimp only
  rw [voc_get hb.1 hb.2, bindO_some', voc_get ha.1 ha.2, bindO_some']
  obtain ⟨v, h1, h2⟩ := compare_lt (voc c b) (voc c a)
  exact ⟨v, by rw [h1]; rfl, h2⟩

theorem ids_drop {n k : Nat} (h : k < n) : (ids n).drop k = (k : Int) :: (ids n).drop (k + 1) := by
  have hk : k < (ids n).length := by rw [ids_length]; exact h
  rw [List.drop_eq_getElem_cons hk]
  congr 1
  have := ids_get h
  rw [List.getElem?_eq_getElem hk] at this
  exact Option.some.inj this

theorem app_get {l m : List Int} {j : Nat} {x : Int} (h : l[j]? = some x) : (l ++ m)[j]? = some x := by
  rw [List.getElem?_append_left (List.getElem?_eq_some_iff.1 h).1]
  exact h

theorem app_set {l m : List Int} {j : Nat} {x : Int} (h : j < l.length) : (l ++ m).set j x = l.set j x ++ m := List.set_append_left _ _ h

def Ranked (c : List Int) (k : Nat) (st : List Int) : Prop := st.Pairwise (bef c) ∧ st.Perm (ids k)

theorem Ranked.put {c st : List Int} {k j : Nat} (h : Ranked c k st) (h1 : ∀ x ∈ st.drop j, bef c k x) (h2 : ∀ x ∈ st.take j, bef c x k) : Ranked c (k + 1) (putIn st j k) := by
  refine ⟨putIn_bef h.1 h1 h2, (putIn_perm _ _ _).trans ?_⟩
  rw [ids_succ]
  exact (List.Perm.cons _ h.2).trans (List.perm_append_singleton _ _).symm

theorem insSort_eq {c : List Int} {n : Nat} (hn : 1 ≤ n ∧ n ≤ 8) (hc : c.length = n) : ∃ st, M_slices_insertionSortCmpFunc_int (ids n, 0, (n : Int), topF c) = some st ∧ Ranked c n st := by
  unfold M_slices_insertionSortCmpFunc_int
  dsimp only
  rw [i64_in _ (by omega), bindO_some']
  refine loopO_ind (fun _ (r : Option (List Int)) => ∃ st, r = some st ∧ Ranked c n st) (fun s2 : Int × List Int => ∃ (k : Nat) (st : List Int), s2 = ((k : Int), st ++ (ids n).drop k) ∧ 1 ≤ k ∧ k ≤ n ∧ Ranked c k st) (fun s2 => ((n : Int) - s2.1).toNat) (fun again s2 hs ih => ?_) ⟨1, ids 1, ?_, Nat.le_refl _, hn.1, ?_, List.Perm.refl _⟩ ?_
  · obtain ⟨k, st, rfl, h1, hk, hst⟩ := hs
    dsimp only
    by_cases hkn : k < n
    · rw [lt_yes hkn, cond_true]
      have hlen : st.length = k := by rw [hst.2.length_eq, ids_length]
      have hmem : ∀ x ∈ st, 0 ≤ x ∧ x < k := fun x hx => ids_mem.1 (hst.2.mem_iff.1 hx)
      have hnext : ∀ jj, jj ≤ k → (∀ x ∈ st.drop jj, bef c k x) → (∀ x ∈ st.take jj, bef c x k) → ∃ st', bindO (some (IntKind.wrap .i64 ((k : Int) + 1))) (fun a18 => again (a18, putIn st jj k ++ (ids n).drop (k + 1))) = some st' ∧ Ranked c n st' := fun jj hjj g1 g2 => by
        rw [i64_succ (by omega), bindO_some']
        exact ih _ ⟨k + 1, _, rfl, by omega, hkn, hst.put g1 g2⟩ (by dsimp only; omega)
      refine loopO_ind (fun _ (r : Option (List Int)) => ∃ st, r = some st ∧ Ranked c n st) (fun s4 : Int × List Int => ∃ jj : Nat, s4 = ((jj : Int), putIn st jj k ++ (ids n).drop (k + 1)) ∧ jj ≤ k ∧ ∀ x ∈ st.drop jj, bef c k x) (fun s4 => s4.1.toNat) (fun again3 s4 hs4 ih3 => ?_) ⟨k, ?_, Nat.le_refl _, by rw [← hlen, List.drop_length]; intro x hx; cases hx⟩ (by show ((k : Nat) : Int).toNat < 2 ^ 64; omega)
      · obtain ⟨jj, rfl, hjk, hd⟩ := hs4
        dsimp only
        rcases jj with _ | j
        · rw [decide_eq_false (by omega), cond_false]
          exact hnext 0 (by omega) hd (by simp)
        · rw [decide_eq_true (by omega), cond_true]
          obtain ⟨y, hy⟩ : ∃ y, st[j]? = some y := ⟨_, List.getElem?_eq_getElem (by omega)⟩
          have hy0 := hmem y (List.mem_of_getElem? hy)
          have hpl : (putIn st (j + 1) (k : Int)).length = st.length + 1 := putIn_length (by omega)
          obtain ⟨v, v1, v2⟩ := topF_lt (c := c) (a := (k : Int)) (b := y) (by omega) (by omega)
          rw [getI_nat, app_get (putIn_at (by omega)), bindO_some', i64_less (by omega), bindO_some', getI_nat, app_get (putIn_get hy), bindO_some', v1, bindO_some', v2]
          by_cases hv : voc c y < voc c k
          · rw [decide_eq_true hv, cond_true, bindO_some', bindO_some', getI_nat, app_get (putIn_get hy), bindO_some', bindO_some', bindO_some', bindO_some', Int.toNat_natCast, app_set (by omega), putIn_set (by omega), putIn_down hy, getI_nat, app_get (putIn_at (by omega)), bindO_some', bindO_some', Int.toNat_natCast, app_set (by rw [putIn_length (by omega)]; omega), putIn_set (by omega), bindO_some']
            refine ih3 _ ⟨j, rfl, by omega, fun x hx => ?_⟩ (by show (j : Int).toNat < ((j + 1 : Nat) : Int).toNat; omega)
            have hjl := List.getElem?_eq_some_iff.1 hy
            rw [List.drop_eq_getElem_cons hjl.1, hjl.2] at hx
            rcases List.mem_cons.1 hx with e | e
            · subst e
              exact .inl hv
            · exact hd x e
          · rw [decide_eq_false hv, cond_false]
            refine hnext (j + 1) hjk hd fun x hx => ?_
            have hyk : bef c y k := by
              unfold bef
              omega
            rw [List.take_add_one, hy] at hx
            rcases List.mem_append.1 hx with e | e
            · have hjl := List.getElem?_eq_some_iff.1 hy
              have h2 := List.pairwise_append.1 (show (st.take j ++ st.drop j).Pairwise (bef c) from by rw [List.take_append_drop]; exact hst.1)
              exact bef_trans (h2.2.2 x e y (by rw [List.drop_eq_getElem_cons hjl.1, hjl.2]; exact List.mem_cons_self)) hyk
            · have e : x = y := by simpa using e
              rw [e]
              exact hyk
      · rw [ids_drop hkn]
        unfold putIn
        rw [← hlen, List.take_length, List.drop_length, List.append_assoc]
        rfl
    · have hkn : k = n := by omega
      subst hkn
      rw [lt_no, cond_false]
      refine ⟨_, rfl, ?_⟩
      rw [List.drop_eq_nil_of_le (by rw [ids_length]; exact Nat.le_refl _), List.append_nil]
      exact hst
  · have := List.take_append_drop 1 (ids n)
    rw [ids_take hn.1] at this
    rw [this]
    rfl
  · simp [ids, List.range_succ]
  · show ((n : Int) - (0 + 1)).toNat < 2 ^ 64
    omega

theorem stable_eq {c : List Int} {n : Nat} (hn : 1 ≤ n ∧ n ≤ 8) (hc : c.length = n) : ∃ st, M_slices_SortStableFunc_sint_int (ids n, topF c) = some st ∧ Ranked c n st := by
  obtain ⟨st, h1, h2⟩ := insSort_eq hn hc
  refine ⟨st, ?_, h2⟩
  unfold M_slices_SortStableFunc_sint_int M_slices_stableCmpFunc_int
  dsimp only
  rw [ids_length]
  rw [show ∀ x : Option (List Int), bindO x (fun a0 => some a0) = x from fun x => by cases x <;> rfl]
  refine loopO_spec (fun _ => some st) (fun s : Int × Int × List Int => s = (0, 20, ids n)) (fun _ => 0) (fun again s hs ih => ?_) rfl (by decide)
  subst hs
  dsimp only
  rw [decide_eq_false (by omega), cond_false, h1, bindO_some']
  refine loopO_spec (fun _ => some st) (fun s : Int × List Int => s = (20, st)) (fun _ => 0) (fun again s hs ih => ?_) rfl (by decide)
  subst hs
  dsimp only
  rw [decide_eq_false (by omega), cond_false]

theorem I_TopOptions_eq {c : List Int} {k : Int} (hl : c.length < 2 ^ 62) : ∃ r b, M_I_TopOptions (c, k) = some (r, b) ∧ r.length ≤ 8 ∧ M_S_TopOptions (c, k) = some (r, b) ∧ (b = false → r = []) ∧ (b = true → (r.length : Int) = k ∧ r.Pairwise (bef c) ∧ ∀ x ∈ r, 0 ≤ x ∧ x < c.length) := by
  unfold M_I_TopOptions M_S_TopOptions
  dsimp only
  rw [areCounts_eq c hl, tCounts_eq c hl, bindO_some', bindO_some']
  cases hco : decide (1 ≤ c.length ∧ c.length ≤ 8) && c.all fun n => decide (0 ≤ n ∧ n ≤ 1000000)
  · exact ⟨[], false, rfl, by simp, rfl, fun _ => rfl, fun h => by cases h⟩
  rw [Bool.not_true, cond_false, cond_false, within_eq, in_eq, bindO_some', bindO_some']
  cases hk : decide (1 ≤ k ∧ k ≤ ((c.length : Nat) : Int))
  · exact ⟨[], false, rfl, by simp, rfl, fun _ => rfl, fun h => by cases h⟩
  rw [Bool.not_true, cond_false, cond_false]
  simp only [Bool.and_eq_true, decide_eq_true_eq] at hco hk
  obtain ⟨hn, -⟩ := hco
  obtain ⟨K, rfl⟩ : ∃ K : Nat, k = (K : Int) := ⟨k.toNat, by omega⟩
  obtain ⟨st, e1, e2, e3⟩ := stable_eq (c := c) hn rfl
  have hlen : st.length = c.length := by rw [e3.length_eq, ids_length]
  refine ⟨st.take K, true, ?_, by rw [List.length_take]; omega, ?_, fun h => (by cases h), fun _ => ⟨by rw [List.length_take]; omega, e2.sublist (List.take_sublist _ _), fun x hx => ids_mem.1 (e3.mem_iff.1 (List.mem_of_mem_take hx))⟩⟩
  · refine loopO_for (σ := Unit) (fun i _ => (ids i, (i : Int))) c.length (fun _ _ => some (st.take K, true)) (fun _ _ => True) (fun again _ _ => ?_) (fun again i _ hi _ ih => ?_) (by omega) (i := 0) (s := ()) (Nat.zero_le _) trivial
    · dsimp only
      rw [lt_no, cond_false, show M_slices_SortStableFunc_sint_int (ids c.length, fun a7 => bindO (M_I_TopOptions_1 (a7.1, a7.2, c)) fun a8 => some a8) = some st from e1, bindO_some', sliceNH_nat (by omega), bindO_some', clone_eq (by rw [List.length_take]; omega), bindO_some']
    · dsimp only
      rw [lt_yes hi, cond_true, guardO_of (lenOk_of (by rw [ids_length]; simp only [List.length_cons, List.length_nil]; omega)), bindO_some', bindO_some', i64_succ (by omega), bindO_some', ← ids_succ]
      exact ih () trivial
  · have hmem : ∀ x, x ∈ st ↔ 0 ≤ x ∧ x < c.length := fun x => e3.mem_iff.trans ids_mem
    have hnodup : ∀ {a b : Int}, bef c a b → a ≠ b := fun {a b} h => by
      unfold bef at h
      intro e
      subst e
      omega
    have htop : M_S_tTop (c, (K : Int)) = some (st.take K) := by
      unfold M_S_tTop
      dsimp only
      refine loopO_for (σ := Unit) (fun i _ => st.take i) K (fun _ _ => some (st.take K)) (fun _ _ => True) (fun again _ _ => ?_) (fun again i _ hi _ ih => ?_) (by omega) (i := 0) (s := ()) (Nat.zero_le _) trivial
      · rw [List.length_take, Nat.min_eq_left (by omega), lt_no, cond_false]
      · obtain ⟨y, hy⟩ : ∃ y, st[i]? = some y := ⟨_, List.getElem?_eq_getElem (by omega)⟩
        have hyl := List.getElem?_eq_some_iff.1 hy
        have hsplit : st.drop i = y :: st.drop (i + 1) := by rw [List.drop_eq_getElem_cons hyl.1, hyl.2]
        have hp := List.pairwise_append.1 (show (st.take i ++ st.drop i).Pairwise (bef c) from by rw [List.take_append_drop]; exact e2)
        have hp2 := List.pairwise_cons.1 (hsplit ▸ hp.2.1)
        have hyt : ¬ y ∈ st.take i := fun h => hnodup (hp.2.2 y h y (by rw [hsplit]; exact List.mem_cons_self)) rfl
        have htl : (st.take i).length = i := by rw [List.length_take]; omega
        rw [htl, lt_yes hi, cond_true]
        refine loopO_for (σ := Int) (fun j b => (b, (j : Int))) c.length (fun _ _ => some (st.take K)) (fun j b => (b = -1 ∧ ∀ x : Int, 0 ≤ x → x < j → x ∈ st.take i) ∨ (0 ≤ b ∧ b < j ∧ b ∉ st.take i ∧ ∀ x : Int, 0 ≤ x → x < j → x ∉ st.take i → x = b ∨ bef c b x)) (fun again2 b hb => ?_) (fun again2 j b hj hb ih2 => ?_) (by omega) (i := 0) (s := -1) (Nat.zero_le _) (.inl ⟨rfl, fun x h1 h2 => by omega⟩)
        · dsimp only
          have hby : b = y := by
            have hy0 := (hmem y).1 (List.mem_of_getElem? hy)
            rcases hb with ⟨rfl, hb⟩ | ⟨b0, b1, b2, b3⟩
            · exact absurd (hb y hy0.1 hy0.2) hyt
            · rcases b3 y hy0.1 hy0.2 hyt with e | e
              · exact e.symm
              · have hbs : b ∈ st := (hmem b).2 ⟨b0, b1⟩
                rw [← List.take_append_drop i st] at hbs
                rcases List.mem_append.1 hbs with h | h
                · exact absurd h b2
                · rw [hsplit] at h
                  rcases List.mem_cons.1 h with h | h
                  · exact h
                  · exact bef_antisymm e (hp2.1 b h)
          rw [lt_no, cond_false, guardO_of (lenOk_of (by simp only [List.length_cons, List.length_nil]; omega)), bindO_some', bindO_some', hby]
          have := ih () trivial
          rwa [List.take_add_one, hy] at this
        · dsimp only
          have hjg : getI c (j : Int) = some (voc c j) := voc_get (by omega) (by omega)
          rw [lt_yes hj, cond_true, hjg, bindO_some', has_eq (by omega), bindO_some', i64_succ (by omega)]
          cases hin : (st.take i).any (· == (j : Int))
          · have hjn : ¬ (j : Int) ∈ st.take i := fun h => by
              have : (st.take i).any (· == (j : Int)) = true := List.any_eq_true.2 ⟨_, h, by simp⟩
              rw [hin] at this
              cases this
            rw [Bool.not_false, cond_true]
            rcases hb with ⟨rfl, hb⟩ | ⟨b0, b1, b2, b3⟩
            · rw [decide_eq_true (by omega), cond_true, bindO_some']
              refine ih2 _ (.inr ⟨by omega, by omega, hjn, fun x h1 h2 h3 => ?_⟩)
              by_cases e : x < (j : Int)
              · exact absurd (hb x h1 e) h3
              · exact .inl (by omega)
            · rw [decide_eq_false (by omega), cond_false, voc_get b0 (by omega), bindO_some']
              by_cases hgt : voc c j > voc c b
              · rw [decide_eq_true hgt, cond_true, bindO_some']
                have hjb : bef c j b := .inl hgt
                refine ih2 _ (.inr ⟨by omega, by omega, hjn, fun x h1 h2 h3 => ?_⟩)
                by_cases e : x < (j : Int)
                · rcases b3 x h1 e h3 with e | e
                  · rw [e]; exact .inr hjb
                  · exact .inr (bef_trans hjb e)
                · exact .inl (by omega)
              · rw [decide_eq_false hgt, cond_false, bindO_some']
                refine ih2 _ (.inr ⟨b0, by omega, b2, fun x h1 h2 h3 => ?_⟩)
                by_cases e : x < (j : Int)
                · exact b3 x h1 e h3
                · have hxj : x = j := by omega
                  rw [hxj]
                  refine .inr ?_
                  unfold bef
                  omega
          · rw [Bool.not_true, cond_false, bindO_some']
            have hjm : (j : Int) ∈ st.take i := by
              obtain ⟨a, ha, hq⟩ := List.any_eq_true.1 hin
              have hq : a = (j : Int) := by simpa using hq
              rw [← hq]
              exact ha
            refine ih2 _ ?_
            rcases hb with ⟨rfl, hb⟩ | ⟨b0, b1, b2, b3⟩
            · refine .inl ⟨rfl, fun x h1 h2 => ?_⟩
              by_cases e : x < (j : Int)
              · exact hb x h1 e
              · rw [show x = j by omega]
                exact hjm
            · refine .inr ⟨b0, by omega, b2, fun x h1 h2 h3 => ?_⟩
              by_cases e : x < (j : Int)
              · exact b3 x h1 e h3
              · rw [show x = j by omega] at h3
                exact absurd hjm h3
    rw [htop, bindO_some']

theorem bits_255 (x : Int) : 0 ≤ Vd.bits .and .u64 x 255 ∧ Vd.bits .and .u64 x 255 ≤ 255 := by
  have h : (BitVec.ofInt (IntKind.bits .u64) x &&& BitVec.ofInt (IntKind.bits .u64) 255).toNat ≤ 255 := by
    rw [BitVec.toNat_and]
    exact Nat.le_trans Nat.and_le_right (by decide)
  show 0 ≤ IntKind.wrap .u64 ((BitVec.ofInt (IntKind.bits .u64) x &&& BitVec.ofInt (IntKind.bits .u64) 255).toNat : Int) ∧ IntKind.wrap .u64 ((BitVec.ofInt (IntKind.bits .u64) x &&& BitVec.ofInt (IntKind.bits .u64) 255).toNat : Int) ≤ 255
  generalize (BitVec.ofInt (IntKind.bits .u64) x &&& BitVec.ofInt (IntKind.bits .u64) 255).toNat = n at h ⊢
  rw [wrap_u64 (by omega)]
  omega

def Bytes (code : List Int) : Prop := ∀ a ∈ code, 0 ≤ a ∧ a ≤ 255

theorem next_ok {code : List Int} {pos seed : Int} (hb : Bytes code) (h0 : 0 ≤ pos) (h1 : pos ≤ 2 ^ 40) : ∃ v seed', M_S_l1Cur_next (code, pos, seed) = some (v, code, pos + 1, seed') ∧ 0 ≤ v ∧ v ≤ 255 := by
  obtain ⟨k, rfl⟩ : ∃ k : Nat, pos = (k : Int) := ⟨pos.toNat, by omega⟩
  unfold M_S_l1Cur_next
  dsimp only
  by_cases hl : k < code.length
  · have hg := List.getElem?_eq_getElem hl
    have ha := hb _ (List.getElem_mem hl)
    rw [lt_yes hl, cond_true, getI_nat, hg, bindO_some', i64_in ((k : Int) + 1) (by omega), bindO_some', bindO_some', bindO_some', bindO_some', decide_eq_true (show (k : Int) + 1 ≤ ((code.length : Nat) : Int) by omega), cond_true, i64_in code[k] (by omega)]
    exact ⟨_, _, rfl, ha.1, ha.2⟩
  · rw [decide_eq_false (show ¬ (k : Int) < ((code.length : Nat) : Int) by omega), cond_false, i64_in ((k : Int) + 1) (by omega), bindO_some', bindO_some', bindO_some', bindO_some', decide_eq_false (show ¬ (k : Int) + 1 ≤ ((code.length : Nat) : Int) by omega), cond_false, guardO_of (by decide), bindO_some', bindO_some', bindO_some']
    have hx := bits_255 (shr .u64 (IntKind.wrap .u64 (IntKind.wrap .u64 (IntKind.wrap .u64 (seed * 6364136223846793005) + IntKind.wrap .u64 0) + 1442695040888963407)) 40)
    rw [i64_in _ (by omega)]
    exact ⟨_, _, rfl, hx.1, hx.2⟩

theorem pick_ok {code : List Int} {pos seed n : Int} (hb : Bytes code) (h0 : 0 ≤ pos) (h1 : pos ≤ 2 ^ 39) (hn : n ≤ 2 ^ 40) : ∃ v pos' seed', M_S_l1Cur_pick ((code, pos, seed), n) = some (v, code, pos', seed') ∧ 0 ≤ v ∧ v ≤ 65535 ∧ (n ≤ 1 → v = 0) ∧ (1 < n → v < n) ∧ pos ≤ pos' ∧ pos' ≤ pos + 2 := by
  unfold M_S_l1Cur_pick
  dsimp only
  by_cases hn1 : n ≤ 1
  · rw [decide_eq_true hn1, cond_true]
    exact ⟨_, _, _, rfl, by omega, by omega, fun _ => rfl, fun h => by omega, by omega, by omega⟩
  have hg0 : guardO (n != 0) = some () := guardO_of (bne_iff_ne.2 (by omega))
  obtain ⟨v, s1, e1, v1, v2⟩ := next_ok (seed := seed) hb h0 (by omega)
  rw [decide_eq_false hn1, cond_false, e1, bindO_some']
  dsimp only
  by_cases h2 : n > 200
  · obtain ⟨w, s2, e2, w1, w2⟩ := next_ok (seed := s1) hb (show 0 ≤ pos + 1 by omega) (by omega)
    rw [decide_eq_true h2, cond_true, i64_in _ (by omega), bindO_some', e2, bindO_some']
    dsimp only
    rw [i64_in _ (by omega), bindO_some', hg0, bindO_some', tmod_nn (by omega), bindO_some']
    have r1 := Int.emod_nonneg (v * 256 + w) (show n ≠ 0 by omega)
    have r2 := Int.emod_lt_of_pos (v * 256 + w) (show 0 < n by omega)
    have r3 : (v * 256 + w) % n ≤ v * 256 + w := by
      by_cases hlt : v * 256 + w < n
      · rw [Int.emod_eq_of_lt (by omega) hlt]
        exact Int.le_refl _
      · omega
    exact ⟨_, _, _, rfl, r1, by omega, fun h => by omega, fun _ => r2, by omega, by omega⟩
  · rw [decide_eq_false h2, cond_false, hg0, bindO_some', tmod_nn v1, bindO_some']
    have r1 := Int.emod_nonneg v (show n ≠ 0 by omega)
    have r2 := Int.emod_lt_of_pos v (show 0 < n by omega)
    exact ⟨_, _, _, rfl, r1, by omega, fun h => by omega, fun _ => r2, by omega, by omega⟩

theorem among_ok {code l : List Int} {pos seed : Int} (hb : Bytes code) (h0 : 0 ≤ pos) (h1 : pos ≤ 2 ^ 39) (hl : 1 ≤ l.length ∧ l.length ≤ 1000) : ∃ v pos' seed', M_S_l1Cur_among ((code, pos, seed), l) = some (v, code, pos', seed') ∧ v ∈ l ∧ pos ≤ pos' ∧ pos' ≤ pos + 2 := by
  obtain ⟨v, p, s, e, h2, -, h5, h6, h3, h4⟩ := pick_ok (seed := seed) (n := (l.length : Int)) hb h0 h1 (by omega)
  obtain ⟨k, rfl⟩ : ∃ k : Nat, v = (k : Int) := ⟨v.toNat, by omega⟩
  have hk : k < l.length := by omega
  refine ⟨l[k], p, s, ?_, List.getElem_mem hk, h3, h4⟩
  unfold M_S_l1Cur_among
  dsimp only
  rw [e, bindO_some']
  dsimp only
  rw [getI_nat, List.getElem?_eq_getElem hk, bindO_some']

theorem wf_u8 {code : List Int} (h : WF (.sl (.int .u8)) code) : Bytes code := fun a ha => by
  have h1 : IntKind.u8.min ≤ a ∧ a ≤ IntKind.u8.max := h.2 a ha
  have e1 : IntKind.u8.min = 0 := by decide
  have e2 : IntKind.u8.max = 255 := by decide
  omega

theorem qInts_eq {a : List Int} (h : a.length < 2 ^ 62) : M_L_qInts (a, a) = some true := by
  unfold M_L_qInts
  dsimp only
  rw [bne_self_eq_false, cond_false]
  refine loopO_for (σ := Unit) (fun i _ => (i : Int)) a.length (fun _ _ => some true) (fun _ _ => True) (fun again _ _ => ?_) (fun again i _ hi _ ih => ?_) (by omega) (i := 0) (s := ()) (Nat.zero_le _) trivial
  · rw [lt_no, cond_false]
  · have hg := List.getElem?_eq_getElem hi
    rw [lt_yes hi, cond_true, getI_nat, hg, bindO_some', bindO_some', bne_self_eq_false, cond_false, i64_succ (by omega), bindO_some']
    exact ih () trivial

/-- A loop that counts, to a given end. -/
theorem loopO_to {τ β : Type} {body : (τ → Option β) → τ → Option β} (enc : Nat → τ) (N : Nat) (r : Option β) (hN : N < 2 ^ 62)
    (hend : ∀ again : τ → Option β, body again (enc N) = r) (hin : ∀ (again : τ → Option β) (i : Nat), i < N → again (enc (i + 1)) = r → body again (enc i) = r) : loopO body (enc 0) = r :=
  loopO_for (body := body) (σ := Unit) (fun i _ => enc i) N (fun _ _ => r) (fun _ _ => True) (fun again _ _ => hend again) (fun again i _ hi _ ih => hin again i hi (ih () trivial)) (by omega) (i := 0) (s := ()) (Nat.zero_le _) trivial

theorem bind_to {α β : Type} {m : Option α} {v : α} {f : α → Option β} {r : Option β} (h : m = some v) (h2 : f v = r) : bindO m f = r := by
  rw [h]
  exact h2

theorem yes_to {β : Type} {c : Bool} {a b r : Option β} (h : c = true) (h2 : a = r) : cond c a b = r := by
  rw [h]
  exact h2

theorem no_to {β : Type} {c : Bool} {a b r : Option β} (h : c = false) (h2 : b = r) : cond c a b = r := by
  rw [h]
  exact h2

theorem take_snoc {α : Type} {x : List α} {i : Nat} (hi : i < x.length) : x.take (i + 1) = x.take i ++ [x[i]] := by
  rw [List.take_add_one, List.getElem?_eq_getElem hi]
  rfl

theorem sum_set1 : ∀ (l : List Int) (i : Nat), i < l.length → (l.set i (l.getD i 0 + 1)).sum = l.sum + 1
  | [], _, h => by simp at h
  | a :: l, 0, _ => by
    simp only [List.set_cons_zero, List.getD_cons_zero, List.sum_cons]
    omega
  | a :: l, i + 1, h => by
    have := sum_set1 l i (by simpa using h)
    simp only [List.set_cons_succ, List.getD_cons_succ, List.sum_cons, this]
    omega

theorem sum_zero (n : Nat) : (List.replicate n (0 : Int)).sum = 0 := by
  induction n with
  | zero => rfl
  | succ n ih => rw [List.replicate_succ, List.sum_cons, ih]; rfl

theorem sum_app (a b : List Int) : (a ++ b).sum = a.sum + b.sum := by
  induction a with
  | nil => simp
  | cons x a ih => simp only [List.cons_append, List.sum_cons, ih]; omega

theorem getD_set1 {l : List Int} {i j : Nat} {v : Int} (hi : i < l.length) : (l.set i v).getD j 0 = if j = i then v else l.getD j 0 := by
  rw [List.getD_eq_getElem?_getD, List.getElem?_set, List.getD_eq_getElem?_getD]
  by_cases h : i = j
  · subst h
    simp [hi]
  · rw [if_neg h, if_neg (fun e => h e.symm)]

theorem getI_getD {l : List Int} {i : Nat} (h : i < l.length) : getI l (i : Int) = some (l.getD i 0) := by
  rw [getI_nat, List.getD_eq_getElem?_getD, List.getElem?_eq_getElem h]
  rfl

/-- One is next: no other has a greater quotient. -/
theorem cross_le {a b c d e f : Int} (hb : 0 < b) (hd : 0 < d) (hf : 0 < f) (h1 : a * d ≤ c * b) (h2 : c * f < e * d) : a * f ≤ e * b := by
  -- a / b <= c / d < e / f
  have g1 : a * d * f ≤ c * b * f := Int.mul_le_mul_of_nonneg_right h1 (Int.le_of_lt hf)
  have g2 : c * f * b ≤ e * d * b := Int.mul_le_mul_of_nonneg_right (Int.le_of_lt h2) (Int.le_of_lt hb)
  have g3 : a * f * d ≤ e * b * d := by
    rw [show a * f * d = a * d * f by rw [Int.mul_assoc, Int.mul_comm f d, ← Int.mul_assoc], show e * b * d = e * d * b by rw [Int.mul_assoc, Int.mul_comm b d, ← Int.mul_assoc]]
    refine Int.le_trans g1 ?_
    rw [show c * b * f = c * f * b by rw [Int.mul_assoc, Int.mul_comm b f, ← Int.mul_assoc]]
    exact g2
  exact Int.le_of_mul_le_mul_right g3 hd

theorem prod_ok {a b : Int} (ha : 0 ≤ a ∧ a ≤ 1000000) (hb : 0 ≤ b ∧ b ≤ 100) : IntKind.wrap .i64 (a * b) = a * b := by
  have h1 : 0 ≤ a * b := Int.mul_nonneg ha.1 hb.1
  have h2 : a * b ≤ 1000000 * 100 := Int.le_trans (Int.mul_le_mul_of_nonneg_right ha.2 hb.1) (Int.mul_le_mul_of_nonneg_left hb.2 (by decide))
  exact i64_in _ (by omega)

/-- More votes, no fewer seats. -/
def Fair (l out : List Int) : Prop := ∀ i j : Nat, i < l.length → j < l.length → l.getD j 0 < l.getD i 0 → out.getD j 0 ≤ out.getD i 0

theorem fair_step {l out : List Int} {b : Nat} (hl : out.length = l.length) (hb : b < l.length) (hf : Fair l out) (h0 : ∀ i : Nat, i < l.length → 0 ≤ out.getD i 0)
    (hbest : ∀ i : Nat, i < l.length → l.getD i 0 * (out.getD b 0 + 1) ≤ l.getD b 0 * (out.getD i 0 + 1)) : Fair l (out.set b (out.getD b 0 + 1)) := by
  intro i j hi hj hlt
  rw [getD_set1 (by omega), getD_set1 (by omega)]
  have h1 := hf i j hi hj hlt
  by_cases ej : j = b
  · subst ej
    by_cases ei : i = j
    · subst ei
      exact absurd hlt (Int.lt_irrefl _)
    · rw [if_pos rfl, if_neg ei]
      refine Int.lt_iff_add_one_le.1 ((Int.lt_or_le (out.getD j 0) (out.getD i 0)).resolve_right fun h2 => ?_)
      have h3 := hbest i hi
      have e : out.getD i 0 = out.getD j 0 := by omega
      rw [e] at h3
      have := Int.le_of_mul_le_mul_right h3 (by have := h0 j hj; omega)
      omega
  · rw [if_neg ej]
    by_cases ei : i = b
    · subst ei
      rw [if_pos rfl]
      omega
    · rw [if_neg ei]
      exact h1

theorem DivisorSeats_law (l : List Int) (k : Int) (hl : l.length < 2 ^ 62) : ∃ r b, M_S_DivisorSeats (l, k) = some (r, b) ∧ (b = false → r = []) ∧ (b = true → r.length = l.length ∧ r.length ≤ 8 ∧ (∀ n ∈ r, 0 ≤ n ∧ n ≤ 20) ∧ r.sum = k ∧ Fair l r) := by
  unfold M_S_DivisorSeats
  dsimp only
  rw [tCounts_eq l hl, in_eq]
  simp only [bindO_some']
  cases hc : (decide (1 ≤ l.length ∧ l.length ≤ 8) && l.all fun n => decide (0 ≤ n ∧ n ≤ 1000000))
  · exact ⟨[], false, rfl, fun _ => rfl, fun h => by cases h⟩
  · simp only [Bool.not_true, cond_false]
    simp only [Bool.and_eq_true, decide_eq_true_eq, List.all_eq_true] at hc
    obtain ⟨hlen, hr⟩ := hc
    have hlr : ∀ i : Nat, i < l.length → 0 ≤ l.getD i 0 ∧ l.getD i 0 ≤ 1000000 := fun i hi => by
      rw [List.getD_eq_getElem?_getD, List.getElem?_eq_getElem hi]
      exact hr _ (List.getElem_mem hi)
    by_cases hk : 1 ≤ k ∧ k ≤ 20
    · simp only [hk, and_self, decide_true, Bool.not_true, cond_false]
      have hx : (l.length : Int) ≤ ((lim : Nat) : Int) := by rw [lim_eq]; omega
      rw [guardO_of (by simpa using hx)]
      refine loopO_ind (fun (_ : Int × List Int) (y : Option (List Int × Bool)) => ∃ r b, y = some (r, b) ∧ (b = false → r = []) ∧ (b = true → r.length = l.length ∧ r.length ≤ 8 ∧ (∀ n ∈ r, 0 ≤ n ∧ n ≤ 20) ∧ r.sum = k ∧ Fair l r))
        (fun s => 0 ≤ s.1 ∧ s.1 ≤ k ∧ s.2.length = l.length ∧ (∀ i : Nat, i < l.length → 0 ≤ s.2.getD i 0 ∧ s.2.getD i 0 ≤ k - s.1) ∧ s.2.sum = k - s.1 ∧ Fair l s.2) (fun s => s.1.toNat) (fun again s hs ih => ?_) ⟨by dsimp only; omega, by dsimp only; omega, by simp, fun i hi => ?_, ?_, fun i j hi hj _ => ?_⟩ (by dsimp only; omega)
      · obtain ⟨j, out⟩ := s
        obtain ⟨h1, h2, h3, h4, h5, h6⟩ := hs
        dsimp only at h1 h2 h3 h4 h5 h6 ih ⊢
        by_cases hp : j > 0
        · simp only [hp, decide_true, cond_true]
          refine loopO_ind (fun (_ : Int × Int) (y : Option (List Int × Bool)) => ∃ r b, y = some (r, b) ∧ (b = false → r = []) ∧ (b = true → r.length = l.length ∧ r.length ≤ 8 ∧ (∀ n ∈ r, 0 ≤ n ∧ n ≤ 20) ∧ r.sum = k ∧ Fair l r))
            (fun u => ∃ b i : Nat, u = ((b : Int), (i : Int)) ∧ b < l.length ∧ i ≤ l.length ∧ ∀ m : Nat, m < i → l.getD m 0 * (out.getD b 0 + 1) ≤ l.getD b 0 * (out.getD m 0 + 1)) (fun u => ((l.length : Int) - u.2).toNat) (fun again2 u hu ih2 => ?_) ⟨0, 0, rfl, by omega, Nat.zero_le _, fun m hm => absurd hm (Nat.not_lt_zero _)⟩ (by dsimp only; omega)
          obtain ⟨b, i, rfl, g1, g2, g3⟩ := hu
          dsimp only at ih2 ⊢
          rcases Nat.lt_or_ge i l.length with hi | hi
          · have a1 := h4 b g1
            have a2 := h4 i hi
            simp only [lt_yes hi, cond_true, getI_getD hi, getI_getD (l := out) (show b < out.length by omega), getI_getD g1, getI_getD (l := out) (show i < out.length by omega), bindO_some', i64_in (out.getD b 0 + 1) (by omega), prod_ok (hlr i hi) (show 0 ≤ out.getD b 0 + 1 ∧ out.getD b 0 + 1 ≤ 100 by omega), i64_in (out.getD i 0 + 1) (by omega), prod_ok (hlr b g1) (show 0 ≤ out.getD i 0 + 1 ∧ out.getD i 0 + 1 ≤ 100 by omega), i64_succ (show i < 2 ^ 62 by omega)]
            by_cases hgt : l.getD i 0 * (out.getD b 0 + 1) > l.getD b 0 * (out.getD i 0 + 1)
            · rw [decide_eq_true hgt, cond_true]
              refine ih2 _ ⟨i, i + 1, rfl, hi, hi, fun m hm => ?_⟩ (by dsimp only; omega)
              rcases Nat.lt_succ_iff_lt_or_eq.1 hm with hm' | rfl
              · exact cross_le (by have := h4 m (by omega); omega) (by omega) (by omega) (g3 m hm') hgt
              · exact Int.le_refl _
            · rw [decide_eq_false hgt, cond_false]
              refine ih2 _ ⟨b, i + 1, rfl, g1, hi, fun m hm => ?_⟩ (by dsimp only; omega)
              rcases Nat.lt_succ_iff_lt_or_eq.1 hm with hm' | rfl
              · exact g3 m hm'
              · omega
          · obtain rfl : i = l.length := by omega
            have a1 := h4 b g1
            simp only [lt_no, cond_false, getI_getD (l := out) (show b < out.length by omega), bindO_some', i64_in (out.getD b 0 + 1) (by omega), Int.toNat_natCast, i64_in (j - 1) (by omega)]
            refine ih _ ⟨by dsimp only; omega, by dsimp only; omega, by dsimp only; rw [List.length_set]; exact h3, fun m hm => ?_, ?_, ?_⟩ (by dsimp only; omega)
            · dsimp only
              rw [getD_set1 (by omega)]
              have := h4 m hm
              split <;> omega
            · dsimp only
              rw [sum_set1 _ _ (by omega), h5]
              omega
            · exact fair_step h3 g1 h6 (fun i hi => (h4 i hi).1) g3
        · simp only [hp, decide_false, cond_false]
          refine ⟨out, true, rfl, fun h => (by cases h), fun _ => ⟨h3, by omega, fun n hn => ?_, by omega, h6⟩⟩
          obtain ⟨m, hm, rfl⟩ := List.mem_iff_getElem.1 hn
          have := h4 m (by omega)
          rw [List.getD_eq_getElem?_getD, List.getElem?_eq_getElem hm] at this
          have h7 : 0 ≤ out[m] ∧ out[m] ≤ k - j := this
          omega
      · dsimp only
        rw [Int.toNat_natCast, List.getD_eq_getElem?_getD, List.getElem?_replicate, if_pos hi]
        exact ⟨by decide, by show (0 : Int) ≤ k - k; omega⟩
      · dsimp only
        rw [sum_zero]
        omega
      · dsimp only
        rw [Int.toNat_natCast, List.getD_eq_getElem?_getD, List.getElem?_replicate, if_pos hj, List.getD_eq_getElem?_getD, List.getElem?_replicate, if_pos hi]
        exact Int.le_refl _
    · simp only [hk, decide_false, Bool.not_false, cond_true]
      exact ⟨[], false, rfl, fun _ => rfl, fun h => by cases h⟩

theorem counts_ok {code : List Int} {pos seed : Int} (hb : Bytes code) (h0 : 0 ≤ pos) (h1 : pos ≤ 1000000) : ∃ l pos' seed', M_S_l1Cur_counts (code, pos, seed) = some (l, code, pos', seed') ∧ l.length ≤ 9 ∧ 0 ≤ pos' ∧ pos' ≤ pos + 100 := by
  unfold M_S_l1Cur_counts
  obtain ⟨k, p, s, e, k1, -, -, k2, p1, p2⟩ := pick_ok (seed := seed) (n := 6) hb h0 (by omega) (by omega)
  have k3 := k2 (by omega)
  rw [e, bindO_some', i64_in _ (by omega)]
  dsimp only
  refine loopO_ind (fun _ (r : Option (List Int × List Int × Int × Int)) => ∃ l pos' seed', r = some (l, code, pos', seed') ∧ l.length ≤ 9 ∧ 0 ≤ pos' ∧ pos' ≤ pos + 100)
    (fun s3 : List Int × Int × List Int × Int × Int => s3.2.2.1 = code ∧ 0 ≤ s3.2.1 ∧ (s3.1.length : Int) + s3.2.1 ≤ 6 ∧ 1 ≤ (s3.1.length : Int) + s3.2.1 ∧ 0 ≤ s3.2.2.2.1 ∧ s3.2.2.2.1 + 4 * s3.2.1 ≤ pos + 30) (fun s3 => s3.2.1.toNat) (fun again s3 hs ih => ?_) ⟨rfl, by show 0 ≤ 1 + k; omega, by show ((0 : Nat) : Int) + (1 + k) ≤ 6; omega, by show 1 ≤ ((0 : Nat) : Int) + (1 + k); omega, by show 0 ≤ p; omega, by show p + 4 * (1 + k) ≤ pos + 30; omega⟩ (by show (1 + k).toNat < 2 ^ 64; omega)
  obtain ⟨out, j, cd, ps, sd⟩ := s3
  obtain ⟨i1, i2, i3, i4, i5, i6⟩ := hs
  dsimp only at i1 i2 i3 i4 i5 i6 ih ⊢
  subst i1
  by_cases hj : j > 0
  · rw [decide_eq_true hj, cond_true]
    obtain ⟨v, p', s', e', -, -, -, -, q1, q2⟩ := pick_ok (seed := sd) (n := 100) hb i5 (by omega) (by omega)
    rw [e', bindO_some']
    dsimp only
    obtain ⟨z, p3, s3, e3, -, q3, q4⟩ := among_ok (l := [0, 1, 2, 3, 5, 10, v]) (seed := s') hb (show 0 ≤ p' by omega) (by omega) ⟨by simp, by simp⟩
    rw [e3, bindO_some']
    dsimp only
    have hg : out.length + [z].length ≤ 68719476736 := by simp only [List.length_cons, List.length_nil]; omega
    rw [guardO_of (lenOk_of hg), bindO_some', bindO_some', i64_in (j - 1) (by omega), bindO_some']
    refine ih _ ⟨rfl, by dsimp only; omega, ?_, ?_, by dsimp only; omega, by dsimp only; omega⟩ (by dsimp only; omega)
    · simp only [List.length_append, List.length_cons, List.length_nil]; omega
    · simp only [List.length_append, List.length_cons, List.length_nil]; omega
  · rw [decide_eq_false hj, cond_false]
    obtain ⟨v, p', s', e', -, -, -, -, q1, q2⟩ := pick_ok (seed := sd) (n := 20) hb i5 (by omega) (by omega)
    rw [e', bindO_some']
    dsimp only
    cases h2 : v == (0 : Int)
    · rw [cond_false]
      cases h3 : v == (1 : Int)
      · rw [cond_false]
        cases h4 : v == (2 : Int)
        · exact ⟨out, p', s', rfl, by omega, by omega, by omega⟩
        · obtain ⟨z, p3, s3, e3, z1, -, -, z2, q3, q4⟩ := pick_ok (seed := s') (n := 2) hb (show 0 ≤ p' by omega) (by omega) (by omega)
          have z3 := z2 (by omega)
          have hg : (((decide ((0 : Int) ≤ 8 + z)) && (decide (8 + z ≤ 8 + z))) && (decide (8 + z ≤ ((lim : Nat) : Int)))) = true := by
            rw [decide_eq_true (by omega), decide_eq_true (by omega), decide_eq_true (by rw [lim_eq]; omega)]
            rfl
          rw [cond_true, e3, bindO_some']
          dsimp only
          rw [i64_in _ (by omega), bindO_some', guardO_of hg, bindO_some']
          exact ⟨_, _, _, rfl, by rw [List.length_replicate]; omega, by omega, by omega⟩
      · obtain ⟨z, p3, s3, e3, -, q3, q4⟩ := among_ok (l := [-1, 1000000, 1000001]) (seed := s') hb (show 0 ≤ p' by omega) (by omega) ⟨by simp, by simp⟩
        obtain ⟨y, hy⟩ := getI_ex (l := out) (i := 0) (by decide) (by omega)
        rw [cond_true, e3, bindO_some']
        dsimp only
        rw [hy, bindO_some', bindO_some']
        exact ⟨_, _, _, rfl, by rw [List.length_set]; omega, by omega, by omega⟩
    · exact ⟨[], p', s', rfl, by simp, by omega, by omega⟩

theorem DrawDivisorSeats_ok {code : List Int} (hb : Bytes code) : ∃ l k, M_S_DrawDivisorSeats code = some (l, k) ∧ l.length ≤ 9 := by
  unfold M_S_DrawDivisorSeats
  obtain ⟨l, p, s, e, h1, h2, h3⟩ := counts_ok (seed := 0) hb (Int.le_refl 0) (by decide)
  obtain ⟨v, p', s', e', -, -, -⟩ := among_ok (l := [1, 2, 3, 4, 7, 20, 21, 0]) (seed := s) hb h2 (by omega) ⟨by simp, by simp⟩
  refine ⟨l, v, ?_, h1⟩
  rw [e, bindO_some']
  dsimp only
  rw [e', bindO_some']

theorem DrawTopOptions_ok {code : List Int} (hb : Bytes code) : ∃ l k, M_S_DrawTopOptions code = some (l, k) ∧ l.length ≤ 9 := by
  unfold M_S_DrawTopOptions
  obtain ⟨l, p, s, e, h1, h2, h3⟩ := counts_ok (seed := 0) hb (Int.le_refl 0) (by decide)
  obtain ⟨v, p', s', e', -⟩ := pick_ok (seed := s) (n := ((l.length : Nat) : Int) + 2) hb h2 (by omega) (by omega)
  refine ⟨l, v, ?_, h1⟩
  rw [e, bindO_some']
  dsimp only
  rw [i64_in _ (by omega), bindO_some', e', bindO_some']

theorem sameInts_eq {a : List Int} (h : a.length < 2 ^ 62) : M_L_sameInts (a, a) = some true := qInts_eq h

theorem big_some (a b : List Int) : ∃ v, M_L_big (a, b) = some v := by
  unfold M_L_big
  dsimp only
  cases decide (((a.length : Nat) : Int) > 1048576) <;> exact ⟨_, rfl⟩

/-- The second half: top options. -/
noncomputable def topRest (more : List Int) : Option Bool :=
  bindO (M_S_DrawTopOptions more) fun a17 => bindO (M_I_TopOptions (a17.1, a17.2)) fun a18 => bindO (M_S_TopOptions (a17.1, a17.2)) fun a19 => cond (not (a18.2 == a19.2)) (some false) (bindO (M_L_sameInts (a18.1, a19.1)) fun a20 => cond (not a20) (some false)
    (loopO (fun (again21 : Int → Option Bool) (s22 : Int) => cond (decide (s22 < (((List.length a19.1) : Nat) : Int))) (bindO (some (IntKind.wrap .i64 (s22 - (1 : Int)))) fun a23 => bindO (getI a19.1 a23) fun a24 => bindO (getI a17.1 a24) fun a25 => bindO (getI a19.1 s22) fun a26 => bindO (getI a17.1 a26) fun a27 =>
      cond (decide (a25 < a27)) (some false) (bindO (some (IntKind.wrap .i64 (s22 + (1 : Int)))) fun a28 => again21 a28)) (cond (not a18.2) (some true) (some ((((List.length a19.1) : Nat) : Int) == a17.2)))) (1 : Int)))

theorem topRest_ok {more : List Int} (hb : Bytes more) : topRest more = some true := by
  obtain ⟨c, k, e, hc⟩ := DrawTopOptions_ok hb
  obtain ⟨r, b, h1, h2, h3, h4, h5⟩ := I_TopOptions_eq (c := c) (k := k) (by omega)
  unfold topRest
  rw [e, bindO_some']
  dsimp only
  rw [h1, bindO_some', h3, bindO_some']
  dsimp only
  rw [beq_self_eq_true, Bool.not_true, cond_false, sameInts_eq (by omega), bindO_some', Bool.not_true, cond_false]
  have hfin : (cond (not b) (some true) (some (((r.length : Nat) : Int) == k)) : Option Bool) = some true := by
    cases hbb : b
    · rfl
    · rw [Bool.not_true, cond_false, (h5 hbb).1, beq_self_eq_true]
  have hstep : ∀ i : Nat, 1 ≤ i → i < r.length → ∃ x y u v, r[i - 1]? = some x ∧ r[i]? = some y ∧ getI c x = some u ∧ getI c y = some v ∧ v ≤ u := fun i hi1 hi => by
    have hbb : b = true := by
      cases hbb : b
      · rw [h4 hbb] at hi
        exact absurd hi (Nat.not_lt_zero _)
      · rfl
    obtain ⟨-, h6, h7⟩ := h5 hbb
    have hx := h7 r[i - 1] (List.getElem_mem (by omega))
    have hy := h7 r[i] (List.getElem_mem hi)
    refine ⟨r[i - 1], r[i], _, _, List.getElem?_eq_getElem _, List.getElem?_eq_getElem _, voc_get hx.1 hx.2, voc_get hy.1 hy.2, ?_⟩
    have := List.pairwise_iff_getElem.1 h6 (i - 1) i (by omega) hi (by omega)
    unfold bef at this
    omega
  refine loopO_ind (fun _ (y : Option Bool) => y = some true) (fun s => ∃ i : Nat, s = (i : Int) ∧ 1 ≤ i ∧ (i ≤ r.length ∨ i = 1)) (fun s => ((r.length : Int) + 1 - s).toNat) (fun again s hs ih => ?_) ⟨1, rfl, Nat.le_refl _, .inr rfl⟩ (by omega)
  obtain ⟨i, rfl, hi1, hi2⟩ := hs
  rcases Nat.lt_or_ge i r.length with hi | hi
  · obtain ⟨x, y, u, v, q1, q2, q3, q4, q5⟩ := hstep i hi1 hi
    rw [lt_yes hi, cond_true, i64_in _ (by omega), bindO_some', show (i : Int) - 1 = ((i - 1 : Nat) : Int) by omega, getI_nat, q1, bindO_some', q3, bindO_some', getI_nat, q2, bindO_some', q4, bindO_some', decide_eq_false (by omega), cond_false, i64_succ (by omega), bindO_some']
    exact ih _ ⟨i + 1, rfl, by omega, .inl hi⟩ (by omega)
  · rw [decide_eq_false (show ¬ ((i : Int) < ((r.length : Nat) : Int)) by omega), cond_false]
    exact hfin

theorem sum_take_ok : ∀ (r : List Int), (∀ n ∈ r, 0 ≤ n ∧ n ≤ 20) → 0 ≤ r.sum ∧ r.sum ≤ 20 * r.length
  | [], _ => by simp
  | a :: r, h => by
    have h1 := h a (List.mem_cons_self ..)
    have h2 := sum_take_ok r fun n hn => h n (List.mem_cons_of_mem _ hn)
    simp only [List.sum_cons, List.length_cons]
    omega

theorem law_FnSeats (x : List Int × List Int) (h : WFI [.data (.sl (.int .u8)), .data (.sl (.int .u8))] x) : M_L_FnSeats x = some true := by
  obtain ⟨code, more⟩ := x
  have hb1 : Bytes code := wf_u8 h.1
  have hb2 : Bytes more := wf_u8 h.2
  obtain ⟨g, hg⟩ := big_some code more
  obtain ⟨l, k, e, hl⟩ := DrawDivisorSeats_ok hb1
  obtain ⟨r, b, h1, h2, h3⟩ := DivisorSeats_law l k (by omega)
  have hrest := topRest_ok hb2
  have hr8 : r.length ≤ 8 := by
    cases hbb : b
    · rw [h2 hbb]; exact Nat.zero_le _
    · exact (h3 hbb).2.1
  unfold M_L_FnSeats
  dsimp only
  refine bind_to hg ?_
  cases g
  rotate_left
  · rfl
  refine no_to rfl ?_
  refine bind_to e ?_
  refine bind_to ((DivisorSeats_same l k (by omega)).trans h1) ?_
  refine bind_to h1 ?_
  refine no_to (by cases b <;> rfl) ?_
  refine bind_to (sameInts_eq (a := r) (by omega)) ?_
  refine no_to rfl ?_
  dsimp only
  cases hbb : b
  · rw [h2 hbb]
    refine loopO_to (fun _ => ((0 : Int), (0 : Int))) 0 (some true) (by decide) (fun again => ?_) (fun again i hi => absurd hi (Nat.not_lt_zero _))
    exact no_to rfl hrest
  · obtain ⟨h4, -, h5, h6, h7⟩ := h3 hbb
    refine loopO_to (fun i => ((r.take i).sum, (i : Int))) r.length (some true) (by omega) (fun again => ?_) (fun again i hi ih => ?_)
    · dsimp only
      rw [lt_no, cond_false, cond_true, List.take_length, h6, bne_self_eq_false, cond_false]
      exact hrest
    · have hs1 := sum_take_ok (r.take i) fun n hn => h5 n (List.mem_of_mem_take hn)
      have hs2 : (r.take (i + 1)).sum = (r.take i).sum + r[i] := by rw [take_snoc hi, sum_app]; simp
      have hs3 := h5 r[i] (List.getElem_mem hi)
      have hlen : (r.take i).length = i := by rw [List.length_take]; omega
      rw [hlen] at hs1
      dsimp only
      refine yes_to (lt_yes hi) ?_
      refine bind_to ((getI_nat r i).trans (List.getElem?_eq_getElem hi)) ?_
      refine bind_to (congrArg some ((i64_in _ (by omega)).trans hs2.symm)) ?_
      refine loopO_to (fun j => (j : Int)) r.length (some true) (by omega) (fun again2 => ?_) (fun again2 j hj ih2 => ?_)
      · refine no_to (lt_no _) ?_
        exact bind_to (congrArg some (i64_succ (by omega))) ih
      · refine yes_to (lt_yes hj) ?_
        refine bind_to ((getI_nat r j).trans (List.getElem?_eq_getElem hj)) ?_
        refine bind_to (getI_getD (by omega)) ?_
        refine bind_to (getI_getD (by omega)) ?_
        have hnext : bindO (some (IntKind.wrap .i64 ((j : Int) + 1))) (fun a => again2 a) = some true := bind_to (congrArg some (i64_succ (by omega))) ih2
        by_cases hgt : l.getD i 0 > l.getD j 0
        · refine yes_to (decide_eq_true hgt) ?_
          have hf := h7 i j (by omega) (by omega) hgt
          rw [List.getD_eq_getElem?_getD, List.getElem?_eq_getElem hj, List.getD_eq_getElem?_getD, List.getElem?_eq_getElem hi] at hf
          have hf' : r[j] ≤ r[i] := hf
          exact no_to (decide_eq_false (by omega)) hnext
        · exact no_to (decide_eq_false hgt) hnext

end Go.Proofs.Ytgjneigkkgaaiaa.Vd
