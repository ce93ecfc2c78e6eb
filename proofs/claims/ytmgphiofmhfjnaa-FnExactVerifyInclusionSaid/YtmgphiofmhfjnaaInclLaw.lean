/- The law FnExactVerifyInclusion as plain functions on data returns true for all arguments. No conditions. -/
import Derived.Test.YtmgphiofmhfjnaaInclMod
set_option linter.unusedVariables false
set_option linter.unusedSimpArgs false
set_option linter.unusedSectionVars false
set_option linter.unnecessarySimpa false
namespace Go.Proofs.Ytmgphiofmhfjnaa.Vd
open Go.IntWalk

theorem i64_succ {i : Nat} (h : i < 2 ^ 62) : IntKind.wrap .i64 ((i : Int) + 1) = ((i + 1 : Nat) : Int) := by
  rw [i64_in _ (by omega)]
  rfl

theorem lt_yes {i n : Nat} (h : i < n) : decide ((i : Int) < (n : Int)) = true := by simp [h]

theorem lt_no (n : Nat) : decide ((n : Int) < (n : Int)) = false := by simp

/-- A walk over a list by its numbers, with no other state. -/

def walk {α β : Type} (step : Nat → α → Option β → Option β) (fin : Option β) : Nat → List α → Option β
  | _, [] => fin
  | i, a :: r => step i a (walk step fin (i + 1) r)

theorem loop_walk {α β : Type} {body : (Int → Option β) → Int → Option β} (l : List α) (step : Nat → α → Option β → Option β) (fin : Option β)
    (h : ∀ (again : Int → Option β) (i : Nat) a, l[i]? = some a → i < l.length → body again (i : Int) = step i a (again ((i + 1 : Nat) : Int)))
    (hend : ∀ again : Int → Option β, body again (l.length : Int) = fin) (hl : l.length < 2 ^ 64) : loopO body 0 = walk step fin 0 l := by
  refine (loopO_for (σ := Unit) (fun i _ => (i : Int)) l.length (fun i _ => walk step fin i (l.drop i)) (fun _ _ => True) (fun again _ _ => ?_) (fun again i _ hi _ ih => ?_) hl (i := 0) (s := ()) (Nat.zero_le _) trivial).trans rfl
  · simp [hend, walk]
  · rw [h again i l[i] (List.getElem?_eq_getElem hi) hi, ih () trivial, List.drop_eq_getElem_cons hi, walk]

/-- A walk over a list by its numbers, with a state (before the number). -/

def walkS {α β σ : Type} (step : Nat → α → σ → (σ → Option β) → Option β) (fin : σ → Option β) : Nat → List α → σ → Option β
  | _, [], s => fin s
  | i, a :: r, s => step i a s (walkS step fin (i + 1) r)

theorem loop_walkI {α β σ τ : Type} {body : (τ → Option β) → τ → Option β} (enc : Int → σ → τ) (l : List α) (step : Nat → α → σ → (σ → Option β) → Option β) (fin : σ → Option β) (Inv : Nat → σ → Prop)
    (hc : ∀ (i : Nat) a s (k k' : σ → Option β), l[i]? = some a → Inv i s → (∀ s', Inv (i + 1) s' → k s' = k' s') → step i a s k = step i a s k')
    (h : ∀ (again : τ → Option β) (i : Nat) a s, l[i]? = some a → i < l.length → Inv i s → body again (enc i s) = step i a s fun s' => again (enc ((i + 1 : Nat) : Int) s'))
    (hend : ∀ (again : τ → Option β) s, Inv l.length s → body again (enc l.length s) = fin s) (hl : l.length < 2 ^ 64) (s : σ) (h0 : Inv 0 s) : loopO body (enc 0 s) = walkS step fin 0 l s := by
  refine (loopO_for (σ := σ) (fun i s => enc (i : Int) s) l.length (fun i s => walkS step fin i (l.drop i) s) Inv (fun again s hs => ?_) (fun again i s hi hs ih => ?_) hl (i := 0) (s := s) (Nat.zero_le _) h0).trans rfl
  · simp [hend _ _ hs, walkS]
  · rw [h again i l[i] s (List.getElem?_eq_getElem hi) hi hs, List.drop_eq_getElem_cons hi, walkS]
    exact hc i l[i] s _ _ (List.getElem?_eq_getElem hi) hs fun s' hs' => ih s' hs'

theorem walk_all {α : Type} (p : α → Bool) : ∀ (l : List α) (i : Nat), walk (fun _ a k => if p a = true then k else some false) (some true) i l = some (l.all p)
  | [], _ => rfl
  | a :: l, i => by
    rw [walk, walk_all p l]
    cases h : p a <;> simp [h]

theorem toIntS_eq {x : List Int} (h : x.length ≤ 1048576) : M_L_toIntS x = some x := by
  unfold M_L_toIntS
  have hx : (x.length : Int) ≤ ((lim : Nat) : Int) := by rw [lim_eq]; omega
  rw [guardO_of (by simpa using hx), bindO_some']
  refine (loopO_for (σ := List Int) (fun i s => ((i : Int), s)) x.length (fun i s => some (x.take i ++ x.drop i)) (fun i s => s = x.take i ++ List.replicate (x.length - i) 0) (fun again s hs => ?_) (fun again i s hi hs ih => ?_) (by omega) (i := 0) (s := List.replicate x.length 0) (Nat.zero_le _) (by simp)).trans (by simp)
  · subst hs; simp
  · subst hs
    have h1 : (x.take i ++ List.replicate (x.length - i) (0 : Int))[i]? = some 0 := by
      rw [List.getElem?_append_right (by simp; omega)]
      simp [List.getElem?_replicate]
      omega
    have h2 : (x.take i ++ List.replicate (x.length - i) (0 : Int)).set i x[i] = x.take (i + 1) ++ List.replicate (x.length - (i + 1)) 0 := by
      refine List.ext_getElem? fun j => ?_
      rw [List.getElem?_set]
      by_cases hij : i = j
      · subst hij
        rw [if_pos rfl, if_pos (by simp; omega), List.getElem?_append_left (by simp; omega), List.getElem?_take, if_pos (by omega), List.getElem?_eq_getElem hi]
      · rw [if_neg hij]
        by_cases hj : j < i
        · rw [List.getElem?_append_left (by simp; omega), List.getElem?_append_left (by simp; omega), List.getElem?_take, List.getElem?_take, if_pos hj, if_pos (by omega)]
        · rw [List.getElem?_append_right (by simp; omega), List.getElem?_append_right (by simp; omega)]
          simp only [List.length_take, List.getElem?_replicate]
          rw [Nat.min_eq_left (by omega), Nat.min_eq_left (by omega)]
          by_cases hjx : j < x.length
          · rw [if_pos (by omega), if_pos (by omega)]
          · rw [if_neg (by omega), if_neg (by omega)]
    simp only [getI_nat, List.getElem?_eq_getElem hi, h1, bindO_some', Int.toNat_natCast, h2, i64_succ (show i < 2 ^ 62 by omega)]
    rw [ih _ rfl]
    simp [hi]

theorem eqIntS_eq {a b : List Int} (h : a.length < 2 ^ 62) : M_L_eqIntS (a, b) = some (decide (a = b)) := by
  unfold M_L_eqIntS
  by_cases hl : a.length = b.length
  · have e1 : ((a.length : Int) != (b.length : Int)) = false := by simp [hl]
    dsimp only
    rw [e1]
    simp only [cond_false]
    refine (loopO_for (σ := Unit) (fun i _ => (i : Int)) a.length (fun i _ => some (decide (a.drop i = b.drop i))) (fun _ _ => True) (fun again _ _ => ?_) (fun again i _ hi _ ih => ?_) (by omega) (i := 0) (s := ()) (Nat.zero_le _) trivial).trans (by simp)
    · simp [hl]
    · have hi' : i < b.length := by omega
      simp only [getI_nat, List.getElem?_eq_getElem hi, List.getElem?_eq_getElem hi', bindO_some', i64_succ (show i < 2 ^ 62 by omega), ih () trivial]
      rw [List.drop_eq_getElem_cons hi, List.drop_eq_getElem_cons hi']
      by_cases he : a[i] = b[i] <;> simp [bne_dec, he, hi, -List.getElem_cons_drop]
  · have e1 : ((a.length : Int) != (b.length : Int)) = true := by simp; omega
    dsimp only
    rw [e1]
    simp only [cond_true, Option.some.injEq]
    symm
    simp only [decide_eq_false_iff_not]
    rintro rfl
    exact hl rfl

theorem lenOk_of {n : Nat} (h : n ≤ 68719476736) : lenOk n = true := by simp [lenOk, lim_eq, h]

theorem sliceNH_nat {h n : Nat} (hh : h ≤ n) : sliceNH (h : Int) n = some (0, h) := by
  unfold sliceNH
  rw [if_pos ⟨by omega, by omega⟩]
  simp

theorem in_eq (x a b : Int) : M_S_l1In (x, a, b) = some (decide (a ≤ x ∧ x ≤ b)) := by
  by_cases h : a ≤ x <;> by_cases h2 : x ≤ b <;> simp [M_S_l1In, h, h2]

theorem within_eq (x a b : Int) : M_I_within (x, a, b) = some (decide (a ≤ x ∧ x ≤ b)) := by
  by_cases h : a ≤ x <;> by_cases h2 : x ≤ b <;> simp [M_I_within, h, h2]

theorem l1All_eq {l : List Int} {lo hi : Int} (hl : l.length < 2 ^ 62) : M_S_l1All (l, lo, hi) = some (l.all fun n => decide (lo ≤ n ∧ n ≤ hi)) := by
  unfold M_S_l1All
  refine (loop_walk l (fun _ a k => if (decide (lo ≤ a ∧ a ≤ hi)) = true then k else some false) (some true) (fun again i a ha hi' => ?_) (fun again => ?_) (by omega)).trans (walk_all (fun n => decide (lo ≤ n ∧ n ≤ hi)) l 0)
  · simp only [getI_nat, ha, bindO_some', i64_succ (show i < 2 ^ 62 by omega), lt_yes hi', cond_true, in_eq]
    cases decide (lo ≤ a ∧ a ≤ hi) <;> rfl
  · simp

theorem walk_index_mem {α : Type} (p : α → Bool) (f : α → Option Bool) : ∀ (l : List α) (i : Nat), (∀ a ∈ l, f a = some (p a)) →
    ∃ j : Int, walk (fun i a k => bindO (f a) fun b => cond b (some (i : Int)) k) (some (-1)) i l = some j ∧ decide (j ≥ 0) = l.any p
  | [], _, _ => ⟨-1, rfl, rfl⟩
  | a :: l, i, hf => by
    obtain ⟨j, h1, h2⟩ := walk_index_mem p f l (i + 1) fun b hb => hf b (List.mem_cons_of_mem _ hb)
    have ha := hf a (List.mem_cons_self ..)
    cases h : p a
    · exact ⟨j, by simp [walk, ha, h, h1], by simp [h, h2]⟩
    · exact ⟨i, by simp [walk, ha, h], by simp [h]⟩

theorem containsFunc_eq {l : List Int} {f : Int → Option Bool} {p : Int → Bool} (hl : l.length < 2 ^ 62) (hf : ∀ a ∈ l, f a = some (p a)) : M_slices_ContainsFunc_sint_int (l, f) = some (l.any p) := by
  obtain ⟨j, h1, h2⟩ := walk_index_mem p f l 0 hf
  unfold M_slices_ContainsFunc_sint_int
  have : M_slices_IndexFunc_sint_int (l, f) = some j := by
    unfold M_slices_IndexFunc_sint_int
    refine (loop_walk l _ _ (fun again i a ha hi => ?_) (fun again => ?_) (by omega)).trans h1
    · simp only [getI_nat, ha, bindO_some', i64_succ (show i < 2 ^ 62 by omega), lt_yes hi, cond_true]
    · simp
  dsimp only
  rw [this, bindO_some', h2]

theorem areAll_eq {l : List Int} {f : Int → Option Bool} {p : Int → Bool} (hl : l.length < 2 ^ 62) (hf : ∀ a ∈ l, f a = some (p a)) : M_I_areAll (l, f) = some (l.all p) := by
  unfold M_I_areAll
  dsimp only
  rw [containsFunc_eq (p := fun a => !p a) hl fun a ha => by simp [M_I_areAll_1, hf a ha], bindO_some']
  congr 1
  rw [List.any_eq_not_all_not]
  simp

/-! ### Groups -/

def prodM (p : Int) : Int → List Int → Int
  | out, [] => out
  | out, x :: l => prodM p (out * x % p) l

def hstep (c s k : Int) : Int := (c * s + k + 1) % 2147483647

def absorb (s : Int × Int) (x : Int) : Int × Int :=
  (hstep 48271 (hstep 48271 s.1 (x % 2147483648)) (x / 2147483648), hstep 69621 (hstep 69621 s.2 (x % 2147483648)) (x / 2147483648))

def digest (l : List Int) : Int := ((l.foldl absorb (absorb (1, 2) (l.length : Int))).1) * 2147483648 + (l.foldl absorb (absorb (1, 2) (l.length : Int))).2

def HOk (s : Int × Int) : Prop := 0 ≤ s.1 ∧ s.1 < 2147483648 ∧ 0 ≤ s.2 ∧ s.2 < 2147483648

theorem hstep_range (c s k : Int) : 0 ≤ hstep c s k ∧ hstep c s k < 2147483647 :=
  ⟨Int.emod_nonneg _ (by omega), Int.emod_lt_of_pos _ (by omega)⟩

theorem absorb_ok (s : Int × Int) (x : Int) : HOk (absorb s x) := by
  have h1 := hstep_range 48271 (hstep 48271 s.1 (x % 2147483648)) (x / 2147483648)
  have h2 := hstep_range 69621 (hstep 69621 s.2 (x % 2147483648)) (x / 2147483648)
  exact ⟨h1.1, by show hstep _ _ _ < _; omega, h2.1, by show hstep _ _ _ < _; omega⟩

theorem foldl_ok : ∀ (l : List Int) (s : Int × Int), HOk s → HOk (l.foldl absorb s)
  | [], _, h => h
  | x :: l, s, _ => foldl_ok l _ (absorb_ok s x)

theorem digest_range (l : List Int) : 0 ≤ digest l ∧ digest l ≤ 4611686018427387903 := by
  have h := foldl_ok l _ (absorb_ok (1, 2) (l.length : Int))
  obtain ⟨h1, h2, h3, h4⟩ := h
  unfold digest
  omega

theorem hstep_walk {c s k : Int} (hc : c = 48271 ∨ c = 69621) (hs : 0 ≤ s ∧ s < 2147483648) (hk : 0 ≤ k ∧ k < 2147483648) :
    (IntKind.wrap .i64 (IntKind.wrap .i64 (IntKind.wrap .i64 (c * s) + k) + 1)).tmod 2147483647 = hstep c s k := by
  have h1 : 0 ≤ c * s ∧ c * s ≤ 69621 * 2147483648 := ⟨Int.mul_nonneg (by omega) hs.1, Int.mul_le_mul (by omega) (by omega) hs.1 (by omega)⟩
  rw [i64_in (c * s) (by omega), i64_in (c * s + k) (by omega), i64_in (c * s + k + 1) (by omega), tmod_nn (by omega)]
  rfl

theorem absorb_eq {s : Int × Int} {x : Int} (hs : HOk s) (h0 : 0 ≤ x) (h1 : x ≤ 4611686018427387903) : M_S_l3State_absorb (s, x) = some (absorb s x) := by
  unfold M_S_l3State_absorb
  obtain ⟨h2, h3, h4, h5⟩ := hs
  have hg : guardO ((2147483648 : Int) != 0) = some () := rfl
  have hg2 : guardO ((2147483647 : Int) != 0) = some () := rfl
  dsimp only
  rw [hg]
  simp only [bindO_some', tmod_nn h0, tdiv_nn h0]
  rw [i64_in (x / 2147483648) (by omega)]
  have hb : 0 ≤ x % 2147483648 ∧ x % 2147483648 < 2147483648 := by omega
  have ha : 0 ≤ x / 2147483648 ∧ x / 2147483648 < 2147483648 := by omega
  have hm : ∀ k ∈ [x % 2147483648, x / 2147483648], 0 ≤ k ∧ k < 2147483648 := fun k hk => by
    simp only [List.mem_cons, List.not_mem_nil, or_false] at hk
    rcases hk with rfl | rfl
    · exact hb
    · exact ha
  have hg3 : ∀ (c s k : Int), 0 ≤ hstep c s k ∧ hstep c s k < 2147483648 := fun c s k => by have := hstep_range c s k; omega
  refine (loop_walkI (fun i (s : Int × Int) => (i, (s.1, s.2))) [x % 2147483648, x / 2147483648] (fun _ k s c => c (hstep 48271 s.1 k, hstep 69621 s.2 k)) (fun s => some (s.1, s.2)) (fun _ s => HOk s)
    (fun i a s k k' ha hs hk => hk _ ⟨(hg3 _ _ _).1, (hg3 _ _ _).2, (hg3 _ _ _).1, (hg3 _ _ _).2⟩) (fun again i a t ha hi ht => ?_) (fun again s hs => ?_) (by show (2 : Nat) < 2 ^ 64; omega) (s.1, s.2) ⟨h2, h3, h4, h5⟩).trans rfl
  · have hk := hm a (List.mem_of_getElem? ha)
    have hi2 : i < 2 := hi
    simp only [lt_yes hi, cond_true, getI_nat, ha, hg2, bindO_some', hstep_walk (.inl rfl) ⟨ht.1, ht.2.1⟩ hk, hstep_walk (.inr rfl) ⟨ht.2.2.1, ht.2.2.2⟩ hk, i64_succ (show i < 2 ^ 62 by omega)]
  · simp only [lt_no, cond_false]

theorem hInts_eq {l : List Int} (hl : l.length < 2 ^ 40) (hx : ∀ x ∈ l, 0 ≤ x ∧ x ≤ 4611686018427387903) : M_S_hInts l = some (digest l) := by
  unfold M_S_hInts
  rw [absorb_eq (⟨by omega, by omega, by omega, by omega⟩ : HOk (1, 2)) (by omega) (by omega), bindO_some']
  refine (loopO_for (σ := Int × Int) (fun i s => ((i : Int), (s.1, s.2))) l.length (fun i s => some (((l.drop i).foldl absorb s).1 * 2147483648 + ((l.drop i).foldl absorb s).2)) (fun _ s => HOk s) (fun again s hs => ?_) (fun again i s hi hs ih => ?_) (by omega) (i := 0) (s := absorb (1, 2) (l.length : Int)) (Nat.zero_le _) (absorb_ok _ _)).trans rfl
  · obtain ⟨h1, h2, h3, h4⟩ := hs
    simp only [lt_no, cond_false, List.drop_length, List.foldl_nil, bindO_some']
    rw [i64_in (s.1 * 2147483648) (by omega), i64_in (s.1 * 2147483648 + s.2) (by omega)]
  · have hm := hx l[i] (List.getElem_mem hi)
    simp only [lt_yes hi, cond_true, getI_nat, List.getElem?_eq_getElem hi, bindO_some', absorb_eq (s := (s.1, s.2)) hs hm.1 hm.2, i64_succ (show i < 2 ^ 62 by omega)]
    rw [ih _ (absorb_ok _ _), List.drop_eq_getElem_cons hi, List.foldl_cons]

theorem bits_mask {x : Int} (h : 0 ≤ x) (h2 : x ≤ 9223372036854775807) : Vd.bits .and .i64 x 2147483647 = x % 2147483648 := by
  obtain ⟨n, rfl⟩ := Int.eq_ofNat_of_zero_le h
  have h1 : (BitVec.ofInt 64 ((n : Nat) : Int) &&& BitVec.ofInt 64 2147483647).toNat = n % 2147483648 := by
    rw [BitVec.toNat_and]
    have e1 : (BitVec.ofInt 64 ((n : Nat) : Int)).toNat = n % 2 ^ 64 := by simp
    have e2 : (BitVec.ofInt 64 2147483647).toNat = 2 ^ 31 - 1 := by decide
    rw [e1, e2, Nat.and_two_pow_sub_one_eq_mod]
    omega
  show IntKind.wrap .i64 (((BitVec.ofInt 64 ((n : Nat) : Int) &&& BitVec.ofInt 64 2147483647).toNat : Nat) : Int) = _
  rw [h1, i64_in _ (by omega)]
  omega

theorem shr_31 {x : Int} : Vd.shr .i64 x 31 = x / 2147483648 := by
  show x.fdiv (2 ^ (min (31 : Int).toNat 64)) = _
  rw [show ((2 : Int) ^ (min (31 : Int).toNat 64)) = 2147483648 by decide, fdiv_pos (by omega)]

theorem shl_31 {x : Int} : Vd.shl .i64 x 31 = IntKind.wrap .i64 (x * 2147483648) := by
  show IntKind.wrap .i64 (x * (2 ^ (min (31 : Int).toNat 64))) = _
  rw [show ((2 : Int) ^ (min (31 : Int).toNat 64)) = 2147483648 by decide]

theorem hash_eq {l : List Int} (hl : l.length < 2 ^ 30) (hx : ∀ x ∈ l, 0 ≤ x ∧ x ≤ 4611686018427387903) : M_I_hash l = some (digest l) := by
  unfold M_I_hash
  have hg31 : guardO (decide ((0 : Int) ≤ 31)) = some () := rfl
  have hg2 : guardO ((2147483647 : Int) != 0) = some () := rfl
  rw [guardO_of (lenOk_of (by simp; omega)), bindO_some', bindO_some']
  have hL : ∀ x ∈ ((l.length : Int) :: l), 0 ≤ x ∧ x ≤ 4611686018427387903 := fun x h => by
    rcases List.mem_cons.1 h with rfl | h
    · omega
    · exact hx x h
  have e : [((l.length : Nat) : Int)] ++ l = ((l.length : Int) :: l) := rfl
  rw [e]
  have hlen : ((l.length : Int) :: l).length = l.length + 1 := rfl
  generalize hLL : ((l.length : Int) :: l) = L at hL hlen
  refine (loopO_for (σ := Int × Int) (fun i s => (s.1, (s.2, (i : Int)))) L.length (fun i s => some (((L.drop i).foldl absorb s).1 * 2147483648 + ((L.drop i).foldl absorb s).2)) (fun _ s => HOk s) (fun again s hs => ?_) (fun again i s hi hs ih => ?_) (by omega) (i := 0) (s := (1, 2)) (Nat.zero_le _) ⟨by decide, by decide, by decide, by decide⟩).trans (by rw [← hLL]; rfl)
  · obtain ⟨h1, h2, h3, h4⟩ := hs
    simp only [lt_no, cond_false, List.drop_length, List.foldl_nil, bindO_some', hg31, shl_31]
    rw [i64_in (s.1 * 2147483648) (by omega), i64_in (s.1 * 2147483648 + s.2) (by omega)]
  · have hm := hL L[i] (List.getElem_mem hi)
    obtain ⟨h1, h2, h3, h4⟩ := hs
    have hb : 0 ≤ L[i] % 2147483648 ∧ L[i] % 2147483648 < 2147483648 := by omega
    have ha : 0 ≤ L[i] / 2147483648 ∧ L[i] / 2147483648 < 2147483648 := by omega
    have r1 := hstep_range 48271 s.1 (L[i] % 2147483648)
    have r2 := hstep_range 69621 s.2 (L[i] % 2147483648)
    simp only [lt_yes hi, cond_true, getI_nat, List.getElem?_eq_getElem hi, bindO_some', hg31, hg2, shr_31, bits_mask hm.1 (by omega), hstep_walk (.inl rfl) ⟨h1, h2⟩ hb, hstep_walk (.inr rfl) ⟨h3, h4⟩ hb,
      hstep_walk (.inl rfl) (⟨r1.1, by omega⟩ : 0 ≤ hstep 48271 s.1 (L[i] % 2147483648) ∧ _) ha, hstep_walk (.inr rfl) (⟨r2.1, by omega⟩ : 0 ≤ hstep 69621 s.2 (L[i] % 2147483648) ∧ _) ha, i64_succ (show i < 2 ^ 62 by omega)]
    rw [List.drop_eq_getElem_cons hi, List.foldl_cons, ← ih (absorb s L[i]) (absorb_ok _ _)]
    rfl

/-! ### Labels -/

def lab (s : ByteArray) (l : List Int) : List Int := (s.size : Int) :: (ofStr s ++ l)

theorem ofStr_length (s : ByteArray) : (ofStr s).length = s.size := by
  unfold ofStr
  rw [List.length_map, Array.length_toList]
  rfl

theorem ofStr_get {s : ByteArray} {i : Nat} (h : i < s.size) : ∃ b : UInt8, s[i]? = some b ∧ (ofStr s)[i]? = some ((b.toNat : Nat) : Int) := by
  refine ⟨s[i], by simp [h], ?_⟩
  have h' : i < s.data.size := h
  simp only [ofStr, List.getElem?_map]
  rw [List.getElem?_eq_getElem (by simpa using h')]
  rfl

theorem ofStr_range {s : ByteArray} {x : Int} (h : x ∈ ofStr s) : 0 ≤ x ∧ x ≤ 255 := by
  simp only [ofStr, List.mem_map] at h
  obtain ⟨b, _, rfl⟩ := h
  have := b.toNat_lt
  omega

theorem label_loop {s : ByteArray} {l : List Int} (hs : s.size < 2 ^ 30) (hl : l.length < 2 ^ 30) : M_S_l3With (s, l) = some (lab s l) := by
  unfold M_S_l3With
  refine (loopO_for (σ := List Int) (fun i a => (a, (i : Int))) s.size (fun i a => some (lab s l)) (fun i a => a = (s.size : Int) :: (ofStr s).take i) (fun again a ha => ?_) (fun again i a hi ha ih => ?_) (by omega) (i := 0) (s := [(s.size : Int)]) (Nat.zero_le _) (by simp)).trans rfl
  · subst ha
    have ht : (ofStr s).take s.size = ofStr s := by rw [← ofStr_length, List.take_length]
    have hlen := ofStr_length s
    simp only [lt_no, cond_false, ht]
    rw [guardO_of (lenOk_of (by simp [hlen]; omega))]
    rfl
  · subst ha
    obtain ⟨b, h1, h2⟩ := ofStr_get hi
    have hb := b.toNat_lt
    have hlen := ofStr_length s
    simp only [lt_yes hi, cond_true, Int.toNat_natCast, h1]
    rw [if_pos (by omega)]
    simp only [bindO_some', i64_in ((b.toNat : Nat) : Int) (by omega), i64_succ (show i < 2 ^ 62 by omega)]
    rw [guardO_of (lenOk_of (by simp; omega)), bindO_some']
    refine ih _ ?_
    rw [List.take_add_one, h2]
    simp

theorem labelled_eq (x : ByteArray × List Int) : M_I_labelled x = M_S_l3With x := rfl

/-- What can be hashed. -/

def okD (l : List Int) : Bool := l.all fun n => decide (0 ≤ n ∧ n ≤ 4611686018427387903)

theorem okD_spec {l : List Int} (h : okD l = true) : ∀ x ∈ l, 0 ≤ x ∧ x ≤ 4611686018427387903 := fun x hx => by
  simpa using List.all_eq_true.1 h x hx

theorem lab_range {s : ByteArray} {l : List Int} (hs : s.size < 2 ^ 30) (h : okD l = true) : ∀ x ∈ lab s l, 0 ≤ x ∧ x ≤ 4611686018427387903 := fun x hx => by
  rcases List.mem_cons.1 hx with rfl | hx
  · omega
  · rcases List.mem_append.1 hx with hx | hx
    · have := ofStr_range hx
      omega
    · exact okD_spec h x hx

theorem lab_okD {s : ByteArray} {l : List Int} (hs : s.size < 2 ^ 30) : okD (lab s l) = okD l := by
  have h1 : ∀ x ∈ ofStr s, decide (0 ≤ x ∧ x ≤ 4611686018427387903) = true := fun x hx => by
    have := ofStr_range hx
    simp only [decide_eq_true_eq]
    omega
  unfold okD lab
  rw [List.all_cons, List.all_append, List.all_eq_true.2 h1]
  have : decide (0 ≤ ((s.size : Nat) : Int) ∧ ((s.size : Nat) : Int) ≤ 4611686018427387903) = true := by
    simp only [decide_eq_true_eq]
    omega
  rw [this]
  rfl

/-- What HashLabelled answers. -/

def hashL (s : ByteArray) (l : List Int) : Int × Bool := if s.size ≤ 40 ∧ okD l = true ∧ 1 + s.size + l.length ≤ 400 then (digest (lab s l), true) else (0, false)

theorem hLabelled_eq {s : ByteArray} {l : List Int} (hs : s.size < 2 ^ 30) (hl : l.length < 2 ^ 30) (h : okD l = true) : M_S_hLabelled (s, l) = some (digest (lab s l)) := by
  unfold M_S_hLabelled
  have hlen : (lab s l).length < 2 ^ 40 := by simp [lab, ofStr_length]; omega
  simp only [label_loop hs hl, bindO_some', hInts_eq hlen (lab_range hs h)]

theorem areDigests_eq {l : List Int} : M_I_areDigests l = some (decide (l.length ≤ 400) && okD l) := by
  unfold M_I_areDigests
  by_cases h : l.length ≤ 400
  · have e1 : decide (((l.length : Nat) : Int) ≤ 400) = true := by simp; omega
    rw [e1, cond_true, areAll_eq (p := fun n => decide (0 ≤ n ∧ n ≤ 4611686018427387903)) (by omega) fun a _ => by simp [M_I_isDigest, within_eq], bindO_some']
    simp [h, okD]
  · have e1 : decide (((l.length : Nat) : Int) ≤ 400) = false := by simp; omega
    simp [e1, h]

theorem I_HashInts_eq {l : List Int} : M_I_HashInts l = some (if l.length ≤ 400 ∧ okD l = true then (digest l, true) else (0, false)) := by
  unfold M_I_HashInts
  rw [areDigests_eq, bindO_some']
  by_cases h : l.length ≤ 400 ∧ okD l = true
  · rw [if_pos h, hash_eq (by omega) (okD_spec h.2)]
    simp [h.1, h.2]
  · rw [if_neg h]
    have : (decide (l.length ≤ 400) && okD l) = false := by
      rw [Bool.and_eq_false_iff, decide_eq_false_iff_not]
      by_cases h1 : l.length ≤ 400
      · right
        cases h2 : okD l
        · rfl
        · exact absurd ⟨h1, h2⟩ h
      · exact .inl h1
    rw [this]
    rfl

theorem I_HashLabelled_eq {s : ByteArray} {l : List Int} : M_I_HashLabelled (s, l) = some (hashL s l) := by
  unfold M_I_HashLabelled hashL
  by_cases h1 : s.size ≤ 40
  · by_cases h2 : l.length ≤ 400
    · have e1 : decide (((s.size : Nat) : Int) > 40) = false := by simp; omega
      have e2 : decide (((l.length : Nat) : Int) > 400) = false := by simp; omega
      simp only [e1, e2, cond_false]
      rw [labelled_eq, label_loop (by omega) (by omega), bindO_some', I_HashInts_eq, bindO_some', lab_okD (by omega)]
      have e3 : ((lab s l).length ≤ 400 ∧ okD l = true) ↔ (s.size ≤ 40 ∧ okD l = true ∧ 1 + s.size + l.length ≤ 400) := by
        simp only [lab, List.length_cons, List.length_append, ofStr_length]
        constructor
        · rintro ⟨a, b⟩; exact ⟨h1, b, by omega⟩
        · rintro ⟨a, b, c⟩; exact ⟨by omega, b⟩
      simp only [e3]
    · have e1 : decide (((s.size : Nat) : Int) > 40) = false := by simp; omega
      have e2 : decide (((l.length : Nat) : Int) > 400) = true := by simp; omega
      rw [if_neg (fun h => by omega)]
      simp only [e1, e2, cond_false, cond_true]
  · have e1 : decide (((s.size : Nat) : Int) > 40) = true := by simp; omega
    rw [if_neg (fun h => h1 h.1)]
    simp only [e1, cond_true]

def over (p q a b : Int) : Int := prodM p 1 [a, b ^ (q - 1).toNat % p]

def splitN (n : Nat) : Nat := 2 ^ (n - 1).log2

theorem half_tab : ((List.range 63).all fun k => decide (M_I_half ((k + 2 : Nat) : Int) = some ((splitN (k + 2) : Nat) : Int))) = true := by kernel_rfl

theorem kSplit_tab : ((List.range 63).all fun k => decide (M_S_kSplit ((k + 2 : Nat) : Int) = some ((splitN (k + 2) : Nat) : Int))) = true := by
  simp only [M_S_kSplit, loopO_eq]
  kernel_rfl

theorem splitN_tab : ((List.range 63).all fun k => decide (1 ≤ splitN (k + 2) ∧ splitN (k + 2) < k + 2)) = true := by kernel_rfl

theorem tab {p : Nat → Bool} (h : ((List.range 63).all p) = true) {n : Nat} (h1 : 2 ≤ n) (h2 : n ≤ 64) : p (n - 2) = true :=
  List.all_eq_true.1 h (n - 2) (by simp; omega)

theorem half_eq {n : Nat} (h1 : 2 ≤ n) (h2 : n ≤ 64) : M_I_half (n : Int) = some (splitN n : Int) := by
  have := tab half_tab h1 h2
  rw [show n - 2 + 2 = n by omega] at this
  exact of_decide_eq_true this

theorem kSplit_eq {n : Nat} (h1 : 2 ≤ n) (h2 : n ≤ 64) : M_S_kSplit (n : Int) = some (splitN n : Int) := by
  have := tab kSplit_tab h1 h2
  rw [show n - 2 + 2 = n by omega] at this
  exact of_decide_eq_true this

theorem splitN_lt {n : Nat} (h1 : 2 ≤ n) (h2 : n ≤ 64) : 1 ≤ splitN n ∧ splitN n < n := by
  have := tab splitN_tab h1 h2
  rw [show n - 2 + 2 = n by omega] at this
  exact of_decide_eq_true this

def nodeD (a b : Int) : Int := digest (lab (bytesOf [110, 111, 100, 101]) [a, b])

theorem nodeD_range (a b : Int) : 0 ≤ nodeD a b ∧ nodeD a b ≤ 4611686018427387903 := digest_range _

theorem ok2 {a b : Int} (ha : 0 ≤ a ∧ a ≤ 4611686018427387903) (hb : 0 ≤ b ∧ b ≤ 4611686018427387903) : okD [a, b] = true := by
  simp [okD, ha, hb]

theorem kNode_eq {a b : Int} (ha : 0 ≤ a ∧ a ≤ 4611686018427387903) (hb : 0 ≤ b ∧ b ≤ 4611686018427387903) : M_S_kNode (a, b) = some (nodeD a b) := by
  unfold M_S_kNode
  dsimp only
  rw [hLabelled_eq (by show (4 : Nat) < _; omega) (by show (2 : Nat) < _; omega) (ok2 ha hb), bindO_some']
  rfl

theorem nodeOf_eq {a b : Int} (ha : 0 ≤ a ∧ a ≤ 4611686018427387903) (hb : 0 ≤ b ∧ b ≤ 4611686018427387903) : M_I_nodeOf (a, b) = some (nodeD a b) := by
  unfold M_I_nodeOf
  dsimp only
  rw [I_HashLabelled_eq, bindO_some']
  unfold hashL
  rw [if_pos ⟨by show (4 : Nat) ≤ 40; omega, ok2 ha hb, by show (1 + 4 + 2 : Nat) ≤ 400; omega⟩]
  rfl

/-- Steps of a function that calls itself: nothing or the answer; the answer in the end. -/

def Comes {α β : Type} (R : Nat → α → Option β) (x : α) (N : Nat) (y : β) : Prop := ∀ m, (R m x = none ∨ R m x = some y) ∧ (N ≤ m → R m x = some y)

theorem Comes.lim {α β : Type} {R : Nat → α → Option β} {x : α} {N : Nat} {y : β} (h : Comes R x N y) : limO R x = some y :=
  limO_eq ⟨N, (h N).2 (Nat.le_refl _)⟩ fun n z hz => by
    rcases (h n).1 with h1 | h1
    · rw [h1] at hz; cases hz
    · rw [h1] at hz; cases hz; rfl

theorem okD_take {l : List Int} (h : okD l = true) (n : Nat) : okD (l.take n) = true :=
  List.all_eq_true.2 fun x hx => List.all_eq_true.1 h x (List.mem_of_mem_take hx)

abbrev DigOk (x : Int) : Prop := 0 ≤ x ∧ x ≤ 4611686018427387903

theorem fold_comes (leaf : Int) (hleaf : DigOk leaf) : ∀ (N : Nat) (path : List Int) (n : Nat) (i : Int), path.length < N → 1 ≤ n → n ≤ 64 → 0 ≤ i → i < n → path.length < 2 ^ 40 → okD path = true →
    ∃ rs ri : Int × Bool, DigOk rs.1 ∧ DigOk ri.1 ∧ rs.2 = ri.2 ∧ (rs.2 = true → rs.1 = ri.1) ∧ Comes R_S_kFold (leaf, i, (n : Int), path) N rs ∧ Comes R_I_included (leaf, i, (n : Int), path) N ri
  | 0, _, _, _, h, _, _, _, _, _, _ => absurd h (by omega)
  | N + 1, path, n, i, hN, hn1, hn64, hi0, hin, hlen, hok => by
    have hw : IntKind.wrap .i64 ((path.length : Int) - 1) = (path.length : Int) - 1 := i64_in _ (by omega)
    by_cases h1 : n = 1
    · subst h1
      have hd : decide ((path.length : Int) - 1 < 0) = ((path.length : Int) == 0) := by
        rw [beq_dec, decide_eq_decide]; omega
      refine ⟨(leaf, (path.length : Int) == 0), (leaf, (path.length : Int) == 0), hleaf, hleaf, rfl, fun _ => rfl, fun m => ?_, fun m => ?_⟩
      · cases m with
        | zero => exact ⟨.inl rfl, fun h => by omega⟩
        | succ m => simp [R_S_kFold]
      · cases m with
        | zero => exact ⟨.inl rfl, fun h => by omega⟩
        | succ m => simp [R_I_included, hw, hd]
    · have e1 : ((n : Int) == 1) = false := by simp only [beq_eq_false_iff_ne, ne_eq]; omega
      by_cases h0 : path.length = 0
      · have e0 : ((path.length : Int) == 0) = true := by simp [h0]
        have ed : decide ((path.length : Int) - 1 < 0) = true := by simp [h0]
        refine ⟨(0, false), (leaf, false), ⟨by decide, by decide⟩, hleaf, rfl, (fun h => by cases h), fun m => ?_, fun m => ?_⟩
        · cases m with
          | zero => exact ⟨.inl rfl, fun h => by omega⟩
          | succ m =>
            have : R_S_kFold (m + 1) (leaf, i, (n : Int), path) = some (0, false) := by
              unfold R_S_kFold
              simp only [e1, e0, cond_false, cond_true]
            simp [this]
        · cases m with
          | zero => exact ⟨.inl rfl, fun h => by omega⟩
          | succ m =>
            have : R_I_included (m + 1) (leaf, i, (n : Int), path) = some (leaf, false) := by
              unfold R_I_included
              simp only [hw, bindO_some', ed, e1, cond_false, cond_true]
            simp [this]
      · have e0 : ((path.length : Int) == 0) = false := by simp only [beq_eq_false_iff_ne, ne_eq]; omega
        have ed : decide ((path.length : Int) - 1 < 0) = false := by simp only [decide_eq_false_iff_not]; omega
        have hp : path.length - 1 < path.length := by omega
        have hcast : (path.length : Int) - 1 = ((path.length - 1 : Nat) : Int) := by omega
        have hlast : getI path ((path.length : Int) - 1) = some path[path.length - 1] := by
          rw [hcast, getI_nat, List.getElem?_eq_getElem hp]
        have hlok : DigOk path[path.length - 1] := okD_spec hok _ (List.getElem_mem hp)
        generalize path[path.length - 1] = last at hlast hlok
        have hsl : sliceNH ((path.length : Int) - 1) path.length = some (0, path.length - 1) := by
          rw [hcast, sliceNH_nat (by omega)]
        have hs := splitN_lt (show 2 ≤ n by omega) hn64
        have hplen : (path.take (path.length - 1)).length = path.length - 1 := by simp
        by_cases hik : i < (splitN n : Int)
        · obtain ⟨rs, ri, g1, g2, g3, g4, g5, g6⟩ := fold_comes leaf hleaf N (path.take (path.length - 1)) (splitN n) i (by omega) (by omega) (by omega) hi0 hik (by omega) (okD_take hok _)
          refine ⟨(nodeD rs.1 last, rs.2), (nodeD ri.1 last, ri.2), nodeD_range _ _, nodeD_range _ _, g3, fun h => by dsimp only; rw [g4 h], fun m => ?_, fun m => ?_⟩
          · cases m with
            | zero => exact ⟨.inl rfl, fun h => by omega⟩
            | succ m =>
              have hm : R_S_kFold (m + 1) (leaf, i, (n : Int), path) = bindO (R_S_kFold m (leaf, i, ((splitN n : Nat) : Int), path.take (path.length - 1))) fun a5 => bindO (M_S_kNode (a5.1, last)) fun a6 => some (a6, a5.2) := by
                conv => lhs; unfold R_S_kFold
                simp only [e1, e0, cond_false, hw, hlast, bindO_some', kSplit_eq (show 2 ≤ n by omega) hn64, hik, decide_true, cond_true, hsl, List.drop_zero]
              rw [hm]
              have hk := kNode_eq (a := rs.1) (b := last) g1 hlok
              refine ⟨?_, fun h => ?_⟩
              · rcases (g5 m).1 with h | h <;> rw [h]
                · exact .inl rfl
                · right; simp only [bindO_some', hk]
              · rw [(g5 m).2 (by omega)]
                simp only [bindO_some', hk]
          · cases m with
            | zero => exact ⟨.inl rfl, fun h => by omega⟩
            | succ m =>
              have hm : R_I_included (m + 1) (leaf, i, (n : Int), path) = bindO (R_I_included m (leaf, i, ((splitN n : Nat) : Int), path.take (path.length - 1))) fun a5 => bindO (M_I_nodeOf (a5.1, last)) fun a6 => some (a6, a5.2) := by
                conv => lhs; unfold R_I_included
                simp only [e1, ed, cond_false, hw, hlast, bindO_some', half_eq (show 2 ≤ n by omega) hn64, hik, decide_true, cond_true, hsl, List.drop_zero]
              rw [hm]
              have hk := nodeOf_eq (a := ri.1) (b := last) g2 hlok
              refine ⟨?_, fun h => ?_⟩
              · rcases (g6 m).1 with h | h <;> rw [h]
                · exact .inl rfl
                · right; simp only [bindO_some', hk]
              · rw [(g6 m).2 (by omega)]
                simp only [bindO_some', hk]
        · obtain ⟨rs, ri, g1, g2, g3, g4, g5, g6⟩ := fold_comes leaf hleaf N (path.take (path.length - 1)) (n - splitN n) (i - (splitN n : Int)) (by omega) (by omega) (by omega) (by omega) (by omega) (by omega) (okD_take hok _)
          have hc : ((n - splitN n : Nat) : Int) = (n : Int) - (splitN n : Int) := by omega
          rw [hc] at g5 g6
          refine ⟨(nodeD last rs.1, rs.2), (nodeD last ri.1, ri.2), nodeD_range _ _, nodeD_range _ _, g3, fun h => by dsimp only; rw [g4 h], fun m => ?_, fun m => ?_⟩
          · cases m with
            | zero => exact ⟨.inl rfl, fun h => by omega⟩
            | succ m =>
              have hm : R_S_kFold (m + 1) (leaf, i, (n : Int), path) = bindO (R_S_kFold m (leaf, i - (splitN n : Int), (n : Int) - (splitN n : Int), path.take (path.length - 1))) fun a5 => bindO (M_S_kNode (last, a5.1)) fun a6 => some (a6, a5.2) := by
                conv => lhs; unfold R_S_kFold
                simp only [e1, e0, cond_false, hw, hlast, bindO_some', kSplit_eq (show 2 ≤ n by omega) hn64, hik, decide_false, hsl, List.drop_zero, i64_in (i - (splitN n : Int)) (by omega), i64_in ((n : Int) - (splitN n : Int)) (by omega)]
              rw [hm]
              have hk := kNode_eq (a := last) (b := rs.1) hlok g1
              refine ⟨?_, fun h => ?_⟩
              · rcases (g5 m).1 with h | h <;> rw [h]
                · exact .inl rfl
                · right; simp only [bindO_some', hk]
              · rw [(g5 m).2 (by omega)]
                simp only [bindO_some', hk]
          · cases m with
            | zero => exact ⟨.inl rfl, fun h => by omega⟩
            | succ m =>
              have hm : R_I_included (m + 1) (leaf, i, (n : Int), path) = bindO (R_I_included m (leaf, i - (splitN n : Int), (n : Int) - (splitN n : Int), path.take (path.length - 1))) fun a5 => bindO (M_I_nodeOf (last, a5.1)) fun a6 => some (a6, a5.2) := by
                conv => lhs; unfold R_I_included
                simp only [e1, ed, cond_false, hw, hlast, bindO_some', half_eq (show 2 ≤ n by omega) hn64, hik, decide_false, hsl, List.drop_zero, i64_in (i - (splitN n : Int)) (by omega), i64_in ((n : Int) - (splitN n : Int)) (by omega)]
              rw [hm]
              have hk := nodeOf_eq (a := last) (b := ri.1) hlok g2
              refine ⟨?_, fun h => ?_⟩
              · rcases (g6 m).1 with h | h <;> rw [h]
                · exact .inl rfl
                · right; simp only [bindO_some', hk]
              · rw [(g6 m).2 (by omega)]
                simp only [bindO_some', hk]

theorem VerifyInclusion_eq (leaf i n : Int) (path : List Int) (root : Int) (hl : path.length < 2 ^ 40) : ∃ r, M_S_VerifyInclusion (leaf, i, n, path, root) = some r ∧ M_I_VerifyInclusion (leaf, i, n, path, root) = some r := by
  unfold M_S_VerifyInclusion M_I_VerifyInclusion M_I_isDigest
  dsimp only
  simp only [in_eq, within_eq, bindO_some']
  by_cases hn : 1 ≤ n ∧ n ≤ 64
  · rw [i64_in (n - 1) (by omega)]
    simp only [hn, and_self, decide_true, Bool.not_true, cond_false]
    by_cases hi : 0 ≤ i ∧ i ≤ n - 1
    · simp only [hi, and_self, decide_true, Bool.not_true, cond_false]
      have hall : M_S_l1All ([leaf, root], 0, 4611686018427387903) = some (decide (DigOk leaf) && decide (DigOk root)) := by
        rw [l1All_eq (by show (2 : Nat) < _; omega)]
        simp [DigOk]
      have hp2 : ∀ a : Int, M_I_within (a, 0, 4611686018427387903) = some (decide (DigOk a)) := fun a => within_eq a _ _
      rw [hall]
      simp only [l1All_eq (show path.length < 2 ^ 62 by omega), areAll_eq (f := fun a5 => some (decide (0 ≤ a5 ∧ a5 ≤ 4611686018427387903))) (p := fun n => decide (0 ≤ n ∧ n ≤ 4611686018427387903)) (show path.length < 2 ^ 62 by omega) (fun a _ => rfl), bindO_some']
      show ∃ r, _ ∧ (cond (!(decide (DigOk leaf))) _ (cond (!(decide (DigOk root))) _ _)) = _
      cases hd1 : decide (DigOk leaf) with
      | false => exact ⟨_, rfl, rfl⟩
      | true =>
        cases hd2 : decide (DigOk root) with
        | false => exact ⟨_, rfl, rfl⟩
        | true =>
          simp only [Bool.and_self, Bool.not_true, cond_false]
          cases hok : (path.all fun n => decide (0 ≤ n ∧ n ≤ 4611686018427387903)) with
          | false => exact ⟨_, rfl, rfl⟩
          | true =>
            obtain ⟨k, rfl⟩ := Int.eq_ofNat_of_zero_le (show 0 ≤ n by omega)
            obtain ⟨rs, ri, _, _, g3, g4, g5, g6⟩ := fold_comes leaf (of_decide_eq_true hd1) (path.length + 1) path k i (by omega) (by omega) (by omega) hi.1 (by omega) hl hok
            unfold M_S_kIncluded M_S_kFold M_I_included
            dsimp only
            rw [g5.lim, g6.lim]
            simp only [bindO_some', Bool.not_true, cond_false, g3]
            cases hb : ri.2 with
            | false => exact ⟨_, rfl, rfl⟩
            | true =>
              rw [g4 (by rw [g3]; exact hb)]
              exact ⟨_, rfl, rfl⟩
    · simp only [hi, decide_false, Bool.not_false, cond_true]
      exact ⟨_, rfl, rfl⟩
  · simp only [hn, decide_false, Bool.not_false, cond_true]
    exact ⟨_, rfl, rfl⟩

theorem law_FnExactVerifyInclusion (x : Int × Int × Int × List Int × Int) : M_L_FnExactVerifyInclusion x = some true := by
  obtain ⟨leaf, i, n, path, root⟩ := x
  unfold M_L_FnExactVerifyInclusion
  by_cases hl : path.length ≤ 1048576
  · have e0 : decide (((path.length : Nat) : Int) > 1048576) = false := by simp; omega
    obtain ⟨r, h1, h2⟩ := VerifyInclusion_eq leaf i n path root (by omega)
    simp only [e0, cond_false, toIntS_eq hl, bindO_some', h1, h2, eqIntS_eq (show path.length < 2 ^ 62 by omega)]
    simp
  · have e0 : decide (((path.length : Nat) : Int) > 1048576) = true := by simp; omega
    simp only [e0, cond_true]

end Go.Proofs.Ytmgphiofmhfjnaa.Vd
