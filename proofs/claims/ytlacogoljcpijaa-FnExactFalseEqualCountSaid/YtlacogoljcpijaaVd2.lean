/- A typed abstract semantics of Go code and its soundness over the model: part 2. No conditions. -/
import Derived.Test.YtlacogoljcpijaaVd1
set_option linter.unusedVariables false
set_option linter.unusedSimpArgs false
set_option linter.unusedSectionVars false
set_option linter.unnecessarySimpa false
/- VdR -/
namespace Go.Proofs.Ytlacogoljcpijaa.Vd

variable {P : Program} {E : Env} {ρ : Map} {w w' : World} {s : S} {a : Act} {K : Ctx} {H : Nat → Option Root}

theorem DR.set {own : Nat → Own} {l i : Nat} : (t : Ty) → (j0 : Nat) → (x : t.D) → (us : List Value) → DR w own l i t j0 x us → ∀ (j : Nat) (u : Ty) (y z : u.D) v,
    cellAt t x j = some ⟨u, y⟩ → DR w own l i u (j0 + j) z [v] → DR w own l i t j0 (setAt t x j u z) (us.set j v)
  | .one h, j0, x, us, hr, j, u, y, z, v, hc, hz => DR.set h j0 x us hr j u y z v hc hz
  | .cons h t, j0, x, us, hr, j, u, y, z, v, hc, hz => by
    obtain ⟨v1, v2, rfl, h1, h2⟩ := hr
    have hl := DR.length h _ _ _ h1
    simp only [cellAt] at hc
    simp only [setAt]
    by_cases hj : j < h.size
    · rw [if_pos hj] at hc ⊢
      exact ⟨v1.set j v, v2, by rw [List.set_append_left _ _ (by omega)], DR.set h j0 x.1 v1 h1 j u y z v hc hz, h2⟩
    · rw [if_neg hj] at hc ⊢
      refine ⟨v1, v2.set (j - h.size) v, by rw [List.set_append_right _ _ (by omega), hl], h1, DR.set t (j0 + h.size) x.2 v2 h2 (j - h.size) u y z v hc ?_⟩
      rwa [show j0 + h.size + (j - h.size) = j0 + j by omega]
  | .int k, j0, x, us, hr, j, u, y, z, v, hc, hz => by
    cases j with
    | succ j => simp [cellAt] at hc
    | zero =>
      simp only [cellAt, Option.some.injEq] at hc
      cases hc
      simp only [DR] at hr hz
      subst hr
      simp only [List.cons.injEq, and_true] at hz
      subst hz
      simp [setAt, castD, DR]
  | .bool, j0, x, us, hr, j, u, y, z, v, hc, hz => by
    cases j with
    | succ j => simp [cellAt] at hc
    | zero =>
      simp only [cellAt, Option.some.injEq] at hc
      cases hc
      simp only [DR] at hr hz
      subst hr
      simp only [List.cons.injEq, and_true] at hz
      subst hz
      simp [setAt, castD, DR]
  | .str, j0, x, us, hr, j, u, y, z, v, hc, hz => by
    cases j with
    | succ j => simp [cellAt] at hc
    | zero =>
      simp only [cellAt, Option.some.injEq] at hc
      cases hc
      simp only [DR] at hr hz
      subst hr
      simp only [List.cons.injEq, and_true] at hz
      subst hz
      simp [setAt, castD, DR]
  | .sl e, j0, x, us, hr, j, u, y, z, v, hc, hz => by
    cases j with
    | succ j => simp [cellAt] at hc
    | zero =>
      simp only [cellAt, Option.some.injEq] at hc
      cases hc
      obtain ⟨v0, rfl, _⟩ := hr
      simpa [setAt, castD] using hz

theorem Rd.set {A : Nat → Prop} : (t : Ty) → (x : t.D) → (us : List Value) → Rd w A t x us → ∀ (j : Nat) (u : Ty) (y z : u.D) v,
    cellAt t x j = some ⟨u, y⟩ → Rd w A u z [v] → Rd w A t (setAt t x j u z) (us.set j v)
  | .one h, x, us, hr, j, u, y, z, v, hc, hz => Rd.set h x us hr j u y z v hc hz
  | .cons h t, x, us, hr, j, u, y, z, v, hc, hz => by
    obtain ⟨v1, v2, rfl, h1, h2⟩ := hr
    have hl := h1.length
    simp only [cellAt] at hc
    simp only [setAt]
    by_cases hj : j < h.size
    · rw [if_pos hj] at hc ⊢
      exact ⟨v1.set j v, v2, by rw [List.set_append_left _ _ (by omega)], Rd.set h x.1 v1 h1 j u y z v hc hz, h2⟩
    · rw [if_neg hj] at hc ⊢
      exact ⟨v1, v2.set (j - h.size) v, by rw [List.set_append_right _ _ (by omega), hl], h1, Rd.set t x.2 v2 h2 (j - h.size) u y z v hc hz⟩
  | .int k, x, us, hr, j, u, y, z, v, hc, hz => by
    cases j with
    | succ j => simp [cellAt] at hc
    | zero =>
      simp only [cellAt, Option.some.injEq] at hc
      cases hc
      simp only [Rd] at hr
      subst hr
      simpa [setAt, castD] using hz
  | .bool, x, us, hr, j, u, y, z, v, hc, hz => by
    cases j with
    | succ j => simp [cellAt] at hc
    | zero =>
      simp only [cellAt, Option.some.injEq] at hc
      cases hc
      simp only [Rd] at hr
      subst hr
      simpa [setAt, castD] using hz
  | .str, x, us, hr, j, u, y, z, v, hc, hz => by
    cases j with
    | succ j => simp [cellAt] at hc
    | zero =>
      simp only [cellAt, Option.some.injEq] at hc
      cases hc
      simp only [Rd] at hr
      subst hr
      simpa [setAt, castD] using hz
  | .sl e, x, us, hr, j, u, y, z, v, hc, hz => by
    cases j with
    | succ j => simp [cellAt] at hc
    | zero =>
      simp only [cellAt, Option.some.injEq] at hc
      cases hc
      obtain ⟨a, cap, rfl, _⟩ := hr
      simpa [setAt, castD] using hz

/-- An element's relation: in memory of its own, or only read. -/
def EL0 (w : World) (own : Nat → Own) (l i : Nat) (d : Bool) (t : Ty) (j : Nat) (x : t.D) (us : List Value) : Prop :=
  if d then DR w own l i t j x us else Rd w (Free own) t x us

theorem EL0.set {own : Nat → Own} {l i : Nat} {d : Bool} {t : Ty} {x : t.D} {us : List Value} (h : EL0 w own l i d t 0 x us) {j : Nat} {u : Ty} {y z : u.D} {v : Value} (hc : cellAt t x j = some ⟨u, y⟩) (hz : EL0 w own l i d u j z [v]) :
    EL0 w own l i d t 0 (setAt t x j u z) (us.set j v) := by
  unfold EL0 at h hz ⊢
  cases d with
  | true => exact DR.set t 0 x us (by simpa using h) j u y z v hc (by simpa using hz)
  | false => exact Rd.set t x us (by simpa using h) j u y z v hc (by simpa using hz)

/-- The owners when roots move into root l. -/
def Map.take (ρ : Map) (l : Nat) (deep : Bool) (ms : List Mv) : Map :=
  { ρ with own := fun b => match ρ.own b with
    | .main l' => match ms.find? (fun q => q.l == l') with
      | some q => if deep then .inner l q.i q.j else .free
      | none => .main l'
    | .inner l' i j => match ms.find? (fun q => q.l == l') with
      | some q => if deep then .inner l q.i q.j else .free
      | none => if l' = l then (if deep then .inner l' i j else .free) else .inner l' i j
    | o => o }

theorem find_mv {ms : List Mv} (hn : (mvLocs ms).Nodup) {q : Mv} (hq : q ∈ ms) : ms.find? (fun p => p.l == q.l) = some q := by
  induction ms with
  | nil => cases hq
  | cons p ms ih =>
    simp only [mvLocs, List.map_cons, List.nodup_cons] at hn
    rcases List.mem_cons.1 hq with rfl | hq'
    · simp
    · have : p.l ≠ q.l := by
        intro h
        exact hn.1 (h ▸ List.mem_map.2 ⟨q, hq', rfl⟩)
      rw [List.find?_cons_of_neg (by simpa using this)]
      exact ih hn.2 hq'

/-- What a step must leave alone for the moved data to stand: all but the main blocks of root l. -/
structure Kept (ρ : Map) (w w' : World) (l : Nat) (own' : Nat → Own) (deep : Bool) (ms : List Mv) : Prop where
  heap : ∀ b, b < w.heap.size → ρ.own b ≠ .main l → w'.heap[b]? = w.heap[b]?
  own : ∀ b, b < w.heap.size → ρ.own b ≠ .main l → own' b = (ρ.take l deep ms).own b
  nodup : (mvLocs ms).Nodup
  apart : l ∉ mvLocs ms

theorem Kept.free {own' : Nat → Own} {l : Nat} {deep : Bool} {ms : List Mv} (h : Kept ρ w w' l own' deep ms) {b : Nat} (hb : b < w.heap.size) (ho : ρ.own b = .free) : own' b = .free ∧ w'.heap[b]? = w.heap[b]? :=
  ⟨by rw [h.own b hb (by rw [ho]; simp)]; simp [Map.take, ho], h.heap b hb (by rw [ho]; simp)⟩

theorem Kept.rdFree {own' : Nat → Own} {l : Nat} {deep : Bool} {ms : List Mv} (h : Kept ρ w w' l own' deep ms) {t : Ty} {x : t.D} {us : List Value} (hr : Rd w (Free ρ.own) t x us) : Rd w' (Free own') t x us :=
  Rd.mono (fun _ hb ho => h.free hb ho) t x us hr

/-- A root of elements without slices, moved. -/
theorem Kept.root {own' : Nat → Own} {l : Nat} {deep : Bool} {ms : List Mv} (h : Kept ρ w w' l own' deep ms) {q : Mv} (hq : q ∈ ms) {e : Ty} {xs : List e.D} {d : Bool} (hf : e.flat = true) (hr : RR P ρ w H q.l (.arr e xs d)) :
    ArrR w' own' (if deep then .inner l q.i q.j else .free) e xs (fun _ y us => Rd w' (Free own') e y us) (ρ.hdr q.l) := by
  have hne : q.l ≠ l := by rintro rfl; exact h.apart (List.mem_map.2 ⟨q, hq, rfl⟩)
  rcases hr with ⟨a, h1, h2⟩ | ⟨b, cap, vs, T, h1, h2, h3, h4, h5, h6, h7⟩
  · exact .inl ⟨a, h1, h2⟩
  · have hb : b < w.heap.size := (Array.getElem?_eq_some_iff.1 h5).1
    have hm : ρ.own b ≠ .main l := by rw [h4]; simpa using hne
    refine .inr ⟨b, cap, vs, T, h1, h2, h3, ?_, (h.heap b hb hm).trans h5, h6, fun i x hx => ?_⟩
    · rw [h.own b hb hm]
      simp [Map.take, h4, find_mv h.nodup hq]
    · obtain ⟨us, g1, g2, g3⟩ := h7 i x hx
      refine ⟨us, g1, g2, ?_⟩
      unfold EL at g3
      cases d with
      | true =>
        exact Rd.flat e x us hf (DR.rd (A := fun _ => True) (fun _ _ => trivial) e 0 x us (by simpa using g3))
      | false => exact Rd.flat e x us hf (by simpa using g3)

/-- A cell that goes into element i, cell j. -/
theorem moved_rel {V : View} (hV : Seen V s) (hroot : ∀ l r, s.root l = some r → RR P ρ w s.root l r) {own' : Nat → Own} {l i j : Nat} {deep : Bool} {ms : List Mv} (h : Kept ρ w w' l own' deep ms) {c : C} {t : Ty} {x : t.D} {b : Bool} {m : List Mv} {v : Value}
    (hm : V.moved i j c t = some (x, b, m)) (hsub : ∀ q ∈ m, q ∈ ms) (hd : deep = true → b = true) (hc : CR P ρ w s.root c v) : t.agg = false → EL0 w' own' l i deep t j x [v] := by
  intro hagg
  unfold View.moved at hm
  split at hm
  · rename_i e
    split at hm
    · simp only [Option.some.injEq, Prod.mk.injEq] at hm
      obtain ⟨rfl, rfl, rfl⟩ := hm
      obtain ⟨a', rfl⟩ := hc
      unfold EL0
      cases deep with
      | true => exact ⟨_, rfl, hd rfl, .inl ⟨a', rfl, rfl⟩⟩
      | false => exact Rd.empty
    · rename_i l2
      split at hm
      · rename_i e' xs d hl
        split at hm
        · rename_i he
          subst he
          split at hm
          · rename_i hfl
            simp only [Option.some.injEq, Prod.mk.injEq] at hm
            obtain ⟨rfl, rfl, rfl⟩ := hm
            obtain ⟨rfl, _⟩ := hc
            have hq := hsub _ (List.mem_singleton.2 rfl)
            have := h.root hq hfl (hroot l2 _ (hV l2 _ hl))
            unfold EL0
            cases deep with
            | true =>
              simp only [if_true] at this ⊢
              exact ⟨_, rfl, hfl, this⟩
            | false =>
              simp only [Bool.false_eq_true, if_false] at this ⊢
              exact this.rd (fun b hb => hb) fun i x us _ hr => hr
          · cases hm
        · cases hm
      · cases hm
    · rename_i t' x'
      split at hm
      · rename_i ht
        subst ht
        simp only [Option.some.injEq, Prod.mk.injEq] at hm
        obtain ⟨rfl, rfl, rfl⟩ := hm
        have hdf : deep = false := by cases deep <;> simp_all
        subst hdf
        have h2 : Rd w (Free ρ.own) (.sl e) x' [v] := Rd.mono (fun b _ hb => ⟨hb.elim id (fun ⟨l, hl, _⟩ => by cases hl), rfl⟩) _ _ _ hc.2
        exact h.rdFree h2
      · cases hm
    · cases hm
  · split at hm
    · rename_i hne c0 t' x' d
      split at hm
      · rename_i ht
        subst ht
        simp only [Option.some.injEq, Prod.mk.injEq] at hm
        obtain ⟨rfl, rfl, rfl⟩ := hm
        have h1 := hc.2
        unfold EL0
        cases t' with
        | int k => cases deep <;> exact h1
        | bool => cases deep <;> exact h1
        | str => cases deep <;> exact h1
        | sl e => exact absurd rfl (hne e)
        | one _ => cases hagg
        | cons _ _ => cases hagg
      · cases hm
    · cases hm

end Go.Proofs.Ytlacogoljcpijaa.Vd

/- VdS -/
namespace Go.Proofs.Ytlacogoljcpijaa.Vd

variable {P : Program} {E : Env} {ρ : Map} {w w' : World} {s : S} {a : Act} {K : Ctx} {H : Nat → Option Root}

theorem cellAt_agg : (t : Ty) → (x : t.D) → (j : Nat) → ∀ u y, cellAt t x j = some ⟨u, y⟩ → u.agg = false
  | .one h, x, j, u, y, hc => cellAt_agg h x j u y hc
  | .cons h t, x, j, u, y, hc => by
    simp only [cellAt] at hc
    split at hc
    · exact cellAt_agg h x.1 j u y hc
    · exact cellAt_agg t x.2 _ u y hc
  | .int _, x, 0, u, y, hc | .bool, x, 0, u, y, hc | .str, x, 0, u, y, hc | .sl _, x, 0, u, y, hc => by
    simp only [cellAt, Option.some.injEq] at hc
    cases hc
    rfl
  | .int _, x, _ + 1, u, y, hc | .bool, x, _ + 1, u, y, hc | .str, x, _ + 1, u, y, hc | .sl _, x, _ + 1, u, y, hc => by simp [cellAt] at hc

theorem cellAt_setAt : (t : Ty) → (x : t.D) → (j : Nat) → ∀ (u : Ty) (y z : u.D), cellAt t x j = some ⟨u, y⟩ → ∀ k, cellAt t (setAt t x j u z) k = if k = j then some ⟨u, z⟩ else cellAt t x k
  | .one h, x, j, u, y, z, hc, k => cellAt_setAt h x j u y z hc k
  | .cons h t, x, j, u, y, z, hc, k => by
    simp only [cellAt] at hc
    by_cases hj : j < h.size
    · rw [if_pos hj] at hc
      have := cellAt_setAt h x.1 j u y z hc k
      simp only [setAt, if_pos hj, cellAt]
      by_cases hk : k < h.size
      · rw [if_pos hk, if_pos hk]; exact this
      · rw [if_neg hk, if_neg hk, if_neg (by omega)]
    · rw [if_neg hj] at hc
      have := cellAt_setAt t x.2 (j - h.size) u y z hc (k - h.size)
      simp only [setAt, if_neg hj, cellAt]
      by_cases hk : k < h.size
      · rw [if_pos hk, if_pos hk, if_neg (by omega)]
      · rw [if_neg hk, if_neg hk, this]
        by_cases hkj : k = j
        · subst hkj; simp
        · rw [if_neg (by omega), if_neg hkj]
  | .int _, x, 0, u, y, z, hc, k | .bool, x, 0, u, y, z, hc, k | .str, x, 0, u, y, z, hc, k | .sl _, x, 0, u, y, z, hc, k => by
    simp only [cellAt, Option.some.injEq] at hc
    cases hc
    cases k <;> simp [setAt, castD, cellAt]
  | .int _, x, _ + 1, u, y, z, hc, k | .bool, x, _ + 1, u, y, z, hc, k | .str, x, _ + 1, u, y, z, hc, k | .sl _, x, _ + 1, u, y, z, hc, k => by simp [cellAt] at hc

/-- What is known of the roots that moved into an element. -/
def MvIn (ρ : Map) (i : Nat) (e : Ty) (x : e.D) (us : List Value) (m : List Mv) : Prop :=
  ∀ q ∈ m, q.i = i ∧ cellAt e x q.j = some ⟨.sl q.u, q.ys⟩ ∧ us[q.j]? = some (ρ.hdr q.l)

theorem moved_mv {V : View} (hV : Seen V s) (hroot : ∀ l r, s.root l = some r → RR P ρ w s.root l r) {i j : Nat} {c : C} {t : Ty} {x : t.D} {b : Bool} {m : List Mv} {v : Value}
    (hm : V.moved i j c t = some (x, b, m)) (hc : CR P ρ w s.root c v) : ∀ q ∈ m, q.i = i ∧ q.j = j ∧ (⟨t, x⟩ : Σ t : Ty, t.D) = ⟨.sl q.u, q.ys⟩ ∧ v = ρ.hdr q.l := by
  intro q hq
  unfold View.moved at hm
  split at hm
  · split at hm
    · simp only [Option.some.injEq, Prod.mk.injEq] at hm
      obtain ⟨rfl, rfl, rfl⟩ := hm
      cases hq
    · rename_i l2
      split at hm
      · split at hm
        · rename_i he
          subst he
          split at hm
          · simp only [Option.some.injEq, Prod.mk.injEq] at hm
            obtain ⟨rfl, rfl, rfl⟩ := hm
            rw [List.mem_singleton] at hq
            subst hq
            exact ⟨rfl, rfl, rfl, hc.1⟩
          · cases hm
        · cases hm
      · cases hm
    · split at hm
      · simp only [Option.some.injEq, Prod.mk.injEq] at hm
        obtain ⟨_, _, rfl⟩ := hm
        cases hq
      · cases hm
    · cases hm
  · split at hm
    · split at hm
      · simp only [Option.some.injEq, Prod.mk.injEq] at hm
        obtain ⟨_, _, rfl⟩ := hm
        cases hq
      · cases hm
    · cases hm

/-- Cells set in an element, one after another. -/
theorem setAts_rel {V : View} (hV : Seen V s) (hroot : ∀ l r, s.root l = some r → RR P ρ w s.root l r) {own' : Nat → Own} {l i : Nat} {deep : Bool} {ms : List Mv} (h : Kept ρ w w' l own' deep ms) {e : Ty} :
    ∀ (cs : List C) (vs : List Value) (x x' : e.D) (us : List Value) (j : Nat) (b : Bool) (m : List Mv), setAts V i e x j cs = some (x', b, m) → (∀ q ∈ m, q ∈ ms) → (deep = true → b = true) → CsR P ρ w s.root cs vs →
      us.length = e.size → EL0 w' own' l i deep e 0 x us → (vs = [] ∨ j + vs.length ≤ us.length) ∧ EL0 w' own' l i deep e 0 x' (us.take j ++ vs ++ us.drop (j + vs.length)) ∧
        (∀ k, k < j → cellAt e x' k = cellAt e x k) ∧ (∀ q ∈ m, q.i = i ∧ j ≤ q.j ∧ cellAt e x' q.j = some ⟨.sl q.u, q.ys⟩ ∧ vs[q.j - j]? = some (ρ.hdr q.l))
  | [], vs, x, x', us, j, b, m, hs, hsub, hd, hcs, hl, hx => by
    have : vs = [] := by have := hcs.1; simpa using this.symm
    subst this
    simp only [setAts, Option.some.injEq, Prod.mk.injEq] at hs
    obtain ⟨rfl, rfl, rfl⟩ := hs
    exact ⟨.inl rfl, by simpa using hx, fun _ _ => rfl, fun q hq => by cases hq⟩
  | c :: cs, vs, x, x', us, j, b, m, hs, hsub, hd, hcs, hl, hx => by
    match vs, hcs with
    | v :: vs, hcs =>
    have hc0 : CR P ρ w s.root c v := hcs.2 0 c v rfl rfl
    have hcs' : CsR P ρ w s.root cs vs := ⟨by have := hcs.1; simpa using this, fun k c' v' h1 h2 => hcs.2 (k + 1) c' v' (by simpa using h1) (by simpa using h2)⟩
    simp only [setAts] at hs
    split at hs
    · rename_i u y hcell
      split at hs
      · rename_i z b0 m0 hm
        split at hs
        · rename_i x1 b1 m1 hrest
          simp only [Option.some.injEq, Prod.mk.injEq] at hs
          obtain ⟨rfl, rfl, rfl⟩ := hs
          have hjs : j < us.length := by
            rw [hl]
            rcases Nat.lt_or_ge j e.size with h1 | h1
            · exact h1
            · exfalso
              have : cellAt e x j = none := cellAt_none e x j h1
              rw [this] at hcell
              cases hcell
          have hz := moved_rel hV hroot h hm (fun q hq => hsub q (List.mem_append_left _ hq)) (fun hdp => by have := hd hdp; simp only [Bool.and_eq_true] at this; exact this.1) hc0 (cellAt_agg e x j u y hcell)
          have hset := EL0.set hx hcell hz
          obtain ⟨g1, g2, g3, g4⟩ := setAts_rel hV hroot h cs vs (setAt e x j u z) x1 (us.set j v) (j + 1) b1 m1 hrest (fun q hq => hsub q (List.mem_append_right _ hq)) (fun hdp => by have := hd hdp; simp only [Bool.and_eq_true] at this; exact this.2) hcs' (by simpa using hl) hset
          have hlen : j + (vs.length + 1) ≤ us.length := by
            rcases g1 with rfl | g1
            · simp only [List.length_nil]; omega
            · simp only [List.length_set] at g1; omega
          refine ⟨.inr (by simpa using hlen), ?_, fun k hk => ?_, fun q hq => ?_⟩
          · rw [list_seg_step us j v vs hlen] at g2
            simpa using g2
          · rw [g3 k (by omega), cellAt_setAt e x j u y z hcell k, if_neg (by omega)]
          · rcases List.mem_append.1 hq with hq | hq
            · obtain ⟨p1, p2, p3, p4⟩ := moved_mv hV hroot hm hc0 q hq
              refine ⟨p1, by omega, ?_, ?_⟩
              · rw [g3 q.j (by omega), cellAt_setAt e x j u y z hcell, if_pos p2, p3]
              · rw [p2, Nat.sub_self]; simp [p4]
            · obtain ⟨p1, p2, p3, p4⟩ := g4 q hq
              refine ⟨p1, by omega, p3, ?_⟩
              rw [show q.j - j = (q.j - (j + 1)) + 1 by omega, List.getElem?_cons_succ]
              exact p4
        · cases hs
      · cases hs
    · cases hs
where
  cellAt_none : (t : Ty) → (x : t.D) → (j : Nat) → t.size ≤ j → cellAt t x j = none
    | .one h, x, j, hj => cellAt_none h x j hj
    | .cons h t, x, j, hj => by
      have := Ty.size_pos t
      simp only [Ty.size] at hj
      simp only [cellAt]
      rw [if_neg (by omega)]
      exact cellAt_none t x.2 _ (by omega)
    | .int _, x, 0, hj | .bool, x, 0, hj | .str, x, 0, hj | .sl _, x, 0, hj => by simp [Ty.size] at hj
    | .int _, x, _ + 1, hj | .bool, x, _ + 1, hj | .str, x, _ + 1, hj | .sl _, x, _ + 1, hj => rfl

end Go.Proofs.Ytlacogoljcpijaa.Vd

/- VdU -/
namespace Go.Proofs.Ytlacogoljcpijaa.Vd

variable {P : Program} {E : Env} {ρ ρ' : Map} {w w' : World} {s : S} {a : Act} {K : Ctx} {H H' : Nat → Option Root}

/-- The sweep of an array's change. -/
def putK (l : Nat) (all deep : Bool) (ms : List Mv) : Sweep := if deep then ⟨[(l, all)], mvTo l ms⟩ else ⟨(l, all) :: allDie (mvLocs ms), []⟩

theorem lookup_mv {l l2 : Nat} {c : C} : ∀ {ms : List Mv}, lookupN l2 (mvTo l ms) = some c → ∃ q ∈ ms, q.l = l2 ∧ c = .ref1 l q.i q.j q.u q.ys
  | [], h => by cases h
  | q :: ms, h => by
    simp only [mvTo, List.map_cons, lookupN] at h
    split at h
    · rename_i he
      cases h
      exact ⟨q, List.mem_cons_self .., he.symm, rfl⟩
    · obtain ⟨q', h1, h2⟩ := lookup_mv h
      exact ⟨q', List.mem_cons_of_mem _ h1, h2⟩

theorem lookup_mv_none {l l2 : Nat} : ∀ {ms : List Mv}, l2 ∉ mvLocs ms → lookupN l2 (mvTo l ms) = none
  | [], _ => rfl
  | q :: ms, h => by
    simp only [mvLocs, List.map_cons, List.mem_cons, not_or] at h
    simp only [mvTo, List.map_cons, lookupN, if_neg h.1]
    exact lookup_mv_none h.2

theorem lookup_mv_mem {l l2 : Nat} : ∀ {ms : List Mv}, l2 ∈ mvLocs ms → (lookupN l2 (mvTo l ms)).isSome = true
  | q :: ms, h => by
    simp only [mvLocs, List.map_cons, List.mem_cons] at h
    simp only [mvTo, List.map_cons, lookupN]
    split
    · rfl
    · rename_i hne
      exact lookup_mv_mem (h.resolve_left hne)
  | [], h => by cases h

theorem find_none {l2 : Nat} : ∀ {ms : List Mv}, l2 ∉ mvLocs ms → ms.find? (fun q => q.l == l2) = none
  | [], _ => rfl
  | q :: ms, h => by
    simp only [mvLocs, List.map_cons, List.mem_cons, not_or] at h
    rw [List.find?_cons_of_neg (by simpa using Ne.symm h.1)]
    exact find_none h.2

theorem find_some {l2 : Nat} {ms : List Mv} (h : l2 ∈ mvLocs ms) : ∃ q, ms.find? (fun q => q.l == l2) = some q := by
  cases hf : ms.find? (fun q => q.l == l2) with
  | some q => exact ⟨q, rfl⟩
  | none =>
    obtain ⟨q, hq, rfl⟩ := List.mem_map.1 h
    have := List.find?_eq_none.1 hf q hq
    simp at this

theorem take_other {l l2 b : Nat} {deep : Bool} {ms : List Mv} (ho : (ρ.own b).loc = some l2) (h1 : l2 ≠ l) (h2 : l2 ∉ mvLocs ms) : (ρ.take l deep ms).own b = ρ.own b := by
  simp only [Map.take]
  cases hb : ρ.own b with
  | free => rfl
  | off => rfl
  | main l' =>
    rw [hb] at ho
    simp only [Own.loc, Option.some.injEq] at ho
    subst ho
    simp [find_none h2]
  | inner l' i j =>
    rw [hb] at ho
    simp only [Own.loc, Option.some.injEq] at ho
    subst ho
    simp [find_none h2, h1]

theorem take_moved {l l2 b : Nat} {deep : Bool} {ms : List Mv} (ho : (ρ.own b).loc = some l2) (h2 : l2 ∈ mvLocs ms) : ∃ i j, (ρ.take l deep ms).own b = if deep then .inner l i j else .free := by
  obtain ⟨q, hq⟩ := find_some h2
  simp only [Map.take]
  cases hb : ρ.own b with
  | free => rw [hb] at ho; cases ho
  | off => rw [hb] at ho; cases ho
  | main l' =>
    rw [hb] at ho
    simp only [Own.loc, Option.some.injEq] at ho
    subst ho
    exact ⟨q.i, q.j, by simp [hq]⟩
  | inner l' i j =>
    rw [hb] at ho
    simp only [Own.loc, Option.some.injEq] at ho
    subst ho
    exact ⟨q.i, q.j, by simp [hq]⟩

theorem take_off {l b : Nat} {deep : Bool} {ms : List Mv} (h : (ρ.take l deep ms).own b = .off) : ρ.own b = .off := by
  simp only [Map.take] at h
  cases hb : ρ.own b with
  | free => rw [hb] at h; cases h
  | off => rfl
  | main l' =>
    rw [hb] at h
    simp only at h
    split at h
    · split at h <;> cases h
    · cases h
  | inner l' i j =>
    rw [hb] at h
    simp only at h
    split at h
    · split at h <;> cases h
    · split at h
      · split at h <;> cases h
      · cases h

theorem take_loc {l b l' : Nat} {deep : Bool} {ms : List Mv} (h : ((ρ.take l deep ms).own b).loc = some l') : l' = l ∨ (ρ.own b).loc = some l' := by
  simp only [Map.take] at h
  cases hb : ρ.own b with
  | free => rw [hb] at h; cases h
  | off => rw [hb] at h; cases h
  | main l2 =>
    rw [hb] at h
    simp only at h
    split at h
    · split at h
      · simp only [Own.loc, Option.some.injEq] at h; exact .inl h.symm
      · cases h
    · exact .inr h
  | inner l2 i j =>
    rw [hb] at h
    simp only at h
    split at h
    · split at h
      · simp only [Own.loc, Option.some.injEq] at h; exact .inl h.symm
      · cases h
    · split at h
      · split at h
        · exact .inr h
        · cases h
      · exact .inr h

theorem Chg.put {l : Nat} {deep all : Bool} {ms : List Mv} (hK : Kept ρ w w' l ρ'.own deep ms) (hlater : Later w w') (hmain : ∀ b, b < w.heap.size → ρ.own b = .main l → ρ'.own b = .main l ∨ ρ'.own b = .free)
    (hnew : ∀ b, w.heap.size ≤ b → ρ'.own b = .free ∨ ρ'.own b = .main l) (hhdr : ∀ l', l' ≠ l → ρ'.hdr l' = ρ.hdr l') (hhl : all = false → ρ'.hdr l = ρ.hdr l)
    (harr : ∀ l' e xs d, l' ≠ l → l' ∉ mvLocs ms → H l' = some (.arr e xs d) → H' l' = some (.arr e xs d))
    (hmv : deep = true → ∀ q ∈ ms, CR P ρ' w' H' (.ref1 l q.i q.j q.u q.ys) (ρ.hdr q.l)) : Chg P ρ ρ' w w' H H' (putK l all deep ms) := by
  have hkl : ∀ l', ¬ Killed (putK l all deep ms) l' → l' ≠ l := by
    rintro l' hk rfl
    apply hk
    unfold putK
    cases deep <;> exact killed_in.2 (by simp)
  have hkm : ∀ l', ¬ Killed (putK l all deep ms) l' → ¬ Moved (putK l all deep ms) l' → l' ∉ mvLocs ms := by
    intro l' hk hm hin
    cases deep with
    | true => exact hm (lookup_mv_mem hin)
    | false => exact hk (killed_in.2 (by simp [putK, allDie, hin]))
  have hall : ∀ l', ¬ KilledAll (putK l all deep ms) l' → ρ'.hdr l' = ρ.hdr l' := by
    intro l' hk
    by_cases hl : l' = l
    · subst hl
      apply hhl
      cases all with
      | false => rfl
      | true => exact absurd (by unfold putK KilledAll; cases deep <;> simp) hk
    · exact hhdr l' hl
  refine ⟨hlater, fun b hb ho => hK.free hb ho, fun b hb ho => ?_, fun b ho => ?_, fun b l' hb ho hk => ?_, fun l' hk _ => hall l' hk, fun l' b hk _ => hall l' hk, fun l' e xs d hk hm h => harr l' e xs d (hkl l' hk) (hkm l' hk hm) h, fun l' c hc => ?_, fun b l' hk hm hno hb => ?_, fun b l' hb ho hm => ?_⟩
  · refine ⟨?_, hK.heap b hb (by rw [ho]; simp)⟩
    rw [hK.own b hb (by rw [ho]; simp)]
    simp [Map.take, ho]
  · rcases Nat.lt_or_ge b w.heap.size with hb | hb
    · by_cases hm : ρ.own b = .main l
      · rcases hmain b hb hm with h | h <;> rw [h] at ho <;> cases ho
      · rw [hK.own b hb hm] at ho
        exact take_off ho
    · rcases hnew b hb with h | h <;> rw [h] at ho <;> cases ho
  · have hne := hkl l' hk
    have hm : ρ.own b ≠ .main l := by
      intro h
      rw [h] at ho
      simp only [Own.loc, Option.some.injEq] at ho
      exact hne ho.symm
    refine ⟨hK.heap b hb hm, fun hmv' => ?_⟩
    rw [hK.own b hb hm]
    exact take_other ho hne (hkm l' hk hmv')
  · cases deep with
    | false => cases hc
    | true =>
      obtain ⟨q, hq, rfl, rfl⟩ := lookup_mv (ms := ms) hc
      have hin : q.l ∈ mvLocs ms := List.mem_map.2 ⟨q, hq, rfl⟩
      refine ⟨fun hk => ?_, ⟨l, q.i, q.j, q.u, q.ys, rfl, ?_⟩, hmv rfl q hq⟩
      · have := killed_in.1 hk
        simp at this
        exact hK.apart (this ▸ hin)
      · simp [Moved, putK, lookup_mv_none hK.apart]
  · have hne := hkl l' hk
    rcases Nat.lt_or_ge b w.heap.size with h1 | h1
    · by_cases h2 : ρ.own b = .main l
      · rcases hmain b h1 h2 with h3 | h3 <;> rw [h3] at hb <;> cases hb
        exact hne rfl
      · rw [hK.own b h1 h2] at hb
        exact (take_loc hb).elim hne (hno b)
    · rcases hnew b h1 with h3 | h3 <;> rw [h3] at hb <;> cases hb
      exact hne rfl
  · cases deep with
    | false => exact absurd hm not_moved_nil
    | true =>
      have hin : l' ∈ mvLocs ms := by
        by_cases h : l' ∈ mvLocs ms
        · exact h
        · simp [Moved, putK, lookup_mv_none h] at hm
      obtain ⟨c, hc⟩ := Option.isSome_iff_exists.1 (lookup_mv_mem (l := l) hin)
      obtain ⟨q, hq, rfl, rfl⟩ := lookup_mv hc
      have hne : q.l ≠ l := fun h => hK.apart (h ▸ hin)
      have hm' : ρ.own b ≠ .main l := by
        intro h
        rw [h] at ho
        simp only [Own.loc, Option.some.injEq] at ho
        exact hne ho.symm
      obtain ⟨i, j, hij⟩ := take_moved (deep := true) (l := l) ho hin
      rw [hK.own b hb hm', hij]
      simp only [putK, if_true, newLoc, hc, Own.loc]

/-- Read as data, element by element. -/
theorem DR.rd2 {own : Nat → Own} {l i : Nat} : (t : Ty) → (j : Nat) → (x : t.D) → (us : List Value) → DR w own l i t j x us → Rd w (fun b => own b = .free ∨ ∃ j, own b = .inner l i j) t x us
  | .sl u, j, ys, us, h => by
    obtain ⟨v, rfl, hu, ha⟩ := h
    exact ha.rd (fun b hb => .inr ⟨j, hb⟩) fun i x us _ hr => Rd.flat u x us hu hr
  | .one h, j, x, us, hh => DR.rd2 h j x us hh
  | .cons h t, j, x, us, hh => by
    obtain ⟨v1, v2, rfl, h1, h2⟩ := hh
    exact ⟨v1, v2, rfl, DR.rd2 h j _ _ h1, DR.rd2 t _ _ _ h2⟩
  | .int _, _, _, _, h => h
  | .bool, _, _, _, h => h
  | .str, _, _, _, h => h

/-- An element that stays. -/
theorem Kept.el {own' : Nat → Own} {l i : Nat} {deep d : Bool} {ms : List Mv} (h : Kept ρ w w' l own' deep ms) {e : Ty} {x : e.D} {us : List Value} (hd : deep = true → d = true) (hx : EL w ρ.own l d e i x us) : EL w' own' l deep e i x us := by
  have inner : ∀ b k j, b < w.heap.size → ρ.own b = .inner l k j → own' b = (if deep then .inner l k j else .free) ∧ w'.heap[b]? = w.heap[b]? := by
    intro b k j hb ho
    refine ⟨?_, h.heap b hb (by rw [ho]; simp)⟩
    rw [h.own b hb (by rw [ho]; simp)]
    simp [Map.take, ho, find_none h.apart]
  unfold EL at hx ⊢
  cases deep with
  | true =>
    rw [hd rfl] at hx
    simp only [if_true] at hx ⊢
    exact DR.step (fun b hb ho => h.free hb ho) (fun b j hb ho => by have := inner b i j hb ho; simpa using this) e 0 x us hx
  | false =>
    cases d with
    | false => exact h.rdFree (by simpa using hx)
    | true =>
      simp only [if_true] at hx
      refine Rd.mono (fun b hb ho => ?_) _ _ _ (DR.rd2 e 0 x us hx)
      rcases ho with ho | ⟨j, ho⟩
      · exact h.free hb ho
      · have := inner b i j hb ho
        simpa [Free] using this

end Go.Proofs.Ytlacogoljcpijaa.Vd

/- VdV -/
namespace Go.Proofs.Ytlacogoljcpijaa.Vd

variable {P : Program} {E : Env} {ρ ρ' : Map} {w w' : World} {s : S} {a : Act} {K : Ctx} {H H' : Nat → Option Root}

def putD (x : A) (l : Nat) (r : Root) (all deep : Bool) (ms : List Mv) : Delta :=
  { dst := x, set := (l, some r) :: noRoots (mvLocs ms), kill := (putK l all deep ms).kill, mov := (putK l all deep ms).mov }

theorem noRoots_mem {l : Nat} {r : Option Root} {m : List Nat} (h : (l, r) ∈ noRoots m) : l ∈ m ∧ r = none := by
  simp only [noRoots, List.mem_map, Prod.mk.injEq] at h
  obtain ⟨l', h1, rfl, rfl⟩ := h
  exact ⟨h1, rfl⟩

theorem noRoots_fst (m : List Nat) : (noRoots m).map Prod.fst = m := by simp [noRoots, Function.comp_def]

theorem putD_root {dst : Option Nat} {x : A} {l : Nat} {r : Root} {all deep : Bool} {ms : List Mv} (h : l ∉ mvLocs ms) : (s.apply dst (putD x l r all deep ms)).root l = some r := by
  rcases apply_root s dst (putD x l r all deep ms) l with ⟨_, h1⟩ | h1
  · exact absurd (by simp [putD]) h1
  · rcases List.mem_cons.1 h1 with h2 | h2
    · simp only [Prod.mk.injEq, true_and] at h2; exact h2
    · exact absurd (noRoots_mem h2).1 h

theorem putD_other {dst : Option Nat} {x : A} {l l' : Nat} {r : Root} {all deep : Bool} {ms : List Mv} (h : l' ≠ l) (h' : l' ∉ mvLocs ms) :
    (s.apply dst (putD x l r all deep ms)).root l' = (s.root l').map (Root.left (putK l all deep ms)) :=
  root_other (d := putD x l r all deep ms) (by simp only [putD, List.map_cons, noRoots_fst, List.mem_cons, not_or]; exact ⟨h, h'⟩)

theorem Sound.put (hR : Rel P K ρ s a w) {o : Oper} {l : Nat} {deep all : Bool} {ms : List Mv} {x : A} {v : Value} {r : Root} (hK : Kept ρ w w' l ρ'.own deep ms) (hlater : Later w w')
    (hmain : ∀ b, b < w.heap.size → ρ.own b = .main l → ρ'.own b = .main l ∨ ρ'.own b = .free) (hnew : ∀ b, w.heap.size ≤ b → ρ'.own b = .free ∨ (ρ'.own b = .main l ∧ b < w'.heap.size))
    (hhdr : ∀ l', l' ≠ l → ρ'.hdr l' = ρ.hdr l') (hhl : all = false → ρ'.hdr l = ρ.hdr l) (hfix : ∀ u, (l, u) ∈ K.fix → ρ'.hdr l = ρ.hdr l)
    (run : (execOp a.eval o).run P w = .ok (.value v) w' ∨ ((execOp a.eval o).run P w = .ok .skip w' ∧ v = undef))
    (hr : ∀ H', H' l = some r → RR P ρ' w' H' l r ∧ AR P ρ' w' H' x v ∧ (deep = true → ∀ q ∈ ms, CR P ρ' w' H' (.ref1 l q.i q.j q.u q.ys) (ρ.hdr q.l))) :
    Sound P K s a w o (.ret (putD x l r all deep ms)) := by
  intro _ next Q hnext
  obtain ⟨h1, h2, h3⟩ := hr _ (putD_root (s := s) (dst := o.dst) (x := x) (r := r) (all := all) (deep := deep) hK.apart)
  have hc : Chg P ρ ρ' w w' s.root (s.apply o.dst (putD x l r all deep ms)).root (putK l all deep ms) :=
    Chg.put hK hlater hmain (fun b hb => (hnew b hb).imp id fun h => h.1) hhdr hhl (fun l' e xs d hl hm hh => by rw [putD_other hl hm, hh]; rfl) h3
  have hrel : Rel P K ρ' (s.apply o.dst (putD x l r all deep ms)) (a.put o.dst v) w' := by
    have hlen : l < (s.apply o.dst (putD x l r all deep ms)).H.length := by
      rw [apply_H]
      exact (setAll_length_ge _ _).2 l (some r) (by simp [putD])
    have hold : s.H.length ≤ (s.apply o.dst (putD x l r all deep ms)).H.length := by
      rw [apply_H]
      exact Nat.le_trans (by rw [swept_H]; simp) (setAll_length_ge _ _).1
    refine hR.apply o.dst _ v hc ?_ ?_ (fun _ => h2) ?_ ?_ ?_
    · intro l2 r2 hm
      rcases List.mem_cons.1 hm with h | h
      · simp only [Prod.mk.injEq, Option.some.injEq] at h
        obtain ⟨rfl, rfl⟩ := h
        exact h1
      · cases (noRoots_mem h).2
    · intro l2 hkm
      simp only [putD, List.map_cons, noRoots_fst]
      cases deep with
      | true =>
        rcases hkm with hk | hm
        · have := killed_in.1 hk
          simp [putD, putK] at this
          simp [this]
        · by_cases h : l2 ∈ mvLocs ms
          · exact List.mem_cons_of_mem _ h
          · simp [Moved, putD, putK, lookup_mv_none h] at hm
      | false =>
        rcases hkm with hk | hm
        · have := killed_in.1 hk
          simp only [putD, putK, Bool.false_eq_true, if_false, List.map_cons, allDie, List.map_map, Function.comp_def, List.map_id'] at this
          exact this
        · exact absurd hm not_moved_nil
    · intro b l' hl
      rcases Nat.lt_or_ge b w.heap.size with hb | hb
      · by_cases hm : ρ.own b = .main l
        · rcases hmain b hb hm with h | h
          · rw [h] at hl; simp only [Own.loc, Option.some.injEq] at hl; rw [← hl]; exact hlen
          · rw [h] at hl; cases hl
        · rw [hK.own b hb hm] at hl
          rcases take_loc hl with rfl | h
          · exact hlen
          · exact Nat.lt_of_lt_of_le (hR.live b l' h) hold
      · rcases hnew b hb with h | ⟨h, _⟩
        · rw [h] at hl; cases hl
        · rw [h] at hl; simp only [Own.loc, Option.some.injEq] at hl; rw [← hl]; exact hlen
    · intro b hb
      rcases hnew b (Nat.le_trans hlater.size hb) with h | ⟨_, h⟩
      · exact h
      · omega
    · intro l' u hl
      by_cases h : l' = l
      · subst h; exact hfix u hl
      · exact hhdr l' h
  rcases run with run | ⟨run, rfl⟩
  · exact wp_value run (hnext _ _ _ _ rfl hrel)
  · exact wp_skip' run (hnext _ _ _ _ rfl hrel)

theorem sz_pos {T : TypeId} {n : Nat} (h : E.sz T = some n) : 0 < n := by
  unfold Env.sz at h
  split at h
  · simp only [Option.some.injEq] at h; subst h; exact Ty.size_pos _
  · split at h
    · simp only [Option.some.injEq] at h; omega
    · cases h

theorem storeAp_sound (hR : Rel P K ρ s a w) (hT : TyOK P E) {V : View} (hV : Seen V s) {o : Oper} {T : TypeId} {x z : Operand} (ho : o.op = .store T x z) {l i j : Nat} {e : Ty} {y : e.D} {vs : List C} {Z : A} {xs : List e.D} {d : Bool}
    (hl : V.root l = some (.arr e xs d)) (hvs : vsOf E T Z = some vs) {y' : e.D} {b : Bool} {m : List Mv} (hset : setAts V i e y j vs = some (y', b, m)) (hap : l ∉ mvLocs m) (hnd : (mvLocs m).Nodup)
    (hx : AR P ρ w s.root (.val false [.ap l i j e y]) (a.eval x)) (hz : AR P ρ w s.root Z (a.eval z)) {deep : Bool} (hdeep : deep = true → d = true ∧ b = true) :
    Sound P K s a w o (.ret (putD .none l (.arr e (xs.set i y') deep) false deep m)) := by
  obtain ⟨xs', d', g, n, c, h1, h2, h3, hv⟩ := VR.cell hx
  have hs := hV l _ hl
  rw [hs] at h1
  cases h1
  rcases hR.root l _ hs with ⟨q, _, rfl⟩ | ⟨g', cap, cur, TT, hh, hcap, hmx, hown, hheap, hsz, hel⟩
  · simp at h2
  rw [h3] at hh
  simp only [Value.slice.injEq, Option.some.injEq, Addr.mk.injEq, and_true] at hh
  obtain ⟨rfl, rfl, rfl⟩ := hh
  obtain ⟨us, g1, g2, g3⟩ := hel i y h2
  obtain ⟨hsize, us2, hus, hcells⟩ := vsOf_spec hvs hz
  have hgb : g < w.heap.size := (Array.getElem?_eq_some_iff.1 hheap).1
  generalize hW : w.setRow g (cur.toList.take (i * e.size + j) ++ us2 ++ cur.toList.drop (i * e.size + j + us2.length)).toArray = w'
  have hK : Kept ρ w w' l (ρ.take l deep m).own deep m := by
    refine ⟨fun b hb ho => ?_, fun _ _ _ => rfl, hnd, hap⟩
    rw [← hW]
    exact setRow_other w g b _ (by rintro rfl; exact ho hown)
  have hel0 : EL0 w' (ρ.take l deep m).own l i deep e 0 y us := hK.el (fun h => (hdeep h).1) g3
  obtain ⟨q1, q2, q3, q4⟩ := setAts_rel hV hR.root hK vs us2 y y' us j b m hset (fun q hq => hq) (fun h => (hdeep h).2) hus g1 hel0
  have hne : us2 ≠ [] := by
    rintro rfl
    have := sz_pos hsize
    have h5 := hus.1
    rw [List.length_nil] at h5
    omega
  have hj : j + us2.length ≤ e.size := by have := q1.resolve_left hne; omega
  have hi : i < c := Nat.lt_of_lt_of_le (List.getElem?_eq_some_iff.1 h2).1 hcap
  have hrow : (i + 1) * e.size ≤ c * e.size := Nat.mul_le_mul_right _ hi
  rw [Nat.add_mul, Nat.one_mul] at hrow
  have hfit : i * e.size + j + us2.length ≤ cur.size := by omega
  have run := run_storeAt_row hT hsize hus hcells hheap hfit
  rw [hW] at run
  have hcur' : w'.heap[g]? = some (.cells (cur.toList.take (i * e.size + j) ++ us2 ++ cur.toList.drop (i * e.size + j + us2.length)).toArray TT (0, 0)) := by
    rw [← hW]; exact setRow_heap w g _ _ TT (0, 0) hheap
  have hown' : (ρ.take l deep m).own g = .main l := by
    simp [Map.take, hown, find_none hap]
  have hseg := segment hfit
  -- the element that was written
  have hus' : ∀ (k : Nat) u, (us.take j ++ us2 ++ us.drop (j + us2.length))[k]? = some u → (cur.toList.take (i * e.size + j) ++ us2 ++ cur.toList.drop (i * e.size + j + us2.length)).toArray[i * e.size + k]? = some u := by
    intro k u hk
    have hsg := segment (cur := us.toArray) (o := j) (us := us2) (by simp; omega) k
    simp only [List.getElem?_toArray] at hsg
    rw [hsg] at hk
    rw [hseg]
    split at hk
    · rename_i hc
      rw [if_pos (by omega), show i * e.size + k - (i * e.size + j) = k - j by omega]
      exact hk
    · rename_i hc
      rw [if_neg (by omega)]
      exact g2 k u hk
  have hlen' : (us.take j ++ us2 ++ us.drop (j + us2.length)).length = e.size := by simp; omega
  have hRR : ∀ H', RR P (ρ.take l deep m) w' H' l (.arr e (xs.set i y') deep) := by
    intro H'
    refine .inr ⟨g, c, _, TT, by rw [List.length_set]; exact h3, by rw [List.length_set]; exact hcap, hmx, hown', hcur', (segment_size hfit).trans hsz, fun k x hk => ?_⟩
    by_cases hki : k = i
    · subst hki
      rw [List.getElem?_set_self (List.getElem?_eq_some_iff.1 h2).1] at hk
      cases hk
      exact ⟨_, hlen', hus', q2⟩
    · rw [List.getElem?_set_ne (Ne.symm hki)] at hk
      obtain ⟨us3, p1, p2, p3⟩ := hel k x hk
      refine ⟨us3, p1, fun j' u hj' => ?_, hK.el (fun h => (hdeep h).1) p3⟩
      have hjl := (List.getElem?_eq_some_iff.1 hj').1
      rw [hseg, if_neg ?_]
      · exact p2 j' u hj'
      · rintro ⟨r1, r2⟩
        rcases Nat.lt_or_gt_of_ne hki with hlt | hgt
        · have : (k + 1) * e.size ≤ i * e.size := Nat.mul_le_mul_right _ hlt
          rw [Nat.add_mul, Nat.one_mul] at this
          omega
        · have : (i + 1) * e.size ≤ k * e.size := Nat.mul_le_mul_right _ hgt
          rw [Nat.add_mul, Nat.one_mul] at this
          omega
  refine Sound.put hR (ρ' := ρ.take l deep m) (w' := w') (v := undef) hK (by rw [← hW]; exact Later.setRow _ _ _) (fun b hb hb2 => ?_) (fun b hb => ?_) (fun _ _ => rfl) (fun _ => rfl) (fun _ _ => rfl) (.inr ⟨?_, rfl⟩) fun H' hH => ⟨hRR H', rfl, fun hdp q hq => ?_⟩
  · left
    simp [Map.take, hb2, find_none hap]
  · left
    simp [Map.take, hR.fresh b hb]
  · simp only [execOp, ho, hv, Sem.run_bind]
    rw [run]
    rfl
  · subst hdp
    obtain ⟨p1, p2, p3, p4⟩ := q4 q hq
    have hqj : q.j - j < us2.length := (List.getElem?_eq_some_iff.1 p4).1
    refine ⟨e, xs.set i y', y', us.take j ++ us2 ++ us.drop (j + us2.length), hH, ?_, p3, ?_, ?_, g, _, c, h3, hown', fun k u hk => ?_⟩
    · rw [p1]; exact List.getElem?_set_self (List.getElem?_eq_some_iff.1 h2).1
    · have hsg := segment (cur := us.toArray) (o := j) (us := us2) (by simp; omega) q.j
      simp only [List.getElem?_toArray] at hsg
      rw [hsg, if_pos (by omega)]
      exact p4
    · have := q2
      unfold EL0 at this
      rw [p1]
      simpa using this
    · rw [cell_of_row w' g _ _ TT (0, 0) hcur', p1]
      exact hus' k u hk

end Go.Proofs.Ytlacogoljcpijaa.Vd

/- VdW -/
namespace Go.Proofs.Ytlacogoljcpijaa.Vd

variable {P : Program} {E : Env} {ρ ρ' : Map} {w w' : World} {s : S} {a : Act} {K : Ctx} {H H' : Nat → Option Root}

theorem DR.step2 {own : Nat → Own} {l i : Nat} (hf : ∀ b, b < w.heap.size → own b = .free → w'.heap[b]? = w.heap[b]?) :
    (t : Ty) → (j : Nat) → (x : t.D) → (vs : List Value) → (∀ b j', j ≤ j' → j' < j + t.size → b < w.heap.size → own b = .inner l i j' → w'.heap[b]? = w.heap[b]?) → DR w own l i t j x vs → DR w' own l i t j x vs
  | .sl u, j, ys, vs, hb, h => by
    obtain ⟨v, rfl, hu, ha⟩ := h
    exact ⟨v, rfl, hu, ha.step (fun b hs hk => ⟨hk, hb b j (Nat.le_refl _) (by simp [Ty.size]) hs hk⟩) fun i x us _ hr => Rd.flat u x us hu hr⟩
  | .one h, j, x, vs, hb, hh => DR.step2 hf h j x vs hb hh
  | .cons h t, j, x, vs, hb, hh => by
    obtain ⟨v1, v2, rfl, h1, h2⟩ := hh
    exact ⟨v1, v2, rfl, DR.step2 hf h j _ _ (fun b j' p1 p2 => hb b j' p1 (by simp only [Ty.size]; omega)) h1, DR.step2 hf t _ _ _ (fun b j' p1 p2 => hb b j' (by omega) (by simp only [Ty.size]; omega)) h2⟩
  | .int _, _, _, _, _, h => h
  | .bool, _, _, _, _, h => h
  | .str, _, _, _, _, h => h

theorem DR.set2 {own : Nat → Own} {l i : Nat} (hf : ∀ b, b < w.heap.size → own b = .free → w'.heap[b]? = w.heap[b]?) :
    (t : Ty) → (j0 : Nat) → (x : t.D) → (us : List Value) → ∀ (j : Nat) (u : Ty) (y z : List u.D) (v : Value), (∀ b j', j' ≠ j0 + j → b < w.heap.size → own b = .inner l i j' → w'.heap[b]? = w.heap[b]?) → DR w own l i t j0 x us →
      cellAt t x j = some ⟨.sl u, y⟩ → us[j]? = some v → DR w' own l i (.sl u) (j0 + j) z [v] → DR w' own l i t j0 (setAt t x j (.sl u) z) us
  | .one h, j0, x, us, j, u, y, z, v, hb, hr, hc, hv, hz => DR.set2 hf h j0 x us j u y z v hb hr hc hv hz
  | .cons h t, j0, x, us, j, u, y, z, v, hb, hr, hc, hv, hz => by
    obtain ⟨v1, v2, rfl, h1, h2⟩ := hr
    have hl := DR.length h _ _ _ h1
    simp only [cellAt] at hc
    simp only [setAt]
    by_cases hj : j < h.size
    · rw [if_pos hj] at hc ⊢
      rw [List.getElem?_append_left (by omega)] at hv
      exact ⟨v1, v2, rfl, DR.set2 hf h j0 x.1 v1 j u y z v hb h1 hc hv hz, DR.step2 hf t _ _ _ (fun b j' p1 p2 p3 p4 => hb b j' (by omega) p3 p4) h2⟩
    · rw [if_neg hj] at hc ⊢
      rw [List.getElem?_append_right (by omega), hl] at hv
      refine ⟨v1, v2, rfl, DR.step2 hf h _ _ _ (fun b j' p1 p2 p3 p4 => hb b j' (by omega) p3 p4) h1, DR.set2 hf t (j0 + h.size) x.2 v2 (j - h.size) u y z v (fun b j' p1 p2 p3 => hb b j' (by omega) p2 p3) h2 hc hv ?_⟩
      rwa [show j0 + h.size + (j - h.size) = j0 + j by omega]
  | .int k, j0, x, us, j, u, y, z, v, hb, hr, hc, hv, hz => by cases j <;> simp [cellAt] at hc
  | .bool, j0, x, us, j, u, y, z, v, hb, hr, hc, hv, hz => by cases j <;> simp [cellAt] at hc
  | .str, j0, x, us, j, u, y, z, v, hb, hr, hc, hv, hz => by cases j <;> simp [cellAt] at hc
  | .sl e, j0, x, us, j, u, y, z, v, hb, hr, hc, hv, hz => by
    cases j with
    | succ j => simp [cellAt] at hc
    | zero =>
      simp only [cellAt, Option.some.injEq] at hc
      cases hc
      obtain ⟨v0, rfl, _⟩ := hr
      simp only [List.getElem?_cons_zero, Option.some.injEq] at hv
      subst hv
      simpa [setAt, castD] using hz

theorem storeAp1_sound (hR : Rel P K ρ s a w) (hT : TyOK P E) {V : View} (hV : Seen V s) {o : Oper} {T : TypeId} {x z : Operand} (ho : o.op = .store T x z) {l i j i' j' : Nat} {e u : Ty} {ys : List u.D} {y : u.D} {vs : List C} {Z : A} {xs : List e.D}
    (hl : V.root l = some (.arr e xs true)) (hvs : vsOf E T Z = some vs) {y' : u.D} {b : Bool} (hset : setAts V 0 u y j' vs = some (y', b, [])) (hfl : u.flat = true)
    (hx : AR P ρ w s.root (.val false [.ap1 l i j i' j' u ys y]) (a.eval x)) (hz : AR P ρ w s.root Z (a.eval z)) :
    Sound P K s a w o (.ret { dst := .none, set := [(l, some (.arr e (xs.modify i fun x => setAt e x j (.sl u) (ys.set i' y')) true))], kill := [(l, false)] }) := by
  obtain ⟨e', xs', x', us, g, n, c, h1, h2, h3, h4, h5, h6, hv, gm, nm, cm, h7, h8, h9⟩ := VR.cell hx
  have hs := hV l _ hl
  rw [hs] at h1
  cases h1
  obtain ⟨⟨v', hv', _, harr⟩, _⟩ := DR.at e 0 x' us h6 j (.sl u) ys _ h3 h5
  simp only [List.cons.injEq, and_true] at hv'
  subst hv'
  rcases harr with ⟨q, _, rfl⟩ | ⟨g', cap, cur, TT, hh, hcap, hmx, hown, hheap, hsz, hel⟩
  · simp at h4
  simp only [Value.slice.injEq, Option.some.injEq, Addr.mk.injEq, and_true] at hh
  obtain ⟨rfl, rfl, rfl⟩ := hh
  obtain ⟨us1, g1, g2, g3⟩ := hel i' y h4
  obtain ⟨hsize, us2, hus, hcells⟩ := vsOf_spec hvs hz
  have hK : Kept ρ w w l (ρ.take l false []).own false [] := ⟨fun _ _ _ => rfl, fun _ _ _ => rfl, by simp [mvLocs], by simp [mvLocs]⟩
  have hel0 : EL0 w (ρ.take l false []).own l 0 false u 0 y us1 := Rd.flat u y us1 hfl g3
  obtain ⟨q1, q2, _, _⟩ := setAts_rel hV hR.root hK vs us2 y y' us1 j' b [] hset (fun q hq => hq) (fun h => by cases h) hus g1 hel0
  have hne : us2 ≠ [] := by
    rintro rfl
    have := sz_pos hsize
    have h5 := hus.1
    rw [List.length_nil] at h5
    omega
  have hj : j' + us2.length ≤ u.size := by have := q1.resolve_left hne; omega
  have hi : i' < c := Nat.lt_of_lt_of_le (List.getElem?_eq_some_iff.1 h4).1 hcap
  have hrow : (i' + 1) * u.size ≤ c * u.size := Nat.mul_le_mul_right _ hi
  rw [Nat.add_mul, Nat.one_mul] at hrow
  have hfit : i' * u.size + j' + us2.length ≤ cur.size := by omega
  have run := run_storeAt_row hT hsize hus hcells hheap hfit
  have hseg := segment hfit
  have hmain : gm ≠ g := by rintro rfl; rw [hown] at h8; cases h8
  refine Sound.write hR (cs := (cur.toList.take (i' * u.size + j') ++ us2 ++ cur.toList.drop (i' * u.size + j' + us2.length)).toArray) (g := g) (v := undef) (by rw [hown]; simp [Own.loc]) (.inr ⟨?_, rfl⟩) fun H' hc hH => ⟨?_, rfl⟩
  · simp only [execOp, ho, hv, Sem.run_bind]
    rw [run]
    rfl
  · rcases hR.root l _ hs with ⟨q, _, rfl⟩ | ⟨gm', capm, curm, TTm, hhm, hcapm, hmxm, hownm, hheapm, hszm, helm⟩
    · simp at h2
    rw [h7] at hhm
    simp only [Value.slice.injEq, Option.some.injEq, Addr.mk.injEq, and_true] at hhm
    obtain ⟨rfl, rfl, rfl⟩ := hhm
    have hother : ∀ k, k ≠ g → (w.setRow g (cur.toList.take (i' * u.size + j') ++ us2 ++ cur.toList.drop (i' * u.size + j' + us2.length)).toArray).heap[k]? = w.heap[k]? := fun k hk => setRow_other w g k _ hk
    refine .inr ⟨gm, cm, curm, TTm, by rw [List.length_modify]; exact h7, by rw [List.length_modify]; exact hcapm, hmxm, hownm, (hother gm hmain).trans hheapm, hszm, fun k x hk => ?_⟩
    rw [List.getElem?_modify] at hk
    cases hxk : xs[k]? with
    | none => rw [hxk] at hk; simp at hk
    | some xk =>
      rw [hxk] at hk
      simp only [Option.map_eq_map, Option.map_some, Option.some.injEq] at hk
      obtain ⟨us3, p1, p2, p3⟩ := helm k xk hxk
      simp only [EL, if_true] at p3
      by_cases hki : i = k
      · subst hki
        rw [h2] at hxk
        cases hxk
        simp only [if_true] at hk
        subst hk
        have hus3 : us = us3 := by
          refine List.ext_getElem? fun m => ?_
          have hl1 := DR.length e 0 x' us h6
          by_cases hm : m < e.size
          · have a1 := h9 m us[m] (List.getElem?_eq_getElem (by omega))
            rw [cell_of_row w gm _ curm TTm (0, 0) hheapm] at a1
            have a2 := p2 m us3[m] (List.getElem?_eq_getElem (by omega))
            rw [a1] at a2
            rw [List.getElem?_eq_getElem (by omega), List.getElem?_eq_getElem (by omega), a2]
          · rw [List.getElem?_eq_none (by omega), List.getElem?_eq_none (by omega)]
        subst hus3
        refine ⟨us, p1, p2, ?_⟩
        simp only [EL, if_true]
        refine DR.set2 (w := w) (fun b hb hob => hother b (by rintro rfl; rw [hown] at hob; cases hob)) e 0 x' us j u ys (ys.set i' y') _ (fun b j2 hj2 hb hob => hother b (by
          rintro rfl
          rw [hown] at hob
          simp only [Own.inner.injEq, true_and] at hob
          exact hj2 hob.symm)) h6 h3 h5 ⟨_, rfl, hfl, .inr ⟨g, c, _, TT, by rw [List.length_set], by rw [List.length_set]; exact hcap, hmx, hown, setRow_heap w g _ _ TT (0, 0) hheap, (segment_size hfit).trans hsz, fun k x hk => ?_⟩⟩
        by_cases hki : k = i'
        · subst hki
          rw [List.getElem?_set_self (List.getElem?_eq_some_iff.1 h4).1] at hk
          cases hk
          refine ⟨us1.take j' ++ us2 ++ us1.drop (j' + us2.length), by simp; omega, fun k2 v2 hk2 => ?_, ?_⟩
          · have hsg := segment (cur := us1.toArray) (o := j') (us := us2) (by simp; omega) k2
            simp only [List.getElem?_toArray] at hsg
            rw [hsg] at hk2
            rw [hseg]
            split at hk2
            · rename_i hc2
              rw [if_pos (by omega), show k * u.size + k2 - (k * u.size + j') = k2 - j' by omega]
              exact hk2
            · rename_i hc2
              rw [if_neg (by omega)]
              exact g2 k2 v2 hk2
          · exact Rd.flat u y' _ hfl (by simpa [EL0] using q2)
        · rw [List.getElem?_set_ne (Ne.symm hki)] at hk
          obtain ⟨us4, r1, r2, r3⟩ := hel k x hk
          refine ⟨us4, r1, fun j2 v2 hj2 => ?_, Rd.flat u x us4 hfl r3⟩
          have hjl := (List.getElem?_eq_some_iff.1 hj2).1
          rw [hseg, if_neg ?_]
          · exact r2 j2 v2 hj2
          · rintro ⟨t1, t2⟩
            rcases Nat.lt_or_gt_of_ne hki with hlt | hgt
            · have : (k + 1) * u.size ≤ i' * u.size := Nat.mul_le_mul_right _ hlt
              rw [Nat.add_mul, Nat.one_mul] at this
              omega
            · have : (i' + 1) * u.size ≤ k * u.size := Nat.mul_le_mul_right _ hgt
              rw [Nat.add_mul, Nat.one_mul] at this
              omega
      · rw [if_neg hki] at hk
        subst hk
        refine ⟨us3, p1, p2, ?_⟩
        simp only [EL, if_true]
        exact DR.step2 (fun b hb hob => hother b (by rintro rfl; rw [hown] at hob; cases hob)) e 0 xk us3 (fun b j2 _ _ hb hob => hother b (by
          rintro rfl
          rw [hown] at hob
          simp only [Own.inner.injEq, true_and] at hob
          exact hki hob.1)) p3

end Go.Proofs.Ytlacogoljcpijaa.Vd

/- VdX -/
namespace Go.Proofs.Ytlacogoljcpijaa.Vd

variable {P : Program} {E : Env} {ρ ρ' : Map} {w w' : World} {s : S} {a : Act} {K : Ctx} {H H' : Nat → Option Root}

theorem EL0.cons {own : Nat → Own} {l i : Nat} {d : Bool} {h t : Ty} {j : Nat} {x : h.D} {y : t.D} {v1 v2 : List Value} (h1 : EL0 w own l i d h j x v1) (h2 : EL0 w own l i d t (j + h.size) y v2) :
    EL0 w own l i d (.cons h t) j (x, y) (v1 ++ v2) := by
  unfold EL0 at h1 h2 ⊢
  cases d with
  | true => exact ⟨v1, v2, rfl, by simpa using h1, by simpa using h2⟩
  | false => exact ⟨v1, v2, rfl, by simpa using h1, by simpa using h2⟩

theorem EL0.length {own : Nat → Own} {l i : Nat} {d : Bool} {t : Ty} {j : Nat} {x : t.D} {us : List Value} (h : EL0 w own l i d t j x us) : us.length = t.size := by
  unfold EL0 at h
  cases d with
  | true => exact DR.length t j x us (by simpa using h)
  | false => exact Rd.length (by simpa using h)

/-- What is known of an element that roots moved into, from its cell j on. -/
def MvAt (ρ : Map) (i j : Nat) (t : Ty) (x : t.D) (us : List Value) (m : List Mv) : Prop :=
  ∀ q ∈ m, q.i = i ∧ j ≤ q.j ∧ q.j < j + t.size ∧ cellAt t x (q.j - j) = some ⟨.sl q.u, q.ys⟩ ∧ us[q.j - j]? = some (ρ.hdr q.l)

theorem movedAll_rel {V : View} (hV : Seen V s) (hroot : ∀ l r, s.root l = some r → RR P ρ w s.root l r) {own' : Nat → Own} {l i : Nat} {deep : Bool} {ms : List Mv} (h : Kept ρ w w' l own' deep ms) :
    ∀ (t : Ty) (j : Nat) (cs : List C) (vs : List Value) (x : t.D) (b : Bool) (m : List Mv) (r : List C), V.movedAll i j t cs = some (x, b, m, r) → (∀ q ∈ m, q ∈ ms) → (deep = true → b = true) → CsR P ρ w s.root cs vs →
      ∃ v1 v2, vs = v1 ++ v2 ∧ CsR P ρ w s.root r v2 ∧ EL0 w' own' l i deep t j x v1 ∧ MvAt ρ i j t x v1 m := by
  have leaf : ∀ (t : Ty) (j : Nat) (c : C) (cs : List C) (vs : List Value) (x : t.D) (b : Bool) (m : List Mv), t.agg = false → cellAt t x 0 = some ⟨t, x⟩ → V.moved i j c t = some (x, b, m) → (∀ q ∈ m, q ∈ ms) → (deep = true → b = true) →
      CsR P ρ w s.root (c :: cs) vs → ∃ v1 v2, vs = v1 ++ v2 ∧ CsR P ρ w s.root cs v2 ∧ EL0 w' own' l i deep t j x v1 ∧ MvAt ρ i j t x v1 m := by
    intro t j c cs vs x b m hagg hcell hm hsub hd hcs
    match vs, hcs with
    | v :: vs, hcs =>
      have hc0 : CR P ρ w s.root c v := hcs.2 0 c v rfl rfl
      refine ⟨[v], vs, rfl, ⟨by have := hcs.1; simpa using this, fun k c' v' h1 h2 => hcs.2 (k + 1) c' v' (by simpa using h1) (by simpa using h2)⟩, moved_rel hV hroot h hm hsub hd hc0 hagg, fun q hq => ?_⟩
      obtain ⟨p1, p2, p3, p4⟩ := moved_mv hV hroot hm hc0 q hq
      refine ⟨p1, by omega, by rw [Ty.size_one hagg]; omega, ?_, ?_⟩
      · rw [p2, Nat.sub_self, hcell, p3]
      · rw [p2, Nat.sub_self]; simp [p4]
  intro t
  induction t with
  | one t ih =>
    intro j cs vs x b m r hm hsub hd hcs
    exact ih j cs vs x b m r (by simpa only [View.movedAll] using hm) hsub hd hcs
  | cons t1 t2 ih1 ih2 =>
    intro j cs vs x b m r hm hsub hd hcs
    simp only [View.movedAll] at hm
    split at hm
    · rename_i x1 b1 m1 r1 hm1
      split at hm
      · rename_i x2 b2 m2 r2 hm2
        simp only [Option.some.injEq, Prod.mk.injEq] at hm
        obtain ⟨rfl, rfl, rfl, rfl⟩ := hm
        have hd1 : deep = true → b1 = true := fun hdp => by have := hd hdp; simp only [Bool.and_eq_true] at this; exact this.1
        have hd2 : deep = true → b2 = true := fun hdp => by have := hd hdp; simp only [Bool.and_eq_true] at this; exact this.2
        obtain ⟨v1, v2, rfl, g1, g2, g3⟩ := ih1 j cs vs x1 b1 m1 r1 hm1 (fun q hq => hsub q (List.mem_append_left _ hq)) hd1 hcs
        obtain ⟨v3, v4, rfl, k1, k2, k3⟩ := ih2 (j + t1.size) r1 v2 x2 b2 m2 r2 hm2 (fun q hq => hsub q (List.mem_append_right _ hq)) hd2 g1
        refine ⟨v1 ++ v3, v4, by simp, k1, g2.cons k2, fun q hq => ?_⟩
        have hl1 := g2.length
        simp only [cellAt, Ty.size]
        rcases List.mem_append.1 hq with hq | hq
        · obtain ⟨p1, p2, p3, p4, p5⟩ := g3 q hq
          refine ⟨p1, p2, by omega, ?_, ?_⟩
          · rw [if_pos (by omega)]; exact p4
          · rw [List.getElem?_append_left (by omega)]; exact p5
        · obtain ⟨p1, p2, p3, p4, p5⟩ := k3 q hq
          refine ⟨p1, by omega, by omega, ?_, ?_⟩
          · rw [if_neg (by omega), show q.j - j - t1.size = q.j - (j + t1.size) by omega]; exact p4
          · rw [List.getElem?_append_right (by omega), hl1, show q.j - j - t1.size = q.j - (j + t1.size) by omega]; exact p5
      · cases hm
    · cases hm
  | int k =>
    intro j cs vs x b m r hm hsub hd hcs
    cases cs with
    | nil => simp [View.movedAll] at hm
    | cons c cs =>
      simp only [View.movedAll] at hm
      split at hm
      · rename_i hm1
        simp only [Option.some.injEq, Prod.mk.injEq] at hm
        obtain ⟨rfl, rfl, rfl, rfl⟩ := hm
        exact leaf (.int k) j c cs vs _ _ _ rfl rfl hm1 hsub hd hcs
      · cases hm
  | bool =>
    intro j cs vs x b m r hm hsub hd hcs
    cases cs with
    | nil => simp [View.movedAll] at hm
    | cons c cs =>
      simp only [View.movedAll] at hm
      split at hm
      · rename_i hm1
        simp only [Option.some.injEq, Prod.mk.injEq] at hm
        obtain ⟨rfl, rfl, rfl, rfl⟩ := hm
        exact leaf .bool j c cs vs _ _ _ rfl rfl hm1 hsub hd hcs
      · cases hm
  | str =>
    intro j cs vs x b m r hm hsub hd hcs
    cases cs with
    | nil => simp [View.movedAll] at hm
    | cons c cs =>
      simp only [View.movedAll] at hm
      split at hm
      · rename_i hm1
        simp only [Option.some.injEq, Prod.mk.injEq] at hm
        obtain ⟨rfl, rfl, rfl, rfl⟩ := hm
        exact leaf .str j c cs vs _ _ _ rfl rfl hm1 hsub hd hcs
      · cases hm
  | sl e _ =>
    intro j cs vs x b m r hm hsub hd hcs
    cases cs with
    | nil => simp [View.movedAll] at hm
    | cons c cs =>
      simp only [View.movedAll] at hm
      split at hm
      · rename_i hm1
        simp only [Option.some.injEq, Prod.mk.injEq] at hm
        obtain ⟨rfl, rfl, rfl, rfl⟩ := hm
        exact leaf (.sl e) j c cs vs _ _ _ rfl rfl hm1 hsub hd hcs
      · cases hm

/-- What a slice brings into an array from element n on. -/
structure Brings (P : Program) (ρ : Map) (w w' : World) (own' : Nat → Own) (l n : Nat) (deep : Bool) (e : Ty) (ys : List e.D) (m : List Mv) (v : Value) : Prop where
  ex : ∃ (q : Option Addr) (c : Nat) (news : List Value), v = .slice q ys.length c ∧ news.length = ys.length * e.size ∧ (∀ u ∈ news, Value.oneCell' u = true) ∧ (ys ≠ [] → ∃ ad, q = some ad ∧ ∀ (j : Nat) u, news[j]? = some u → w.cell? (ad.add j) = some u) ∧
    ∀ (k : Nat) y, ys[k]? = some y → ∃ us, us.length = e.size ∧ (∀ (j : Nat) u, us[j]? = some u → news[k * e.size + j]? = some u) ∧ EL0 w' own' l (n + k) deep e 0 y us ∧ MvAt ρ (n + k) 0 e y us (m.filter fun q => q.i == n + k)
  at' : ∀ q ∈ m, n ≤ q.i ∧ q.i < n + ys.length

/-- A row of cells in a block. -/
theorem row_cells {b o N : Nat} (h : ∀ j, j < N → ∃ u, w.cell? ⟨b, o + j, none⟩ = some u) : ∃ news : List Value, news.length = N ∧ ∀ (j : Nat), j < N → news[j]? = w.cell? ⟨b, o + j, none⟩ := by
  refine ⟨(List.range N).map fun j => (w.cell? ⟨b, o + j, none⟩).getD undef, by simp, fun j hj => ?_⟩
  obtain ⟨u, hu⟩ := h j hj
  simp [hj, hu]

theorem Rd.oneCell {A : Nat → Prop} : {t : Ty} → {x : t.D} → {us : List Value} → Rd w A t x us → ∀ u ∈ us, u.oneCell' = true
  | .int _, _, _, h, u, hu => by simp only [Rd] at h; subst h; simp at hu; subst hu; rfl
  | .bool, _, _, h, u, hu => by simp only [Rd] at h; subst h; simp at hu; subst hu; rfl
  | .str, _, _, h, u, hu => by simp only [Rd] at h; subst h; simp at hu; subst hu; rfl
  | .sl _, _, _, h, u, hu => by obtain ⟨a, cap, rfl, _⟩ := h; simp at hu; subst hu; rfl
  | .one h, _, _, hh, u, hu => Rd.oneCell (t := h) hh u hu
  | .cons h t, _, _, hh, u, hu => by
    obtain ⟨v1, v2, rfl, h1, h2⟩ := hh
    rcases List.mem_append.1 hu with hu | hu
    · exact h1.oneCell u hu
    · exact h2.oneCell u hu

theorem split_index {n sz j : Nat} (hz : 0 < sz) (hj : j < n * sz) : ∃ k r, k < n ∧ r < sz ∧ j = k * sz + r :=
  ⟨j / sz, j % sz, (Nat.div_lt_iff_lt_mul hz).2 hj, Nat.mod_lt _ hz, by rw [Nat.mul_comm]; exact (Nat.div_add_mod j sz).symm⟩

/-- A slice that reads as data, into an array. -/
theorem Brings.ofRd {own' : Nat → Own} {l n : Nat} {deep : Bool} {e : Ty} {ys : List e.D} {v : Value} {A : Nat → Prop} (hr : Rd w A (.sl e) ys [v]) (hel : ∀ k y us, ys[k]? = some y → Rd w A e y us → EL0 w' own' l (n + k) deep e 0 y us) :
    Brings P ρ w w' own' l n deep e ys [] v := by
  obtain ⟨q, c, hv, hle, hb⟩ := hr
  simp only [List.cons.injEq, and_true] at hv
  refine ⟨?_, fun q hq => by cases hq⟩
  by_cases hys : ys = []
  · subst hys
    exact ⟨q, c, [], hv, by simp, by simp, fun h => absurd rfl h, fun k y hk => by simp at hk⟩
  · obtain ⟨b, o, rfl, _, hi⟩ := hb hys
    have hpos := Ty.size_pos e
    have hcell : ∀ j, j < ys.length * e.size → ∃ u, w.cell? ⟨b, o + j, none⟩ = some u ∧ u.oneCell' = true := by
      intro j hj
      obtain ⟨k, r, hk, hr, rfl⟩ := split_index hpos hj
      obtain ⟨us, h1, h2⟩ := hi k ys[k] (List.getElem?_eq_getElem hk)
      have hru : r < us.length := by rw [h1.length]; exact hr
      exact ⟨us[r], by rw [← Nat.add_assoc]; exact h2 r _ (List.getElem?_eq_getElem hru), h1.oneCell _ (List.getElem_mem hru)⟩
    obtain ⟨news, h1, h2⟩ := row_cells (w := w) (b := b) (o := o) (N := ys.length * e.size) fun j hj => by obtain ⟨u, hu, _⟩ := hcell j hj; exact ⟨u, hu⟩
    refine ⟨some ⟨b, o, none⟩, c, news, hv, h1, fun u hu => ?_, fun _ => ⟨_, rfl, fun j u hj => ?_⟩, fun k y hk => ?_⟩
    · obtain ⟨j, hj⟩ := List.mem_iff_getElem?.1 hu
      have hjl := (List.getElem?_eq_some_iff.1 hj).1
      obtain ⟨u', p1, p2⟩ := hcell j (by omega)
      rw [h2 j (by omega), p1] at hj
      cases hj
      exact p2
    · have hjl := (List.getElem?_eq_some_iff.1 hj).1
      rw [Addr.add_lit, ← h2 j (by omega)]
      exact hj
    · obtain ⟨us, p1, p2⟩ := hi k y hk
      refine ⟨us, p1.length, fun j u hj => ?_, hel k y us hk p1, fun q hq => by simp at hq⟩
      have hjl := (List.getElem?_eq_some_iff.1 hj).1
      have hk' := (List.getElem?_eq_some_iff.1 hk).1
      have := row_index (i := k) (n := ys.length) (sz := e.size) (j := j) hk' (by rw [← p1.length]; exact hjl)
      rw [h2 _ this.1, ← Nat.add_assoc]
      exact p2 j u hj

end Go.Proofs.Ytlacogoljcpijaa.Vd

/- VdY -/
namespace Go.Proofs.Ytlacogoljcpijaa.Vd

variable {P : Program} {E : Env} {ρ ρ' : Map} {w w' : World} {s : S} {a : Act} {K : Ctx} {H H' : Nat → Option Root}

theorem movedEls_rel {V : View} (hV : Seen V s) (hroot : ∀ l r, s.root l = some r → RR P ρ w s.root l r) {own' : Nat → Own} {l : Nat} {deep : Bool} {ms : List Mv} (h : Kept ρ w w' l own' deep ms) {e : Ty} :
    ∀ (els : List (List C)) (i : Nat) (xs : List e.D) (b : Bool) (m : List Mv), V.movedEls e i els = some (xs, b, m) → (∀ q ∈ m, q ∈ ms) → (deep = true → b = true) →
      xs.length = els.length ∧ (∀ q ∈ m, i ≤ q.i ∧ q.i < i + els.length) ∧
        ∀ (k : Nat) y cs us, xs[k]? = some y → els[k]? = some cs → CsR P ρ w s.root cs us → EL0 w' own' l (i + k) deep e 0 y us ∧ MvAt ρ (i + k) 0 e y us (m.filter fun q => q.i == i + k)
  | [], i, xs, b, m, hm, _, _ => by
    simp only [View.movedEls, Option.some.injEq, Prod.mk.injEq] at hm
    obtain ⟨rfl, rfl, rfl⟩ := hm
    exact ⟨rfl, (fun q hq => by cases hq), fun k y cs us hk => by simp at hk⟩
  | cs0 :: els, i, xs, b, m, hm, hsub, hd => by
    simp only [View.movedEls] at hm
    split at hm
    · rename_i x0 b0 m0 h0
      split at hm
      · rename_i xs1 b1 m1 h1
        simp only [Option.some.injEq, Prod.mk.injEq] at hm
        obtain ⟨rfl, rfl, rfl⟩ := hm
        have hd0 : deep = true → b0 = true := fun hdp => by have := hd hdp; simp only [Bool.and_eq_true] at this; exact this.1
        have hd1 : deep = true → b1 = true := fun hdp => by have := hd hdp; simp only [Bool.and_eq_true] at this; exact this.2
        obtain ⟨g1, g2, g3⟩ := movedEls_rel hV hroot h els (i + 1) xs1 b1 m1 h1 (fun q hq => hsub q (List.mem_append_right _ hq)) hd1
        -- the roots of the first element all bear its number
        have hm0 : ∀ q ∈ m0, q.i = i := movedAll_i e 0 cs0 x0 b0 m0 [] h0
        refine ⟨by simp [g1], fun q hq => ?_, fun k y cs us hk hcs hc => ?_⟩
        · rcases List.mem_append.1 hq with hq | hq
          · have := hm0 q hq; simp only [List.length_cons]; omega
          · have := g2 q hq; simp only [List.length_cons]; omega
        · cases k with
          | zero =>
            simp at hk hcs
            subst hk
            subst hcs
            obtain ⟨v1, v2, rfl, p1, p2, p3⟩ := movedAll_rel hV hroot h e 0 cs0 us x0 b0 m0 [] h0 (fun q hq => hsub q (List.mem_append_left _ hq)) hd0 hc
            have : v2 = [] := by have := p1.1; simpa using this.symm
            subst this
            rw [List.append_nil]
            refine ⟨p2, fun q hq => ?_⟩
            obtain ⟨q1, q2⟩ := List.mem_filter.1 hq
            simp only [Nat.add_zero, beq_iff_eq] at q2
            rcases List.mem_append.1 q1 with q1 | q1
            · exact p3 q q1
            · have := g2 q q1; omega
          | succ k =>
            obtain ⟨p1, p2⟩ := g3 k y cs us (by simpa using hk) (by simpa using hcs) hc
            rw [show i + (k + 1) = i + 1 + k by omega]
            refine ⟨p1, fun q hq => ?_⟩
            obtain ⟨q1, q2⟩ := List.mem_filter.1 hq
            rcases List.mem_append.1 q1 with q1 | q1
            · have := hm0 q q1
              simp only [beq_iff_eq] at q2
              omega
            · exact p2 q (List.mem_filter.2 ⟨q1, q2⟩)
      · cases hm
    · cases hm
where
  movedAll_i {V : View} {i : Nat} : (t : Ty) → (j : Nat) → (cs : List C) → (x : t.D) → (b : Bool) → (m : List Mv) → (r : List C) → V.movedAll i j t cs = some (x, b, m, r) → ∀ q ∈ m, q.i = i
    | .one t, j, cs, x, b, m, r, hm, q, hq => movedAll_i t j cs x b m r (by simpa only [View.movedAll] using hm) q hq
    | .cons t1 t2, j, cs, x, b, m, r, hm, q, hq => by
      simp only [View.movedAll] at hm
      split at hm
      · rename_i x1 b1 m1 r1 hm1
        split at hm
        · rename_i x2 b2 m2 r2 hm2
          simp only [Option.some.injEq, Prod.mk.injEq] at hm
          obtain ⟨rfl, rfl, rfl, rfl⟩ := hm
          rcases List.mem_append.1 hq with hq | hq
          · exact movedAll_i t1 j cs x1 b1 m1 r1 hm1 q hq
          · exact movedAll_i t2 _ r1 x2 b2 m2 r2 hm2 q hq
        · cases hm
      · cases hm
    | .int k, j, [], x, b, m, r, hm, q, hq | .bool, j, [], x, b, m, r, hm, q, hq | .str, j, [], x, b, m, r, hm, q, hq | .sl e, j, [], x, b, m, r, hm, q, hq => by simp [View.movedAll] at hm
    | .int k, j, c :: cs, x, b, m, r, hm, q, hq => by
      simp only [View.movedAll] at hm
      split at hm
      · rename_i hm1
        simp only [Option.some.injEq, Prod.mk.injEq] at hm
        obtain ⟨rfl, rfl, rfl, rfl⟩ := hm
        exact moved_i _ _ _ _ _ _ hm1 q hq
      · cases hm
    | .bool, j, c :: cs, x, b, m, r, hm, q, hq => by
      simp only [View.movedAll] at hm
      split at hm
      · rename_i hm1
        simp only [Option.some.injEq, Prod.mk.injEq] at hm
        obtain ⟨rfl, rfl, rfl, rfl⟩ := hm
        exact moved_i _ _ _ _ _ _ hm1 q hq
      · cases hm
    | .str, j, c :: cs, x, b, m, r, hm, q, hq => by
      simp only [View.movedAll] at hm
      split at hm
      · rename_i hm1
        simp only [Option.some.injEq, Prod.mk.injEq] at hm
        obtain ⟨rfl, rfl, rfl, rfl⟩ := hm
        exact moved_i _ _ _ _ _ _ hm1 q hq
      · cases hm
    | .sl e, j, c :: cs, x, b, m, r, hm, q, hq => by
      simp only [View.movedAll] at hm
      split at hm
      · rename_i hm1
        simp only [Option.some.injEq, Prod.mk.injEq] at hm
        obtain ⟨rfl, rfl, rfl, rfl⟩ := hm
        exact moved_i _ _ _ _ _ _ hm1 q hq
      · cases hm
  moved_i {V : View} {i : Nat} (j : Nat) (c : C) (t : Ty) (x : t.D) (b : Bool) (m : List Mv) (hm : V.moved i j c t = some (x, b, m)) : ∀ q ∈ m, q.i = i := by
    intro q hq
    unfold View.moved at hm
    split at hm
    · split at hm
      · simp only [Option.some.injEq, Prod.mk.injEq] at hm
        obtain ⟨_, _, rfl⟩ := hm
        cases hq
      · split at hm
        · split at hm
          · split at hm
            · simp only [Option.some.injEq, Prod.mk.injEq] at hm
              obtain ⟨_, _, rfl⟩ := hm
              rw [List.mem_singleton] at hq
              subst hq
              rfl
            · cases hm
          · cases hm
        · cases hm
      · split at hm
        · simp only [Option.some.injEq, Prod.mk.injEq] at hm
          obtain ⟨_, _, rfl⟩ := hm
          cases hq
        · cases hm
      · cases hm
    · split at hm
      · split at hm
        · simp only [Option.some.injEq, Prod.mk.injEq] at hm
          obtain ⟨_, _, rfl⟩ := hm
          cases hq
        · cases hm
      · cases hm

theorem Brings.flat {own' : Nat → Own} {l n : Nat} {deep : Bool} {e : Ty} {ys : List e.D} {v : Value} {A : Nat → Prop} (hf : e.flat = true) (hr : Rd w A (.sl e) ys [v]) : Brings P ρ w w' own' l n deep e ys [] v :=
  Brings.ofRd hr fun k y us _ hu => by
    unfold EL0
    cases deep with
    | true => exact DR.ofFlat (A := A) e 0 y us hf (Rd.flat e y us hf hu)
    | false => exact Rd.flat e y us hf hu

theorem into_rel {V : View} (hV : Seen V s) (hroot : ∀ l r, s.root l = some r → RR P ρ w s.root l r) {own' : Nat → Own} {l n : Nat} {deep : Bool} {e : Ty} {ms : List Mv} (h : Kept ρ w w' l own' deep ms) {X : A} {ys : List e.D} {b : Bool} {v : Value}
    (hi : V.into n e X = some (ys, b, ms)) (hd : deep = true → b = true) (hx : AR P ρ w s.root X v) : Brings P ρ w w' own' l n deep e ys ms v := by
  unfold View.into at hi
  split at hi
  · simp only [Option.some.injEq, Prod.mk.injEq] at hi
    obtain ⟨rfl, rfl, rfl⟩ := hi
    obtain ⟨q, rfl⟩ := VR.cell hx
    exact Brings.ofRd (A := fun _ => True) Rd.empty fun k y us hk => by simp at hk
  · rename_i l2
    split at hi
    · rename_i e' xs d hl
      split at hi
      · rename_i he
        subst he
        split at hi
        · rename_i hf
          simp only [Option.some.injEq, Prod.mk.injEq] at hi
          obtain ⟨rfl, rfl, rfl⟩ := hi
          obtain ⟨rfl, _⟩ := VR.cell hx
          exact Brings.flat hf (RR.rd (A := Al ρ.own [l2]) (fun _ hb => hb) (hroot l2 _ (hV l2 _ hl)))
        · cases hi
      · cases hi
    · rename_i e' els hl
      split at hi
      · rename_i he
        subst he
        obtain ⟨rfl, _⟩ := VR.cell hx
        obtain ⟨g1, g2, g3⟩ := movedEls_rel hV hroot h els n ys b ms hi (fun q hq => hq) hd
        obtain ⟨g, vs, T, k1, k2, k3, k4, k5, k6⟩ := hroot l2 _ (hV l2 _ hl)
        have hpos := Ty.size_pos e'
        -- row k of the block
        have hrow : ∀ k, k < els.length → ∃ us : List Value, us.length = e'.size ∧ CsR P ρ w s.root (els.getD k []) us ∧ ∀ (j : Nat) u, us[j]? = some u → vs[k * e'.size + j]? = some u := by
          intro k hk
          obtain ⟨p1, p2⟩ := k6 k els[k] (List.getElem?_eq_getElem hk)
          have hd' : els.getD k [] = els[k] := by simp [hk]
          refine ⟨(vs.toList.drop (k * e'.size)).take e'.size, ?_, ?_, fun j u hj => ?_⟩
          · have hr := (k + 1) * e'.size
            have : (k + 1) * e'.size ≤ els.length * e'.size := Nat.mul_le_mul_right _ hk
            rw [Nat.add_mul, Nat.one_mul] at this
            simp only [List.length_take, List.length_drop, Array.length_toList]
            omega
          · rw [hd']
            have hlen : ((vs.toList.drop (k * e'.size)).take e'.size).length = e'.size := by
              have : (k + 1) * e'.size ≤ els.length * e'.size := Nat.mul_le_mul_right _ hk
              rw [Nat.add_mul, Nat.one_mul] at this
              simp only [List.length_take, List.length_drop, Array.length_toList]
              omega
            refine ⟨p1.trans hlen.symm, fun j c u hc hu => ?_⟩
            obtain ⟨u', q1, q2⟩ := p2 j c hc
            rw [List.getElem?_take] at hu
            split at hu
            · rw [List.getElem?_drop, Array.getElem?_toList, q1] at hu
              cases hu
              exact q2
            · cases hu
          · rw [List.getElem?_take] at hj
            split at hj
            · rw [List.getElem?_drop, Array.getElem?_toList] at hj
              exact hj
            · cases hj
        refine ⟨⟨some ⟨g, 0, none⟩, els.length, vs.toList, by rw [k1, g1], by rw [g1]; simpa using k5, fun u hu => ?_, fun _ => ⟨_, rfl, fun j u hj => ?_⟩, fun k y hk => ?_⟩, fun q hq => by rw [g1]; exact g2 q hq⟩
        · obtain ⟨j, hj⟩ := List.mem_iff_getElem?.1 hu
          have hjl := (List.getElem?_eq_some_iff.1 hj).1
          simp only [Array.length_toList] at hjl
          obtain ⟨k, r, hk, hr, rfl⟩ := split_index (n := els.length) (sz := e'.size) (j := j) hpos (by omega)
          obtain ⟨us, q1, q2, q3⟩ := hrow k hk
          have hru : r < us.length := by omega
          have := q3 r _ (List.getElem?_eq_getElem hru)
          rw [Array.getElem?_toList, this] at hj
          cases hj
          exact q2.oneCell _ (List.getElem_mem hru)
        · rw [Addr.add_lit, cell_of_row w g _ vs T (0, 0) k4, Nat.zero_add]
          simpa using hj
        · have hkl : k < els.length := by rw [← g1]; exact (List.getElem?_eq_some_iff.1 hk).1
          obtain ⟨us, q1, q2, q3⟩ := hrow k hkl
          have hek : els[k]? = some (els.getD k []) := by simp [hkl]
          obtain ⟨r1, r2⟩ := g3 k y _ us hk hek q2
          exact ⟨us, q1, fun j u hj => by rw [Array.getElem?_toList]; exact q3 j u hj, r1, r2⟩
      · cases hi
    · cases hi
  · rename_i e' x d
    split at hi
    · rename_i he
      subst he
      split at hi
      · rename_i hf
        simp only [Option.some.injEq, Prod.mk.injEq] at hi
        obtain ⟨rfl, rfl, rfl⟩ := hi
        exact Brings.flat hf (VR.cell hx).2
      · split at hi
        · rename_i hd0
          simp only [Option.some.injEq, Prod.mk.injEq] at hi
          obtain ⟨rfl, rfl, rfl⟩ := hi
          have hdf : deep = false := by cases deep <;> simp_all
          subst hdf
          subst hd0
          have h2 : Rd w (Free ρ.own) (.sl e') x [v] := Rd.mono (fun b _ hb => ⟨hb.elim id (fun ⟨l, hl, _⟩ => by cases hl), rfl⟩) _ _ _ (VR.cell hx).2
          refine Brings.ofRd h2 fun k y us hk hu => ?_
          unfold EL0
          simp only [Bool.false_eq_true, if_false]
          exact h.rdFree hu
        · cases hi
    · cases hi
  · rename_i l2 n2
    split at hi
    · rename_i e' xs d hl
      split at hi
      · rename_i he
        subst he
        split at hi
        · rename_i hf
          simp only [Option.some.injEq, Prod.mk.injEq] at hi
          obtain ⟨rfl, rfl, rfl⟩ := hi
          have hsl : V.slData (.val false [.pre l2 n2]) = some ⟨e', xs.take n2, [l2]⟩ := by simp [View.slData, hl]
          exact Brings.flat hf (slData_rd hV hroot hsl hx)
        · cases hi
      · cases hi
    · cases hi
  · split at hi
    · rename_i x d hdx
      split at hi
      · rename_i hf
        simp only [Option.some.injEq, Prod.mk.injEq] at hi
        obtain ⟨rfl, rfl, rfl⟩ := hi
        obtain ⟨us, h1, h2⟩ := asData_vd hV hroot hdx hx
        simp only [Ty.agg, Bool.false_eq_true, if_false] at h2
        subst h2
        exact Brings.flat hf h1
      · cases hi
    · cases hi

end Go.Proofs.Ytlacogoljcpijaa.Vd

/- VdZ -/
namespace Go.Proofs.Ytlacogoljcpijaa.Vd

variable {P : Program} {E : Env} {ρ ρ' : Map} {w w' : World} {s : S} {a : Act} {K : Ctx} {H H' : Nat → Option Root}

theorem base_rel {V : View} (hV : Seen V s) (hroot : ∀ l r, s.root l = some r → RR P ρ w s.root l r) {e : Ty} {X : A} {ol : Option Nat} {xs : List e.D} {d : Bool} (h : V.base e X = some (ol, xs, d)) {v : Value} (hx : AR P ρ w s.root X v) :
    ArrR w ρ.own (.main (ol.getD V.nx)) e xs (EL w ρ.own (ol.getD V.nx) d e) v ∧ ∀ l, ol = some l → ∃ e' ys d', s.root l = some (.arr e' ys d') := by
  unfold View.base at h
  split at h
  · simp only [Option.some.injEq, Prod.mk.injEq] at h
    obtain ⟨rfl, rfl, rfl⟩ := h
    obtain ⟨q, rfl⟩ := VR.cell hx
    exact ⟨.inl ⟨q, rfl, rfl⟩, fun l hl => by cases hl⟩
  · rename_i l
    split at h
    · rename_i e' ys d' hl
      split at h
      · rename_i he
        subst he
        simp only [Option.some.injEq, Prod.mk.injEq] at h
        obtain ⟨rfl, rfl, rfl⟩ := h
        obtain ⟨rfl, _⟩ := VR.cell hx
        exact ⟨hroot l _ (hV l _ hl), fun l' hl' => by cases hl'; exact ⟨_, _, _, hV l _ hl⟩⟩
      · cases h
    · cases h
  · rename_i l n
    split at h
    · rename_i e' ys d' hl
      split at h
      · rename_i he
        subst he
        split at h
        · rename_i hf
          simp only [Option.some.injEq, Prod.mk.injEq] at h
          obtain ⟨rfl, rfl, rfl⟩ := h
          obtain ⟨q, m, c, hh, rfl, hle⟩ := VR.cell hx
          refine ⟨?_, fun l' hl' => by cases hl'; exact ⟨_, _, _, hV l _ hl⟩⟩
          rcases hroot l _ (hV l _ hl) with ⟨q', h1, h2⟩ | ⟨b, cap, cur, T, h1, h2, h3, h4, h5, h6, h7⟩
          · rw [hh] at h1
            simp only [Value.slice.injEq] at h1
            obtain ⟨rfl, rfl, rfl⟩ := h1
            have : n = 0 := by omega
            subst this
            exact .inl ⟨q, rfl, by simp [castD, h2]⟩
          · rw [hh] at h1
            simp only [Value.slice.injEq] at h1
            obtain ⟨rfl, rfl, rfl⟩ := h1
            have hln : (ys.take n).length = n := by simp; omega
            refine .inr ⟨b, c, cur, T, by show Value.slice _ n c = .slice _ (ys.take n).length c; rw [hln], by show (ys.take n).length ≤ c; omega, h3, h4, h5, h6, fun i x hi => ?_⟩
            have hi' : (ys.take n)[i]? = some x := hi
            rw [List.getElem?_take] at hi'
            split at hi'
            · exact h7 i x hi'
            · cases hi'
        · cases h
      · cases h
    · cases h
  · cases h

/-- Behind an append: the array in its block. -/
theorem append_finish {own' : Nat → Own} {l : Nat} {d deep : Bool} {ms : List Mv} {e : Ty} {xs ys : List e.D} (hK : Kept ρ w w' l own' deep ms) (hdd : deep = true → d = true) {b cap : Nat} {cur : Array Value} {T : TypeId}
    (hown : own' b = .main l) (hb : w'.heap[b]? = some (.cells cur T (0, 0))) (hsz : cur.size = cap * e.size) (hle : xs.length + ys.length ≤ cap) (hmx : cap ≤ maxLen)
    (hold : ∀ (i : Nat) x, xs[i]? = some x → ∃ us : List Value, us.length = e.size ∧ (∀ (j : Nat) u, us[j]? = some u → cur[i * e.size + j]? = some u) ∧ EL w ρ.own l d e i x us) {news : List Value}
    (hnews : ∀ (j : Nat) u, news[j]? = some u → cur[xs.length * e.size + j]? = some u)
    (hex : ∀ (k : Nat) y, ys[k]? = some y → ∃ us : List Value, us.length = e.size ∧ (∀ (j : Nat) u, us[j]? = some u → news[k * e.size + j]? = some u) ∧ EL0 w' own' l (xs.length + k) deep e 0 y us ∧ MvAt ρ (xs.length + k) 0 e y us (ms.filter fun q => q.i == xs.length + k))
    (hat : ∀ q ∈ ms, xs.length ≤ q.i ∧ q.i < xs.length + ys.length) :
    ArrR w' own' (.main l) e (xs ++ ys) (EL w' own' l deep e) (.slice (some ⟨b, 0, none⟩) (xs.length + ys.length) cap) ∧
      ∀ (hdr' : Nat → Value) (H' : Nat → Option Root), hdr' l = .slice (some ⟨b, 0, none⟩) (xs.length + ys.length) cap → H' l = some (.arr e (xs ++ ys) deep) → deep = true → ∀ q ∈ ms, CR P ⟨own', hdr'⟩ w' H' (.ref1 l q.i q.j q.u q.ys) (ρ.hdr q.l) := by
  have hcell : ∀ (k : Nat) (us : List Value), us.length = e.size → (∀ (j : Nat) u, us[j]? = some u → news[k * e.size + j]? = some u) → ∀ (j : Nat) u, us[j]? = some u → cur[(xs.length + k) * e.size + j]? = some u := by
    intro k us _ h2 j u hj
    rw [Nat.add_mul, Nat.add_assoc]
    exact hnews _ u (h2 j u hj)
  constructor
  · refine .inr ⟨b, cap, cur, T, by rw [List.length_append], by rw [List.length_append]; exact hle, hmx, hown, hb, hsz, fun i x hi => ?_⟩
    by_cases hin : i < xs.length
    · rw [List.getElem?_append_left hin] at hi
      obtain ⟨us, h1, h2, h3⟩ := hold i x hi
      exact ⟨us, h1, h2, hK.el hdd h3⟩
    · rw [List.getElem?_append_right (by omega)] at hi
      obtain ⟨us, h1, h2, h3, _⟩ := hex (i - xs.length) x hi
      have hii : xs.length + (i - xs.length) = i := by omega
      have h4 := hcell (i - xs.length) us h1 h2
      rw [hii] at h3 h4
      exact ⟨us, h1, h4, h3⟩
  · intro hdr' H' hh hH hdp q hq
    subst hdp
    obtain ⟨p1, p2⟩ := hat q hq
    have hk : q.i - xs.length < ys.length := by omega
    obtain ⟨us, h1, h2, h3, h4⟩ := hex (q.i - xs.length) _ (List.getElem?_eq_getElem hk)
    have hii : xs.length + (q.i - xs.length) = q.i := by omega
    have h5 := hcell (q.i - xs.length) us h1 h2
    rw [hii] at h3 h4 h5
    obtain ⟨_, _, _, g1, g2⟩ := h4 q (List.mem_filter.2 ⟨hq, by simp⟩)
    rw [Nat.sub_zero] at g1 g2
    refine ⟨e, xs ++ ys, ys[q.i - xs.length], us, hH, ?_, g1, g2, by simpa [EL0] using h3, b, _, cap, hh, hown, fun j u hj => ?_⟩
    · rw [List.getElem?_append_right (by omega)]
      exact List.getElem?_eq_getElem hk
    · rw [cell_of_row w' b _ cur T (0, 0) hb]
      exact h5 j u hj

end Go.Proofs.Ytlacogoljcpijaa.Vd

/- VdZa -/
namespace Go.Proofs.Ytlacogoljcpijaa.Vd

variable {P : Program} {E : Env} {ρ ρ' : Map} {w w' : World} {s : S} {a : Act} {K : Ctx} {H H' : Nat → Option Root}

theorem news_same {news news' : List Value} {ad : Addr} {n : Nat} (h1 : news.length = n) (h2 : news'.length = n) (g1 : ∀ (j : Nat) u, news[j]? = some u → w.cell? (ad.add j) = some u) (g2 : ∀ (j : Nat) u, news'[j]? = some u → w.cell? (ad.add j) = some u) : news' = news := by
  refine List.ext_getElem? fun j => ?_
  by_cases hj : j < n
  · have a1 := g1 j news[j] (List.getElem?_eq_getElem (by omega))
    have a2 := g2 j news'[j] (List.getElem?_eq_getElem (by omega))
    rw [a1] at a2
    rw [List.getElem?_eq_getElem (by omega), List.getElem?_eq_getElem (by omega)]
    exact a2.symm
  · rw [List.getElem?_eq_none (by omega), List.getElem?_eq_none (by omega)]

theorem run_append_zero {T T' : TypeId} {i : TypeInfo} (hu : P.underlying T = some (.slice T')) (hi : P.info? T' = some i) (ty : TypeId) (q0 q : Option Addr) (n cap c : Nat) (hle : n ≤ cap) :
    (Builtin.append_ #[T, T] ty #[.slice q0 n cap, .slice q 0 c]).run P w = .ok (.slice q0 n cap) w := by
  cases q0 <;> cases q <;> simp [Builtin.append_, run_underlying hu, sizeOf, typeInfo, hi, Builtin.lenOf, hle, Builtin.firstCells, loadCells, loadCellsFrom, storeCells]

theorem run_append_room' {T T' : TypeId} {i : TypeInfo} (hu : P.underlying T = some (.slice T')) (hi : P.info? T' = some i) (ty TT : TypeId) (g n cap : Nat) (cur : Array Value) (hg : w.heap[g]? = some (.cells cur TT (0, 0)))
    (ad : Addr) (m c : Nat) (news : List Value) (hl : news.length = m * i.size) (hnews : ∀ j u, news[j]? = some u → w.cell? (ad.add j) = some u) (h1 : ∀ u ∈ news, u.oneCell' = true) (hroom : n + m ≤ cap) (hfit : n * i.size + news.length ≤ cur.size) :
    (Builtin.append_ #[T, T] ty #[.slice (some ⟨g, 0, none⟩) n cap, .slice (some ad) m c]).run P w =
      .ok (.slice (some ⟨g, 0, none⟩) (n + m) cap) (w.setRow g (cur.toList.take (n * i.size) ++ news ++ cur.toList.drop (n * i.size + news.length)).toArray) := by
  have hf := run_firstCells_some (P := P) w i.size m ad m c news hl hnews
  have hst := run_storeCells_at P g (n * i.size) TT news 0 cur w hg (by simpa using hfit) h1
  simp only [Nat.add_zero] at hst
  simp [Builtin.append_, run_underlying hu, sizeOf, typeInfo, hi, Builtin.lenOf, hroom, hf, Addr.add_lit, hst]

def Map.hdrAt (ρ : Map) (own : Nat → Own) (l : Nat) (v : Value) : Map := ⟨own, fun l' => if l' = l then v else ρ.hdr l'⟩

/-- An append that ends in a block of the root's own. -/
theorem append_put (hR : Rel P K ρ s a w) {V : View} (hV : Seen V s) {o : Oper} {l : Nat} {d d' deep : Bool} {ms : List Mv} {e : Ty} {xs ys : List e.D} {Y : A} {y : Value} (hinto : V.into xs.length e Y = some (ys, d', ms)) (hy : AR P ρ w s.root Y y)
    (hdd : deep = true → d = true ∧ d' = true) (hnd : (mvLocs ms).Nodup) (hap : l ∉ mvLocs ms) (hfix : ∀ u, (l, u) ∉ K.fix) {own' : Nat → Own} (hK : Kept ρ w w' l own' deep ms) (hlater : Later w w')
    (hmain : ∀ b, b < w.heap.size → ρ.own b = .main l → own' b = .main l ∨ own' b = .free) (hnew : ∀ b, w.heap.size ≤ b → own' b = .free ∨ (own' b = .main l ∧ b < w'.heap.size))
    {b cap : Nat} {cur : Array Value} {T : TypeId} (hown : own' b = .main l) (hb : w'.heap[b]? = some (.cells cur T (0, 0))) (hsz : cur.size = cap * e.size) (hle : xs.length + ys.length ≤ cap) (hmx : cap ≤ maxLen)
    (hold : ∀ (i : Nat) x, xs[i]? = some x → ∃ us : List Value, us.length = e.size ∧ (∀ (j : Nat) u, us[j]? = some u → cur[i * e.size + j]? = some u) ∧ EL w ρ.own l d e i x us) {news : List Value} {q : Option Addr} {c : Nat}
    (hyv : y = .slice q ys.length c) (hnl : news.length = ys.length * e.size) (hnc : ys ≠ [] → ∃ ad, q = some ad ∧ ∀ (j : Nat) u, news[j]? = some u → w.cell? (ad.add j) = some u)
    (hnews : ∀ (j : Nat) u, news[j]? = some u → cur[xs.length * e.size + j]? = some u)
    (run : (execOp a.eval o).run P w = .ok (.value (.slice (some ⟨b, 0, none⟩) (xs.length + ys.length) cap)) w') :
    Sound P K s a w o (.ret (putD (.c (.ref l)) l (.arr e (xs ++ ys) deep) true deep ms)) := by
  obtain ⟨⟨q', c', news', h1, h2, h3, h4, h5⟩, h6⟩ := into_rel hV hR.root hK hinto (fun h => (hdd h).2) hy
  have hnn : news' = news := by
    by_cases hys : ys = []
    · subst hys
      have a1 : news = [] := List.eq_nil_of_length_eq_zero (by simpa using hnl)
      have a2 : news' = [] := List.eq_nil_of_length_eq_zero (by simpa using h2)
      rw [a1, a2]
    · obtain ⟨ad, e1, g1⟩ := hnc hys
      obtain ⟨ad', e2, g2⟩ := h4 hys
      rw [hyv] at h1
      simp only [Value.slice.injEq] at h1
      rw [e1, e2] at h1
      simp only [Option.some.injEq] at h1
      rw [← h1.1] at g2
      exact news_same hnl h2 g1 g2
  subst hnn
  obtain ⟨f1, f2⟩ := append_finish hK (fun h => (hdd h).1) hown hb hsz hle hmx hold hnews h5 h6
  refine Sound.put hR (ρ' := ρ.hdrAt own' l (.slice (some ⟨b, 0, none⟩) (xs.length + ys.length) cap)) (w' := w') hK hlater hmain hnew (fun l' hl' => by simp [Map.hdrAt, hl']) (fun h => by cases h) (fun u hu => absurd hu (hfix u)) (.inl run) fun H' hH => ⟨?_, ?_, ?_⟩
  · show ArrR _ _ _ _ _ _ _
    simpa [Map.hdrAt] using f1
  · exact AR.one.2 ⟨by simp [Map.hdrAt], _, _, _, rfl⟩
  · exact f2 (ρ.hdrAt own' l (.slice (some ⟨b, 0, none⟩) (xs.length + ys.length) cap)).hdr H' (by simp [Map.hdrAt]) hH

theorem append_core (hR : Rel P K ρ s a w) (hT : TyOK P E) {V : View} (hV : Seen V s) {o : Oper} {T : TypeId} {x y : Operand} (ho : o.op = .call { callee := .builtin .append, args := #[x, y], argTypes := #[T, T] }) {l : Nat} {d d' deep : Bool} {ms : List Mv} {e : Ty} {xs ys : List e.D} {Y : A}
    (hTe : E.T T = some (.sl e)) (hbase : ArrR w ρ.own (.main l) e xs (EL w ρ.own l d e) (a.eval x)) (hinto : V.into xs.length e Y = some (ys, d', ms)) (hy : AR P ρ w s.root Y (a.eval y))
    (hdd : deep = true → d = true ∧ d' = true) (hnd : (mvLocs ms).Nodup) (hap : l ∉ mvLocs ms) (hfix : ∀ u, (l, u) ∉ K.fix) (hlen : xs.length + ys.length ≤ lim) :
    Sound P K s a w o (.ret (putD (.c (.ref l)) l (.arr e (xs ++ ys) deep) true deep ms)) := by
  obtain ⟨T', hu, hT'⟩ := shp.slice (hT.ty T _ hTe)
  obtain ⟨i, z, hi, hsz, hby, hz, hzo⟩ := infoOK.spec (shp.info hT')
  have hzl : z.cells.size = i.size := by have := zeroOK.length e _ hzo; rw [Array.length_toList] at this; rw [this, hsz]
  have hpos := Ty.size_pos e
  have hlen' : xs.length + ys.length ≤ 68719476736 := hlen
  have hbytes : (xs.length + ys.length) * i.bytes ≤ 140737488355328 := by
    have : (xs.length + ys.length) * i.bytes ≤ 68719476736 * 2048 := Nat.mul_le_mul hlen' hby
    omega
  -- the owners and the world as they are
  have hK0 : Kept ρ w w l (ρ.take l deep ms).own deep ms := ⟨fun _ _ _ => rfl, fun _ _ _ => rfl, hnd, hap⟩
  obtain ⟨⟨q, c, news, h1, h2, h3, h4, h5⟩, h6⟩ := into_rel hV hR.root hK0 hinto (fun h => (hdd h).2) hy
  have hmain0 : ∀ b, b < w.heap.size → ρ.own b = .main l → (ρ.take l deep ms).own b = .main l ∨ (ρ.take l deep ms).own b = .free := fun b _ h => .inl (by simp [Map.take, h, find_none hap])
  have hnew0 : ∀ b, w.heap.size ≤ b → (ρ.take l deep ms).own b = .free ∨ ((ρ.take l deep ms).own b = .main l ∧ b < w.heap.size) := fun b h => .inl (by simp [Map.take, hR.fresh b h])
  have hrun : ∀ v' w', (Builtin.append_ #[T, T] o.type #[a.eval x, a.eval y]).run P w = .ok v' w' → (execOp a.eval o).run P w = .ok (.value v') w' := by
    intro v' w' h
    simp only [execOp, ho, resolve, invoke, builtin, Sem.run_bind, Sem.run_pure, Result.andThen_ok, List.map_toArray, List.map_cons, List.map_nil, h]
  -- into a new block
  have grow : ∀ (olds : List Value) (old : Nat), olds.length = xs.length * e.size → old < xs.length + ys.length →
      (∀ (k : Nat) x, xs[k]? = some x → ∃ us : List Value, us.length = e.size ∧ (∀ (j : Nat) u, us[j]? = some u → olds[k * e.size + j]? = some u) ∧ EL w ρ.own l d e k x us) →
      (Builtin.append_ #[T, T] o.type #[a.eval x, a.eval y]).run P w = .ok (.slice (some ⟨w.heap.size, 0, none⟩) (xs.length + ys.length) (grownCap w (xs.length + ys.length) old T'))
        (w.drew.alloc (.cells (olds.toArray ++ news.toArray ++ Builtin.zeroCells z.cells (grownCap w (xs.length + ys.length) old T' - (xs.length + ys.length))) T')) →
      Sound P K s a w o (.ret (putD (.c (.ref l)) l (.arr e (xs ++ ys) deep) true deep ms)) := by
    intro olds old hol hlt hold hr
    have hge := grownCap_ge w (xs.length + ys.length) old T'
    have hcm : grownCap w (xs.length + ys.length) old T' ≤ maxLen := grownCap_le_maxLen w _ old T' (maxLen_ge hlen)
    generalize grownCap w (xs.length + ys.length) old T' = cap at hr hge hcm
    have hcur : ∀ (j : Nat) u, (olds ++ news)[j]? = some u → (olds.toArray ++ news.toArray ++ Builtin.zeroCells z.cells (cap - (xs.length + ys.length)))[j]? = some u := by
      intro j u hj
      have hjl := (List.getElem?_eq_some_iff.1 hj).1
      rw [Array.getElem?_append_left (by simpa using hjl)]
      simpa using hj
    refine append_put (w' := w.drew.alloc _) (own' := fun b => if b = w.heap.size then .main l else (ρ.take l deep ms).own b) hR hV hinto hy hdd hnd hap hfix ⟨fun b hb _ => heap_alloc_old w.drew _ b hb, fun b hb _ => by simp [Nat.ne_of_lt hb], hnd, hap⟩
      ⟨by show _ ≤ (w.heap.push _).size; simp, rfl, rfl, rfl⟩ (fun b hb h => by simp [Nat.ne_of_lt hb]; exact hmain0 b hb h) (fun b hb => ?_) (b := w.heap.size) (cap := cap) (by simp) (heap_alloc_new w.drew _) ?_ hge hcm (fun k x hk => ?_) h1 h2 h4 (fun j u hj => ?_) (hrun _ _ hr)
    · by_cases hbe : b = w.heap.size
      · right
        refine ⟨by simp [hbe], ?_⟩
        show b < (w.heap.push _).size
        simp [hbe]
      · left
        simp only [if_neg hbe]
        rcases hnew0 b hb with h | ⟨_, h⟩
        · exact h
        · omega
    · simp only [Array.size_append, List.size_toArray, size_zeroCells, hzl, hol, h2, hsz, ← Nat.add_mul]
      congr 1
      omega
    · obtain ⟨us, g1, g2, g3⟩ := hold k x hk
      refine ⟨us, g1, fun j u hj => hcur _ u ?_, g3⟩
      have := g2 j u hj
      rw [List.getElem?_append_left (List.getElem?_eq_some_iff.1 this).1]
      exact this
    · refine hcur _ u ?_
      rw [List.getElem?_append_right (by omega), hol, Nat.add_sub_cancel_left]
      exact hj
  by_cases hys : ys = []
  · -- nothing is added
    subst hys
    have hms : ms = [] := by
      cases ms with
      | nil => rfl
      | cons q ms => have := h6 q (List.mem_cons_self ..); simp at this; omega
    subst hms
    rcases hbase with ⟨q0, hv, rfl⟩ | ⟨g, cap, cur, TT, hv, hle, hmx, hown, hheap, hsize, hel⟩
    · have hr := run_append_zero (w := w) hu hi o.type q0 q 0 0 c (Nat.le_refl _)
      refine Sound.put hR (ρ' := ρ.hdrAt (ρ.take l deep []).own l (.slice q0 0 0)) (w' := w) (v := .slice q0 0 0) hK0 (Later.refl w) hmain0 hnew0 (fun l' hl' => by simp [Map.hdrAt, hl']) (fun h => by cases h) (fun u hu => absurd hu (hfix u)) (.inl (hrun _ _ (by rw [hv, h1]; exact hr))) fun H' hH => ⟨?_, ?_, fun _ q hq => by cases hq⟩
      · exact .inl ⟨q0, by simp [Map.hdrAt], rfl⟩
      · exact AR.one.2 ⟨by simp [Map.hdrAt], _, _, _, rfl⟩
    · have hr := run_append_zero (w := w) hu hi o.type (some ⟨g, 0, none⟩) q xs.length cap c hle
      refine append_put (w' := w) (own' := (ρ.take l deep []).own) hR hV hinto hy hdd hnd hap hfix hK0 (Later.refl w) hmain0 hnew0 (b := g) (cap := cap) (by simp [Map.take, hown, find_none hap]) hheap hsize hle hmx hel h1 h2 h4 (fun j u hj => ?_) (hrun _ _ (by rw [hv, h1]; exact hr))
      have : news = [] := List.eq_nil_of_length_eq_zero (by simpa using h2)
      subst this
      simp at hj
  · obtain ⟨ad, rfl, hcells⟩ := h4 hys
    have hyl : 0 < ys.length := List.length_pos_iff.2 hys
    have hnl : news.length = ys.length * i.size := by rw [h2, hsz]
    rcases hbase with ⟨q0, hv, rfl⟩ | ⟨g, cap, cur, TT, hv, hle, hmx, hown, hheap, hsize, hel⟩
    · cases q0 with
      | none =>
        have hr := run_append_nil (P := P) w T o.type T' i z hu hi hz ad ys.length c news hnl hcells hyl (by simp only [List.length_nil, Nat.zero_add] at hlen'; omega) (by simp only [List.length_nil, Nat.zero_add] at hbytes; omega)
        refine grow [] 0 (by simp) (by simpa using hyl) (fun k x hk => by simp at hk) ?_
        rw [hv, h1]
        simpa using hr
      | some q0 =>
        have hr := run_append_grow (P := P) w T o.type T' i z hu hi hz q0 0 0 [] (by simp) (fun j v hj => by simp at hj) ad ys.length c news hnl hcells (by omega) (by simp only [List.length_nil, Nat.zero_add] at hlen' ⊢; omega) (growslice_fits (by omega) (by simpa using hbytes))
        refine grow [] 0 (by simp) (by simpa using hyl) (fun k x hk => by simp at hk) ?_
        rw [hv, h1]
        simpa using hr
    · by_cases hroom : xs.length + ys.length ≤ cap
      · have hx0 : xs.length * e.size + news.length ≤ cur.size := by
          rw [hsize, h2, ← Nat.add_mul]; exact Nat.mul_le_mul_right _ hroom
        have hr := run_append_room' (w := w) hu hi o.type TT g xs.length cap cur hheap ad ys.length c news hnl hcells h3 hroom (by rw [hsz]; exact hx0)
        rw [hsz] at hr
        have hseg := segment hx0
        refine append_put (w' := w.setRow g _) (own' := (ρ.take l deep ms).own) hR hV hinto hy hdd hnd hap hfix ⟨fun b hb hne => setRow_other w g b _ (by rintro rfl; exact hne hown), fun _ _ _ => rfl, hnd, hap⟩ (Later.setRow _ _ _) hmain0
          (fun b hb => by simpa using hnew0 b hb) (b := g) (cap := cap) (by simp [Map.take, hown, find_none hap]) (setRow_heap w g _ _ TT (0, 0) hheap) ((segment_size hx0).trans hsize) hroom hmx (fun k x hk => ?_) h1 h2 h4 (fun j u hj => ?_) (hrun _ _ (by rw [hv, h1]; exact hr))
        · obtain ⟨us, g1, g2, g3⟩ := hel k x hk
          refine ⟨us, g1, fun j u hj => ?_, g3⟩
          have hjl := (List.getElem?_eq_some_iff.1 hj).1
          have hri := row_index (i := k) (n := xs.length) (sz := e.size) (j := j) (List.getElem?_eq_some_iff.1 hk).1 (by omega)
          rw [hseg, if_neg (by omega)]
          exact g2 j u hj
        · have hjl := (List.getElem?_eq_some_iff.1 hj).1
          rw [hseg, if_pos (by omega), Nat.add_sub_cancel_left]
          exact hj
      · have hx0 : xs.length * e.size ≤ cur.size := by rw [hsize]; exact Nat.mul_le_mul_right _ hle
        have holds : ∀ (j : Nat) u, (cur.toList.take (xs.length * e.size))[j]? = some u → w.cell? ((⟨g, 0, none⟩ : Addr).add j) = some u := by
          intro j u hj
          rw [List.getElem?_take] at hj
          split at hj
          · rw [Addr.add_lit, cell_of_row w g _ cur TT (0, 0) hheap, Nat.zero_add]
            simpa using hj
          · cases hj
        have hr := run_append_grow (P := P) w T o.type T' i z hu hi hz ⟨g, 0, none⟩ xs.length cap (cur.toList.take (xs.length * e.size)) (by simp [hsz]; omega) holds ad ys.length c news hnl hcells (by omega) (by omega) (growslice_fits (by omega) hbytes)
        refine grow (cur.toList.take (xs.length * e.size)) cap (by simp; omega) (by omega) (fun k x hk => ?_) ?_
        · obtain ⟨us, g1, g2, g3⟩ := hel k x hk
          refine ⟨us, g1, fun j u hj => ?_, g3⟩
          have hjl := (List.getElem?_eq_some_iff.1 hj).1
          have hri := row_index (i := k) (n := xs.length) (sz := e.size) (j := j) (List.getElem?_eq_some_iff.1 hk).1 (by omega)
          rw [List.getElem?_take, if_pos hri.1, Array.getElem?_toList]
          exact g2 j u hj
        · rw [hv, h1]; exact hr

end Go.Proofs.Ytlacogoljcpijaa.Vd

/- VdZb -/
namespace Go.Proofs.Ytlacogoljcpijaa.Vd

variable {P : Program} {E : Env} {ρ ρ' : Map} {w w' : World} {s : S} {a : Act} {K : Ctx} {H H' : Nat → Option Root}

theorem storeR_sound (hR : Rel P K ρ s a w) (hT : TyOK P E) {V : View} (hV : Seen V s) {o : Oper} {T : TypeId} {x z : Operand} (ho : o.op = .store T x z) {X Z : A}
    (hx : AR P ρ w s.root X (a.eval x)) (hz : AR P ρ w s.root Z (a.eval z)) : Sound P K s a w o (storeR E T X Z V) := by
  unfold storeR
  split
  · exact Sound.fail
  · rename_i vs hvs
    split
    · rename_i l off
      split
      · rename_i cs hl
        split
        · rename_i hle
          exact storeBox_sound hR hT ho (hV l _ hl) hvs hle hx hz
        · exact Sound.fail
      · exact Sound.fail
    · rename_i l i j e y
      split
      · rename_i e' xs d hl
        split
        · rename_i he
          subst he
          split
          · rename_i y' b m hset
            split
            · exact Sound.fail
            · rename_i hc
              simp only [Bool.or_eq_true, List.contains_eq_mem, decide_eq_true_eq, Bool.not_eq_true', decide_eq_false_iff_not, not_or, Classical.not_not] at hc
              split
              · rename_i hdb
                simp only [Bool.and_eq_true] at hdb
                exact storeAp_sound (deep := true) hR hT hV ho hl hvs hset hc.1 hc.2 hx hz fun _ => hdb
              · exact storeAp_sound (deep := false) hR hT hV ho hl hvs hset hc.1 hc.2 hx hz fun h => by cases h
          · exact Sound.fail
        · exact Sound.fail
      · exact Sound.fail
    · rename_i l i j i' j' u ys y
      split
      · rename_i e xs hl
        split
        · rename_i hf
          split
          · rename_i y' b hset
            exact storeAp1_sound hR hT hV ho hl hvs hset hf hx hz
          · exact Sound.fail
        · exact Sound.fail
      · exact Sound.fail
    · exact Sound.fail

/-- The fixed headers are those that the environment names. -/
def FixOK (K : Ctx) (E : Env) : Prop := ∀ l u, (l, u) ∈ K.fix → l ∈ E.fix

theorem appendR_sound (hR : Rel P K ρ s a w) (hT : TyOK P E) (hF : FixOK K E) {V : View} (hV : Seen V s) {o : Oper} {T : TypeId} {x y : Operand} (ho : o.op = .call { callee := .builtin .append, args := #[x, y], argTypes := #[T, T] }) {X Y : A}
    (hx : AR P ρ w s.root X (a.eval x)) (hy : AR P ρ w s.root Y (a.eval y)) : Sound P K s a w o (appendR E T X Y V) := by
  unfold appendR
  split
  · rename_i e hTe
    split
    · rename_i ol xs d hb
      split
      · rename_i ys d' m hi
        split
        · exact Sound.fail
        · rename_i hnd
          simp only [Bool.not_eq_true', decide_eq_false_iff_not, Classical.not_not] at hnd
          refine Sound.guard fun hlen => ?_
          have hlen' : xs.length + ys.length ≤ lim := by simpa [lenOk] using hlen
          dsimp only
          split
          · exact Sound.fail
          · rename_i hc
            simp only [Bool.or_eq_true, List.contains_eq_mem, decide_eq_true_eq, not_or] at hc
            have hbr := (base_rel hV hR.root hb hx).1
            have hfix : ∀ u, (ol.getD V.nx, u) ∉ K.fix := fun u hu => hc.2 (hF _ u hu)
            split
            · rename_i hdd
              simp only [Bool.and_eq_true] at hdd
              exact append_core (deep := true) hR hT hV ho hTe hbr hi hy (fun _ => hdd) hnd hc.1 hfix hlen'
            · exact append_core (deep := false) hR hT hV ho hTe hbr hi hy (fun h => by cases h) hnd hc.1 hfix hlen'
      · exact Sound.fail
    · exact Sound.fail
  · exact Sound.fail

end Go.Proofs.Ytlacogoljcpijaa.Vd

/- VdZc -/
namespace Go.Proofs.Ytlacogoljcpijaa.Vd

variable {P : Program} {E : Env} {ρ ρ' : Map} {w w' : World} {s : S} {a : Act} {K : Ctx} {H H' : Nat → Option Root}

theorem min_eq (m n : Nat) : Nat.min m n = min m n := rfl

theorem run_copy' {T T' ST : TypeId} {n0 : Nat} (hu : P.underlying T = some (.slice T')) (hs : (sizeOf T').run P w = .ok n0 w) (ty TT : TypeId) (g dLen dCap : Nat) (cur : Array Value) (hg : w.heap[g]? = some (.cells cur TT (0, 0)))
    (q : Option Addr) (sLen sCap : Nat) (news : List Value) (hl : news.length = min sLen dLen * n0) (hq : (q = none ∧ news = []) ∨ ∃ ad, q = some ad ∧ ∀ j u, news[j]? = some u → w.cell? (ad.add j) = some u) (h1 : ∀ u ∈ news, u.oneCell' = true) (hfit : news.length ≤ cur.size) :
    (Builtin.copy_ #[T, ST] ty #[.slice (some ⟨g, 0, none⟩) dLen dCap, .slice q sLen sCap]).run P w = .ok (goInt (min sLen dLen : Nat)) (w.setRow g (cur.toList.take 0 ++ news ++ cur.toList.drop (0 + news.length)).toArray) := by
  have hst := run_storeCells_at P g 0 TT news 0 cur w hg (by simpa using hfit) h1
  simp only [Nat.add_zero] at hst
  have hf : (Builtin.firstCells n0 (min sLen dLen) (.slice q sLen sCap)).run P w = .ok news.toArray w := by
    rcases hq with ⟨rfl, rfl⟩ | ⟨ad, rfl, hc⟩
    · rfl
    · exact run_firstCells_some (P := P) w n0 (min sLen dLen) ad sLen sCap news hl hc
  simp [Builtin.copy_, run_underlying hu, Builtin.lenOf, min_eq, hs, hf, hst]

theorem copyR_sound (hR : Rel P K ρ s a w) (hT : TyOK P E) {V : View} (hV : Seen V s) {o : Oper} {T ST : TypeId} {x y : Operand} (ho : o.op = .call { callee := .builtin .copy, args := #[x, y], argTypes := #[T, ST] }) {X Y : A}
    (hx : AR P ρ w s.root X (a.eval x)) (hy : AR P ρ w s.root Y (a.eval y)) : Sound P K s a w o (copyR E T X Y V) := by
  unfold copyR
  split
  · rename_i e0 hTe
    obtain ⟨T', hu, hT'⟩ := shp.slice (hT.ty T _ hTe)
    split
    · rename_i l e' ys dy hd
      split
      · rename_i e xs d hl
        split
        · rename_i he
          subst he
          split
          · rename_i hf
            simp only [Bool.and_eq_true, beq_iff_eq] at hf
            obtain ⟨hf, rfl⟩ := hf
            have hs := hV l _ hl
            obtain ⟨hv, _⟩ := VR.cell hx
            have hry := slData_rd hV hR.root hd hy
            obtain ⟨q, c, hyv, hyc⟩ := hry.slice
            rw [hyv] at hry
            have hrun : ∀ v' w', (Builtin.copy_ #[T, ST] o.type #[a.eval x, a.eval y]).run P w = .ok v' w' → (execOp a.eval o).run P w = .ok (.value v') w' := by
              intro v' w' h
              simp only [execOp, ho, resolve, invoke, builtin, Sem.run_bind, Sem.run_pure, Result.andThen_ok, List.map_toArray, List.map_cons, List.map_nil, h]
            have hD : ∀ w' : World, Later w w' → (∀ b, b < w.heap.size → ρ.own b ≠ .main l → w'.heap[b]? = w.heap[b]?) → (execOp a.eval o).run P w = .ok (.value (goInt (min ys.length xs.length : Nat))) w' → w'.heap.size = w.heap.size →
                ArrR w' (ρ.take l d []).own (.main l) e' (ys.take xs.length ++ xs.drop ys.length) (EL w' (ρ.take l d []).own l d e') (ρ.hdr l) →
                Sound P K s a w o (.ret (putD (.c (.v (.int .i64) ((min ys.length xs.length : Nat) : Int) [])) l (.arr e' (ys.take xs.length ++ xs.drop ys.length) d) false d [])) := by
              intro w' hla hhp run hsz harr
              refine Sound.put hR (ρ' := ρ.take l d []) (w' := w') (v := goInt (min ys.length xs.length : Nat)) ⟨hhp, fun _ _ _ => rfl, by simp [mvLocs], by simp [mvLocs]⟩ hla (fun b _ hb => .inl (by simp [Map.take, hb])) (fun b hb => .inl (by simp [Map.take, hR.fresh b hb])) (fun _ _ => rfl) (fun _ => rfl) (fun _ _ => rfl) (.inl run)
                fun H' hH => ⟨harr, AR.ofInt _ _ _, fun _ q hq => by cases hq⟩
            have hput : (R.ret (putD (.c (.v (.int .i64) ((min ys.length xs.length : Nat) : Int) [])) l (.arr e' (ys.take xs.length ++ xs.drop ys.length) d) false d [])) =
                .ret { dst := .c (.v (.int .i64) ((min ys.length xs.length : Nat) : Int) []), set := [(l, some (.arr e' (ys.take xs.length ++ xs.drop ys.length) d))], kill := [(l, false)] } := by
              cases d <;> rfl
            show Sound P K s a w o (.ret { dst := .c (.v (.int .i64) ((min ys.length xs.length : Nat) : Int) []), set := [(l, some (.arr e' (ys.take xs.length ++ xs.drop ys.length) d))], kill := [(l, false)] })
            rw [← hput]
            rcases hR.root l _ hs with ⟨q0, hv0, rfl⟩ | ⟨g, cap, cur, TT, hh, hcap, hmx, hown, hheap, hsize, hel⟩
            · refine hD w (Later.refl w) (fun _ _ _ => rfl) (hrun _ _ ?_) rfl (.inl ⟨q0, hv0, by simp⟩)
              rw [hv, hv0, hyv]
              have hs0 : (sizeOf T').run P w = .ok e'.size w := shp.size hT' w
              cases q0 <;> cases q <;> simp [Builtin.copy_, run_underlying hu, Builtin.lenOf, Builtin.firstCells, hs0, loadCells, loadCellsFrom, storeCells]
            · have hpos := Ty.size_pos e'
              have hrt : Rd w (Al ρ.own dy) (.sl e') (ys.take xs.length) [.slice q (min xs.length ys.length) c] := by
                rw [List.take_eq_take_min]
                exact Rd.take hry (Nat.min_le_right _ _) (by omega)
              obtain ⟨⟨q', c', news, h1, h2, h3, h4, h5⟩, _⟩ := Brings.flat (P := P) (ρ := ρ) (w' := w) (own' := ρ.own) (l := l) (n := 0) (deep := true) hf hrt
              simp only [Value.slice.injEq] at h1
              obtain ⟨rfl, h1, rfl⟩ := h1
              have hnl : news.length = min ys.length xs.length * e'.size := by rw [h2]; congr 1; omega
              have hfit : news.length ≤ cur.size := by
                rw [hnl, hsize]
                exact Nat.mul_le_mul_right _ (Nat.le_trans (Nat.min_le_right _ _) hcap)
              have hq : (q = none ∧ news = []) ∨ ∃ ad, q = some ad ∧ ∀ j u, news[j]? = some u → w.cell? (ad.add j) = some u := by
                by_cases hne : ys.take xs.length = []
                · cases q with
                  | none =>
                    refine .inl ⟨rfl, List.eq_nil_of_length_eq_zero ?_⟩
                    rw [h2, hne]; simp
                  | some ad =>
                    refine .inr ⟨ad, rfl, fun j u hj => ?_⟩
                    have : news = [] := List.eq_nil_of_length_eq_zero (by rw [h2, hne]; simp)
                    subst this
                    simp at hj
                · exact .inr (h4 hne)
              have run := run_copy' (ST := ST) hu (shp.size hT' w) o.type TT g xs.length cap cur hheap q ys.length c news hnl hq h3 hfit
              have hseg := segment (cur := cur) (o := 0) (us := news) (by omega)
              refine hD (w.setRow g _) (Later.setRow _ _ _) (fun b hb hne => setRow_other w g b _ (by rintro rfl; exact hne hown)) (hrun _ _ (by rw [hv, hh, hyv]; exact run)) (by simp) ?_
              have hlen : (ys.take xs.length ++ xs.drop ys.length).length = xs.length := by simp; omega
              refine .inr ⟨g, cap, _, TT, by rw [hlen]; exact hh, by rw [hlen]; exact hcap, hmx, by simp [Map.take, hown], setRow_heap w g _ _ TT (0, 0) hheap, (segment_size (by omega)).trans hsize, fun i z hi => ?_⟩
              have hK : Kept ρ w (w.setRow g (cur.toList.take 0 ++ news ++ cur.toList.drop (0 + news.length)).toArray) l (ρ.take l d []).own d [] :=
                ⟨fun b hb hne => setRow_other w g b _ (by rintro rfl; exact hne hown), fun _ _ _ => rfl, by simp [mvLocs], by simp [mvLocs]⟩
              by_cases hi1 : i < (ys.take xs.length).length
              · rw [List.getElem?_append_left hi1] at hi
                obtain ⟨us, g1, g2, g3, _⟩ := h5 i z hi
                refine ⟨us, g1, fun j u hj => ?_, ?_⟩
                · have := g2 j u hj
                  have hjl := (List.getElem?_eq_some_iff.1 this).1
                  rw [hseg, if_pos (by omega), Nat.sub_zero]
                  exact this
                · have hrf : Rd w (fun _ => True) e' z us := DR.rd (A := fun _ => True) (fun _ _ => trivial) e' 0 z us (by simpa [EL0] using g3)
                  unfold EL
                  cases d with
                  | true => exact DR.ofFlat (A := fun _ => True) e' 0 z us hf (Rd.flat e' z us hf hrf)
                  | false => exact Rd.flat e' z us hf hrf
              · rw [List.getElem?_append_right (by omega), List.getElem?_drop] at hi
                have hil : ys.length ≤ i := by
                  rcases Nat.lt_or_ge i ys.length with h | h
                  · exfalso
                    have h6 := (List.getElem?_eq_some_iff.1 hi).1
                    simp at hi1 h6
                    omega
                  · exact h
                have hidx : ys.length + (i - (ys.take xs.length).length) = i := by
                  simp at hi1 ⊢
                  have h6 := (List.getElem?_eq_some_iff.1 hi).1
                  simp at h6
                  omega
                rw [hidx] at hi
                obtain ⟨us, g1, g2, g3⟩ := hel i z hi
                refine ⟨us, g1, fun j u hj => ?_, hK.el (fun h => h) g3⟩
                have hjl := (List.getElem?_eq_some_iff.1 hj).1
                have hle : min ys.length xs.length * e'.size ≤ i * e'.size := Nat.mul_le_mul_right _ (Nat.le_trans (Nat.min_le_left _ _) hil)
                rw [hseg, if_neg (by omega)]
                exact g2 j u hj
          · exact Sound.fail
        · exact Sound.fail
      · exact Sound.fail
    · exact Sound.fail
  · exact Sound.fail

end Go.Proofs.Ytlacogoljcpijaa.Vd

/- VdZd -/
namespace Go.Proofs.Ytlacogoljcpijaa.Vd

variable {P : Program} {E : Env} {ρ ρ' : Map} {w w' : World} {s : S} {a : Act} {K : Ctx} {H H' : Nat → Option Root}

theorem capsOf_rel {ρA : Operand → A} {f : Operand → Value} (hρ : ∀ o, AR P ρ w H (ρA o) (f o)) : ∀ (l : List Operand) (caps : List Nat), capsOf (l.map ρA) = some caps → l.map f = caps.map ρ.hdr ∧ ∀ c ∈ caps, ∃ b, ρ.hdr c = .pointer (some ⟨b, 0, none⟩)
  | [], caps, h => by
    simp only [List.map_nil, capsOf, Option.some.injEq] at h
    subst h
    exact ⟨rfl, fun c hc => by cases hc⟩
  | o :: l, caps, h => by
    simp only [List.map_cons] at h
    have ho := hρ o
    unfold capsOf at h
    split at h
    · rename_i h1; cases h1
    · rename_i l0 r heq
      simp only [List.cons.injEq] at heq
      obtain ⟨h1, rfl⟩ := heq
      rw [h1] at ho
      obtain ⟨b, hb, hv⟩ := VR.cell ho
      cases hr : capsOf (l.map ρA) with
      | none => rw [hr] at h; cases h
      | some cs =>
        rw [hr] at h
        simp only [Option.map_some, Option.some.injEq] at h
        subst h
        obtain ⟨g1, g2⟩ := capsOf_rel hρ l cs hr
        refine ⟨by simp [g1, hb, hv], fun c hc => ?_⟩
        rcases List.mem_cons.1 hc with rfl | hc
        · exact ⟨b, hb⟩
        · exact g2 c hc
    · cases h

theorem makeFuncR_sound (hR : Rel P K ρ s a w) {V : View} (hV : Seen V s) {o : Oper} {fn : Fn} {first caps : Array Operand} (ho : o.op = .makeFunc fn first caps) {ρA : Operand → A} (hρ : ∀ o, AR P ρ w s.root (ρA o) (a.eval o)) :
    Sound P K s a w o (makeFuncR E fn (first.toList.map ρA) (caps.toList.map ρA) V) := by
  unfold makeFuncR
  split
  · rename_i f cs hcs
    obtain ⟨h1, h2⟩ := capsOf_rel hρ caps.toList cs hcs
    have hcap : caps.map a.eval = (cs.map ρ.hdr).toArray := by rw [← h1, ← Array.toList_map]
    split
    · rename_i hf
      have hf' : first = #[] := by simpa using hf
      subst hf'
      refine Sound.value hR (v := .func (.func f) #[] (cs.map ρ.hdr).toArray) (by simp [execOp, ho, Instr.makeFunc, hcap]) (AR.one.2 ⟨[], rfl, rfl, h2⟩)
    · rename_i x hf
      have hf' : ∃ y, first = #[y] ∧ ρA y = x := by
        obtain ⟨l⟩ := first
        match l, hf with
        | [y], hf => exact ⟨y, rfl, by simpa using hf⟩
      obtain ⟨y, rfl, rfl⟩ := hf'
      split
      · rename_i t _ _ _ _
        split
        · rename_i hfl
          split
          · rename_i z d hz
            obtain ⟨us, g1, g2⟩ := asData_vd hV hR.root hz (hρ y)
            refine Sound.value hR (v := .func (.func f) #[a.eval y] (cs.map ρ.hdr).toArray) (by simp [execOp, ho, Instr.makeFunc, hcap]) (AR.one.2 ⟨[a.eval y], rfl, ⟨_, _, rfl, hfl, ⟨us, Rd.flat t z us hfl g1, g2⟩, rfl⟩, h2⟩)
          · exact Sound.fail
        · exact Sound.fail
      · exact Sound.fail
    · exact Sound.fail
  · exact Sound.fail

theorem map_one {α β : Type} {f : α → β} {l : Array α} {x : β} (h : l.toList.map f = [x]) : ∃ y, l = #[y] ∧ f y = x := by
  obtain ⟨l⟩ := l
  match l, h with
  | [y], h => exact ⟨y, rfl, by simpa using h⟩

theorem map_two {α β : Type} {f : α → β} {l : Array α} {x x' : β} (h : l.toList.map f = [x, x']) : ∃ y y', l = #[y, y'] ∧ f y = x ∧ f y' = x' := by
  obtain ⟨l⟩ := l
  match l, h with
  | [y, y'], h => exact ⟨y, y', rfl, by simpa using h⟩

theorem minmax_any (hR : Rel P K ρ s a w) {o : Oper} {mx : Bool} {args : Array Operand} {ts : Array TypeId} (ho : o.op = .call { callee := .builtin (if mx then .max else .min), args := args, argTypes := ts }) {ρA : Operand → A} (hρ : ∀ o, AR P ρ w s.root (ρA o) (a.eval o)) :
    Sound P K s a w o (minmaxR mx (args.toList.map ρA)) := by
  cases hl : args.toList.map ρA with
  | nil => unfold minmaxR; split <;> first | exact Sound.fail | (rename_i heq; simp at heq)
  | cons X l => cases l with
    | nil => unfold minmaxR; split <;> first | exact Sound.fail | (rename_i heq; simp at heq)
    | cons Y l => cases l with
      | nil =>
        obtain ⟨x, y, rfl, rfl, rfl⟩ := map_two hl
        exact minmaxR_sound hR ho (hρ x) (hρ y)
      | cons Z l => unfold minmaxR; split <;> first | exact Sound.fail | (rename_i heq; simp at heq)

theorem size_one {α : Type} {l : Array α} (h : (l.size == 1) = true) : ∃ x, l = #[x] := by
  obtain ⟨l⟩ := l
  match l, h with
  | [x], _ => exact ⟨x, rfl⟩
  | [], h => simp at h
  | _ :: _ :: _, h => simp at h

theorem size_two {α : Type} {l : Array α} (h : (l.size == 2) = true) : ∃ x y, l = #[x, y] := by
  obtain ⟨l⟩ := l
  match l, h with
  | [x, y], _ => exact ⟨x, y, rfl⟩
  | [], h => simp at h
  | [_], h => simp at h
  | _ :: _ :: _ :: _, h => simp at h

theorem opR_sound (hR : Rel P K ρ s a w) (hT : TyOK P E) (hF : FixOK K E) {V : View} (hV : Seen V s) (hn : Unused K ρ s V.nx) {o : Oper} (hok : opOK P o = true) {ρA : Operand → A} (hρ : ∀ o, AR P ρ w s.root (ρA o) (a.eval o))
    (hcall : ∀ c f, o.op = .call c → c.callee = .value (.func f) → Sound P K s a w o (callR E f (c.args.toList.map ρA) V))
    (hdyn : ∀ c x, o.op = .call c → c.callee = .value x → Sound P K s a w o (dynR E (ρA x) (c.args.toList.map ρA) V)) :
    Sound P K s a w o (opR E o ρA V) := by
  unfold opR
  split
  · rename_i x ho; exact move_sound hR (.inl ho) (hρ x)
  · rename_i x ho; exact move_sound hR (.inr ho) (hρ x)
  · rename_i c x y ho
    split
    · rename_i b d hc
      have := hρ c
      rw [hc] at this
      exact pick_sound hR ho this (hρ x) (hρ y)
    · exact Sound.fail
  · rename_i t ho
    split
    · exact Sound.fail
    · rename_i hz
      exact alloc_sound hR hT hn ho (by simpa using hz)
  · rename_i t x ho
    split
    · rename_i g cs hx
      have := hρ x
      rw [hx] at this
      exact box_sound hR hn ho this
    · exact Sound.fail
  · rename_i t ps ho; exact buildR_sound hR hT ho hρ
  · rename_i t n ps ho; exact buildSliceR_sound hR hT hV hn ho hρ
  · rename_i t x ho; exact loadR_sound hR hT hV ho (hρ x)
  · rename_i t x z ho; exact storeR_sound hR hT hV ho (hρ x) (hρ z)
  · rename_i x ho
    have hx := hρ x
    split
    · rename_i h1; rw [h1] at hx; exact nilCheck_sound hR ho trivial hx
    · rename_i h1; rw [h1] at hx; exact nilCheck_sound hR ho trivial hx
    · rename_i h1; rw [h1] at hx; exact nilCheck_sound hR ho trivial hx
    · rename_i h1; rw [h1] at hx; exact nilCheck_sound hR ho trivial hx
    · rename_i h1; rw [h1] at hx; exact nilCheck_sound hR ho trivial hx
    · exact Sound.fail
  · rename_i op t x yT ho; exact nilT_sound hR hT hV ho (hρ x)
  · rename_i op t x y yT _ ho; exact binR_sound hR hT hV ho (hρ x) (hρ y)
  · rename_i op t x ho; exact unR_sound hR ho (hρ x)
  · rename_i u t x ho; exact convR_sound hR hT hV ho (hρ x)
  · rename_i t x ho
    simp only [opOK, ho] at hok
    cases hd : P.underlying t with
    | none => simp [hd] at hok
    | some d => exact iface_sound hR ho hd (fun m hm => by subst hm; simp [hd] at hok)
  · rename_i fn first caps ho; exact makeFuncR_sound hR hV ho hρ
  · rename_i t n c ho; exact makeSliceR_sound hR hT hn ho (hρ n) (hρ c)
  · rename_i t x lo hi ho; exact sliceR_sound hR hT hV ho hρ
  · rename_i t x k k' ho
    split
    · rename_i e r hTe hd
      obtain ⟨T', hu, hT'⟩ := shp.slice (hT.ty t _ hTe)
      obtain ⟨e', xs, d⟩ := r
      obtain ⟨q, c, hv, _⟩ := (slData_rd hV hR.root hd (hρ x)).slice
      refine Sound.value hR (v := .slice q 0 0) ?_ (AR.one.2 ⟨q, rfl⟩)
      have h0 : ∀ (k : IntKind) (y : Nat) (cd : BoundsCode), (Instr.sliceBound (.int k 0) y cd).run P w = .ok 0 w := fun k y cd => run_sliceBound_in (i := 0) (Int.le_refl 0) (by omega)
      have ec : ∀ k : IntKind, a.eval (.const (.int k 0)) = .int k 0 := fun _ => rfl
      simp only [execOp, ho, hv, ec, Option.map_none, Option.map_some, Sem.run_bind, Instr.sliceAt, Instr.slice, run_underlying hu, Result.andThen_ok, Instr.sliceBounds, h0, Sem.run_pure, shp.size hT']
      simp
    · exact Sound.fail
  · rename_i t x f ho; exact fieldAddrR_sound hR hT ho hok (hρ x)
  · rename_i t x i ho; exact indexAddrR_sound hR hT hV ho hok (hρ x) (hρ i)
  · rename_i t x i ho; exact indexR_sound hR hT ho (hρ x) (hρ i)
  · rename_i x i ho
    have hx := hρ x
    split
    · rename_i vs h1
      rw [h1] at hx
      split
      · rename_i g cs hi
        exact extract_sound hR ho hi hx
      · exact Sound.fail
    · exact Sound.fail
  · rename_i c ho
    split
    · rename_i b hb
      obtain ⟨callee, args, ts⟩ := c
      dsimp only at hb ⊢
      subst hb
      simp only [opOK, ho] at hok
      split
      · rename_i X heq
        obtain ⟨x, rfl, rfl⟩ := map_one heq
        obtain ⟨T, rfl⟩ := size_one hok
        exact lenR_sound hR hT hV ho (hρ x)
      · rename_i X Y heq
        obtain ⟨x, y, rfl, rfl, rfl⟩ := map_two heq
        simp only [Bool.and_eq_true] at hok
        obtain ⟨T, T2, rfl⟩ := size_two hok.2
        have hTT : T = T2 := by simpa using hok.1
        subst hTT
        exact appendR_sound hR hT hF hV ho (hρ x) (hρ y)
      · rename_i X Y heq
        obtain ⟨x, y, rfl, rfl, rfl⟩ := map_two heq
        obtain ⟨T, T2, rfl⟩ := size_two hok
        exact copyR_sound hR hT hV ho (hρ x) (hρ y)
      · exact minmax_any (mx := false) hR ho hρ
      · exact minmax_any (mx := true) hR ho hρ
      · exact Sound.fail
    · rename_i f hf
      exact hcall c f ho hf
    · rename_i x _ hx
      exact hdyn c x ho hx
    · exact Sound.fail
  · exact Sound.fail

end Go.Proofs.Ytlacogoljcpijaa.Vd

/- VdZg -/
namespace Go.Proofs.Ytlacogoljcpijaa.Vd

structure Same (s0 s : S) : Prop where
  len : s.fr.length = s0.fr.length
  more : s0.H.length ≤ s.H.length
  fr : ∀ i : Nat, i ∉ s.dF → s.fr[i]? = s0.fr[i]?
  root : ∀ l : Nat, l < s0.H.length → l ∉ s.dH → s.root l = s0.root l

theorem Same.refl (s : S) : Same s s := ⟨rfl, Nat.le_refl _, fun _ _ => rfl, fun _ _ _ => rfl⟩

theorem C.left_of_not_hit {k : Sweep} {c : C} (h : c.hit k = false) : c.left k = c := by
  unfold C.hit at h
  simp only [Bool.or_eq_false_iff] at h
  obtain ⟨h1, h2⟩ := h
  unfold C.left
  rw [if_neg (by simp [h1])]
  cases c with
  | v t x deps =>
    have : deps.map (newLoc k.mov) = deps := by
      simp only [List.any_eq_false, Option.not_isSome_iff_eq_none] at h2
      conv => rhs; rw [← List.map_id deps]
      exact List.map_congr_left fun l hl => by simp [newLoc, h2 l hl]
    simp [this]
  | sp t x deps =>
    have : deps.map (newLoc k.mov) = deps := by
      simp only [List.any_eq_false, Option.not_isSome_iff_eq_none] at h2
      conv => rhs; rw [← List.map_id deps]
      exact List.map_congr_left fun l hl => by simp [newLoc, h2 l hl]
    simp [this]
  | ref l => 
    simp only [Option.isSome_eq_false_iff, Option.isNone_iff_eq_none] at h2
    simp [h2]
  | _ => simp_all

theorem map_left {k : Sweep} {cs : List C} (h : cs.any (C.hit k) = false) : cs.map (C.left k) = cs := by
  simp only [List.any_eq_false, Bool.not_eq_true] at h
  conv => rhs; rw [← List.map_id cs]
  exact List.map_congr_left fun c hc => C.left_of_not_hit (h c hc)

theorem A.left_of_not_hit {k : Sweep} {x : A} (h : x.hit k = false) : x.left k = x := by
  cases x with
  | none => rfl
  | any => rfl
  | val g cs => simp only [A.hit] at h; simp [A.left, map_left h]
  | tup vs =>
    simp only [A.hit, List.any_eq_false, Bool.not_eq_true] at h
    simp only [A.left]
    congr 1
    conv => rhs; rw [← List.map_id vs]
    exact List.map_congr_left fun v hv => by
      have := map_left (k := k) (cs := v.2) (by simpa using h v hv)
      simp [this]

theorem Root.left_of_not_hit {k : Sweep} {r : Root} (h : r.hit k = false) : r.left k = r := by
  cases r with
  | box cs => simp only [Root.hit] at h; simp [Root.left, map_left h]
  | arr e xs d => rfl
  | gap => rfl
  | lit e els =>
    simp only [Root.hit, List.any_eq_false, Bool.not_eq_true] at h
    simp only [Root.left]
    congr 1
    conv => rhs; rw [← List.map_id els]
    exact List.map_congr_left fun cs hcs => by
      have := map_left (k := k) (cs := cs) (by simpa using h cs hcs)
      simpa using this

theorem hits_spec {α : Type} (p : α → Bool) : ∀ (l : List α) (n i : Nat) (x : α), l[i]? = some x → n + i ∉ hits p n l → p x = false
  | [], n, i, x, hi, _ => by simp at hi
  | y :: l, n, i, x, hi, hn => by
    unfold hits at hn
    cases i with
    | zero =>
      simp at hi
      subst hi
      cases hp : p y with
      | false => rfl
      | true => rw [if_pos hp] at hn; exact absurd (List.mem_cons_self ..) hn
    | succ i =>
      refine hits_spec p l (n + 1) i x (by simpa using hi) ?_
      rw [show n + 1 + i = n + (i + 1) by omega]
      intro hm
      apply hn
      split
      · exact List.mem_cons_of_mem _ hm
      · exact hm

theorem Same.swept {s0 s : S} (h : Same s0 s) (k : Sweep) : Same s0 (s.swept k) := by
  unfold S.swept
  split
  · exact h
  · refine ⟨by simp [h.len], by simpa using h.more, fun i hi => ?_, fun l hl hn => ?_⟩
    · simp only [List.mem_append, not_or] at hi
      rw [← h.fr i hi.2, List.getElem?_map]
      cases hx : s.fr[i]? with
      | none => rfl
      | some x =>
        have := hits_spec (A.hit k) s.fr 0 i x hx (by simpa using hi.1)
        simp [A.left_of_not_hit this]
    · simp only [List.mem_append, not_or] at hn
      rw [← h.root l hl hn.2]
      simp only [S.root, List.getD_eq_getElem?_getD, List.getElem?_map]
      cases hx : s.H[l]? with
      | none => rfl
      | some o =>
        have := hits_spec (fun o : Option Root => (o.map (Root.hit k)).getD false) s.H 0 l o hx (by simpa using hn.1)
        cases o with
        | none => rfl
        | some r =>
          simp only [Option.map_some, Option.getD_some] at this
          simp [Root.left_of_not_hit this]

theorem Same.put {s0 s : S} (h : Same s0 s) (dst : Option Nat) (x : A) : Same s0 (s.put dst x) := by
  cases dst with
  | none => exact h
  | some d =>
    refine ⟨by simp [S.put, h.len], h.more, fun i hi => ?_, h.root⟩
    simp only [S.put, List.mem_cons, not_or] at hi
    simp only [S.put]
    rw [List.getElem?_set_ne (Ne.symm hi.1)]
    exact h.fr i hi.2

theorem Same.apply {s0 s : S} (h : Same s0 s) (dst : Option Nat) (d : Delta) : Same s0 (s.apply dst d) := by
  unfold S.apply
  have h1 := h.swept ⟨d.kill, d.mov⟩
  generalize s.swept ⟨d.kill, d.mov⟩ = s1 at h1
  refine Same.put (s := { s1 with H := setAll s1.H d.set, dH := d.set.map Prod.fst ++ s1.dH }) ⟨h1.len, Nat.le_trans h1.more (setAll_length_ge d.set s1.H).1, h1.fr, fun l hl hn => ?_⟩ dst d.dst
  simp only [List.mem_append, not_or] at hn
  rw [← h1.root l hl hn.2]
  rcases setAll_get d.set s1.H l with ⟨h2, _⟩ | h2
  · exact h2
  · exact absurd (List.mem_map.2 ⟨_, h2, rfl⟩) hn.1

end Go.Proofs.Ytlacogoljcpijaa.Vd

/- VdZe -/
namespace Go.Proofs.Ytlacogoljcpijaa.Vd

variable {P : Program} {E : Env} {ρ ρ' : Map} {w w' : World} {s : S} {a : Act} {K : Ctx} {H H' : Nat → Option Root}

theorem apply_put (s : S) (dst : Option Nat) (x : A) : s.apply dst { dst := x } = s.put dst x := by
  simp [S.apply, S.swept, setAll]

theorem Rel.put (h : Rel P K ρ s a w) (dst : Option Nat) {x : A} {v : Value} (hx : AR P ρ w s.root x v) : Rel P K ρ (s.put dst x) (a.put dst v) w := by
  rw [← apply_put]
  exact h.pure dst hx

theorem Rel.relit (h : Rel P K ρ s a w) {g : Nat} {b : Bool} {d : List Nat} (hg : s.fr.getD g .none = .val false [.v .bool b d]) : Rel P K ρ (s.put (some g) (litB b)) a w ∧ a.tmps[g]? = some (.bool b) := by
  have hlt : g < s.fr.length := by
    rcases Nat.lt_or_ge g s.fr.length with h1 | h1
    · exact h1
    · rw [List.getD_eq_getElem?_getD, List.getElem?_eq_none h1] at hg
      cases hg
  have hfr : s.fr[g]? = some (.val false [.v .bool b d]) := by
    rw [List.getD_eq_getElem?_getD, List.getElem?_eq_getElem hlt] at hg
    rw [List.getElem?_eq_getElem hlt]
    exact congrArg some hg
  obtain ⟨v, h1, h2⟩ := h.slot g _ hfr
  have hv := h2.bool
  subst hv
  have := h.put (some g) (x := litB b) (v := .bool b) (AR.ofBool _ _)
  refine ⟨?_, h1⟩
  have he : a.put (some g) (.bool b) = a := by
    have hlt' : g < a.tmps.size := by rw [h.size]; exact hlt
    cases a with
    | mk tmps defers =>
      simp only [Act.put]
      congr 1
      refine Array.ext_getElem? fun i => ?_
      by_cases hi : g = i
      · subst hi
        rw [Array.getElem?_setIfInBounds_self_of_lt hlt', h1]
      · rw [Array.getElem?_setIfInBounds_ne hi]
  rwa [he] at this

theorem Rel.unusedGe (h : Rel P K ρ s a w) {n : Nat} (hn : s.H.length ≤ n) : Unused K ρ s n where
  root := .inl (by simp only [S.root, List.getD_eq_getElem?_getD, List.getElem?_eq_none hn, Option.getD_none])
  own := fun b hb => Nat.lt_irrefl _ (Nat.lt_of_lt_of_le (h.live b _ hb) hn)
  fix := fun v hv => Nat.lt_irrefl _ (Nat.lt_of_lt_of_le (h.fix _ v hv).2 hn)

/-- Calls are sound (from the contracts). -/
def CallsOK (P : Program) (E : Env) (K : Ctx) : Prop :=
  ∀ ρ s a w (V : View) (o : Oper) (ρA : Operand → A), Rel P K ρ s a w → Seen V s → (∀ o, AR P ρ w s.root (ρA o) (a.eval o)) →
    (∀ c f, o.op = .call c → c.callee = .value (.func f) → (∀ con, lookupN f E.con = some con → ∀ i, i < conNames con → Unused K ρ s (V.nx + i)) → Sound P K s a w o (callR E f (c.args.toList.map ρA) V)) ∧
    (∀ c x, o.op = .call c → c.callee = .value x → (∀ n, V.nx ≤ n → Unused K ρ s n) → Sound P K s a w o (dynR E (ρA x) (c.args.toList.map ρA) V))

theorem op_sound (hT : TyOK P E) (hF : FixOK K E) (hC : CallsOK P E K) (hR : Rel P K ρ s a w) {o : Oper} (hok : opOK P o = true) : Sound P K s a w o (opR E o s.eval s.view) := by
  obtain ⟨h1, h2⟩ := hC ρ s a w s.view o s.eval hR (Seen.self s) hR.eval
  exact opR_sound hR hT hF (Seen.self s) hR.unused hok hR.eval (fun c f ho hc => h1 c f ho hc fun con _ i _ => hR.unusedGe (Nat.le_add_right _ _)) (fun c x ho hc => h2 c x ho hc fun n hn => hR.unusedGe hn)

theorem ops_sound {β : Type} (hT : TyOK P E) (hF : FixOK K E) (hC : CallsOK P E K) {ops : Array Oper} {y : β} {k : S → Option β} {Q : Exit → Act → World → Prop}
    {s0 : S} (hk : ∀ ρ' s' a' w', Rel P K ρ' s' a' w' → Same s0 s' → k s' = some y → Q .normal a' w') : ∀ (rest : List Oper) (ρ : Map) (s : S) (a : Act) (w : World), Rel P K ρ s a w → Same s0 s → (∀ o ∈ rest, opOK P o = true) → opsR E ops rest s k = some y → wpList P ops Q rest a w
  | [], ρ, s, a, w, hR, hS, _, h => hk ρ s a w hR hS h
  | o :: rest, ρ, s, a, w, hR, hS, hok, h => by
    have hok' : ∀ o ∈ rest, opOK P o = true := fun o ho => hok o (List.mem_cons_of_mem _ ho)
    have run : ∀ s', Rel P K ρ s' a w → Same s0 s' → ((opR E o s'.eval s'.view).run fun d => opsR E ops rest (s'.apply o.dst d) k) = some y → ∀ KK : Act → World → Prop, (∀ a w, wpList P ops Q rest a w → KK a w) → o.wp P a w KK Q := by
      intro s' hR' hS' h' KK hKK
      obtain ⟨g1, g2⟩ := R.run_ok h'
      exact op_sound hT hF hC hR' (hok o (List.mem_cons_self ..)) g1 KK Q fun d ρ' a' w' hd hrel => hKK a' w' (ops_sound hT hF hC hk rest ρ' _ a' w' hrel (hS'.apply o.dst d) hok' (g2 d hd))
    have skip : ∀ s', Rel P K ρ s' a w → Same s0 s' → opsR E ops rest (s'.put o.dst .none) k = some y → wpList P ops Q rest (a.put o.dst undef) w := fun s' hR' hS' h' =>
      ops_sound hT hF hC hk rest ρ _ _ w (hR'.put o.dst (x := .none) rfl) (hS'.put o.dst .none) hok' h'
    refine wpList_step fun KK hKK => ?_
    unfold opsR at h
    simp only [Delta.share_eq, S.force_eq] at h
    split at h
    · rename_i hg
      rw [if_pos (by simp [Region.wanted, hg])]
      exact run s hR hS h KK hKK
    · rename_i j want hg
      split at h
      · cases h
      · rename_i g hj
        have hyd : yielded ops a.tmps j = match a.tmps[g]? with | some (.bool b) => some b | _ => none := by
          cases ho : ops[j]? with
          | none => rw [ho] at hj; cases hj
          | some oj =>
            rw [ho] at hj
            have hd : oj.dst = some g := hj
            simp only [yielded, ho, Option.bind_some, hd]
            cases a.tmps[g]? with
            | none => rfl
            | some v => cases v <;> rfl
        split at h
        · rename_i hnone
          -- the guard was not run
          have : yielded ops a.tmps j = none := by
            rw [hyd]
            cases hs : s.fr[g]? with
            | none =>
              have : a.tmps[g]? = none := by
                rw [Array.getElem?_eq_none_iff, hR.size]
                simpa using hs
              rw [this]
            | some x =>
              rw [List.getD_eq_getElem?_getD, hs] at hnone
              obtain ⟨v, h1, h2⟩ := hR.slot g x hs
              have hx : x = .none := hnone
              subst hx
              have hv : v = undef := h2
              rw [h1, hv]
              rfl
          rw [if_neg (by simp [Region.wanted, hg, this])]
          exact hKK _ _ (skip s hR hS h)
        · rename_i b d hb
          obtain ⟨hR', ht⟩ := hR.relit hb
          have hy : yielded ops a.tmps j = some b := by rw [hyd, ht]
          cases b with
          | true =>
            simp only [cond_true] at h
            cases want with
            | true =>
              rw [if_pos (by simp [Region.wanted, hg, hy])]
              exact run _ hR' (hS.put _ _) (by simpa using h) KK hKK
            | false =>
              rw [if_neg (by simp [Region.wanted, hg, hy])]
              exact hKK _ _ (skip _ hR' (hS.put _ _) (by simpa using h))
          | false =>
            simp only [cond_false] at h
            cases want with
            | true =>
              rw [if_neg (by simp [Region.wanted, hg, hy])]
              exact hKK _ _ (skip _ hR' (hS.put _ _) (by simpa using h))
            | false =>
              rw [if_pos (by simp [Region.wanted, hg, hy])]
              exact run _ hR' (hS.put _ _) (by simpa using h) KK hKK
        · cases h

end Go.Proofs.Ytlacogoljcpijaa.Vd

/- VdZf -/
namespace Go.Proofs.Ytlacogoljcpijaa.Vd

variable {P : Program} {E : Env} {ρ ρ' : Map} {w w' : World} {s : S} {a : Act} {K : Ctx} {H H' : Nat → Option Root}

def Out1.exit' : Out1 → Exit
  | .normal => .normal
  | .exit id => .exit id
  | .ret => .ret

/-- What is asked of code: its operations' types; no region that draws its order, none with a join. -/
def codeOK (P : Program) (h : Hints) : Code → Bool
  | .seq a b => codeOK P h a && codeOK P h b
  | .cond _ a b => codeOK P h a && codeOK P h b
  | .block _ b => codeOK P h b
  | .loop b => codeOK P h b
  | .region id ops d => !d && (lookupN id h.regions).isNone && ops.all (opOK P)
  | _ => true

/-- Code is sound. -/
def CodeSound (P : Program) (E : Env) (K : Ctx) (h : Hints) (c : Code) : Prop :=
  ∀ {β : Type} (s0 : S) (cur : Nat) (s : S) (ρ : Map) (a : Act) (w : World) (k : Out1 → S → Option β) (y : β) (Q : Exit → Act → World → Prop), semC E h cur c s k = some y → Rel P K ρ s a w → Same s0 s →
    (∀ e s' ρ' a' w', Rel P K ρ' s' a' w' → Same s0 s' → k e s' = some y → Q e.exit' a' w') → c.wp P Q a w

theorem semC_sound (hT : TyOK P E) (hF : FixOK K E) (hC : CallsOK P E K) (h : Hints) (hL : ∀ b, CodeSound P E K h b → CodeSound P E K h (.loop b)) : ∀ c, codeOK P h c = true → CodeSound P E K h c
  | .skip, _, _, s0, cur, s, ρ, a, w, k, y, Q, hs, hR, hS, hk => by
    simp only [semC] at hs
    exact wp_skip (hk .normal s ρ a w hR hS hs)
  | .exit id, _, _, s0, cur, s, ρ, a, w, k, y, Q, hs, hR, hS, hk => by
    simp only [semC] at hs
    exact wp_exit (hk (.exit id) s ρ a w hR hS hs)
  | .ret, _, _, s0, cur, s, ρ, a, w, k, y, Q, hs, hR, hS, hk => by
    simp only [semC] at hs
    exact wp_ret (hk .ret s ρ a w hR hS hs)
  | .seq c1 c2, hok, _, s0, cur, s, ρ, a, w, k, y, Q, hs, hR, hS, hk => by
    simp only [codeOK, Bool.and_eq_true] at hok
    simp only [semC] at hs
    refine wp_seq (semC_sound hT hF hC h hL c1 hok.1 s0 cur s ρ a w _ y _ hs hR hS fun e s' ρ' a' w' hR' hS' hk' => ?_)
    cases e with
    | normal => exact semC_sound hT hF hC h hL c2 hok.2 s0 cur s' ρ' a' w' k y Q hk' hR' hS' hk
    | exit id => exact hk (.exit id) s' ρ' a' w' hR' hS' hk'
    | ret => exact hk .ret s' ρ' a' w' hR' hS' hk'
  | .cond c c1 c2, hok, _, s0, cur, s, ρ, a, w, k, y, Q, hs, hR, hS, hk => by
    simp only [codeOK, Bool.and_eq_true] at hok
    simp only [semC] at hs
    split at hs
    · rename_i b d hc
      have he := hR.eval c
      rw [hc] at he
      have hb := he.bool
      refine wp_cond_split hb (fun ht => ?_) (fun hf => ?_)
      · subst ht
        exact semC_sound hT hF hC h hL c1 hok.1 s0 cur s ρ a w k y Q (by simpa using hs) hR hS hk
      · subst hf
        exact semC_sound hT hF hC h hL c2 hok.2 s0 cur s ρ a w k y Q (by simpa using hs) hR hS hk
    · cases hs
  | .block id b, hok, _, s0, cur, s, ρ, a, w, k, y, Q, hs, hR, hS, hk => by
    simp only [codeOK] at hok
    simp only [semC] at hs
    refine wp_block (semC_sound hT hF hC h hL b hok s0 id s ρ a w _ y _ hs hR hS fun e s' ρ' a' w' hR' hS' hk' => ?_)
    cases e with
    | normal => exact hk .normal s' ρ' a' w' hR' hS' hk'
    | exit i =>
      show Exit.inBlock id Q (.exit i) a' w'
      simp only [Exit.inBlock]
      dsimp only at hk'
      split
      · rename_i hi
        rw [if_pos hi] at hk'
        exact hk .normal s' ρ' a' w' hR' hS' hk'
      · rename_i hi
        rw [if_neg hi] at hk'
        exact hk (.exit i) s' ρ' a' w' hR' hS' hk'
    | ret => exact hk .ret s' ρ' a' w' hR' hS' hk'
  | .region id ops d, hok, _, s0, cur, s, ρ, a, w, k, y, Q, hs, hR, hS, hk => by
    simp only [codeOK, Bool.and_eq_true, Bool.not_eq_true'] at hok
    obtain ⟨⟨rfl, hj⟩, hops⟩ := hok
    simp only [semC] at hs
    rw [Option.isNone_iff_eq_none.1 hj] at hs
    refine wp_region_list (ops_sound hT hF hC (k := k .normal) (fun ρ' s' a' w' hR' hS' hk' => hk .normal s' ρ' a' w' hR' hS' hk') ops.toList ρ s a w hR hS (fun o ho => ?_) hs)
    exact (Array.all_eq_true_iff_forall_mem.1 hops) o (by simpa using ho)
  | .loop b, hok, _, s0, cur, s, ρ, a, w, k, y, Q, hs, hR, hS, hk => by
    simp only [codeOK] at hok
    exact hL b (semC_sound hT hF hC h hL b hok) s0 cur s ρ a w k y Q hs hR hS hk
  | .label l, _, _, s0, cur, s, ρ, a, w, k, y, Q, hs, hR, hS, hk => by simp [semC] at hs
  | .goto l, _, _, s0, cur, s, ρ, a, w, k, y, Q, hs, hR, hS, hk => by simp [semC] at hs

end Go.Proofs.Ytlacogoljcpijaa.Vd

/- VdZh -/
namespace Go.Proofs.Ytlacogoljcpijaa.Vd

variable {P : Program} {E : Env} {ρ ρ' : Map} {w w' : World} {s s' : S} {a : Act} {K : Ctx} {H H' : Nat → Option Root}

/-! ### Sweeps that kill whole roots -/

def allOf (D : List Nat) : Sweep := ⟨D.map fun l => (l, true), []⟩

theorem killed_allOf {D : List Nat} {l : Nat} : Killed (allOf D) l ↔ l ∈ D := by
  constructor
  · rintro ⟨b, hb⟩
    simp only [allOf, List.mem_map, Prod.mk.injEq] at hb
    obtain ⟨l', h, rfl, _⟩ := hb
    exact h
  · intro h
    exact ⟨true, List.mem_map.2 ⟨l, h, rfl⟩⟩

theorem killedAll_allOf {D : List Nat} {l : Nat} : KilledAll (allOf D) l ↔ l ∈ D := by
  simp [KilledAll, allOf]

theorem C.dies_names {c : C} {l : Nat} : c.dies (l, true) = true ↔ l ∈ c.names := by
  cases c <;> simp [C.dies, C.names] <;> exact eq_comm

theorem dies_allOf {D : List Nat} {c : C} : (allOf D).kill.any c.dies = true ↔ ∃ l ∈ D, l ∈ c.names := by
  simp only [allOf, List.any_map, List.any_eq_true, Function.comp]
  exact ⟨fun ⟨l, h1, h2⟩ => ⟨l, h1, C.dies_names.1 h2⟩, fun ⟨l, h1, h2⟩ => ⟨l, h1, C.dies_names.2 h2⟩⟩

theorem C.left_allOf {D : List Nat} {c : C} : c.left (allOf D) = if (allOf D).kill.any c.dies = true then .undef else c := by
  unfold C.left
  split
  · rfl
  · have hm : ∀ deps : List Nat, deps.map (newLoc (allOf D).mov) = deps := fun deps => by
      have : newLoc (allOf D).mov = id := funext newLoc_nil
      rw [this, List.map_id]
    cases c <;> simp [allOf, lookupN] at hm ⊢ <;> exact hm _

/-- A sweep that kills more than another, but nothing that is named below n beyond it. -/
structure Wider (n : Nat) (D D' : List Nat) : Prop where
  sub : ∀ l ∈ D, l ∈ D'
  out : ∀ l ∈ D', l ∈ D ∨ n ≤ l

theorem C.wider {n : Nat} {D D' : List Nat} (h : Wider n D D') {c : C} (hc : c.wf n = true) : c.left (allOf D') = c.left (allOf D) ∧ (c.left (allOf D)).left (allOf D') = c.left (allOf D) := by
  simp only [C.left_allOf]
  by_cases h1 : (allOf D).kill.any c.dies = true
  · have h2 : (allOf D').kill.any c.dies = true := by
      obtain ⟨l, h3, h4⟩ := dies_allOf.1 h1
      exact dies_allOf.2 ⟨l, h.sub l h3, h4⟩
    simp [h1, h2]
  · have h2 : ¬ (allOf D').kill.any c.dies = true := by
      intro h2
      obtain ⟨l, h3, h4⟩ := dies_allOf.1 h2
      rcases h.out l h3 with h5 | h5
      · exact h1 (dies_allOf.2 ⟨l, h5, h4⟩)
      · have := List.all_eq_true.1 hc l h4
        simp at this
        omega
    simp [h1, h2]

theorem cells_wider {n : Nat} {D D' : List Nat} (h : Wider n D D') {cs : List C} (hc : cs.all (C.wf n) = true) : cs.map (C.left (allOf D')) = cs.map (C.left (allOf D)) ∧ (cs.map (C.left (allOf D))).map (C.left (allOf D')) = cs.map (C.left (allOf D)) := by
  have hc' := List.all_eq_true.1 hc
  refine ⟨List.map_congr_left fun c h1 => (C.wider h (hc' c h1)).1, ?_⟩
  rw [List.map_map]
  exact List.map_congr_left fun c h1 => (C.wider h (hc' c h1)).2

theorem A.wider {n : Nat} {D D' : List Nat} (h : Wider n D D') {x : A} (hc : x.wf n = true) : x.left (allOf D') = x.left (allOf D) ∧ (x.left (allOf D)).left (allOf D') = x.left (allOf D) := by
  cases x with
  | none => exact ⟨rfl, rfl⟩
  | any => exact ⟨rfl, rfl⟩
  | val g cs =>
    simp only [A.wf] at hc
    obtain ⟨h1, h2⟩ := cells_wider h hc
    exact ⟨by simp only [A.left, h1], by simp only [A.left, h2]⟩
  | tup vs =>
    simp only [A.wf, List.all_eq_true] at hc
    simp only [A.left, A.tup.injEq, List.map_map]
    exact ⟨List.map_congr_left fun v hv => by
      have := cells_wider h (by simpa using hc v hv)
      simp [this.1], List.map_congr_left fun v hv => by
      have := cells_wider h (by simpa using hc v hv)
      simp only [Function.comp, this.2]⟩

theorem Root.wider {n : Nat} {D D' : List Nat} (h : Wider n D D') {x : Root} (hc : x.wf n = true) : x.left (allOf D') = x.left (allOf D) ∧ (x.left (allOf D)).left (allOf D') = x.left (allOf D) := by
  cases x with
  | box cs =>
    simp only [Root.wf] at hc
    obtain ⟨h1, h2⟩ := cells_wider h hc
    exact ⟨by simp only [Root.left, h1], by simp only [Root.left, h2]⟩
  | arr e xs d => exact ⟨rfl, rfl⟩
  | gap => exact ⟨rfl, rfl⟩
  | lit e els =>
    simp only [Root.wf, List.all_eq_true] at hc
    simp only [Root.left, Root.lit.injEq, true_and, List.map_map]
    exact ⟨List.map_congr_left fun v hv => (cells_wider h (by simpa using hc v hv)).1, List.map_congr_left fun v hv => (cells_wider h (by simpa using hc v hv)).2⟩

/-! ### Giving -/

theorem killSlots_get (fr : List A) : ∀ (r : List Nat) (i : Nat), (killSlots fr r)[i]? = if i ∈ r then (fr[i]?).map fun _ => .any else fr[i]?
  | [], i => by simp [killSlots]
  | j :: r, i => by
    unfold killSlots
    rw [killSlots_get (fr.set j .any) r i]
    by_cases hi : j = i
    · subst hi
      simp only [List.mem_cons, true_or, if_true]
      by_cases hl : j < fr.length
      · simp [hl]
      · simp [hl]
    · have : i ≠ j := Ne.symm hi
      simp [List.getElem?_set_ne hi, this]

theorem killSlots_length : ∀ (r : List Nat) (fr : List A), (killSlots fr r).length = fr.length
  | [], fr => rfl
  | j :: r, fr => by unfold killSlots; rw [killSlots_length r]; simp

theorem dropAll_length : ∀ (r : List Nat) (H : List (Option Root)), (dropAll H r).length = H.length
  | [], H => rfl
  | j :: r, H => by unfold dropAll; rw [dropAll_length r]; simp

theorem blankAll_length : ∀ (r : List Nat) (H : List (Option Root)), (blankAll H r).length = H.length
  | [], H => rfl
  | j :: r, H => by unfold blankAll; rw [blankAll_length r]; simp

theorem dropAll_get : ∀ (r : List Nat) (H : List (Option Root)) (l : Nat), (dropAll H r).getD l none = if l ∈ r then none else H.getD l none
  | [], H, l => by simp [dropAll]
  | j :: r, H, l => by
    unfold dropAll
    rw [dropAll_get r]
    by_cases hl : j = l
    · subst hl
      simp only [List.getD_eq_getElem?_getD, List.getElem?_set, List.mem_cons, true_or, if_true]
      by_cases h1 : j ∈ r <;> by_cases h2 : j < H.length <;> simp [h1, h2]
    · have : l ≠ j := Ne.symm hl
      simp [List.getD_eq_getElem?_getD, List.getElem?_set_ne hl, this]

theorem blank_blank (o : Option Root) : blank (blank o) = blank o := by
  cases o with
  | none => rfl
  | some r => cases r <;> simp [blank, Function.comp_def]

theorem blankAll_get : ∀ (r : List Nat) (H : List (Option Root)) (l : Nat), (blankAll H r).getD l none = if l ∈ r then blank (H.getD l none) else H.getD l none
  | [], H, l => by simp [blankAll]
  | j :: r, H, l => by
    unfold blankAll
    rw [blankAll_get r]
    have hg : (H.modify j blank).getD l none = if j = l then blank (H.getD l none) else H.getD l none := by
      simp only [List.getD_eq_getElem?_getD, List.getElem?_modify]
      split
      · cases H[l]? <;> simp [blank]
      · simp
    rw [hg]
    by_cases hl : j = l
    · subst hl
      simp [blank_blank]
    · have : l ≠ j := Ne.symm hl
      simp [hl, this]

def It.own : It → Bool
  | .slot _ (.own _ _) | .cell _ _ (.own _ _) => true
  | _ => false

theorem give_fr (s : S) (it : It) (x : it.D) (i : Nat) (hi : i ∉ it.slots) : (s.give it x).fr[i]? = s.fr[i]? := by
  cases it with
  | slot j k =>
    simp only [It.slots, List.mem_singleton] at hi
    simp only [S.give]
    rw [List.getElem?_set_ne (Ne.symm hi)]
    cases k <;> rfl
  | cell j off k =>
    simp only [S.give]
    split
    · split
      · cases k <;> rfl
      · rfl
    · rfl
  | arr j e deep =>
    simp only [S.give]
    split <;> rfl

theorem give_len (s : S) (it : It) (x : it.D) : (s.give it x).fr.length = s.fr.length := by
  cases it with
  | slot j k => simp only [S.give, List.length_set]; cases k <;> rfl
  | cell j off k =>
    simp only [S.give]
    split
    · split
      · cases k <;> rfl
      · rfl
    · rfl
  | arr j e deep => simp only [S.give]; split <;> rfl

theorem takes_cons {it : It} {r : List It} {z : Its (it :: r)} (h : s.takes (it :: r) = some z) : ∃ (x : it.D) (y : Its r), s.take it = some x ∧ s.takes r = some y ∧ ∀ s0 : S, s0.gives (it :: r) z = (s0.give it x).gives r y := by
  cases r with
  | nil => exact ⟨z, (), h, rfl, fun _ => rfl⟩
  | cons j is =>
    simp only [S.takes] at h
    split at h
    · rename_i x y hx hy
      simp only [Option.some.injEq] at h
      subst h
      exact ⟨x, y, hx, hy, fun _ => rfl⟩
    · cases h

theorem takes_mem : ∀ {r : List It} {z : Its r}, s.takes r = some z → ∀ it ∈ r, ∃ x, s.take it = some x
  | [], _, _, it, hm => by cases hm
  | it0 :: r, z, h, it, hm => by
    obtain ⟨x, y, h1, h2, _⟩ := takes_cons h
    rcases List.mem_cons.1 hm with rfl | hm
    · exact ⟨x, h1⟩
    · exact takes_mem h2 it hm

/-! ### Renaming roots -/

def Own.to (n : Nat) : Own → Own
  | .main _ => .main n
  | .inner _ i j => .inner n i j
  | o => o

def isRef (l : Nat) : C → Bool
  | .ref m => m == l
  | _ => false

def refsOf : C → List Nat
  | .ref l => [l]
  | _ => []

def Map.ren (ρ : Map) (base : Nat) (L : List Nat) (q : List (C × Value)) : Map where
  own b := match (ρ.own b).loc with
    | none => ρ.own b
    | some l => match q.findIdx? (fun p => isRef l p.1) with
      | some j => (ρ.own b).to (base + j)
      | none => if l < base ∧ l ∉ L then ρ.own b else .free
  hdr n := if base ≤ n then ((q[n - base]?).map (·.2)).getD (ρ.hdr n) else ρ.hdr n

theorem findIdx_ref : ∀ (q : List (C × Value)) (j : Nat) (l : Nat) (v : Value), (q.flatMap fun p => refsOf p.1).Nodup → q[j]? = some (.ref l, v) → q.findIdx? (fun p => isRef l p.1) = some j
  | [], j, l, v, _, h => by simp at h
  | (c, u) :: q, 0, l, v, _, h => by
    simp at h
    obtain ⟨rfl, rfl⟩ := h
    simp [List.findIdx?_cons, isRef]
  | (c, u) :: q, j + 1, l, v, hn, h => by
    simp only [List.getElem?_cons_succ] at h
    simp only [List.flatMap_cons, List.nodup_append] at hn
    have ih := findIdx_ref q j l v hn.2.1 h
    have hc : isRef l c = false := by
      cases c <;> try rfl
      rename_i m
      simp only [isRef, beq_eq_false_iff_ne]
      rintro rfl
      exact hn.2.2 m (by simp [refsOf]) m (List.mem_flatMap.2 ⟨_, List.mem_of_getElem? h, by simp [refsOf]⟩) rfl
    simp [List.findIdx?_cons, hc, ih]

theorem findIdx_none {q : List (C × Value)} {l : Nat} (h : l ∉ q.flatMap fun p => refsOf p.1) : q.findIdx? (fun p => isRef l p.1) = none := by
  rw [List.findIdx?_eq_none_iff]
  intro p hp
  cases hc : isRef l p.1 with
  | false => rfl
  | true =>
    exfalso
    apply h
    refine List.mem_flatMap.2 ⟨p, hp, ?_⟩
    cases hpc : p.1 <;> rw [hpc] at hc <;> simp [isRef] at hc
    subst hc
    simp [refsOf]

theorem findIdx_some {q : List (C × Value)} {l j : Nat} (h : q.findIdx? (fun p => isRef l p.1) = some j) : j < q.length ∧ l ∈ q.flatMap fun p => refsOf p.1 := by
  rw [List.findIdx?_eq_some_iff_getElem] at h
  obtain ⟨hj, hp, _⟩ := h
  refine ⟨hj, List.mem_flatMap.2 ⟨q[j], List.getElem_mem hj, ?_⟩⟩
  cases hpc : (q[j]).1 <;> rw [hpc] at hp <;> simp [isRef] at hp
  subst hp
  simp [refsOf]

/-- What a hole's cell is now, and the value there. -/
def HoleAt (s : S) (a : Act) (w : World) (ρ : Map) : It → C → Value → Prop
  | .slot i _, c, v => s.fr[i]? = some (.c c) ∧ a.tmps[i]? = some v
  | .cell i off _, c, v => ∃ l cs b vs T, s.fr[i]? = some (.c (.bp l 0)) ∧ s.root l = some (.box cs) ∧ cs[off]? = some c ∧ ρ.hdr l = .pointer (some ⟨b, 0, none⟩) ∧ w.heap[b]? = some (.cells (List.toArray vs) T (0, 0)) ∧ vs[off]? = some v
  | .arr _ _ _, _, _ => False

def It.k : It → HK
  | .slot _ k | .cell _ _ k => k
  | .arr _ _ _ => .data .bool []

theorem getD_some {l : List A} {i : Nat} {g : Bool} {cs : List C} (h : l.getD i .none = .val g cs) : l[i]? = some (.val g cs) := by
  rw [List.getD_eq_getElem?_getD] at h
  cases hi : l[i]? with
  | none => rw [hi] at h; cases h
  | some x => rw [hi] at h; exact congrArg some h

theorem getD_of {l : List A} {i : Nat} {x : A} (h : l[i]? = some x) : l.getD i .none = x := by rw [List.getD_eq_getElem?_getD, h]; rfl

theorem HoleAt.rel (hR : Rel P K ρ s a w) {it : It} {c : C} {v : Value} (h : HoleAt s a w ρ it c v) : CR P ρ w s.root c v := by
  cases it with
  | slot i k =>
    obtain ⟨h1, h2⟩ := h
    obtain ⟨v', h3, h4⟩ := hR.slot i _ h1
    rw [h2] at h3
    cases h3
    exact AR.one.1 h4
  | cell i off k =>
    obtain ⟨l, cs, b, vs, T, h1, h2, h3, h4, h5, h6⟩ := h
    obtain ⟨b', vs', T', g1, g2, g3, g4⟩ := hR.root l _ h2
    rw [h4] at g1
    simp only [Value.pointer.injEq, Option.some.injEq, Addr.mk.injEq, and_true] at g1
    subst g1
    rw [h5] at g3
    simp only [Option.some.injEq, Obj.cells.injEq, and_true] at g3
    have g3 : vs = vs' := by simpa using congrArg Array.toList g3.1
    subst g3
    exact g4.2 off c v h3 h6
  | arr i e d => exact h.elim

theorem take_slot {i : Nat} {k : HK} {x : k.D} (hR : Rel P K ρ s a w) (h : s.take (.slot i k) = some x) : ∃ c v, HoleAt s a w ρ (.slot i k) c v ∧ s.takeC c k = some x := by
  simp only [S.take] at h
  split at h
  · rename_i c hc
    have h1 := getD_some hc
    obtain ⟨v, h2, _⟩ := hR.slot i _ h1
    exact ⟨c, v, ⟨h1, h2⟩, h⟩
  · cases h

theorem take_cell {i off : Nat} {k : HK} {x : k.D} (hR : Rel P K ρ s a w) (h : s.take (.cell i off k) = some x) : ∃ c v, HoleAt s a w ρ (.cell i off k) c v ∧ s.takeC c k = some x := by
  simp only [S.take] at h
  split at h
  · rename_i l hc
    have h1 := getD_some hc
    split at h
    · rename_i cs hl
      split at h
      · rename_i c hco
        obtain ⟨b, vs, T, g1, g2, g3, g4⟩ := hR.root l _ hl
        have hlt : off < vs.length := by rw [← g4.1]; exact (List.getElem?_eq_some_iff.1 hco).1
        exact ⟨c, vs[off], ⟨l, cs, b, vs, T, h1, hl, hco, g1, g3, List.getElem?_eq_getElem hlt⟩, h⟩
      · cases h
    · cases h
  · cases h

theorem take_arr {i : Nat} {e : Ty} {d : Bool} {x : List e.D} (h : s.take (.arr i e d) = some x) : ∃ l, s.fr[i]? = some (.c (.ref l)) ∧ s.root l = some (.arr e x d) := by
  simp only [S.take] at h
  split at h
  · rename_i l hc
    have h1 := getD_some hc
    split at h
    · rename_i e' xs d' hl
      split at h
      · rename_i he
        subst he
        split at h
        · rename_i hd
          simp only [beq_iff_eq] at hd
          subst hd
          simp only [castD_rfl, Option.some.injEq] at h
          subst h
          exact ⟨l, h1, hl⟩
        · cases h
      · cases h
    · cases h
  · cases h

def Owns (s : S) (a : Act) (w : World) (ρ : Map) : List It → List (C × Value) → Prop
  | [], q => q = []
  | it :: r, q => if it.own = true then ∃ p q', q = p :: q' ∧ HoleAt s a w ρ it p.1 p.2 ∧ Owns s a w ρ r q' else Owns s a w ρ r q

theorem owns_exists (hR : Rel P K ρ s a w) : ∀ (r : List It) (z : Its r), s.takes r = some z → ∃ q, Owns s a w ρ r q
  | [], _, _ => ⟨[], rfl⟩
  | it :: r, z, h => by
    obtain ⟨x, y, h1, h2, _⟩ := takes_cons h
    obtain ⟨q, hq⟩ := owns_exists hR r y h2
    by_cases ho : it.own = true
    · cases it with
      | slot i k =>
        obtain ⟨c, v, g1, _⟩ := take_slot hR h1
        exact ⟨(c, v) :: q, by unfold Owns; rw [if_pos ho]; exact ⟨(c, v), q, rfl, g1, hq⟩⟩
      | cell i off k =>
        obtain ⟨c, v, g1, _⟩ := take_cell hR h1
        exact ⟨(c, v) :: q, by unfold Owns; rw [if_pos ho]; exact ⟨(c, v), q, rfl, g1, hq⟩⟩
      | arr i e d => cases ho
    · exact ⟨q, by unfold Owns; rw [if_neg ho]; exact hq⟩

theorem HoleAt.ownLoc {it : It} {c : C} {v : Value} (ho : it.own = true) (h : HoleAt s a w ρ it c v) : s.ownLoc it = refsOf c := by
  cases it with
  | slot i k =>
    cases k with
    | data t ds => cases ho
    | own e d =>
      simp only [S.ownLoc, getD_of h.1]
      cases c <;> rfl
  | cell i off k =>
    cases k with
    | data t ds => cases ho
    | own e d =>
      obtain ⟨l, cs, b, vs, T, h1, h2, h3, h4, h5, h6⟩ := h
      simp only [S.ownLoc, getD_of h1, h2, h3]
      cases c <;> rfl
  | arr i e d => cases ho

theorem not_own_loc {it : It} (h : ¬ it.own = true) (s : S) : s.ownLoc it = [] := by
  cases it with
  | slot i k => cases k with
    | data t ds => rfl
    | own e d => exact absurd rfl h
  | cell i off k => cases k with
    | data t ds => rfl
    | own e d => exact absurd rfl h
  | arr i e d => rfl

theorem owns_locs : ∀ (r : List It) (q : List (C × Value)), Owns s a w ρ r q → r.flatMap s.ownLoc = q.flatMap fun p => refsOf p.1
  | [], q, h => by
    have : q = [] := h
    subst this
    rfl
  | it :: r, q, h => by
    unfold Owns at h
    split at h
    · rename_i ho
      obtain ⟨p, q', rfl, h1, h2⟩ := h
      simp only [List.flatMap_cons, h1.ownLoc ho, owns_locs r q' h2]
    · rename_i ho
      simp only [List.flatMap_cons, not_own_loc ho, owns_locs r q h, List.nil_append]

end Go.Proofs.Ytlacogoljcpijaa.Vd

/- VdZi -/
namespace Go.Proofs.Ytlacogoljcpijaa.Vd

variable {P : Program} {E : Env} {ρ ρ' : Map} {w w' : World} {s s' : S} {a : Act} {K : Ctx} {H H' : Nat → Option Root} {t : Tm}

/-- A state s' that was come to from s (entered or gone round), with the holes of t filled. -/
structure Reopen (P : Program) (E : Env) (K : Ctx) (ρ : Map) (s s' : S) (t : Tm) (a : Act) (w : World) (y : Its t.items) : Prop where
  in0 : ∃ x0, s.takes t.items = some x0
  now : s'.takes t.items = some y
  fit : s.fitIn E t = true
  rel : Rel P K ρ s' a w
  len : s'.fr.length = s.fr.length
  more : s.H.length ≤ s'.H.length
  fr : ∀ i : Nat, i ∉ t.kill → i ∉ t.items.flatMap It.slots → s'.fr[i]? = s.fr[i]? ∨ s'.fr[i]? = (s.fr[i]?).map (A.left (allOf (t.items.flatMap s.ownLoc)))
  root : ∀ l : Nat, l < s.H.length → l ∉ t.items.flatMap s.locs → s'.root l = s.root l ∨ s'.root l = (s.root l).map (Root.left (allOf (t.items.flatMap s.ownLoc)))
  nd : (t.items.flatMap s'.ownLoc).Nodup
  own : ∀ l ∈ t.items.flatMap s'.ownLoc, s.H.length ≤ l ∨ l ∈ t.items.flatMap s.ownLoc
  box : ∀ l ∈ t.items.flatMap s.boxLoc, s.boxLen l = s'.boxLen l
  fix : ∀ l v, (l, v) ∈ K.fix → l < s.H.length ∧ l ∉ t.items.flatMap s.ownLoc

/-- The head's state, before the holes are filled. -/
def S.base (s : S) (t : Tm) : S :=
  { s.opened t with fr := killSlots (s.opened t).fr t.kill, H := blankAll (dropAll (s.opened t).H (t.items.flatMap s.ownLoc)) (t.items.flatMap s.boxLoc), dF := [], dH := [] }

theorem at_eq (s : S) (t : Tm) (x : Its t.items) : s.at t x = { (s.base t).gives t.items x with dF := [], dH := [] } := rfl

theorem opened_eq (s : S) (t : Tm) : s.opened t = s.swept (allOf (t.items.flatMap s.ownLoc)) := rfl

theorem base_fr (s : S) (t : Tm) (i : Nat) : (s.base t).fr[i]? = if i ∈ t.kill then (s.fr[i]?).map fun _ => .any else (s.fr[i]?).map (A.left (allOf (t.items.flatMap s.ownLoc))) := by
  simp only [S.base, killSlots_get, opened_eq, swept_fr, List.getElem?_map, Option.map_map]
  rfl

theorem base_len (s : S) (t : Tm) : (s.base t).fr.length = s.fr.length := by
  simp [S.base, killSlots_length, opened_eq, swept_fr]

theorem base_H (s : S) (t : Tm) : (s.base t).H.length = s.H.length := by
  simp [S.base, blankAll_length, dropAll_length, opened_eq, swept_H]

theorem base_root (s : S) (t : Tm) (l : Nat) : (s.base t).root l = if l ∈ t.items.flatMap s.boxLoc then blank (if l ∈ t.items.flatMap s.ownLoc then none else (s.root l).map (Root.left (allOf (t.items.flatMap s.ownLoc))))
    else if l ∈ t.items.flatMap s.ownLoc then none else (s.root l).map (Root.left (allOf (t.items.flatMap s.ownLoc))) := by
  have h : (s.opened t).H.getD l none = (s.root l).map (Root.left (allOf (t.items.flatMap s.ownLoc))) := swept_root _ s l
  show (blankAll (dropAll (s.opened t).H (t.items.flatMap s.ownLoc)) (t.items.flatMap s.boxLoc)).getD l none = _
  rw [blankAll_get, dropAll_get, h]

structure Fit (s : S) (E : Env) (t : Tm) : Prop where
  nd : (t.items.flatMap s.ownLoc).Nodup
  frwf : ∀ (i : Nat) x, s.fr[i]? = some x → A.wf s.H.length x = true
  rwf : ∀ (l : Nat) r, s.root l = some r → Root.wf s.H.length r = true
  fits : t.fits [] t.items = true
  slots : (t.items.flatMap It.slots).Nodup
  alive : ∀ i ∈ t.items.flatMap It.slots, i ∉ t.kill
  nofix : ∀ l ∈ t.items.flatMap s.ownLoc, l ∉ E.fix
  ref : ∀ i : Nat, i ∈ t.items.flatMap It.via ∨ i ∈ t.items.flatMap It.deps → i ∉ t.items.flatMap It.slots → ∀ l, s.fr[i]? = some (.c (.ref l)) → l ∉ t.items.flatMap s.ownLoc

theorem fitIn_spec (h : s.fitIn E t = true) : Fit s E t := by
  unfold S.fitIn S.wf Tm.ok at h
  simp only [Bool.and_eq_true, decide_eq_true_eq, List.all_eq_true, Bool.not_eq_true', List.contains_eq_mem, decide_eq_false_iff_not, Bool.or_eq_true, List.mem_append] at h
  obtain ⟨⟨⟨⟨h1, h2, h3⟩, ⟨h4, h5⟩, h6⟩, h7⟩, h8⟩ := h
  refine ⟨h1, fun i x hi => h2 x (List.mem_of_getElem? hi), fun l r hl => ?_, h4, h5, h6, h7, fun i hi hn l hl => ?_⟩
  · simp only [S.root, List.getD_eq_getElem?_getD] at hl
    cases hl0 : s.H[l]? with
    | none => rw [hl0] at hl; cases hl
    | some o =>
      rw [hl0] at hl
      have := h3 o (List.mem_of_getElem? hl0)
      simp only [Option.getD_some] at hl
      subst hl
      exact this
  · rcases h8 i hi with h | h
    · exact absurd h hn
    · rw [getD_of hl] at h
      simpa using h

theorem root_lt {l : Nat} {r : Root} (h : s.root l = some r) : l < s.H.length := by
  simp only [S.root, List.getD_eq_getElem?_getD] at h
  rcases Nat.lt_or_ge l s.H.length with h1 | h1
  · exact h1
  · rw [List.getElem?_eq_none h1] at h
    cases h

theorem ownLoc_arr {it : It} {x : it.D} (h : s.take it = some x) {l : Nat} (hl : l ∈ s.ownLoc it) : ∃ e xs d, s.root l = some (.arr e xs d) := by
  have key : ∀ (e : Ty) (d : Bool) (c : C) (x : List e.D), s.takeC c (.own e d) = some x → l ∈ refsOf c → ∃ e xs d, s.root l = some (.arr e xs d) := by
    intro e d c x h hl
    simp only [S.takeC] at h
    split at h
    · simp [refsOf] at hl
    · rename_i l'
      simp only [refsOf, List.mem_singleton] at hl
      subst hl
      split at h
      · rename_i e' xs d' hr; exact ⟨e', xs, d', hr⟩
      · cases h
    · cases h
  cases it with
  | slot i k =>
    cases k with
    | data t ds => simp [S.ownLoc] at hl
    | own e d =>
      simp only [S.take] at h
      split at h
      · rename_i c hc
        refine key e d c x h ?_
        simp only [S.ownLoc, hc] at hl
        cases c <;> first | (simp at hl; done) | simpa [refsOf] using hl
      · cases h
  | cell i off k =>
    cases k with
    | data t ds => simp [S.ownLoc] at hl
    | own e d =>
      simp only [S.take] at h
      split at h
      · rename_i l0 hc
        split at h
        · rename_i cs hl0
          split at h
          · rename_i c hco
            refine key e d c x h ?_
            simp only [S.ownLoc, hc, hl0, hco] at hl
            cases c <;> first | (simp at hl; done) | simpa [refsOf] using hl
          · cases h
        · cases h
      · cases h
  | arr i e d => simp [S.ownLoc] at hl

theorem left_ref {D : List Nat} {x : A} {l : Nat} (h : x.left (allOf D) = .c (.ref l)) : x = .c (.ref l) ∧ l ∉ D := by
  cases x with
  | none => cases h
  | any => cases h
  | tup vs => cases h
  | val g cs =>
    simp only [A.left, A.val.injEq] at h
    obtain ⟨rfl, h⟩ := h
    match cs, h with
    | [c], h =>
      simp only [List.map_cons, List.map_nil, List.cons.injEq, and_true, C.left_allOf] at h
      split at h
      · cases h
      · rename_i hd
        subst h
        exact ⟨rfl, fun hm => hd (dies_allOf.2 ⟨l, hm, by simp [C.names]⟩)⟩
    | [], h => cases h
    | _ :: _ :: _, h => simp at h

theorem left_of_ref {D : List Nat} {l : Nat} (h : l ∉ D) : (A.c (.ref l)).left (allOf D) = .c (.ref l) := by
  simp only [A.left, List.map_cons, List.map_nil, C.left_allOf]
  rw [if_neg (fun hd => by
    obtain ⟨l', h1, h2⟩ := dies_allOf.1 hd
    simp only [C.names, List.mem_singleton] at h2
    exact h (h2 ▸ h1))]

theorem left_of_bp {D : List Nat} {l o : Nat} (h : l ∉ D) : (A.c (.bp l o)).left (allOf D) = .c (.bp l o) := by
  simp only [A.left, List.map_cons, List.map_nil, C.left_allOf]
  rw [if_neg (fun hd => by
    obtain ⟨l', h1, h2⟩ := dies_allOf.1 hd
    simp only [C.names, List.mem_singleton] at h2
    exact h (h2 ▸ h1))]

theorem fits_via : ∀ (r : List It) (done : List Nat), t.fits done r = true → ∀ it ∈ r, ∀ i ∈ it.via, i ∉ t.kill ∧ i ∉ t.items.flatMap It.slots
  | [], _, _, it, hm, _, _ => by cases hm
  | it0 :: r, done, h, it, hm, i, hi => by
    unfold Tm.fits at h
    simp only [Bool.and_eq_true] at h
    rcases List.mem_cons.1 hm with rfl | hm
    · have := List.all_eq_true.1 h.1.1 i hi
      simp only [Bool.and_eq_true, Bool.not_eq_true', List.contains_eq_mem, decide_eq_false_iff_not, List.any_eq_false] at this
      refine ⟨this.1, fun hs => ?_⟩
      obtain ⟨q, hq, hq'⟩ := List.mem_flatMap.1 hs
      exact this.2 q hq (by simpa using hq')
    · exact fits_via r _ h.2 it hm i hi

theorem fits_deps {it : It} {r : List It} {done : List Nat} (h : t.fits done (it :: r) = true) : ∀ i ∈ it.deps, i ∈ done ∨ (i ∉ t.kill ∧ i ∉ t.items.flatMap It.slots) := by
  unfold Tm.fits at h
  simp only [Bool.and_eq_true] at h
  intro i hi
  have := List.all_eq_true.1 h.1.2 i hi
  simp only [Bool.or_eq_true, Bool.and_eq_true, Bool.not_eq_true', List.contains_eq_mem, decide_eq_false_iff_not, decide_eq_true_eq, List.any_eq_false] at this
  rcases this with h1 | ⟨h1, h2⟩
  · exact .inl h1
  · refine .inr ⟨h1, fun hs => ?_⟩
    obtain ⟨q, hq, hq'⟩ := List.mem_flatMap.1 hs
    exact h2 q hq (by simpa using hq')

variable {y : Its t.items}

/-- A variable with holes: it is where it was. -/
theorem Reopen.cell (h : Reopen P E K ρ s s' t a w y) {i off : Nat} {k : HK} (hm : It.cell i off k ∈ t.items) :
    ∃ l, s.fr[i]? = some (.c (.bp l 0)) ∧ s'.fr[i]? = some (.c (.bp l 0)) ∧ (s.base t).fr[i]? = some (.c (.bp l 0)) ∧ l ∈ t.items.flatMap s.boxLoc ∧ l ∉ t.items.flatMap s.ownLoc ∧ l < s.H.length ∧
      ∃ cs, s.root l = some (.box cs) := by
  have hf := fitIn_spec h.fit
  obtain ⟨x0, hx0⟩ := h.in0
  obtain ⟨x, hx⟩ := takes_mem hx0 _ hm
  have hv := fits_via t.items [] hf.fits _ hm i (by simp [It.via])
  simp only [S.take] at hx
  split at hx
  · rename_i l hc
    have h1 := getD_some hc
    split at hx
    · rename_i cs hl
      have hL : l ∉ t.items.flatMap s.ownLoc := by
        intro hL
        obtain ⟨it, hit, hlo⟩ := List.mem_flatMap.1 hL
        obtain ⟨z, hz⟩ := takes_mem hx0 it hit
        obtain ⟨e, xs, d, hr⟩ := ownLoc_arr hz hlo
        rw [hl] at hr
        cases hr
      refine ⟨l, h1, ?_, ?_, List.mem_flatMap.2 ⟨_, hm, by simp only [S.boxLoc, hc, List.mem_singleton]⟩, hL, root_lt hl, cs, hl⟩
      · rcases h.fr i hv.1 hv.2 with h2 | h2
        · rw [h2, h1]
        · rw [h2, h1, Option.map_some, left_of_bp hL]
      · rw [base_fr, if_neg hv.1, h1, Option.map_some, left_of_bp hL]
    · cases hx
  · cases hx

theorem Reopen.arr (h : Reopen P E K ρ s s' t a w y) {i : Nat} {e : Ty} {d : Bool} (hm : It.arr i e d ∈ t.items) :
    ∃ l, s.fr[i]? = some (.c (.ref l)) ∧ s'.fr[i]? = some (.c (.ref l)) ∧ (s.base t).fr[i]? = some (.c (.ref l)) ∧ l ∉ t.items.flatMap s.ownLoc ∧ l < s.H.length := by
  have hf := fitIn_spec h.fit
  obtain ⟨x0, hx0⟩ := h.in0
  obtain ⟨x, hx⟩ := takes_mem hx0 _ hm
  have hv := fits_via t.items [] hf.fits _ hm i (by simp [It.via])
  obtain ⟨l, h1, h2⟩ := take_arr hx
  have hL := hf.ref i (.inl (List.mem_flatMap.2 ⟨_, hm, by simp [It.via]⟩)) hv.2 l h1
  refine ⟨l, h1, ?_, ?_, hL, root_lt h2⟩
  · rcases h.fr i hv.1 hv.2 with h3 | h3
    · rw [h3, h1]
    · rw [h3, h1, Option.map_some, left_of_ref hL]
  · rw [base_fr, if_neg hv.1, h1, Option.map_some, left_of_ref hL]

/-- A slot that a hole's datum borrows through, and that is no hole itself. -/
theorem Reopen.dep (h : Reopen P E K ρ s s' t a w y) {i : Nat} (hi : i ∈ t.items.flatMap It.deps) (hk : i ∉ t.kill) (hs : i ∉ t.items.flatMap It.slots) {l : Nat} (hl : s'.fr[i]? = some (.c (.ref l))) :
    (s.base t).fr[i]? = some (.c (.ref l)) ∧ l ∉ t.items.flatMap s.ownLoc ∧ l < s.H.length := by
  have hf := fitIn_spec h.fit
  have key : s.fr[i]? = some (.c (.ref l)) ∧ l ∉ t.items.flatMap s.ownLoc := by
    rcases h.fr i hk hs with h3 | h3
    · have h1 := h3.symm.trans hl
      exact ⟨h1, hf.ref i (.inr hi) hs l h1⟩
    · rw [hl] at h3
      cases h4 : s.fr[i]? with
      | none => rw [h4] at h3; cases h3
      | some x =>
        rw [h4] at h3
        simp only [Option.map_some, Option.some.injEq] at h3
        obtain ⟨rfl, hL⟩ := left_ref h3.symm
        exact ⟨rfl, hL⟩
  obtain ⟨h1, hL⟩ := key
  refine ⟨by rw [base_fr, if_neg hk, h1, Option.map_some, left_of_ref hL], hL, ?_⟩
  have := hf.frwf i _ h1
  simpa [A.wf, C.wf, C.names] using this

end Go.Proofs.Ytlacogoljcpijaa.Vd

/- VdZj -/
namespace Go.Proofs.Ytlacogoljcpijaa.Vd

variable {P : Program} {E : Env} {ρ ρ' : Map} {w w' : World} {s s' : S} {a : Act} {K : Ctx} {H H' : Nat → Option Root} {t : Tm} {y : Its t.items}

/-- A state that is being filled: variables with holes are variables; the slots that are no holes are as they were. -/
structure Part (s : S) (t : Tm) (sc : S) : Prop where
  len : sc.fr.length = s.fr.length
  fr : ∀ i : Nat, i ∉ t.items.flatMap It.slots → sc.fr[i]? = (s.base t).fr[i]?
  box : ∀ l : Nat, ∀ cs, s.root l = some (.box cs) → l ∈ t.items.flatMap s.boxLoc → l ∉ t.items.flatMap s.ownLoc → ∃ cs', sc.root l = some (.box cs')
  more : s.H.length ≤ sc.H.length

theorem Part.base (s : S) (t : Tm) : Part s t (s.base t) where
  len := base_len s t
  fr := fun _ _ => rfl
  box := fun l cs hl hb hn => by
    rw [base_root, if_pos hb, if_neg hn, hl]
    exact ⟨_, rfl⟩
  more := by rw [base_H]; exact Nat.le_refl _

theorem root_append {H : List (Option Root)} {r : Option Root} {l : Nat} : (H ++ [r]).getD l none = if l = H.length then r else H.getD l none := by
  simp only [List.getD_eq_getElem?_getD]
  rcases Nat.lt_trichotomy l H.length with h | h | h
  · rw [List.getElem?_append_left h, if_neg (by omega)]
  · subst h; simp
  · rw [List.getElem?_append_right (by omega), if_neg (by omega), List.getElem?_eq_none (by simp; omega), List.getElem?_eq_none (by omega)]

theorem root_setI {H : List (Option Root)} {r : Option Root} {l m : Nat} : (H.set m r).getD l none = if l = m ∧ m < H.length then r else H.getD l none := by
  simp only [List.getD_eq_getElem?_getD, List.getElem?_set]
  by_cases h : m = l
  · subst h
    by_cases h2 : m < H.length
    · simp [h2]
    · simp [h2]
  · simp [h, Ne.symm h]

/-- One hole is filled: the roots. -/
theorem giveC_root (s : S) (k : HK) (x : k.D) (l : Nat) : (s.giveC k x).2.root l = match k, x with
    | .data _ _, _ => s.root l
    | .own e d, x => if l = s.H.length then some (.arr e x d) else s.root l := by
  cases k with
  | data t ds => rfl
  | own e d => exact root_append

theorem give_slot_root (s : S) (i : Nat) (k : HK) (x : k.D) (l : Nat) : (s.give (.slot i k) x).root l = (s.giveC k x).2.root l := rfl

theorem give_cell_root {s : S} {i off : Nat} {k : HK} {x : k.D} {l0 : Nat} {cs : List C} (h1 : s.fr[i]? = some (.c (.bp l0 0))) (h2 : s.root l0 = some (.box cs)) (l : Nat) :
    (s.give (.cell i off k) x).root l = if l = l0 then some (.box (cs.set off (s.giveC k x).1)) else (s.giveC k x).2.root l := by
  have hlt : l0 < (s.giveC k x).2.H.length := by
    have := root_lt h2
    cases k <;> simp [S.giveC] <;> omega
  have he : s.give (.cell i off k) x = { (s.giveC k x).2 with H := (s.giveC k x).2.H.set l0 (some (.box (cs.set off (s.giveC k x).1))) } := by
    simp only [S.give, getD_of h1, h2]
  rw [he]
  show ((s.giveC k x).2.H.set l0 _).getD l none = _
  rw [root_setI]
  by_cases hl : l = l0
  · simp [hl, hlt]
  · simp [hl, S.root]

theorem give_arr_root {s : S} {i : Nat} {e : Ty} {d : Bool} {x : List e.D} {l0 : Nat} (h1 : s.fr[i]? = some (.c (.ref l0))) (h2 : l0 < s.H.length) (l : Nat) :
    (s.give (.arr i e d) x).root l = if l = l0 then some (.arr e x d) else s.root l := by
  simp only [S.give, getD_of h1, S.root, root_setI]
  by_cases hl : l = l0
  · simp [hl, h2]
  · simp [hl]

theorem give_H {s : S} {it : It} {x : it.D} (h : ∀ i off k, it = .cell i off k → ∃ l cs, s.fr[i]? = some (.c (.bp l 0)) ∧ s.root l = some (.box cs)) : (s.give it x).H.length = s.H.length + if it.own = true then 1 else 0 := by
  cases it with
  | slot i k => cases k <;> simp [S.give, S.giveC, It.own]
  | cell i off k =>
    obtain ⟨l, cs, h1, h2⟩ := h i off k rfl
    simp only [S.give, getD_of h1, h2]
    cases k <;> simp [S.giveC, It.own]
  | arr i e d =>
    simp only [S.give]
    split <;> simp [It.own]

theorem Reopen.partCell (h : Reopen P E K ρ s s' t a w y) {sc : S} (hp : Part s t sc) {i off : Nat} {k : HK} (hm : It.cell i off k ∈ t.items) :
    ∃ l cs, s'.fr[i]? = some (.c (.bp l 0)) ∧ sc.fr[i]? = some (.c (.bp l 0)) ∧ sc.root l = some (.box cs) ∧ l ∉ t.items.flatMap s.ownLoc ∧ l < s.H.length ∧ l ∈ t.items.flatMap s.boxLoc ∧ ∃ cs0, s.root l = some (.box cs0) := by
  obtain ⟨l, h1, h2, h3, h4, h5, h6, cs0, h7⟩ := h.cell hm
  obtain ⟨cs, h8⟩ := hp.box l cs0 h7 h4 h5
  have hv := fits_via t.items [] (fitIn_spec h.fit).fits _ hm i (by simp [It.via])
  exact ⟨l, cs, h2, (hp.fr i hv.2).trans h3, h8, h5, h6, h4, cs0, h7⟩

theorem Reopen.partArr (h : Reopen P E K ρ s s' t a w y) {sc : S} (hp : Part s t sc) {i : Nat} {e : Ty} {d : Bool} (hm : It.arr i e d ∈ t.items) :
    ∃ l, s'.fr[i]? = some (.c (.ref l)) ∧ sc.fr[i]? = some (.c (.ref l)) ∧ l ∉ t.items.flatMap s.ownLoc ∧ l < s.H.length := by
  obtain ⟨l, h1, h2, h3, h4, h5⟩ := h.arr hm
  have hv := fits_via t.items [] (fitIn_spec h.fit).fits _ hm i (by simp [It.via])
  exact ⟨l, h2, (hp.fr i hv.2).trans h3, h4, h5⟩

/-- A variable is no array. -/
theorem Reopen.notArr (h : Reopen P E K ρ s s' t a w y) {i : Nat} {e : Ty} {d : Bool} (hm : It.arr i e d ∈ t.items) {l : Nat} (hl : s.fr[i]? = some (.c (.ref l))) {cs : List C} : s.root l ≠ some (.box cs) := by
  obtain ⟨x0, hx0⟩ := h.in0
  obtain ⟨x, hx⟩ := takes_mem hx0 _ hm
  obtain ⟨l', h1, h2⟩ := take_arr hx
  rw [hl] at h1
  simp only [Option.some.injEq, A.val.injEq, List.cons.injEq, C.ref.injEq, and_true, true_and] at h1
  subst h1
  rw [h2]
  simp

theorem Reopen.step (h : Reopen P E K ρ s s' t a w y) {sc : S} (hp : Part s t sc) {it : It} (hm : it ∈ t.items) (x : it.D) : Part s t (sc.give it x) where
  len := (give_len sc it x).trans hp.len
  fr := fun i hi => (give_fr sc it x i (fun h' => hi (List.mem_flatMap.2 ⟨it, hm, h'⟩))).trans (hp.fr i hi)
  more := Nat.le_trans hp.more (by
    cases it with
    | slot i k => cases k <;> simp [S.give, S.giveC]
    | cell i off k =>
      obtain ⟨l, cs, _, h1, h2, _⟩ := h.partCell hp hm
      simp only [S.give, getD_of h1, h2]
      cases k <;> simp [S.giveC]
    | arr i e d => simp only [S.give]; split <;> simp)
  box := fun l cs hl hb hn => by
    obtain ⟨cs', h1⟩ := hp.box l cs hl hb hn
    have hgc : ∀ (k : HK) (x : k.D), (sc.giveC k x).2.root l = some (.box cs') := fun k x => by
      rw [giveC_root]
      cases k with
      | data t ds => exact h1
      | own e d =>
        have := root_lt h1
        dsimp only
        rw [if_neg (by omega)]
        exact h1
    cases it with
    | slot i k => exact ⟨cs', by rw [give_slot_root]; exact hgc k x⟩
    | cell i off k =>
      obtain ⟨l0, cs0, _, h2, h3, _⟩ := h.partCell hp hm
      rw [give_cell_root h2 h3]
      split
      · exact ⟨_, rfl⟩
      · exact ⟨cs', hgc k x⟩
    | arr i e d =>
      obtain ⟨l0, h5, h6, h7, h8, h9⟩ := h.arr hm
      obtain ⟨l0', h2, h3, h4, h4'⟩ := h.partArr hp hm
      rw [h6] at h2
      simp only [Option.some.injEq, A.val.injEq, List.cons.injEq, C.ref.injEq, and_true, true_and] at h2
      subst h2
      rw [give_arr_root h3 (Nat.lt_of_lt_of_le h4' hp.more)]
      split
      · rename_i he
        subst he
        exact absurd hl (h.notArr hm h5)
      · exact ⟨cs', h1⟩

/-- Arrays that are not renamed hold what they held. -/
theorem Reopen.arrs (h : Reopen P E K ρ s s' t a w y) {l : Nat} {e : Ty} {xs : List e.D} {d : Bool} (hl : l < s.H.length) (hL : l ∉ t.items.flatMap s.ownLoc) (hr : s'.root l = some (.arr e xs d)) :
    ∀ (r : List It) (z : Its r) (sc : S), (∀ it ∈ r, it ∈ t.items) → s'.takes r = some z → Part s t sc →
      (sc.root l = some (.arr e xs d) ∨ ∃ i e d, It.arr i e d ∈ r ∧ s'.fr[i]? = some (.c (.ref l))) → (sc.gives r z).root l = some (.arr e xs d)
  | [], z, sc, _, _, _, hd => by
    rcases hd with hd | ⟨i, e', d', hm, _⟩
    · exact hd
    · cases hm
  | it :: r, z, sc, hsub, ht, hp, hd => by
    obtain ⟨x, y', h1, h2, h3⟩ := takes_cons ht
    have hm := hsub it (List.mem_cons_self ..)
    rw [h3]
    refine h.arrs hl hL hr r y' _ (fun it' h' => hsub it' (List.mem_cons_of_mem _ h')) h2 (h.step hp hm x) ?_
    have hgc : sc.root l = some (.arr e xs d) → ∀ (k : HK) (x : k.D), (sc.giveC k x).2.root l = some (.arr e xs d) := fun hd k x => by
      rw [giveC_root]
      cases k with
      | data t ds => exact hd
      | own e d =>
        have := hp.more
        dsimp only
        rw [if_neg (by omega)]
        exact hd
    cases it with
    | slot i k =>
      rcases hd with hd | ⟨i', e', d', hm', hs⟩
      · exact .inl (by rw [give_slot_root]; exact hgc hd k x)
      · rcases List.mem_cons.1 hm' with hm' | hm'
        · cases hm'
        · exact .inr ⟨i', e', d', hm', hs⟩
    | cell i off k =>
      obtain ⟨l0, cs0, g1, g2, g3, g4, g5, g6, cs1, g7⟩ := h.partCell hp hm
      have hne : l ≠ l0 := by
        rintro rfl
        obtain ⟨c, v, ⟨l1, cs2, b, vs, T, q1, q2, q3⟩, _⟩ := take_cell h.rel h1
        rw [g1] at q1
        simp only [Option.some.injEq, A.val.injEq, List.cons.injEq, C.bp.injEq, and_true, true_and] at q1
        subst q1
        rw [hr] at q2
        cases q2
      rcases hd with hd | ⟨i', e', d', hm', hs⟩
      · exact .inl (by rw [give_cell_root g2 g3, if_neg hne]; exact hgc hd k x)
      · rcases List.mem_cons.1 hm' with hm' | hm'
        · cases hm'
        · exact .inr ⟨i', e', d', hm', hs⟩
    | arr i e0 d0 =>
      obtain ⟨l0, g1, g2, g3, g4⟩ := h.partArr hp hm
      obtain ⟨l1, q1, q2⟩ := take_arr h1
      rw [g1] at q1
      simp only [Option.some.injEq, A.val.injEq, List.cons.injEq, C.ref.injEq, and_true, true_and] at q1
      subst q1
      rw [give_arr_root g2 (Nat.lt_of_lt_of_le g4 hp.more)]
      by_cases he : l = l0
      · subst he
        rw [if_pos rfl]
        rw [hr] at q2
        exact .inl q2.symm
      · rw [if_neg he]
        rcases hd with hd | ⟨i', e', d', hm', hs⟩
        · exact .inl hd
        · rcases List.mem_cons.1 hm' with hm' | hm'
          · simp only [It.arr.injEq] at hm'
            obtain ⟨rfl, _⟩ := hm'
            rw [g1] at hs
            simp only [Option.some.injEq, A.val.injEq, List.cons.injEq, C.ref.injEq, and_true, true_and] at hs
            exact absurd hs.symm he
          · exact .inr ⟨i', e', d', hm', hs⟩

end Go.Proofs.Ytlacogoljcpijaa.Vd

/- VdZk -/
namespace Go.Proofs.Ytlacogoljcpijaa.Vd

variable {P : Program} {E : Env} {ρ ρ' : Map} {w w' : World} {s s' : S} {a : Act} {K : Ctx} {H H' : Nat → Option Root} {t : Tm} {y : Its t.items}

theorem Own.to_loc {o : Own} {l n : Nat} (h : o.loc = some l) : (o.to n).loc = some n := by
  cases o <;> simp [Own.loc, Own.to] at h ⊢

/-- The roots that die: those renamed, those that were made in the loop. -/
def gone (s s' : S) (t : Tm) (n : Nat) : List Nat := t.items.flatMap s.ownLoc ++ (t.items.flatMap s'.ownLoc ++ List.range' s.H.length (s'.H.length + n))

theorem Reopen.wider (h : Reopen P E K ρ s s' t a w y) (n : Nat) : Wider s.H.length (t.items.flatMap s.ownLoc) (gone s s' t n) where
  sub := fun l hl => List.mem_append_left _ hl
  out := fun l hl => by
    simp only [gone, List.mem_append] at hl
    rcases hl with hl | hl | hl
    · exact .inl hl
    · exact (h.own l hl).symm
    · exact .inr (by simp only [List.mem_range'_1] at hl; omega)

theorem Reopen.stays (h : Reopen P E K ρ s s' t a w y) {n l : Nat} (h1 : l < s.H.length) (h2 : l ∉ t.items.flatMap s.ownLoc) : l ∉ gone s s' t n := fun hm => by
  rcases (h.wider n).out l hm with h3 | h3
  · exact h2 h3
  · omega

theorem Reopen.stayed (h : Reopen P E K ρ s s' t a w y) {n l : Nat} (h1 : l ∉ gone s s' t n) (h2 : l < s'.H.length + n) : l < s.H.length ∧ l ∉ t.items.flatMap s.ownLoc ∧ l ∉ t.items.flatMap s'.ownLoc := by
  simp only [gone, List.mem_append, not_or, List.mem_range'_1] at h1
  refine ⟨?_, h1.1, h1.2.1⟩
  have := h1.2.2
  omega

theorem Reopen.chg (h : Reopen P E K ρ s s' t a w y) {q : List (C × Value)} (hq : Owns s' a w ρ t.items q) :
    Chg P ρ (ρ.ren s.H.length (t.items.flatMap s.ownLoc) q) w w s'.root (s.at t y).root (allOf (gone s s' t q.length)) where
  later := Later.refl w
  free := fun b _ ho => ⟨by simp [Map.ren, ho, Own.loc], rfl⟩
  off := fun b _ ho => ⟨by simp [Map.ren, ho, Own.loc], rfl⟩
  noOff := fun b ho => by
    simp only [Map.ren] at ho
    cases hb : ρ.own b with
    | free => rw [hb] at ho; simp [Own.loc] at ho
    | off => rfl
    | main l =>
      rw [hb] at ho
      simp only [Own.loc] at ho
      split at ho
      · cases ho
      · split at ho <;> cases ho
    | inner l i j =>
      rw [hb] at ho
      simp only [Own.loc] at ho
      split at ho
      · cases ho
      · split at ho <;> cases ho
  block := fun b l _ hl hk => ⟨rfl, fun _ => by
    obtain ⟨h1, h2, h3⟩ := h.stayed (fun hm => hk (killed_allOf.2 hm)) (Nat.lt_of_lt_of_le (h.rel.live b l hl) (Nat.le_add_right _ _))
    rw [owns_locs _ _ hq] at h3
    simp only [Map.ren, hl, findIdx_none h3]
    rw [if_pos ⟨h1, h2⟩]⟩
  hdr := fun l hk _ => by
    rw [killedAll_allOf] at hk
    simp only [Map.ren]
    split
    · rename_i hl
      have : q.length ≤ l - s.H.length := by
        simp only [gone, List.mem_append, not_or, List.mem_range'_1] at hk
        have := hk.2.2
        omega
      rw [List.getElem?_eq_none this]
      rfl
    · rfl
  hdrP := fun l b hk _ => by
    rw [killedAll_allOf] at hk
    simp only [Map.ren]
    split
    · rename_i hl
      have : q.length ≤ l - s.H.length := by
        simp only [gone, List.mem_append, not_or, List.mem_range'_1] at hk
        have := hk.2.2
        omega
      rw [List.getElem?_eq_none this]
      rfl
    · rfl
  arr := fun l e xs d hk _ hr => by
    obtain ⟨h1, h2, _⟩ := h.stayed (fun hm => hk (killed_allOf.2 hm)) (Nat.lt_of_lt_of_le (root_lt hr) (Nat.le_add_right _ _))
    have hf := fitIn_spec h.fit
    rw [at_eq]
    show ((s.base t).gives t.items y).root l = _
    refine h.arrs h1 h2 hr t.items y _ (fun _ h => h) h.now (Part.base s t) ?_
    by_cases ha : ∃ i e d, It.arr i e d ∈ t.items ∧ s'.fr[i]? = some (.c (.ref l))
    · exact .inr ha
    · left
      have hnb : l ∉ t.items.flatMap s.boxLoc := by
        intro hb
        obtain ⟨it, hit, hlo⟩ := List.mem_flatMap.1 hb
        cases it with
        | slot i k => simp [S.boxLoc] at hlo
        | arr i e d => simp [S.boxLoc] at hlo
        | cell i off k =>
          obtain ⟨l', g1, g2, g3, g4, g5, g6, cs, g7⟩ := h.cell hit
          simp only [S.boxLoc, getD_of g1, List.mem_singleton] at hlo
          subst hlo
          obtain ⟨x, hx⟩ := takes_mem h.now _ hit
          obtain ⟨c, v, ⟨l2, cs2, b, vs, T, q1, q2, _⟩, _⟩ := take_cell h.rel hx
          rw [g2] at q1
          simp only [Option.some.injEq, A.val.injEq, List.cons.injEq, C.bp.injEq, and_true, true_and] at q1
          subst q1
          rw [hr] at q2
          cases q2
      have hnl : l ∉ t.items.flatMap s.locs := by
        intro hb
        obtain ⟨it, hit, hlo⟩ := List.mem_flatMap.1 hb
        simp only [S.locs, List.mem_append] at hlo
        rcases hlo with (hlo | hlo) | hlo
        · exact h2 (List.mem_flatMap.2 ⟨it, hit, hlo⟩)
        · exact hnb (List.mem_flatMap.2 ⟨it, hit, hlo⟩)
        · cases it with
          | slot i k => simp at hlo
          | cell i off k => simp at hlo
          | arr i e d =>
            obtain ⟨l', g1, g2, g3, g4, g5⟩ := h.arr hit
            dsimp only at hlo
            rw [getD_of g1] at hlo
            simp only [List.mem_singleton] at hlo
            subst hlo
            exact ha ⟨i, e, d, hit, g2⟩
      rw [base_root, if_neg hnb, if_neg h2]
      rcases h.root l h1 hnl with h3 | h3
      · rw [← h3, hr]; rfl
      · rw [← h3, hr]
  mov := fun l c hm => by cases hm
  got := fun b l hk _ h1 hb => by
    simp only [Map.ren] at hb
    split at hb
    · exact h1 b hb
    · rename_i l' hl'
      split at hb
      · rename_i j hj
        rw [Own.to_loc hl'] at hb
        cases hb
        apply hk
        rw [killed_allOf]
        have := (findIdx_some hj).1
        simp only [gone, List.mem_append, List.mem_range'_1]
        exact .inr (.inr ⟨by omega, by omega⟩)
      · split at hb
        · exact h1 b hb
        · cases hb
  movB := fun b l _ _ hm => absurd hm not_moved_nil

theorem ArrR.rekey {own own' : Nat → Own} {key key' : Own} {e : Ty} {xs : List e.D} {EL EL' : Nat → e.D → List Value → Prop} {v : Value}
    (h : ArrR w own key e xs EL v) (hb : ∀ b, own b = key → own' b = key') (he : ∀ i x us, xs[i]? = some x → EL i x us → EL' i x us) : ArrR w own' key' e xs EL' v := by
  rcases h with h | ⟨b, cap, vs, T, hv, h1, h2, h3, h4, h5, h6⟩
  · exact .inl h
  · refine .inr ⟨b, cap, vs, T, hv, h1, h2, hb b h3, h4, h5, fun i x hx => ?_⟩
    obtain ⟨us, q1, q2, q3⟩ := h6 i x hx
    exact ⟨us, q1, q2, he i x us hx q3⟩

theorem DR.rekey {own own' : Nat → Own} {l l' i : Nat} (hb : ∀ b j, own b = .inner l i j → own' b = .inner l' i j) : (t : Ty) → (j : Nat) → (x : t.D) → (vs : List Value) → DR w own l i t j x vs → DR w own' l' i t j x vs
  | .sl u, j, ys, vs, h => by
    obtain ⟨v, rfl, hu, ha⟩ := h
    exact ⟨v, rfl, hu, ha.rekey (fun b hk => hb b j hk) fun i x us _ hr => Rd.flat u x us hu hr⟩
  | .one h, j, x, vs, hh => DR.rekey hb h j x vs hh
  | .cons h t, j, x, vs, hh => by
    obtain ⟨v1, v2, rfl, h1, h2⟩ := hh
    exact ⟨v1, v2, rfl, DR.rekey hb h j _ _ h1, DR.rekey hb t _ _ _ h2⟩
  | .int _, _, _, _, h => h
  | .bool, _, _, _, h => h
  | .str, _, _, _, h => h

/-- The state while the holes are filled; r: those left. -/
structure Good (P : Program) (ρ : Map) (s s' : S) (t : Tm) (a : Act) (w : World) (ρ' : Map) (Hf : Nat → Option Root) (Q : List (C × Value)) (sc : S) (r : List It) (done : List Nat) (q : List (C × Value)) : Prop where
  part : Part s t sc
  hlen : sc.H.length + q.length = s.H.length + Q.length
  drop : q = Q.drop (sc.H.length - s.H.length)
  slot : ∀ (i : Nat) x, i ∉ r.flatMap It.slots → sc.fr[i]? = some x → ∃ v, a.tmps[i]? = some v ∧ AR P ρ' w Hf x v
  dones : ∀ i ∈ done, i ∉ r.flatMap It.slots ∧ ∃ n, sc.fr[i]? = some (.c (.ref n)) ∧ ∀ l', s'.fr[i]? = some (.c (.ref l')) → ∀ b, (ρ.own b).loc = some l' → (ρ'.own b).loc = some n
  root : ∀ l rt, sc.root l = some rt → (∀ i e d, It.arr i e d ∈ r → s'.fr[i]? ≠ some (.c (.ref l))) → RR P ρ' w Hf l rt

theorem Reopen.good0 (h : Reopen P E K ρ s s' t a w y) {Q : List (C × Value)} (hq : Owns s' a w ρ t.items Q) :
    Good P ρ s s' t a w (ρ.ren s.H.length (t.items.flatMap s.ownLoc) Q) (s.at t y).root Q (s.base t) t.items [] Q where
  part := Part.base s t
  hlen := by rw [base_H]
  drop := by rw [base_H]; simp
  dones := fun i hi => by cases hi
  slot := fun i x hi hx => by
    have hf := fitIn_spec h.fit
    rw [base_fr] at hx
    have hlen : i < s'.fr.length := by
      rw [h.len]
      split at hx <;> (cases hs : s.fr[i]? with
        | none => rw [hs] at hx; cases hx
        | some x0 => exact (List.getElem?_eq_some_iff.1 hs).1)
    obtain ⟨v, hv1, hv2⟩ := h.rel.slot i _ (List.getElem?_eq_getElem hlen)
    refine ⟨v, hv1, ?_⟩
    split at hx
    · cases hs : s.fr[i]? with
      | none => rw [hs] at hx; cases hx
      | some x0 => rw [hs] at hx; cases hx; trivial
    · rename_i hk
      cases hs : s.fr[i]? with
      | none => rw [hs] at hx; cases hx
      | some x0 =>
        rw [hs] at hx
        simp only [Option.map_some, Option.some.injEq] at hx
        have hw := A.wider (h.wider Q.length) (hf.frwf i x0 hs)
        have hAR := AR.left (h.chg hq) hv2
        rcases h.fr i hk hi with h1 | h1
        · rw [List.getElem?_eq_getElem hlen, hs] at h1
          simp only [Option.some.injEq] at h1
          rw [h1, hw.1, hx] at hAR
          exact hAR
        · rw [List.getElem?_eq_getElem hlen, hs] at h1
          simp only [Option.map_some, Option.some.injEq] at h1
          rw [h1, hw.2, hx] at hAR
          exact hAR
  root := fun l rt hl hna => by
    have hf := fitIn_spec h.fit
    have hc := h.chg hq
    rw [base_root] at hl
    split at hl
    · rename_i hb
      obtain ⟨it, hit, hlo⟩ := List.mem_flatMap.1 hb
      cases it with
      | slot i k => simp [S.boxLoc] at hlo
      | arr i e d => simp [S.boxLoc] at hlo
      | cell i off k =>
        obtain ⟨l', g1, g2, g3, g4, g5, g6, cs, g7⟩ := h.cell hit
        simp only [S.boxLoc, getD_of g1, List.mem_singleton] at hlo
        subst hlo
        rw [if_neg g5, g7] at hl
        simp only [Option.map_some, Root.left, blank, Option.some.injEq] at hl
        subst hl
        obtain ⟨x, hx⟩ := takes_mem h.now _ hit
        obtain ⟨c, v, ⟨l2, cs2, b, vs, T, q1, q2, _⟩, _⟩ := take_cell h.rel hx
        rw [g2] at q1
        simp only [Option.some.injEq, A.val.injEq, List.cons.injEq, C.bp.injEq, and_true, true_and] at q1
        subst q1
        have hlen := h.box l hb
        simp only [S.boxLen, g7, q2] at hlen
        obtain ⟨b, vs, T, k1, k2, k3, k4⟩ := h.rel.root l _ q2
        have hnk : ¬ Killed (allOf (gone s s' t Q.length)) l := fun hk => h.stays g6 g5 (killed_allOf.1 hk)
        refine ⟨b, vs, T, (hc.hdr l (fun hk => hnk ⟨_, hk⟩) not_moved_nil).trans k1, ?_, k3, ?_⟩
        · exact ((hc.block b l (Array.getElem?_eq_some_iff.1 k3).1 (by simp [k2, Own.loc]) hnk).2 not_moved_nil).trans k2
        · refine ⟨by simp [hlen, k4.1], fun j c v hj hv => ?_⟩
          have : c = .undef := by
            rw [List.getElem?_map, List.getElem?_map] at hj
            cases hcj : cs[j]? with
            | none => rw [hcj] at hj; cases hj
            | some c0 => rw [hcj] at hj; cases hj; rfl
          subst this
          have hlt : j < cs2.length := by rw [k4.1]; exact (List.getElem?_eq_some_iff.1 hv).1
          exact (k4.2 j _ v (List.getElem?_eq_getElem hlt) hv).one
    · rename_i hb
      split at hl
      · cases hl
      · rename_i hL
        cases hs : s.root l with
        | none => rw [hs] at hl; cases hl
        | some r0 =>
          rw [hs] at hl
          simp only [Option.map_some, Option.some.injEq] at hl
          have hlt := root_lt hs
          have hnl : l ∉ t.items.flatMap s.locs := by
            intro hb'
            obtain ⟨it, hit, hlo⟩ := List.mem_flatMap.1 hb'
            simp only [S.locs, List.mem_append] at hlo
            rcases hlo with (hlo | hlo) | hlo
            · exact hL (List.mem_flatMap.2 ⟨it, hit, hlo⟩)
            · exact hb (List.mem_flatMap.2 ⟨it, hit, hlo⟩)
            · cases it with
              | slot i k => simp at hlo
              | cell i off k => simp at hlo
              | arr i e d =>
                obtain ⟨l', g1, g2, g3, g4, g5⟩ := h.arr hit
                dsimp only at hlo
                rw [getD_of g1] at hlo
                simp only [List.mem_singleton] at hlo
                subst hlo
                exact hna i e d hit g2
          have hnk : ¬ Killed (allOf (gone s s' t Q.length)) l := fun hk => h.stays hlt hL (killed_allOf.1 hk)
          have hw := Root.wider (h.wider Q.length) (hf.rwf l r0 hs)
          rcases h.root l hlt hnl with h3 | h3
          · rw [hs] at h3
            have := RR.left hc hnk not_moved_nil (h.rel.root l _ h3)
            rwa [hw.1, hl] at this
          · rw [hs] at h3
            have := RR.left hc hnk not_moved_nil (h.rel.root l _ h3)
            rwa [hw.2, hl] at this

end Go.Proofs.Ytlacogoljcpijaa.Vd

/- VdZl -/
namespace Go.Proofs.Ytlacogoljcpijaa.Vd

variable {P : Program} {E : Env} {ρ ρ' : Map} {w w' : World} {s s' : S} {a : Act} {K : Ctx} {H H' : Nat → Option Root} {t : Tm} {y : Its t.items}

theorem mem_refs {s : S} {ds : List Nat} {l : Nat} : l ∈ s.refs ds ↔ ∃ j ∈ ds, s.fr[j]? = some (.c (.ref l)) := by
  simp only [S.refs, List.mem_flatMap]
  constructor
  · rintro ⟨j, hj, h⟩
    refine ⟨j, hj, ?_⟩
    split at h
    · rename_i l' hl'
      simp only [List.mem_singleton] at h
      subst h
      exact getD_some hl'
    · cases h
  · rintro ⟨j, hj, h⟩
    refine ⟨j, hj, ?_⟩
    rw [getD_of h]
    simp

theorem Good.al (h : Reopen P E K ρ s s' t a w y) {Q : List (C × Value)} (hq : Owns s' a w ρ t.items Q) {sc : S} {r : List It} {done : List Nat} {q : List (C × Value)} {Hf : Nat → Option Root}
    (hg : Good P ρ s s' t a w (ρ.ren s.H.length (t.items.flatMap s.ownLoc) Q) Hf Q sc r done q) {ds d : List Nat} (hd : ∀ l ∈ d, l ∈ s'.refs ds)
    (hds : ∀ i ∈ ds, i ∈ done ∨ (i ∉ t.kill ∧ i ∉ t.items.flatMap It.slots)) (hin : ∀ i ∈ ds, i ∈ t.items.flatMap It.deps) {b : Nat} (hb : b < w.heap.size) (ha : Al ρ.own d b) :
    Al (ρ.ren s.H.length (t.items.flatMap s.ownLoc) Q).own (sc.refs ds) b := by
  have hc := h.chg hq
  rcases ha with ha | ⟨l', hl', hlo⟩
  · exact .inl (hc.free b hb ha).1
  · obtain ⟨j, hj, hjs⟩ := mem_refs.1 (hd l' hl')
    right
    rcases hds j hj with h1 | ⟨h1, h2⟩
    · obtain ⟨_, n, h3, h4⟩ := hg.dones j h1
      exact ⟨n, mem_refs.2 ⟨j, hj, h3⟩, h4 l' hjs b hlo⟩
    · obtain ⟨h3, h4, h5⟩ := h.dep (hin j hj) h1 h2 hjs
      refine ⟨l', mem_refs.2 ⟨j, hj, (hg.part.fr j h2).trans h3⟩, ?_⟩
      rw [(hc.block b l' hb hlo (fun hk => h.stays h5 h4 (killed_allOf.1 hk))).2 not_moved_nil]
      exact hlo

theorem takeC_data {c : C} {T : Ty} {ds : List Nat} {x : T.D} (h : s.takeC c (.data T ds) = some x) : ∃ d, s.view.data c T = some (x, d) ∧ ∀ l ∈ d, l ∈ s.refs ds := by
  simp only [S.takeC] at h
  split at h
  · rename_i x' d hx
    split at h
    · rename_i hd
      simp only [Option.some.injEq] at h
      subst h
      refine ⟨d, hx, fun l hl => ?_⟩
      have := List.all_eq_true.1 hd l hl
      simpa using this
    · cases h
  · cases h

theorem takeC_own {c : C} {e : Ty} {dp : Bool} {x : List e.D} (h : s.takeC c (.own e dp) = some x) : (c = .nils ∧ x = []) ∨ ∃ l, c = .ref l ∧ s.root l = some (.arr e x dp) := by
  simp only [S.takeC] at h
  split at h
  · simp only [Option.some.injEq] at h
    exact .inl ⟨rfl, h.symm⟩
  · rename_i l
    split at h
    · rename_i e' xs d hl
      split at h
      · rename_i he
        subst he
        split at h
        · rename_i hd
          simp only [beq_iff_eq] at hd
          subst hd
          simp only [castD_rfl, Option.some.injEq] at h
          subst h
          exact .inr ⟨l, rfl, hl⟩
        · cases h
      · cases h
    · cases h
  · cases h

/-- What comes of one hole: the cell holds of the value, the new root of the world. -/
theorem Good.cell (h : Reopen P E K ρ s s' t a w y) {Q : List (C × Value)} (hq : Owns s' a w ρ t.items Q) {sc : S} {r : List It} {done : List Nat} {q : List (C × Value)} {Hf : Nat → Option Root}
    (hg : Good P ρ s s' t a w (ρ.ren s.H.length (t.items.flatMap s.ownLoc) Q) Hf Q sc r done q) {it : It} {c : C} {v : Value} (hh : HoleAt s' a w ρ it c v) {k : HK} (hk : it.k = k)
    {x : k.D} (hx : s'.takeC c k = some x) (hds : ∀ i ∈ it.deps, i ∈ done ∨ (i ∉ t.kill ∧ i ∉ t.items.flatMap It.slots)) (hin : it ∈ t.items)
    (hQ : it.own = true → Q[sc.H.length - s.H.length]? = some (c, v)) :
    CR P (ρ.ren s.H.length (t.items.flatMap s.ownLoc) Q) w Hf (sc.giveC k x).1 v ∧
    (∀ l rt, (sc.giveC k x).2.root l = some rt → sc.root l = some rt ∨ (l = sc.H.length ∧ RR P (ρ.ren s.H.length (t.items.flatMap s.ownLoc) Q) w Hf l rt)) ∧
    (it.own = true → ∀ l', c = .ref l' → ∀ b, (ρ.own b).loc = some l' → ((ρ.ren s.H.length (t.items.flatMap s.ownLoc) Q).own b).loc = some sc.H.length) := by
  have hcr := hh.rel h.rel
  have hnd : (Q.flatMap fun p => refsOf p.1).Nodup := by rw [← owns_locs _ _ hq]; exact h.nd
  have hmore := hg.part.more
  cases k with
  | data T ds =>
    have hdeps : it.deps = ds ∧ it.own = false := by
      cases it with
      | slot i k => simp only [It.k] at hk; subst hk; exact ⟨rfl, rfl⟩
      | cell i off k => simp only [It.k] at hk; subst hk; exact ⟨rfl, rfl⟩
      | arr i e d => exact hh.elim
    obtain ⟨d, h1, h2⟩ := takeC_data hx
    obtain ⟨h3, h4⟩ := data_rd (Seen.self s') h.rel.root h1 hcr
    refine ⟨⟨h4, ?_⟩, fun l rt hl => .inl hl, fun ho => by rw [hdeps.2] at ho; cases ho⟩
    refine Rd.mono (fun b hb ha => ⟨?_, rfl⟩) T x [v] h3
    exact Good.al h hq hg h2 (by rw [← hdeps.1]; exact hds) (fun i hi => List.mem_flatMap.2 ⟨it, hin, by rw [hdeps.1]; exact hi⟩) hb ha
  | own e dp =>
    have hown : it.own = true := by
      cases it with
      | slot i k => simp only [It.k] at hk; subst hk; rfl
      | cell i off k => simp only [It.k] at hk; subst hk; rfl
      | arr i e d => exact hh.elim
    have hQ' := hQ hown
    have hhdr : (ρ.ren s.H.length (t.items.flatMap s.ownLoc) Q).hdr sc.H.length = v := by
      simp only [Map.ren]
      rw [if_pos hmore, hQ']
      rfl
    have hidx : ∀ l', c = .ref l' → Q.findIdx? (fun p => isRef l' p.1) = some (sc.H.length - s.H.length) := by
      rintro l' rfl
      exact findIdx_ref Q _ l' v hnd hQ'
    have hown' : ∀ l', c = .ref l' → ∀ b, (ρ.own b).loc = some l' → (ρ.ren s.H.length (t.items.flatMap s.ownLoc) Q).own b = (ρ.own b).to sc.H.length := by
      intro l' hc b hb
      simp only [Map.ren, hb, hidx l' hc]
      rw [show s.H.length + (sc.H.length - s.H.length) = sc.H.length by omega]
    have hsl : ∃ q n c, v = .slice q n c := by
      rcases takeC_own hx with ⟨rfl, _⟩ | ⟨l', rfl, _⟩
      · obtain ⟨q, rfl⟩ := hcr; exact ⟨q, 0, 0, rfl⟩
      · exact hcr.2
    refine ⟨⟨hhdr.symm, hsl⟩, fun l rt hl => ?_, fun _ l' hc b hb => by rw [hown' l' hc b hb]; exact Own.to_loc hb⟩
    rw [giveC_root] at hl
    dsimp only at hl
    split at hl
    · rename_i hln
      refine .inr ⟨hln, ?_⟩
      simp only [Option.some.injEq] at hl
      subst hl
      subst hln
      show ArrR w _ (.main sc.H.length) e x _ ((ρ.ren s.H.length (t.items.flatMap s.ownLoc) Q).hdr sc.H.length)
      rw [hhdr]
      rcases takeC_own hx with ⟨rfl, rfl⟩ | ⟨l', rfl, hr⟩
      · obtain ⟨q, rfl⟩ := hcr
        exact .inl ⟨q, rfl, rfl⟩
      · have hrr : ArrR w ρ.own (.main l') e x (EL w ρ.own l' dp e) (ρ.hdr l') := h.rel.root l' _ hr
        rw [hcr.1]
        refine hrr.rekey (fun b hb => ?_) fun i x us _ he => ?_
        · rw [hown' l' rfl b (by rw [hb]; rfl), hb]; rfl
        · unfold EL at he ⊢
          split
          · rename_i hdp
            rw [if_pos hdp] at he
            exact DR.rekey (fun b j hb => by rw [hown' l' rfl b (by rw [hb]; rfl), hb]; rfl) e 0 x us he
          · rename_i hdp
            rw [if_neg hdp] at he
            exact Rd.mono (fun b hb ha => (h.chg hq).free b hb ha) e x us he
    · exact .inl hl

theorem giveC_H (s : S) (k : HK) (x : k.D) : (s.giveC k x).2.fr = s.fr := by cases k <;> rfl

def It.dones (done : List Nat) : It → List Nat
  | .slot i (.own _ _) => i :: done
  | _ => done

theorem Good.step (h : Reopen P E K ρ s s' t a w y) {Q : List (C × Value)} (hq : Owns s' a w ρ t.items Q) {sc : S} {it : It} {r : List It} {done : List Nat} {q : List (C × Value)}
    (hg : Good P ρ s s' t a w (ρ.ren s.H.length (t.items.flatMap s.ownLoc) Q) (s.at t y).root Q sc (it :: r) done q) (hm : it ∈ t.items) (hfit : t.fits done (it :: r) = true) (hnd : ((it :: r).flatMap It.slots).Nodup)
    {x : it.D} (hx : s'.take it = some x) (how : Owns s' a w ρ (it :: r) q) :
    ∃ q', Owns s' a w ρ r q' ∧ Good P ρ s s' t a w (ρ.ren s.H.length (t.items.flatMap s.ownLoc) Q) (s.at t y).root Q (sc.give it x) r (it.dones done) q' := by
  have hpart := h.step hg.part hm x
  have hlen := give_H (s := sc) (it := it) (x := x) (fun i off k he => by
    subst he
    obtain ⟨l, cs, _, h1, h2, _⟩ := h.partCell hg.part hm
    exact ⟨l, cs, h1, h2⟩)
  have hmore := hg.part.more
  have hdeps := fits_deps hfit
  -- what is left of the list of owned holes
  obtain ⟨q', hq', hl', hd', hQ⟩ : ∃ q', Owns s' a w ρ r q' ∧ (sc.give it x).H.length + q'.length = s.H.length + Q.length ∧ q' = Q.drop ((sc.give it x).H.length - s.H.length) ∧
      (it.own = true → ∃ p, Q[sc.H.length - s.H.length]? = some p ∧ HoleAt s' a w ρ it p.1 p.2) := by
    unfold Owns at how
    by_cases ho : it.own = true
    · rw [if_pos ho] at how
      obtain ⟨p, q', rfl, h1, h2⟩ := how
      have hlen' := hg.hlen
      have hdrop := hg.drop
      rw [if_pos ho] at hlen
      simp only [List.length_cons] at hlen'
      refine ⟨q', h2, by omega, ?_, fun _ => ⟨p, ?_, h1⟩⟩
      · have : q' = (p :: q').drop 1 := rfl
        rw [this, hdrop, List.drop_drop]
        congr 1
        omega
      · have : (Q.drop (sc.H.length - s.H.length))[0]? = some p := by rw [← hdrop]; rfl
        rwa [List.getElem?_drop, Nat.add_zero] at this
    · rw [if_neg ho] at how
      rw [if_neg ho] at hlen
      exact ⟨q, how, by have := hg.hlen; omega, by rw [show (sc.give it x).H.length = sc.H.length by omega]; exact hg.drop, fun h => absurd h ho⟩
  have hndr : (r.flatMap It.slots).Nodup := by
    simp only [List.flatMap_cons, List.nodup_append] at hnd
    exact hnd.2.1
  refine ⟨q', hq', ?_⟩
  cases it with
  | slot i k =>
    obtain ⟨c, v, h1, h2⟩ := take_slot h.rel hx
    have hQ' : (It.slot i k).own = true → Q[sc.H.length - s.H.length]? = some (c, v) := fun ho => by
      obtain ⟨⟨c', v'⟩, g1, g2, g3⟩ := hQ ho
      rw [h1.1] at g2
      rw [h1.2] at g3
      simp only [Option.some.injEq, A.val.injEq, List.cons.injEq, and_true, true_and] at g2 g3
      rw [g1, ← g2, ← g3]
    obtain ⟨k1, k2, k3⟩ := Good.cell h hq hg h1 rfl h2 hdeps hm hQ'
    have hne : ∀ j ∈ done, j ≠ i := fun j hj he => (hg.dones j hj).1 (by simp [It.slots, he])
    have hir : i ∉ r.flatMap It.slots := by
      simp only [List.flatMap_cons, List.nodup_append, It.slots] at hnd
      intro hi
      exact hnd.2.2 i (by simp) i hi rfl
    have hold : ∀ j ∈ done, j ∉ r.flatMap It.slots ∧ ∃ n, (sc.give (.slot i k) x).fr[j]? = some (.c (.ref n)) ∧ ∀ l', s'.fr[j]? = some (.c (.ref l')) → ∀ b, (ρ.own b).loc = some l' → ((ρ.ren s.H.length (t.items.flatMap s.ownLoc) Q).own b).loc = some n := fun j hj => by
      obtain ⟨g1, n, g2, g3⟩ := hg.dones j hj
      refine ⟨fun hr => g1 (by simp only [List.flatMap_cons, List.mem_append]; exact .inr hr), n, ?_, g3⟩
      rw [give_fr _ _ _ _ (by simp [It.slots, hne j hj])]
      exact g2
    have hisc : i < sc.fr.length := by
      rw [hg.part.len, ← h.len]
      exact (List.getElem?_eq_some_iff.1 h1.1).1
    have hnew : (sc.give (.slot i k) x).fr[i]? = some (.c (sc.giveC k x).1) := by
      simp only [S.give]
      rw [List.getElem?_set_self (by rw [giveC_H]; exact hisc)]
    refine ⟨hpart, hl', hd', fun j z hj hz => ?_, ?_, fun l rt hl hna => ?_⟩
    · by_cases hji : j = i
      · subst hji
        rw [hnew] at hz
        cases hz
        exact ⟨v, h1.2, AR.one.2 k1⟩
      · rw [give_fr _ _ _ _ (by simp [It.slots, hji])] at hz
        exact hg.slot j z (by simp only [List.flatMap_cons, List.mem_append, It.slots, List.mem_singleton, not_or]; exact ⟨hji, hj⟩) hz
    · cases k with
      | data T ds => exact hold
      | own e dp =>
        intro j hj
        rcases List.mem_cons.1 hj with rfl | hj
        · refine ⟨hir, sc.H.length, hnew, fun l' hl' b hb => k3 rfl l' ?_ b hb⟩
          rw [h1.1] at hl'
          simpa using hl'
        · exact hold j hj
    · rw [give_slot_root] at hl
      rcases k2 l rt hl with g | ⟨_, g⟩
      · exact hg.root l rt g fun i' e d hm' => by
          rcases List.mem_cons.1 hm' with hm' | hm'
          · cases hm'
          · exact hna i' e d hm'
      · exact g
  | cell i off k =>
    obtain ⟨c, v, h1, h2⟩ := take_cell h.rel hx
    have hQ' : (It.cell i off k).own = true → Q[sc.H.length - s.H.length]? = some (c, v) := fun ho => by
      obtain ⟨⟨c', v'⟩, g1, l2, cs2, b2, vs2, T2, q1, q2, q3, q4, q5, q6⟩ := hQ ho
      obtain ⟨l1, cs1, b1, vs1, T1, p1, p2, p3, p4, p5, p6⟩ := h1
      rw [p1] at q1
      simp only [Option.some.injEq, A.val.injEq, List.cons.injEq, C.bp.injEq, and_true, true_and] at q1
      subst q1
      rw [p2] at q2
      cases q2
      rw [p3] at q3
      cases q3
      rw [p4] at q4
      cases q4
      rw [p5] at q5
      simp only [Option.some.injEq, Obj.cells.injEq, and_true] at q5
      have q5' : vs1 = vs2 := by simpa using congrArg Array.toList q5.1
      subst q5'
      rw [p6] at q6
      cases q6
      exact g1
    obtain ⟨k1, k2, k3⟩ := Good.cell h hq hg h1 rfl h2 hdeps hm hQ'
    obtain ⟨l0, cs, g1, g2, g3, g4, g5, g6, cs0, g7⟩ := h.partCell hg.part hm
    refine ⟨hpart, hl', hd', fun j z hj hz => ?_, fun j hj => ?_, fun l rt hl hna => ?_⟩
    · rw [give_fr _ _ _ _ (by simp [It.slots])] at hz
      exact hg.slot j z (by simpa [It.slots] using hj) hz
    · obtain ⟨q1, n, q2, q3⟩ := hg.dones j hj
      refine ⟨by simpa [It.slots] using q1, n, ?_, q3⟩
      rw [give_fr _ _ _ _ (by simp [It.slots])]
      exact q2
    · rw [give_cell_root g2 g3] at hl
      have hna' : ∀ i' e d, It.arr i' e d ∈ It.cell i off k :: r → s'.fr[i']? ≠ some (.c (.ref l)) := fun i' e d hm' => by
        rcases List.mem_cons.1 hm' with hm' | hm'
        · cases hm'
        · exact hna i' e d hm'
      split at hl
      · rename_i hl0
        subst hl0
        simp only [Option.some.injEq] at hl
        subst hl
        obtain ⟨b, vs, T, q1, q2, q3, q4⟩ := hg.root l _ g3 hna'
        refine ⟨b, vs, T, q1, q2, q3, by simpa using q4.1, fun j c' v' hc' hv' => ?_⟩
        by_cases hj : j = off
        · subst hj
          have hlt : j < cs.length := by rw [q4.1]; exact (List.getElem?_eq_some_iff.1 hv').1
          rw [List.getElem?_set_self hlt] at hc'
          simp only [Option.some.injEq] at hc'
          subst hc'
          obtain ⟨l1, cs1, b1, vs1, T1, p1, p2, p3, p4, p5, p6⟩ := h1
          rw [g1] at p1
          simp only [Option.some.injEq, A.val.injEq, List.cons.injEq, C.bp.injEq, and_true, true_and] at p1
          subst p1
          have hnk : l ∉ gone s s' t Q.length := h.stays g5 g4
          rw [(h.chg hq).hdr l (fun hk => hnk (killedAll_allOf.1 hk)) not_moved_nil, p4] at q1
          simp only [Value.pointer.injEq, Option.some.injEq, Addr.mk.injEq, and_true] at q1
          subst q1
          rw [p5] at q3
          simp only [Option.some.injEq, Obj.cells.injEq, and_true] at q3
          have q3' : vs1 = vs := by simpa using congrArg Array.toList q3.1
          subst q3'
          rw [p6] at hv'
          cases hv'
          exact k1
        · rw [List.getElem?_set_ne (Ne.symm hj)] at hc'
          exact q4.2 j c' v' hc' hv'
      · rcases k2 l rt hl with g | ⟨_, g⟩
        · exact hg.root l rt g hna'
        · exact g
  | arr i e d =>
    obtain ⟨l1, p1, p2⟩ := take_arr hx
    obtain ⟨l0, g1, g2, g3, g4⟩ := h.partArr hg.part hm
    rw [g1] at p1
    simp only [Option.some.injEq, A.val.injEq, List.cons.injEq, C.ref.injEq, and_true, true_and] at p1
    subst p1
    refine ⟨hpart, hl', hd', fun j z hj hz => ?_, fun j hj => ?_, fun l rt hl hna => ?_⟩
    · rw [give_fr _ _ _ _ (by simp [It.slots])] at hz
      exact hg.slot j z (by simpa [It.slots] using hj) hz
    · obtain ⟨q1, n, q2, q3⟩ := hg.dones j hj
      refine ⟨by simpa [It.slots] using q1, n, ?_, q3⟩
      rw [give_fr _ _ _ _ (by simp [It.slots])]
      exact q2
    · rw [give_arr_root g2 (Nat.lt_of_lt_of_le g4 hmore)] at hl
      split at hl
      · rename_i hl0
        subst hl0
        simp only [Option.some.injEq] at hl
        subst hl
        have hnk : ¬ Killed (allOf (gone s s' t Q.length)) l := fun hk => h.stays g4 g3 (killed_allOf.1 hk)
        exact RR.left (h.chg hq) hnk not_moved_nil (h.rel.root l _ p2)
      · rename_i hl0
        refine hg.root l rt hl fun i' e' d' hm' => ?_
        rcases List.mem_cons.1 hm' with hm' | hm'
        · simp only [It.arr.injEq] at hm'
          obtain ⟨rfl, _⟩ := hm'
          rw [g1]
          simp only [ne_eq, Option.some.injEq, A.val.injEq, List.cons.injEq, C.ref.injEq, and_true, true_and]
          exact fun he => hl0 he.symm
        · exact hna i' e' d' hm'

theorem Good.all (h : Reopen P E K ρ s s' t a w y) {Q : List (C × Value)} (hq : Owns s' a w ρ t.items Q) : ∀ (r : List It) (z : Its r) (sc : S) (done : List Nat) (q : List (C × Value)),
    Good P ρ s s' t a w (ρ.ren s.H.length (t.items.flatMap s.ownLoc) Q) (s.at t y).root Q sc r done q → (∀ it ∈ r, it ∈ t.items) → t.fits done r = true → (r.flatMap It.slots).Nodup → s'.takes r = some z → Owns s' a w ρ r q →
    ∃ done', Good P ρ s s' t a w (ρ.ren s.H.length (t.items.flatMap s.ownLoc) Q) (s.at t y).root Q (sc.gives r z) [] done' []
  | [], z, sc, done, q, hg, _, _, _, _, ho => by
    have : q = [] := ho
    subst this
    exact ⟨done, hg⟩
  | it :: r, z, sc, done, q, hg, hsub, hfit, hnd, ht, ho => by
    obtain ⟨x, y', h1, h2, h3⟩ := takes_cons ht
    obtain ⟨q', g1, g2⟩ := Good.step h hq hg (hsub it (List.mem_cons_self ..)) hfit hnd h1 ho
    rw [h3]
    unfold Tm.fits at hfit
    simp only [Bool.and_eq_true] at hfit
    simp only [List.flatMap_cons, List.nodup_append] at hnd
    have hfit' : t.fits (it.dones done) r = true := by
      have := hfit.2
      cases it with
      | slot i k => cases k <;> exact this
      | cell i off k => exact this
      | arr i e d => exact this
    exact Good.all h hq r y' _ _ q' g2 (fun it' h' => hsub it' (List.mem_cons_of_mem _ h')) hfit' hnd.2.1 h2 g1

/-- **The state at the loop's head holds.** -/
theorem Reopen.rel' (h : Reopen P E K ρ s s' t a w y) : ∃ ρ', Rel P K ρ' (s.at t y) a w := by
  have hf := fitIn_spec h.fit
  obtain ⟨Q, hq⟩ := owns_exists h.rel t.items y h.now
  obtain ⟨done, hg⟩ := Good.all h hq t.items y (s.base t) [] Q (h.good0 hq) (fun _ h => h) hf.fits hf.slots h.now hq
  have hc := h.chg hq
  have hH : (s.at t y).H.length = s.H.length + Q.length := hg.hlen
  have hfr : (s.at t y).fr.length = s.fr.length := hg.part.len
  refine ⟨ρ.ren s.H.length (t.items.flatMap s.ownLoc) Q, ?_, h.rel.defers, fun i x hx => hg.slot i x (by simp) hx, fun l r hr => hg.root l r hr (fun i e d hm => by cases hm), ?_, ?_, h.rel.later, ?_, ?_, ?_⟩
  · rw [hfr, ← h.len]; exact h.rel.size
  · intro b l hb
    rw [hH]
    simp only [Map.ren] at hb
    split at hb
    · rename_i hn; rw [hn] at hb; cases hb
    · rename_i l' hl'
      split at hb
      · rename_i j hj
        rw [Own.to_loc hl'] at hb
        cases hb
        have := (findIdx_some hj).1
        omega
      · split at hb
        · rename_i hlt
          rw [hl'] at hb
          cases hb
          omega
        · cases hb
  · intro b hb
    have := h.rel.fresh b hb
    simp [Map.ren, this, Own.loc]
  · intro b hb ho
    obtain ⟨h1, h2⟩ := h.rel.keep b hb ho
    refine ⟨?_, h2⟩
    rcases ho with ho | ho <;> (rw [ho] at h1; simp [Map.ren, h1, Own.loc, ho])
  · intro b ho
    exact h.rel.old b (hc.noOff b ho)
  · intro l v hl
    obtain ⟨h1, h2⟩ := h.rel.fix l v hl
    obtain ⟨h3, h4⟩ := h.fix l v hl
    refine ⟨?_, by rw [hH]; omega⟩
    rw [hc.hdr l (fun hk => h.stays h3 h4 (killedAll_allOf.1 hk)) not_moved_nil]
    exact h1

end Go.Proofs.Ytlacogoljcpijaa.Vd

/- VdZm -/
namespace Go.Proofs.Ytlacogoljcpijaa.Vd

variable {P : Program} {E : Env} {ρ ρ' : Map} {w w' : World} {s s' : S} {a : Act} {K : Ctx} {H H' : Nat → Option Root} {t : Tm}

theorem gives_fr (s : S) : ∀ (r : List It) (z : Its r) (i : Nat), i ∉ r.flatMap It.slots → (s.gives r z).fr[i]? = s.fr[i]?
  | [], _, _, _ => rfl
  | [it], z, i, hi => give_fr s it z i (by simpa using hi)
  | it :: j :: is, z, i, hi => by
    simp only [List.flatMap_cons, List.mem_append, not_or] at hi
    simp only [S.gives]
    rw [gives_fr (s.give it z.1) (j :: is) z.2 i (by simp only [List.flatMap_cons, List.mem_append, not_or]; exact hi.2)]
    exact give_fr s it z.1 i hi.1

theorem gives_len (s : S) : ∀ (r : List It) (z : Its r), (s.gives r z).fr.length = s.fr.length
  | [], _ => rfl
  | [it], z => give_len s it z
  | it :: j :: is, z => by
    simp only [S.gives]
    rw [gives_len (s.give it z.1) (j :: is) z.2]
    exact give_len s it z.1

/-- The roots that a hole's filling sets, where its variable lies. -/
theorem give_more (s : S) (it : It) (x : it.D) : s.H.length ≤ (s.give it x).H.length := by
  cases it with
  | slot i k => cases k <;> simp [S.give, S.giveC]
  | cell i off k =>
    simp only [S.give]
    split
    · split
      · cases k <;> simp [S.giveC]
      · exact Nat.le_refl _
    · exact Nat.le_refl _
  | arr i e d => simp only [S.give]; split <;> simp

theorem give_root {s : S} {it : It} {x : it.D} {l : Nat} (hl : l < s.H.length) (h1 : l ∉ s.boxLoc it) (h2 : ∀ i e d, it = .arr i e d → s.fr[i]? ≠ some (.c (.ref l))) : (s.give it x).root l = s.root l := by
  have hgc : ∀ (k : HK) (x : k.D), (s.giveC k x).2.root l = s.root l := fun k x => by
    rw [giveC_root]
    cases k with
    | data t ds => rfl
    | own e d => dsimp only; rw [if_neg (by omega)]
  cases it with
  | slot i k => rw [give_slot_root]; exact hgc k x
  | cell i off k =>
    simp only [S.give]
    split
    · rename_i l0 hc
      split
      · rename_i cs hl0
        have := getD_some hc
        show ((s.giveC k x).2.H.set l0 _).getD l none = _
        rw [root_setI, if_neg]
        · exact hgc k x
        · rintro ⟨rfl, _⟩
          exact h1 (by simp only [S.boxLoc, hc, List.mem_singleton])
      · rfl
    · rfl
  | arr i e d =>
    simp only [S.give]
    split
    · rename_i l0 hc
      show (s.H.set l0 _).getD l none = _
      rw [root_setI, if_neg]
      · rfl
      · rintro ⟨rfl, _⟩
        exact h2 i e d rfl (getD_some hc)
    · rfl

/-- Roots that are no holes stay as they are. -/
theorem gives_root {s1 : S} (s : S) (T : List It) : ∀ (r : List It) (z : Its r) (l : Nat), l < s.H.length → (∀ i : Nat, i ∉ T.flatMap It.slots → s.fr[i]? = s1.fr[i]?) → (∀ it ∈ r, it ∈ T) → (∀ it ∈ r, ∀ i ∈ it.via, i ∉ T.flatMap It.slots) →
    (∀ it ∈ r, l ∉ s1.boxLoc it) → (∀ i e d, It.arr i e d ∈ r → s1.fr[i]? ≠ some (.c (.ref l))) → (s.gives r z).root l = s.root l
  | [], _, _, _, _, _, _, _, _ => rfl
  | it :: r, z, l, hl, hfr, hsub, hvia, hb, ha => by
    have hone : ∀ x, (s.give it x).root l = s.root l := fun x => by
      refine give_root hl ?_ ?_
      · have h1 := hb it (List.mem_cons_self ..)
        cases it with
        | slot i k => simp [S.boxLoc]
        | arr i e d => simp [S.boxLoc]
        | cell i off k =>
          have := hfr i (hvia _ (List.mem_cons_self ..) i (by simp [It.via]))
          simp only [S.boxLoc, List.getD_eq_getElem?_getD, this] at h1 ⊢
          exact h1
      · rintro i e d rfl
        rw [hfr i (hvia _ (List.mem_cons_self ..) i (by simp [It.via]))]
        exact ha i e d (List.mem_cons_self ..)
    cases r with
    | nil => exact hone z
    | cons j is =>
      simp only [S.gives]
      rw [gives_root (s1 := s1) (s.give it z.1) T (j :: is) z.2 l (Nat.lt_of_lt_of_le hl (give_more ..)) (fun i hi => ?_) (fun q hq => hsub q (List.mem_cons_of_mem _ hq)) (fun q hq => hvia q (List.mem_cons_of_mem _ hq)) (fun q hq => hb q (List.mem_cons_of_mem _ hq)) (fun i e d hm => ha i e d (List.mem_cons_of_mem _ hm))]
      · exact hone z.1
      · rw [give_fr s it z.1 i (fun h => hi (List.mem_flatMap.2 ⟨it, hsub it (List.mem_cons_self ..), h⟩))]
        exact hfr i hi

theorem at_fr (s : S) (t : Tm) (x : Its t.items) {i : Nat} (h1 : i ∉ t.kill) (h2 : i ∉ t.items.flatMap It.slots) : (s.at t x).fr[i]? = (s.opened t).fr[i]? := by
  rw [at_eq]
  show ((s.base t).gives t.items x).fr[i]? = _
  rw [gives_fr _ _ _ _ h2, base_fr, if_neg h1, opened_eq, swept_fr, List.getElem?_map]

theorem at_len (s : S) (t : Tm) (x : Its t.items) : (s.at t x).fr.length = s.fr.length := by
  rw [at_eq]
  show ((s.base t).gives t.items x).fr.length = _
  rw [gives_len, base_len]

theorem gives_more (s : S) : ∀ (r : List It) (z : Its r), s.H.length ≤ (s.gives r z).H.length
  | [], _ => Nat.le_refl _
  | [it], z => give_more s it z
  | it :: j :: is, z => Nat.le_trans (give_more s it z.1) (gives_more _ (j :: is) z.2)

theorem at_more (s : S) (t : Tm) (x : Its t.items) : s.H.length ≤ (s.at t x).H.length := by
  rw [at_eq]
  show _ ≤ ((s.base t).gives t.items x).H.length
  exact Nat.le_trans (by rw [base_H]; exact Nat.le_refl _) (gives_more _ _ _)

theorem at_root (hf : Fit s E t) (x : Its t.items) {l : Nat} (hl : l < s.H.length) (hn : l ∉ t.items.flatMap s.locs) : (s.at t x).root l = (s.opened t).root l := by
  have hnl : ∀ it ∈ t.items, l ∉ s.locs it := fun it hit hlo => hn (List.mem_flatMap.2 ⟨it, hit, hlo⟩)
  rw [at_eq]
  show ((s.base t).gives t.items x).root l = _
  have hvia := fun it hit i hi => fits_via t.items [] hf.fits it hit i hi
  rw [gives_root (s1 := s.base t) (s.base t) t.items t.items x l (by rw [base_H]; exact hl) (fun _ _ => rfl) (fun _ h => h) (fun it hit i hi => (hvia it hit i hi).2) (fun it hit hb => ?_) (fun i e d hit => ?_)]
  · rw [base_root, if_neg, if_neg, opened_eq, swept_root]
    · intro h
      obtain ⟨it, hit, hlo⟩ := List.mem_flatMap.1 h
      exact hnl it hit (by simp only [S.locs, List.mem_append]; exact .inl (.inl hlo))
    · intro h
      obtain ⟨it, hit, hlo⟩ := List.mem_flatMap.1 h
      exact hnl it hit (by simp only [S.locs, List.mem_append]; exact .inl (.inr hlo))
  · cases it with
    | slot i k => simp [S.boxLoc] at hb
    | arr i e d => simp [S.boxLoc] at hb
    | cell i off k =>
      have hk := (hvia _ hit i (by simp [It.via])).1
      simp only [S.boxLoc] at hb
      split at hb
      · rename_i l0 hc
        simp only [List.mem_singleton] at hb
        subst hb
        have h1 := getD_some hc
        rw [base_fr, if_neg hk] at h1
        cases hs : s.fr[i]? with
        | none => rw [hs] at h1; cases h1
        | some x0 =>
          rw [hs] at h1
          simp only [Option.map_some, Option.some.injEq] at h1
          have : x0 = .c (.bp l 0) := by
            cases x0 with
            | none => cases h1
            | any => cases h1
            | tup vs => cases h1
            | val g cs =>
              simp only [A.left, A.val.injEq] at h1
              obtain ⟨rfl, h1⟩ := h1
              match cs, h1 with
              | [c], h1 =>
                simp only [List.map_cons, List.map_nil, List.cons.injEq, and_true, C.left_allOf] at h1
                split at h1
                · cases h1
                · rw [h1]
              | [], h1 => cases h1
              | _ :: _ :: _, h1 => simp at h1
          subst this
          exact hnl _ hit (by simp only [S.locs, S.boxLoc, getD_of hs, List.mem_append, List.mem_singleton]; exact .inl (.inr trivial))
      · simp at hb
  · intro h1
    have hk := (hvia _ hit i (by simp [It.via])).1
    rw [base_fr, if_neg hk] at h1
    cases hs : s.fr[i]? with
    | none => rw [hs] at h1; cases h1
    | some x0 =>
      rw [hs] at h1
      simp only [Option.map_some, Option.some.injEq] at h1
      obtain ⟨rfl, _⟩ := left_ref h1
      exact hnl _ hit (by simp only [S.locs, getD_of hs, List.mem_append, List.mem_singleton]; exact .inr trivial)

/-- Behind the loop: what is not marked is as it was. -/
theorem Same.back {s0 : S} (h0 : Same s0 s) (hf : Fit s E t) {x : Its t.items} (h : Same (s.at t x) s') : Same s0 (s'.back s t) where
  len := by
    show s'.fr.length = _
    rw [h.len, at_len, h0.len]
  more := Nat.le_trans h0.more (Nat.le_trans (at_more s t x) h.more)
  fr := fun i hi => by
    simp only [S.back, List.mem_append, not_or] at hi
    show s'.fr[i]? = _
    rw [h.fr i hi.1, at_fr s t x hi.2.1 hi.2.2.1]
    exact (h0.swept (allOf (t.items.flatMap s.ownLoc))).fr i hi.2.2.2
  root := fun l hl hn => by
    simp only [S.back, List.mem_append, not_or] at hn
    have hls := Nat.lt_of_lt_of_le hl h0.more
    show s'.root l = _
    rw [h.root l (Nat.lt_of_lt_of_le hls (at_more s t x)) hn.1, at_root hf x hls hn.2.1]
    exact (h0.swept (allOf (t.items.flatMap s.ownLoc))).root l hl hn.2.2

theorem Rel.back (h : Rel P K ρ s' a w) (s : S) (t : Tm) : Rel P K ρ (s'.back s t) a w := ⟨h.size, h.defers, h.slot, h.root, h.live, h.fresh, h.later, h.keep, h.old, h.fix⟩

theorem within_spec {s0 : S} (h : s0.within s t = true) : (t.items.flatMap s.ownLoc).Nodup ∧ (∀ l ∈ t.items.flatMap s.ownLoc, s0.H.length ≤ l ∨ l ∈ t.items.flatMap s0.ownLoc) ∧
    (∀ l ∈ t.items.flatMap s0.boxLoc, s0.boxLen l = s.boxLen l) ∧ (∀ i ∈ s.dF, i ∈ t.kill ∨ i ∈ t.items.flatMap It.slots) ∧ ∀ l ∈ s.dH, s0.H.length ≤ l ∨ l ∈ t.items.flatMap s0.locs := by
  unfold S.within at h
  simp only [Bool.and_eq_true, decide_eq_true_eq, List.all_eq_true, Bool.or_eq_true, beq_iff_eq] at h
  obtain ⟨⟨⟨⟨h1, h2⟩, h3⟩, h4⟩, h5⟩ := h
  refine ⟨h1, fun l hl => ?_, h3, fun i hi => ?_, fun l hl => ?_⟩
  · rcases h2 l hl with h | h
    · exact .inl h
    · exact .inr (by simpa using h)
  · rcases h4 i hi with h | h
    · exact .inl (by simpa using h)
    · rw [List.any_eq_true] at h
      obtain ⟨q, hq, hq'⟩ := h
      exact .inr (List.mem_flatMap.2 ⟨q, hq, by simpa using hq'⟩)
  · rcases h5 l hl with h | h
    · exact .inl h
    · rw [List.any_eq_true] at h
      obtain ⟨q, hq, hq'⟩ := h
      exact .inr (List.mem_flatMap.2 ⟨q, hq, by simpa using hq'⟩)

theorem loop_sound (hF : FixOK K E) (h : Hints) (b : Code) (hb : CodeSound P E K h b) : CodeSound P E K h (.loop b) := by
  intro β s0 cur s ρ a w k y Q hs hR hS hk
  simp only [semC, S.force_eq] at hs
  split at hs
  · rename_i t _
    split at hs
    · cases hs
    · rename_i hfit
      have hfit : s.fitIn E t = true := by simpa using hfit
      have hf := fitIn_spec hfit
      split at hs
      · rename_i x0 hx0
        have hfix : ∀ l v, (l, v) ∈ K.fix → l < s.H.length ∧ l ∉ t.items.flatMap s.ownLoc := fun l v hl =>
          ⟨(hR.fix l v hl).2, fun hm => hf.nofix l hm (hF l v hl)⟩
        refine wp_loop_rounds many ?_
        rw [loopO_eq] at hs
        have hent : ∃ ρ', Rel P K ρ' (s.at t x0) a w := (⟨⟨x0, hx0⟩, hx0, hfit, hR, rfl, Nat.le_refl _, fun _ _ _ => .inl rfl, fun _ _ _ => .inl rfl, hf.nd, fun l hl => .inr hl, fun _ _ => rfl, hfix⟩ : Reopen P E K ρ s s t a w x0).rel'
        obtain ⟨ρ1, hR1⟩ := hent
        clear hR
        revert hs hR1
        suffices H : ∀ n (x : Its t.items) ρ1 a w, iter (fun again x => semC E h cur b (s.at t x) fun e s' => match e with
            | .normal => if s.within s' t then match s'.takes t.items with
              | some y => again y
              | Option.none => Option.none else Option.none
            | e => k e (s'.back s t)) n x = some y → Rel P K ρ1 (s.at t x) a w → Code.rounds P b Q n a w from fun hs hR1 => H many x0 ρ1 a w hs hR1
        intro n
        induction n with
        | zero => intro x ρ1 a w hs _; cases hs
        | succ n ih =>
          intro x ρ1 a w hs hR1
          rw [rounds_succ]
          refine hb (s.at t x) cur (s.at t x) ρ1 a w _ y _ hs hR1 (Same.refl _) fun e s' ρ' a' w' hR' hS' hk' => ?_
          cases e with
          | normal =>
            show Code.rounds P b Q n a' w'
            dsimp only at hk'
            split at hk'
            · rename_i hw
              split at hk'
              · rename_i z hz
                obtain ⟨h1, h2, h3, h4, h5⟩ := within_spec hw
                have hre : Reopen P E K ρ' s s' t a' w' z := ⟨⟨x0, hx0⟩, hz, hfit, hR', by rw [hS'.len, at_len], Nat.le_trans (at_more s t x) hS'.more, fun i hi1 hi2 => ?_, fun l hl hn => ?_, h1, h2, h3, hfix⟩
                · obtain ⟨ρ2, hR2⟩ := hre.rel'
                  exact ih z ρ2 a' w' hk' hR2
                · right
                  rw [hS'.fr i (fun hd => by rcases h4 i hd with h | h <;> contradiction), at_fr s t x hi1 hi2, opened_eq, swept_fr, List.getElem?_map]
                · right
                  rw [hS'.root l (Nat.lt_of_lt_of_le hl (at_more s t x)) (fun hd => by
                    rcases h5 l hd with h | h
                    · omega
                    · exact hn h), at_root hf x hl hn, opened_eq, swept_root]
              · cases hk'
            · cases hk'
          | exit id => exact hk (.exit id) _ ρ' a' w' (hR'.back s t) (Same.back hS hf hS') hk'
          | ret => exact hk .ret _ ρ' a' w' (hR'.back s t) (Same.back hS hf hS') hk'
      · cases hs
  · cases hs

/-- **All code is sound.** -/
theorem code_sound (hT : TyOK P E) (hF : FixOK K E) (hC : CallsOK P E K) (h : Hints) (c : Code) (hok : codeOK P h c = true) : CodeSound P E K h c :=
  semC_sound hT hF hC h (loop_sound hF h) c hok

end Go.Proofs.Ytlacogoljcpijaa.Vd

/- VdZn -/
namespace Go.Proofs.Ytlacogoljcpijaa.Vd

variable {P : Program} {E : Env} {ρ ρ' ρ0 : Map} {w w' : World} {s s' : S} {a : Act} {K : Ctx} {H H' Hc : Nat → Option Root}

def rt (rs : List (Option Root)) : Nat → Option Root := fun l => rs.getD l none

/-- The callee's roots at the end: those that it was given, and new ones. -/
def exitIo (nx : Nat) : List PK → List (Σ t : Ty, t.D) → List (Option Root) × List Root
  | [], _ => ([], [])
  | .mv t :: pk, r => match r with
    | ⟨u, x⟩ :: r => let q := exitIo nx pk r; ((ownCells 0 u x).2.map some ++ q.1, q.2)
    | [] => let q := exitIo nx pk []; (List.replicate (nsl t) none ++ q.1, q.2)
  | .mp t own :: pk, r => match r with
    | ⟨u, x⟩ :: r => let c := cellsOf own nx [] u x; let q := exitIo (nx + c.2.length) pk r; (some (.box c.1) :: (List.replicate (if own then nsl t else 0) none ++ q.1), c.2 ++ q.2)
    | [] => let q := exitIo nx pk []; (List.replicate (PK.mp t own).count none ++ q.1, q.2)
  | .ow t :: pk, r => let q := exitIo nx pk r; (List.replicate (nsl t) none ++ q.1, q.2)
  | .data _ :: pk, r | .rp _ :: pk, r | .fn _ _ :: pk, r | .rfn _ _ :: pk, r => exitIo nx pk r

def entryLen (con : Con0) : Nat := (con.pk.map PK.count).sum

/-- The state that a call leaves behind, in the callee's numbers. -/
def exitRoots (con : Con0) (y : Out con.rk con.pk) : List (Option Root) :=
  let q := results (entryLen con) [] con.rk (tupList _ y)
  let g := exitIo (entryLen con + q.2.1.length) con.pk q.2.2
  g.1 ++ (q.2.1 ++ g.2).map some

structure Exit0 (P : Program) (con : Con0) (y : Out con.rk con.pk) (w : World) (ρ : Map) (w' : World) (ρ' : Map) (v : Value) : Prop where
  later : Later w w'
  keep : ∀ b, b < w.heap.size → (ρ.own b = .free ∨ ρ.own b = .off) → ρ'.own b = ρ.own b ∧ w'.heap[b]? = w.heap[b]?
  noOff : ∀ b, ρ'.own b = .off → ρ.own b = .off
  fresh : ∀ b, w'.heap.size ≤ b → ρ'.own b = .free
  live : ∀ b l, (ρ'.own b).loc = some l → l < (exitRoots con y).length
  hdr : ∀ l ∈ stays 0 con.pk, ρ'.hdr l = ρ.hdr l
  res : AR P ρ' w' (rt (exitRoots con y)) (tupA (results (entryLen con) [] con.rk (tupList _ y)).1) v
  root : ∀ l r, (rt (exitRoots con y)) l = some r → RR P ρ' w' (rt (exitRoots con y)) l r

/-- **A function meets its contract.** -/
structure ConOK (P : Program) (f : Nat) (con : Con0) : Prop where
  fn : ∃ fn, P.funcs[f]? = some fn ∧ fn.name ≠ "runtime.NumGoroutine" ∧ fn.body.isSome = true
  run : ∀ (x : In con.pk) (y : Out con.rk con.pk), con.F x = some y → ∀ (w : World) (ρ : Map) (args : List Value), (∀ b, w.heap.size ≤ b → ρ.own b = .free) →
    (∀ b l, (ρ.own b).loc = some l → l < (entriesL 0 (insL con.pk x)).2.length) → (entriesL 0 (insL con.pk x)).1.length = args.length →
    (∀ (i : Nat) A v, (entriesL 0 (insL con.pk x)).1[i]? = some A → args[i]? = some v → AR P ρ w (rt ((entriesL 0 (insL con.pk x)).2.map some)) A v) →
    (∀ l r, (entriesL 0 (insL con.pk x)).2[l]? = some r → RR P ρ w (rt ((entriesL 0 (insL con.pk x)).2.map some)) l r) →
    Calls P f args.toArray w fun e w' => ∃ v ρ', e = .returned v ∧ Exit0 P con y w ρ w' ρ' v

/-! ### What is handed over -/

/-- The places of the caller's that the callee's roots n, n + 1, .. are; their values. -/
structure Compat (ρ ρ0 : Map) (n : Nat) (ps : List Spot) (vals : List Value) : Prop where
  len : vals.length = ps.length
  hdr : ∀ (i : Nat) v, vals[i]? = some v → ρ0.hdr (n + i) = v
  root : ∀ (i l : Nat), ps[i]? = some (.root l) → (∀ b, ρ.own b = .main l → ρ0.own b = .main (n + i)) ∧ ∀ b i' j, ρ.own b = .inner l i' j → ρ0.own b = .inner (n + i) i' j
  in1 : ∀ (i l i' j : Nat), ps[i]? = some (.in1 l i' j) → ∀ b, ρ.own b = .inner l i' j → ρ0.own b = .main (n + i)

theorem Compat.left {n : Nat} {ps qs : List Spot} {vals vals' : List Value} (h : Compat ρ ρ0 n (ps ++ qs) (vals ++ vals')) (hl : vals.length = ps.length) : Compat ρ ρ0 n ps vals where
  len := hl
  hdr := fun i v hi => h.hdr i v (by rw [List.getElem?_append_left (List.getElem?_eq_some_iff.1 hi).1]; exact hi)
  root := fun i l hi => h.root i l (by rw [List.getElem?_append_left (List.getElem?_eq_some_iff.1 hi).1]; exact hi)
  in1 := fun i l i' j hi => h.in1 i l i' j (by rw [List.getElem?_append_left (List.getElem?_eq_some_iff.1 hi).1]; exact hi)

theorem Compat.right {n : Nat} {ps qs : List Spot} {vals vals' : List Value} (h : Compat ρ ρ0 n (ps ++ qs) (vals ++ vals')) (hl : vals.length = ps.length) : Compat ρ ρ0 (n + ps.length) qs vals' where
  len := by have := h.len; simp only [List.length_append] at this; omega
  hdr := fun i v hi => by
    have := h.hdr (ps.length + i) v (by rw [List.getElem?_append_right (by omega)]; rw [show ps.length + i - vals.length = i by omega]; exact hi)
    rwa [← Nat.add_assoc] at this
  root := fun i l hi => by
    have := h.root (ps.length + i) l (by rw [List.getElem?_append_right (by omega)]; rw [show ps.length + i - ps.length = i by omega]; exact hi)
    rwa [← Nat.add_assoc] at this
  in1 := fun i l i' j hi => by
    have := h.in1 (ps.length + i) l i' j (by rw [List.getElem?_append_right (by omega)]; rw [show ps.length + i - ps.length = i by omega]; exact hi)
    rwa [← Nat.add_assoc] at this

/-- What a slice's place and value are (element type e; lent: it comes back). -/
def PlaceV (s : S) (ρ : Map) (w : World) (lent : Bool) (e : Ty) : Spot → Value → Prop
  | .none, v => ∃ q, v = .slice q 0 0
  | .root l, v => ∃ xs d, s.root l = some (.arr e xs d) ∧ (d = true ∨ e.flat = true) ∧ (lent = true → v = ρ.hdr l)
  | .in1 l i j, v => lent = true ∧ e.flat = true ∧ ∃ e' xs x b n c ys, s.root l = some (.arr e' xs true) ∧ xs[i]? = some x ∧ cellAt e' x j = some ⟨.sl e, ys⟩ ∧ ρ.hdr l = .slice (some ⟨b, 0, none⟩) n c ∧ ρ.own b = .main l ∧ w.cell? ⟨b, i * e'.size + j, none⟩ = some v

/-- The element types of the slices in a type. -/
def slTys : Ty → List Ty
  | .sl e => [e]
  | .one h => slTys h
  | .cons h t => slTys h ++ slTys t
  | _ => []

theorem slTys_length : (t : Ty) → (slTys t).length = nsl t
  | .sl _ => rfl
  | .one h => slTys_length h
  | .cons h t => by simp [slTys, nsl, slTys_length h, slTys_length t]
  | .int _ | .bool | .str => rfl

/-- Places, one a slice. -/
def Places (s : S) (ρ : Map) (w : World) (lent : Bool) (es : List Ty) (ps : List Spot) (vals : List Value) : Prop :=
  ps.length = es.length ∧ vals.length = es.length ∧ ∀ (i : Nat) e p v, es[i]? = some e → ps[i]? = some p → vals[i]? = some v → PlaceV s ρ w lent e p v

theorem Places.append {s : S} {lent : Bool} {es es' : List Ty} {ps ps' : List Spot} {vals vals' : List Value} (h : Places s ρ w lent es ps vals) (h' : Places s ρ w lent es' ps' vals') : Places s ρ w lent (es ++ es') (ps ++ ps') (vals ++ vals') := by
  obtain ⟨h1, h2, h3⟩ := h
  obtain ⟨g1, g2, g3⟩ := h'
  refine ⟨by simp [h1, g1], by simp [h2, g2], fun i e p v he hp hv => ?_⟩
  by_cases hi : i < es.length
  · rw [List.getElem?_append_left hi] at he
    rw [List.getElem?_append_left (by omega)] at hp hv
    exact h3 i e p v he hp hv
  · rw [List.getElem?_append_right (by omega)] at he hp hv
    rw [h1] at hp
    rw [h2] at hv
    exact g3 _ e p v he hp hv

theorem Places.one {s : S} {lent : Bool} {e : Ty} {p : Spot} {v : Value} (h : PlaceV s ρ w lent e p v) : Places s ρ w lent [e] [p] [v] := by
  refine ⟨rfl, rfl, fun i e' p' v' he hp hv => ?_⟩
  cases i with
  | zero => simp at he hp hv; subst he; subst hp; subst hv; exact h
  | succ i => simp at he

theorem ownCells_len : (t : Ty) → (n : Nat) → (x : t.D) → (ownCells n t x).2.length = nsl t
  | .sl _, _, _ => rfl
  | .one h, n, x => ownCells_len h n x
  | .cons h t, n, x => by simp [ownCells, nsl, ownCells_len h, ownCells_len t]
  | .int _, _, _ | .bool, _, _ | .str, _, _ => rfl

theorem ownCells_size : (t : Ty) → (n : Nat) → (x : t.D) → (ownCells n t x).1.length = t.size
  | .sl _, _, _ => rfl
  | .one h, n, x => ownCells_size h n x
  | .cons h t, n, x => by simp [ownCells, Ty.size, ownCells_size h, ownCells_size t]
  | .int _, _, _ | .bool, _, _ | .str, _, _ => rfl

/-- A callee's root that is a slice of the caller's. -/
theorem root_given {V : View} (hV : Seen V s) (hroot : ∀ l r, s.root l = some r → RR P ρ w s.root l r) {mv : Bool} {c : C} {e : Ty} {xs : List e.D} {ps : List Spot} {v : Value} (h : V.held mv c (.sl e) = some (xs, ps)) (hc : CR P ρ w s.root c v) :
    ∃ p, ps = [p] ∧ PlaceV s ρ w mv e p v ∧ ∀ n ρ0, (∀ b, ρ.own b = .free → ρ0.own b = .free) → Compat ρ ρ0 n [p] [v] → RR P ρ0 w Hc n (.arr e xs true) ∧ CR P ρ0 w Hc (.ref n) v := by
  have fromRoot : ∀ (l : Nat) (ys : List e.D) (d : Bool) (m c' : Nat) (q : Option Addr), s.root l = some (.arr e ys d) → (d || e.flat) = true → ρ.hdr l = .slice q m c' → m = ys.length → ∀ k, k ≤ ys.length → v = .slice q k c' → (c' = 0 → k = 0) →
      ∀ n ρ0, (∀ b, ρ.own b = .free → ρ0.own b = .free) → Compat ρ ρ0 n [.root l] [v] → RR P ρ0 w Hc n (.arr e (ys.take k) true) ∧ CR P ρ0 w Hc (.ref n) v := by
    intro l ys d m c' q hl hd hh hm k hk hv hz n ρ0 hfree hcp
    have hr : ArrR w ρ.own (.main l) e ys (EL w ρ.own l d e) (ρ.hdr l) := hroot l _ hl
    obtain ⟨g1, g2⟩ := hcp.root 0 l rfl
    have g3 := hcp.hdr 0 v rfl
    refine ⟨?_, ⟨g3.symm, q, k, c', hv⟩⟩
    show ArrR w ρ0.own (.main n) e (ys.take k) (EL w ρ0.own n true e) (ρ0.hdr n)
    rw [show ρ0.hdr n = v from g3]
    rcases hr with ⟨q', h1, h2⟩ | ⟨b, cap, vs, T, h1, h2, h3, h4, h5, h6, h7⟩
    · rw [hh] at h1
      simp only [Value.slice.injEq] at h1
      subst h2
      simp only [List.length_nil, Nat.le_zero_eq] at hk
      refine .inl ⟨q, ?_, by simp⟩
      rw [hv, h1.2.2, hk]
    · rw [hh] at h1
      simp only [Value.slice.injEq] at h1
      obtain ⟨rfl, _, rfl⟩ := h1
      refine .inr ⟨b, c', vs, T, ?_, ?_, h3, g1 b h4, h5, h6, fun i x hx => ?_⟩
      · rw [hv, List.length_take, Nat.min_eq_left hk]
      · rw [List.length_take, Nat.min_eq_left hk]; omega
      · have hx' : ys[i]? = some x := by
          rw [List.getElem?_take] at hx
          split at hx
          · exact hx
          · cases hx
        obtain ⟨us, q1, q2, q3⟩ := h7 i x hx'
        refine ⟨us, q1, q2, ?_⟩
        unfold EL at q3 ⊢
        rw [if_pos rfl]
        split at q3
        · exact DR.rekey (fun b j hb => g2 b i j hb) e 0 x us q3
        · rename_i hdf
          have : e.flat = true := by simpa [hdf] using hd
          exact DR.ofFlat e 0 x us this q3
  cases c with
  | nils =>
    simp only [View.held, Option.some.injEq, Prod.mk.injEq] at h
    obtain ⟨rfl, rfl⟩ := h
    obtain ⟨q, rfl⟩ := hc
    refine ⟨.none, rfl, ⟨q, rfl⟩, fun n ρ0 _ hcp => ?_⟩
    have g3 : ρ0.hdr n = _ := hcp.hdr 0 _ rfl
    refine ⟨?_, g3.symm, q, 0, 0, rfl⟩
    show ArrR w ρ0.own (.main n) e [] (EL w ρ0.own n true e) (ρ0.hdr n)
    rw [g3]
    exact .inl ⟨q, rfl, rfl⟩
  | ref l =>
    simp only [View.held] at h
    split at h
    · rename_i e' ys d hl
      split at h
      · rename_i he
        subst he
        split at h
        · rename_i hd
          simp only [castD_rfl, Option.some.injEq, Prod.mk.injEq] at h
          obtain ⟨rfl, rfl⟩ := h
          obtain ⟨hv, _⟩ := hc
          have hr : ArrR w ρ.own (.main l) e' ys (EL w ρ.own l d e') (ρ.hdr l) := hroot l _ (hV l _ hl)
          obtain ⟨q, c', hs, hle⟩ := hr.slice
          refine ⟨.root l, rfl, ⟨ys, d, hV l _ hl, by simpa using hd, fun _ => hv⟩, fun n ρ0 hfree hcp => ?_⟩
          have := fromRoot l ys d ys.length c' q (hV l _ hl) hd hs rfl ys.length (Nat.le_refl _) (hv.trans hs) (fun hz => by omega) n ρ0 hfree hcp
          rwa [List.take_length] at this
        · cases h
      · cases h
    · cases h
  | pre l k =>
    simp only [View.held] at h
    split at h
    · cases h
    · rename_i hmv
      split at h
      · rename_i e' ys d hl
        split at h
        · rename_i he
          subst he
          split at h
          · rename_i hd
            simp only [castD_rfl, Option.some.injEq, Prod.mk.injEq] at h
            obtain ⟨rfl, rfl⟩ := h
            obtain ⟨q, m, c', h1, rfl, h3⟩ := hc
            have hr : ArrR w ρ.own (.main l) e' ys (EL w ρ.own l d e') (ρ.hdr l) := hroot l _ (hV l _ hl)
            obtain ⟨q', c2, hs, hle⟩ := hr.slice
            rw [h1] at hs
            simp only [Value.slice.injEq] at hs
            obtain ⟨rfl, rfl, rfl⟩ := hs
            refine ⟨.root l, rfl, ⟨ys, d, hV l _ hl, by simpa using hd, fun h => by rw [h] at hmv; exact absurd rfl hmv⟩, fun n ρ0 hfree hcp => ?_⟩
            exact fromRoot l ys d _ c' q (hV l _ hl) hd h1 rfl k h3 rfl (fun hz => by omega) n ρ0 hfree hcp
          · cases h
        · cases h
      · cases h
  | ref1 l i j u ys =>
    simp only [View.held] at h
    split at h
    · rename_i hmv
      split at h
      · rename_i he
        subst he
        simp only [castD_rfl, Option.some.injEq, Prod.mk.injEq] at h
        obtain ⟨rfl, rfl⟩ := h
        obtain ⟨e', xs, x, us, h1, h2, h3, h4, h5, b, n', c', h6, h8, h7⟩ := hc
        obtain ⟨⟨v', hv', huf, harr⟩, _⟩ := DR.at e' 0 x us h5 j _ _ v h3 h4
        simp only [List.cons.injEq, and_true] at hv'
        subst hv'
        rw [Nat.zero_add] at harr
        refine ⟨.in1 l i j, rfl, ⟨hmv, huf, e', xs, x, b, n', c', ys, h1, h2, h3, h6, h8, h7 j v h4⟩, fun n ρ0 hfree hcp => ?_⟩
        have g1 := hcp.in1 0 l i j rfl
        have g3 : ρ0.hdr n = v := hcp.hdr 0 v rfl
        obtain ⟨q, c2, hs, _⟩ := harr.slice
        refine ⟨?_, g3.symm, q, _, c2, hs⟩
        show ArrR w ρ0.own (.main n) u ys (EL w ρ0.own n true u) (ρ0.hdr n)
        rw [g3]
        refine harr.rekey (fun b hb => g1 b hb) fun i' x' us' _ hr => ?_
        unfold EL
        rw [if_pos rfl]
        exact DR.ofFlat u 0 x' us' huf hr
      · cases h
    · cases h
  | _ => simp [View.held] at h

end Go.Proofs.Ytlacogoljcpijaa.Vd

/- VdZo -/
namespace Go.Proofs.Ytlacogoljcpijaa.Vd

variable {P : Program} {E : Env} {ρ ρ' ρ0 : Map} {w w' : World} {s s' : S} {a : Act} {K : Ctx} {H H' Hc : Nat → Option Root}

theorem CsR.cons_inv {c : C} {cs : List C} {vs : List Value} (h : CsR P ρ w H (c :: cs) vs) : ∃ v vs', vs = v :: vs' ∧ CR P ρ w H c v ∧ CsR P ρ w H cs vs' := by
  obtain ⟨h1, h2⟩ := h
  cases vs with
  | nil => simp at h1
  | cons v vs' =>
    refine ⟨v, vs', rfl, h2 0 c v rfl rfl, by simpa using h1, fun j c' v' hc hv => h2 (j + 1) c' v' (by simpa using hc) (by simpa using hv)⟩

theorem CsR.nil : CsR P ρ w H [] [] := ⟨rfl, fun j c v hc _ => by simp at hc⟩

theorem held_prim {V : View} {mv : Bool} {c : C} {t : Ty} {x : t.D} {ps : List Spot} {v : Value} (ht : ∀ e, t ≠ .sl e) (hf : t.flat = true) (h : V.held mv c t = some (x, ps)) (hc : CR P ρ w s.root c v) :
    ps = [] ∧ t.agg = false ∧ ∀ A, Rd w A t x [v] := by
  cases c with
  | v t' x' deps =>
    have key : (if h : t' = t then some (castD h x', []) else none : Option (t.D × List Spot)) = some (x, ps) := by
      cases t <;> first | exact absurd rfl (ht _) | exact h
    split at key
    · rename_i he
      subst he
      simp only [castD_rfl, Option.some.injEq, Prod.mk.injEq] at key
      obtain ⟨rfl, rfl⟩ := key
      exact ⟨rfl, hc.1, fun A => Rd.flat _ _ _ hf hc.2⟩
    · cases key
  | _ => exfalso; cases t <;> first | exact absurd rfl (ht _) | simp [View.held] at h

theorem heldAll_given {V : View} (hV : Seen V s) (hroot : ∀ l r, s.root l = some r → RR P ρ w s.root l r) {mv : Bool} : (t : Ty) → (cs : List C) → ∀ (x : t.D) ps rest vs, V.heldAll mv t cs = some (x, ps, rest) → CsR P ρ w s.root cs vs →
    ∃ v1 v2 vals, vs = v1 ++ v2 ∧ CsR P ρ w s.root rest v2 ∧ Places s ρ w mv (slTys t) ps vals ∧ ∀ n ρ0, (∀ b, ρ.own b = .free → ρ0.own b = .free) → Compat ρ ρ0 n ps vals →
      CsR P ρ0 w Hc (ownCells n t x).1 v1 ∧ ∀ (i : Nat) r, (ownCells n t x).2[i]? = some r → RR P ρ0 w Hc (n + i) r
  | .one h, cs, x, ps, rest, vs, hh, hc => heldAll_given hV hroot h cs x ps rest vs hh hc
  | .cons h t, cs, x, ps, rest, vs, hh, hc => by
    simp only [View.heldAll] at hh
    split at hh
    · rename_i x1 p1 r1 h1
      split at hh
      · rename_i x2 p2 r2 h2
        simp only [Option.some.injEq, Prod.mk.injEq] at hh
        obtain ⟨rfl, rfl, rfl⟩ := hh
        obtain ⟨v1, v2, vals1, rfl, g2, g3, g4⟩ := heldAll_given hV hroot h cs x1 p1 r1 vs h1 hc
        obtain ⟨u1, u2, vals2, rfl, k2, k3, k4⟩ := heldAll_given hV hroot t r1 x2 p2 r2 v2 h2 g2
        refine ⟨v1 ++ u1, u2, vals1 ++ vals2, by simp, k2, g3.append k3, fun n ρ0 hfr hcp => ?_⟩
        have hl : vals1.length = p1.length := by rw [g3.1, g3.2.1]
        obtain ⟨q1, q2⟩ := g4 n ρ0 hfr (hcp.left hl)
        have hn : (ownCells n h x1).2.length = p1.length := by rw [ownCells_len, ← slTys_length, g3.1]
        obtain ⟨q3, q4⟩ := k4 (n + p1.length) ρ0 hfr (hcp.right hl)
        simp only [ownCells, hn]
        refine ⟨q1.append q3, fun i r hi => ?_⟩
        by_cases hlt : i < p1.length
        · rw [List.getElem?_append_left (by omega)] at hi
          exact q2 i r hi
        · rw [List.getElem?_append_right (by omega), hn] at hi
          have := q4 _ r hi
          rwa [show n + p1.length + (i - p1.length) = n + i by omega] at this
      · cases hh
    · cases hh
  | .int k, [], _, _, _, _, hh, _ | .bool, [], _, _, _, _, hh, _ | .str, [], _, _, _, _, hh, _ | .sl e, [], _, _, _, _, hh, _ => by simp [View.heldAll] at hh
  | .int k, c :: cs, x, ps, rest, vs, hh, hc => by
    obtain ⟨v, vs', rfl, h1, h2⟩ := hc.cons_inv
    simp only [View.heldAll] at hh
    split at hh
    · rename_i x1 p1 h3
      simp only [Option.some.injEq, Prod.mk.injEq] at hh
      obtain ⟨rfl, rfl, rfl⟩ := hh
      obtain ⟨rfl, g2, g3⟩ := held_prim (fun e => by simp) rfl h3 h1
      exact ⟨[v], vs', [], rfl, h2, ⟨rfl, rfl, fun i e p v he => by simp [slTys] at he⟩, fun n ρ0 _ _ => ⟨CsR.single ⟨rfl, g3 _⟩, fun i r hi => by simp [ownCells] at hi⟩⟩
    · cases hh
  | .bool, c :: cs, x, ps, rest, vs, hh, hc => by
    obtain ⟨v, vs', rfl, h1, h2⟩ := hc.cons_inv
    simp only [View.heldAll] at hh
    split at hh
    · rename_i x1 p1 h3
      simp only [Option.some.injEq, Prod.mk.injEq] at hh
      obtain ⟨rfl, rfl, rfl⟩ := hh
      obtain ⟨rfl, g2, g3⟩ := held_prim (fun e => by simp) rfl h3 h1
      exact ⟨[v], vs', [], rfl, h2, ⟨rfl, rfl, fun i e p v he => by simp [slTys] at he⟩, fun n ρ0 _ _ => ⟨CsR.single ⟨rfl, g3 _⟩, fun i r hi => by simp [ownCells] at hi⟩⟩
    · cases hh
  | .str, c :: cs, x, ps, rest, vs, hh, hc => by
    obtain ⟨v, vs', rfl, h1, h2⟩ := hc.cons_inv
    simp only [View.heldAll] at hh
    split at hh
    · rename_i x1 p1 h3
      simp only [Option.some.injEq, Prod.mk.injEq] at hh
      obtain ⟨rfl, rfl, rfl⟩ := hh
      obtain ⟨rfl, g2, g3⟩ := held_prim (fun e => by simp) rfl h3 h1
      exact ⟨[v], vs', [], rfl, h2, ⟨rfl, rfl, fun i e p v he => by simp [slTys] at he⟩, fun n ρ0 _ _ => ⟨CsR.single ⟨rfl, g3 _⟩, fun i r hi => by simp [ownCells] at hi⟩⟩
    · cases hh
  | .sl e, c :: cs, x, ps, rest, vs, hh, hc => by
    obtain ⟨v, vs', rfl, h1, h2⟩ := hc.cons_inv
    simp only [View.heldAll] at hh
    split at hh
    · rename_i x1 p1 h3
      simp only [Option.some.injEq, Prod.mk.injEq] at hh
      obtain ⟨rfl, rfl, rfl⟩ := hh
      obtain ⟨p, rfl, g2, g3⟩ := root_given (Hc := Hc) hV hroot h3 h1
      refine ⟨[v], vs', [v], rfl, h2, Places.one g2, fun n ρ0 hfr hcp => ?_⟩
      obtain ⟨q1, q2⟩ := g3 n ρ0 hfr hcp
      refine ⟨CsR.single q2, fun i r hi => ?_⟩
      cases i with
      | zero =>
        simp only [ownCells, List.getElem?_cons_zero, Option.some.injEq] at hi
        subst hi
        exact q1
      | succ i => simp [ownCells] at hi
    · cases hh

/-- Data that are read, in cells. -/
theorem Rd.cells {own : Nat → Own} {deps : List Nat} : (t : Ty) → (x : t.D) → (vs : List Value) → ρ.own = own → Rd w (Al own deps) t x vs → CsR P ρ w H (expand deps t x) vs
  | .one h, x, vs, ho, hr => Rd.cells h x vs ho hr
  | .cons h t, x, vs, ho, hr => by
    obtain ⟨v1, v2, rfl, h1, h2⟩ := hr
    exact (Rd.cells h x.1 v1 ho h1).append (Rd.cells t x.2 v2 ho h2)
  | .int k, x, vs, ho, hr => by
    simp only [Rd] at hr
    subst hr
    exact CsR.single ⟨rfl, rfl⟩
  | .bool, x, vs, ho, hr => by
    simp only [Rd] at hr
    subst hr
    exact CsR.single ⟨rfl, rfl⟩
  | .str, x, vs, ho, hr => by
    simp only [Rd] at hr
    subst hr
    exact CsR.single ⟨rfl, rfl⟩
  | .sl e, x, vs, ho, hr => by
    have h := hr
    obtain ⟨q, cap, rfl, _⟩ := h
    exact CsR.single ⟨rfl, by rw [ho]; exact hr⟩

theorem VD.rel {deps : List Nat} {t : Ty} {x : t.D} {v : Value} (h : VD w (Al ρ.own deps) t x v) : AR P ρ w H (ofData deps t x) v := by
  obtain ⟨vs, h1, h2⟩ := h
  exact ⟨vs, Rd.cells t x vs rfl h1, h2⟩

theorem hold_given {V : View} (hV : Seen V s) (hroot : ∀ l r, s.root l = some r → RR P ρ w s.root l r) {mv : Bool} {t : Ty} {A : A} {x : t.D} {ps : List Spot} {v : Value} (h : V.hold mv t A = some (x, ps)) (ha : AR P ρ w s.root A v) :
    ∃ vals, Places s ρ w mv (slTys t) ps vals ∧ ∀ n ρ0, (∀ b, ρ.own b = .free → ρ0.own b = .free) → Compat ρ ρ0 n ps vals →
      AR P ρ0 w Hc (.val t.agg (ownCells n t x).1) v ∧ ∀ (i : Nat) r, (ownCells n t x).2[i]? = some r → RR P ρ0 w Hc (n + i) r := by
  unfold View.hold at h
  split at h
  · rename_i g cs
    split at h
    · rename_i hg
      split at h
      · rename_i x' p' hh
        simp only [Option.some.injEq, Prod.mk.injEq] at h
        obtain ⟨rfl, rfl⟩ := h
        obtain ⟨vs, hc, hv⟩ := ha
        obtain ⟨v1, v2, vals, rfl, g2, g3, g4⟩ := heldAll_given (Hc := Hc) hV hroot t cs _ _ _ _ hh hc
        have : v2 = [] := by have := g2.1; simpa using this.symm
        subst this
        rw [List.append_nil] at hv
        refine ⟨vals, g3, fun n ρ0 hfr hcp => ?_⟩
        obtain ⟨q1, q2⟩ := g4 n ρ0 hfr hcp
        rw [hg] at hv
        exact ⟨⟨v1, q1, hv⟩, q2⟩
      · cases h
    · cases h
  · cases h

end Go.Proofs.Ytlacogoljcpijaa.Vd

