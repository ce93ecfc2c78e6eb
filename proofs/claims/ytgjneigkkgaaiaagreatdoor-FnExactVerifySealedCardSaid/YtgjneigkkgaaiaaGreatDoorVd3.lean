/- A typed abstract semantics of Go code and its soundness over the model: part 3. No conditions. -/
import Derived.Test.YtgjneigkkgaaiaaGreatDoorVd2
set_option linter.unusedVariables false
set_option linter.unusedSimpArgs false
set_option linter.unusedSectionVars false
set_option linter.unnecessarySimpa false
/- VdZi -/
namespace Go.Proofs.YtgjneigkkgaaiaaGreatDoor.Vd

variable {P : Program} {E : Env} {ρ ρ' : Map} {w w' : World} {s s' : S} {a : Act} {K : Ctx} {H H' : Nat → Option Root} {t : Tm}

/-- A state s' that was come to from s (entered or gone round), with the holes of t filled. -/
structure Reopen (P : Program) (E : Env) (K : Ctx) (ρ : Map) (s s' : S) (t : Tm) (a : Act) (w : World) (y : Its t.items) : Prop where
  in0 : ∃ x0, s.takes t.items = some x0
  now : s'.takes t.items = some y
  fit : s.fitIn E t = true
  rel : Rel P K ρ s' a w
  len : s'.fr.length = s.fr.length
  more : s.H.length ≤ s'.H.length
  fr : ∀ i : Nat, i ∉ t.kill → i ∉ t.items.flatMap It.slots → s'.fr[i]? = s.fr[i]? ∨ s'.fr[i]? = (s.fr[i]?).map (A.left (allOf (t.items.flatMap s.ownLoc)))
  root : ∀ l : Nat, l < s.H.length → l ∉ t.items.flatMap s.locs → s'.root l = s.root l ∨ s'.root l = (s.root l).map (Root.left (allOf (t.items.flatMap s.ownLoc)))
  nd : (t.items.flatMap s'.ownLoc).Nodup
  own : ∀ l ∈ t.items.flatMap s'.ownLoc, s.H.length ≤ l ∨ l ∈ t.items.flatMap s.ownLoc
  box : ∀ l ∈ t.items.flatMap s.boxLoc, s.boxLen l = s'.boxLen l
  fix : ∀ l v, (l, v) ∈ K.fix → l < s.H.length ∧ l ∉ t.items.flatMap s.ownLoc

/-- The head's state, before the holes are filled. -/
def S.base (s : S) (t : Tm) : S :=
  { s.opened t with fr := killSlots (s.opened t).fr t.kill, H := blankAll (dropAll (s.opened t).H (t.items.flatMap s.ownLoc)) (t.items.flatMap s.boxLoc), dF := [], dH := [] }

theorem at_eq (s : S) (t : Tm) (x : Its t.items) : s.at t x = { (s.base t).gives t.items x with dF := [], dH := [] } := rfl

theorem opened_eq (s : S) (t : Tm) : s.opened t = s.swept (allOf (t.items.flatMap s.ownLoc)) := rfl

theorem base_fr (s : S) (t : Tm) (i : Nat) : (s.base t).fr[i]? = if i ∈ t.kill then (s.fr[i]?).map fun _ => .any else (s.fr[i]?).map (A.left (allOf (t.items.flatMap s.ownLoc))) := by
  simp only [S.base, killSlots_get, opened_eq, swept_fr, List.getElem?_map, Option.map_map]
  rfl

theorem base_len (s : S) (t : Tm) : (s.base t).fr.length = s.fr.length := by
  simp [S.base, killSlots_length, opened_eq, swept_fr]

theorem base_H (s : S) (t : Tm) : (s.base t).H.length = s.H.length := by
  simp [S.base, blankAll_length, dropAll_length, opened_eq, swept_H]

theorem base_root (s : S) (t : Tm) (l : Nat) : (s.base t).root l = if l ∈ t.items.flatMap s.boxLoc then blank (if l ∈ t.items.flatMap s.ownLoc then none else (s.root l).map (Root.left (allOf (t.items.flatMap s.ownLoc))))
    else if l ∈ t.items.flatMap s.ownLoc then none else (s.root l).map (Root.left (allOf (t.items.flatMap s.ownLoc))) := by
  have h : (s.opened t).H.getD l none = (s.root l).map (Root.left (allOf (t.items.flatMap s.ownLoc))) := swept_root _ s l
  show (blankAll (dropAll (s.opened t).H (t.items.flatMap s.ownLoc)) (t.items.flatMap s.boxLoc)).getD l none = _
  rw [blankAll_get, dropAll_get, h]

structure Fit (s : S) (E : Env) (t : Tm) : Prop where
  nd : (t.items.flatMap s.ownLoc).Nodup
  frwf : ∀ (i : Nat) x, s.fr[i]? = some x → A.wf s.H.length x = true
  rwf : ∀ (l : Nat) r, s.root l = some r → Root.wf s.H.length r = true
  fits : t.fits [] t.items = true
  slots : (t.items.flatMap It.slots).Nodup
  alive : ∀ i ∈ t.items.flatMap It.slots, i ∉ t.kill
  nofix : ∀ l ∈ t.items.flatMap s.ownLoc, l ∉ E.fix
  ref : ∀ i : Nat, i ∈ t.items.flatMap It.via ∨ i ∈ t.items.flatMap It.deps → i ∉ t.items.flatMap It.slots → ∀ l, s.fr[i]? = some (.c (.ref l)) → l ∉ t.items.flatMap s.ownLoc

theorem fitIn_spec (h : s.fitIn E t = true) : Fit s E t := by
  unfold S.fitIn S.wf Tm.ok at h
  simp only [Bool.and_eq_true, decide_eq_true_eq, List.all_eq_true, Bool.not_eq_true', List.contains_eq_mem, decide_eq_false_iff_not, Bool.or_eq_true, List.mem_append] at h
  obtain ⟨⟨⟨⟨h1, h2, h3⟩, ⟨h4, h5⟩, h6⟩, h7⟩, h8⟩ := h
  refine ⟨h1, fun i x hi => h2 x (List.mem_of_getElem? hi), fun l r hl => ?_, h4, h5, h6, h7, fun i hi hn l hl => ?_⟩
  · simp only [S.root, List.getD_eq_getElem?_getD] at hl
    cases hl0 : s.H[l]? with
    | none => rw [hl0] at hl; cases hl
    | some o =>
      rw [hl0] at hl
      have := h3 o (List.mem_of_getElem? hl0)
      simp only [Option.getD_some] at hl
      subst hl
      exact this
  · rcases h8 i hi with h | h
    · exact absurd h hn
    · rw [getD_of hl] at h
      simpa using h

theorem root_lt {l : Nat} {r : Root} (h : s.root l = some r) : l < s.H.length := by
  simp only [S.root, List.getD_eq_getElem?_getD] at h
  rcases Nat.lt_or_ge l s.H.length with h1 | h1
  · exact h1
  · rw [List.getElem?_eq_none h1] at h
    cases h

theorem ownLoc_arr {it : It} {x : it.D} (h : s.take it = some x) {l : Nat} (hl : l ∈ s.ownLoc it) : ∃ e xs d, s.root l = some (.arr e xs d) := by
  have key : ∀ (e : Ty) (d : Bool) (c : C) (x : List e.D), s.takeC c (.own e d) = some x → l ∈ refsOf c → ∃ e xs d, s.root l = some (.arr e xs d) := by
    intro e d c x h hl
    simp only [S.takeC] at h
    split at h
    · simp [refsOf] at hl
    · rename_i l'
      simp only [refsOf, List.mem_singleton] at hl
      subst hl
      split at h
      · rename_i e' xs d' hr; exact ⟨e', xs, d', hr⟩
      · cases h
    · cases h
  cases it with
  | slot i k =>
    cases k with
    | data t ds => simp [S.ownLoc] at hl
    | own e d =>
      simp only [S.take] at h
      split at h
      · rename_i c hc
        refine key e d c x h ?_
        simp only [S.ownLoc, hc] at hl
        cases c <;> first | (simp at hl; done) | simpa [refsOf] using hl
      · cases h
  | cell i off k =>
    cases k with
    | data t ds => simp [S.ownLoc] at hl
    | own e d =>
      simp only [S.take] at h
      split at h
      · rename_i l0 hc
        split at h
        · rename_i cs hl0
          split at h
          · rename_i c hco
            refine key e d c x h ?_
            simp only [S.ownLoc, hc, hl0, hco] at hl
            cases c <;> first | (simp at hl; done) | simpa [refsOf] using hl
          · cases h
        · cases h
      · cases h
  | arr i e d => simp [S.ownLoc] at hl

theorem left_ref {D : List Nat} {x : A} {l : Nat} (h : x.left (allOf D) = .c (.ref l)) : x = .c (.ref l) ∧ l ∉ D := by
  cases x with
  | none => cases h
  | any => cases h
  | tup vs => cases h
  | val g cs =>
    simp only [A.left, A.val.injEq] at h
    obtain ⟨rfl, h⟩ := h
    match cs, h with
    | [c], h =>
      simp only [List.map_cons, List.map_nil, List.cons.injEq, and_true, C.left_allOf] at h
      split at h
      · cases h
      · rename_i hd
        subst h
        exact ⟨rfl, fun hm => hd (dies_allOf.2 ⟨l, hm, by simp [C.names]⟩)⟩
    | [], h => cases h
    | _ :: _ :: _, h => simp at h

theorem left_of_ref {D : List Nat} {l : Nat} (h : l ∉ D) : (A.c (.ref l)).left (allOf D) = .c (.ref l) := by
  simp only [A.left, List.map_cons, List.map_nil, C.left_allOf]
  rw [if_neg (fun hd => by
    obtain ⟨l', h1, h2⟩ := dies_allOf.1 hd
    simp only [C.names, List.mem_singleton] at h2
    exact h (h2 ▸ h1))]

theorem left_of_bp {D : List Nat} {l o : Nat} (h : l ∉ D) : (A.c (.bp l o)).left (allOf D) = .c (.bp l o) := by
  simp only [A.left, List.map_cons, List.map_nil, C.left_allOf]
  rw [if_neg (fun hd => by
    obtain ⟨l', h1, h2⟩ := dies_allOf.1 hd
    simp only [C.names, List.mem_singleton] at h2
    exact h (h2 ▸ h1))]

theorem fits_via : ∀ (r : List It) (done : List Nat), t.fits done r = true → ∀ it ∈ r, ∀ i ∈ it.via, i ∉ t.kill ∧ i ∉ t.items.flatMap It.slots
  | [], _, _, it, hm, _, _ => by cases hm
  | it0 :: r, done, h, it, hm, i, hi => by
    unfold Tm.fits at h
    simp only [Bool.and_eq_true] at h
    rcases List.mem_cons.1 hm with rfl | hm
    · have := List.all_eq_true.1 h.1.1 i hi
      simp only [Bool.and_eq_true, Bool.not_eq_true', List.contains_eq_mem, decide_eq_false_iff_not, List.any_eq_false] at this
      refine ⟨this.1, fun hs => ?_⟩
      obtain ⟨q, hq, hq'⟩ := List.mem_flatMap.1 hs
      exact this.2 q hq (by simpa using hq')
    · exact fits_via r _ h.2 it hm i hi

theorem fits_deps {it : It} {r : List It} {done : List Nat} (h : t.fits done (it :: r) = true) : ∀ i ∈ it.deps, i ∈ done ∨ (i ∉ t.kill ∧ i ∉ t.items.flatMap It.slots) := by
  unfold Tm.fits at h
  simp only [Bool.and_eq_true] at h
  intro i hi
  have := List.all_eq_true.1 h.1.2 i hi
  simp only [Bool.or_eq_true, Bool.and_eq_true, Bool.not_eq_true', List.contains_eq_mem, decide_eq_false_iff_not, decide_eq_true_eq, List.any_eq_false] at this
  rcases this with h1 | ⟨h1, h2⟩
  · exact .inl h1
  · refine .inr ⟨h1, fun hs => ?_⟩
    obtain ⟨q, hq, hq'⟩ := List.mem_flatMap.1 hs
    exact h2 q hq (by simpa using hq')

variable {y : Its t.items}

/-- A variable with holes: it is where it was. -/
theorem Reopen.cell (h : Reopen P E K ρ s s' t a w y) {i off : Nat} {k : HK} (hm : It.cell i off k ∈ t.items) :
    ∃ l, s.fr[i]? = some (.c (.bp l 0)) ∧ s'.fr[i]? = some (.c (.bp l 0)) ∧ (s.base t).fr[i]? = some (.c (.bp l 0)) ∧ l ∈ t.items.flatMap s.boxLoc ∧ l ∉ t.items.flatMap s.ownLoc ∧ l < s.H.length ∧
      ∃ cs, s.root l = some (.box cs) := by
  have hf := fitIn_spec h.fit
  obtain ⟨x0, hx0⟩ := h.in0
  obtain ⟨x, hx⟩ := takes_mem hx0 _ hm
  have hv := fits_via t.items [] hf.fits _ hm i (by simp [It.via])
  simp only [S.take] at hx
  split at hx
  · rename_i l hc
    have h1 := getD_some hc
    split at hx
    · rename_i cs hl
      have hL : l ∉ t.items.flatMap s.ownLoc := by
        intro hL
        obtain ⟨it, hit, hlo⟩ := List.mem_flatMap.1 hL
        obtain ⟨z, hz⟩ := takes_mem hx0 it hit
        obtain ⟨e, xs, d, hr⟩ := ownLoc_arr hz hlo
        rw [hl] at hr
        cases hr
      refine ⟨l, h1, ?_, ?_, List.mem_flatMap.2 ⟨_, hm, by simp only [S.boxLoc, hc, List.mem_singleton]⟩, hL, root_lt hl, cs, hl⟩
      · rcases h.fr i hv.1 hv.2 with h2 | h2
        · rw [h2, h1]
        · rw [h2, h1, Option.map_some, left_of_bp hL]
      · rw [base_fr, if_neg hv.1, h1, Option.map_some, left_of_bp hL]
    · cases hx
  · cases hx

theorem Reopen.arr (h : Reopen P E K ρ s s' t a w y) {i : Nat} {e : Ty} {d : Bool} (hm : It.arr i e d ∈ t.items) :
    ∃ l, s.fr[i]? = some (.c (.ref l)) ∧ s'.fr[i]? = some (.c (.ref l)) ∧ (s.base t).fr[i]? = some (.c (.ref l)) ∧ l ∉ t.items.flatMap s.ownLoc ∧ l < s.H.length := by
  have hf := fitIn_spec h.fit
  obtain ⟨x0, hx0⟩ := h.in0
  obtain ⟨x, hx⟩ := takes_mem hx0 _ hm
  have hv := fits_via t.items [] hf.fits _ hm i (by simp [It.via])
  obtain ⟨l, h1, h2⟩ := take_arr hx
  have hL := hf.ref i (.inl (List.mem_flatMap.2 ⟨_, hm, by simp [It.via]⟩)) hv.2 l h1
  refine ⟨l, h1, ?_, ?_, hL, root_lt h2⟩
  · rcases h.fr i hv.1 hv.2 with h3 | h3
    · rw [h3, h1]
    · rw [h3, h1, Option.map_some, left_of_ref hL]
  · rw [base_fr, if_neg hv.1, h1, Option.map_some, left_of_ref hL]

/-- A slot that a hole's datum borrows through, and that is no hole itself. -/
theorem Reopen.dep (h : Reopen P E K ρ s s' t a w y) {i : Nat} (hi : i ∈ t.items.flatMap It.deps) (hk : i ∉ t.kill) (hs : i ∉ t.items.flatMap It.slots) {l : Nat} (hl : s'.fr[i]? = some (.c (.ref l))) :
    (s.base t).fr[i]? = some (.c (.ref l)) ∧ l ∉ t.items.flatMap s.ownLoc ∧ l < s.H.length := by
  have hf := fitIn_spec h.fit
  have key : s.fr[i]? = some (.c (.ref l)) ∧ l ∉ t.items.flatMap s.ownLoc := by
    rcases h.fr i hk hs with h3 | h3
    · have h1 := h3.symm.trans hl
      exact ⟨h1, hf.ref i (.inr hi) hs l h1⟩
    · rw [hl] at h3
      cases h4 : s.fr[i]? with
      | none => rw [h4] at h3; cases h3
      | some x =>
        rw [h4] at h3
        simp only [Option.map_some, Option.some.injEq] at h3
        obtain ⟨rfl, hL⟩ := left_ref h3.symm
        exact ⟨rfl, hL⟩
  obtain ⟨h1, hL⟩ := key
  refine ⟨by rw [base_fr, if_neg hk, h1, Option.map_some, left_of_ref hL], hL, ?_⟩
  have := hf.frwf i _ h1
  simpa [A.wf, C.wf, C.names] using this

end Go.Proofs.YtgjneigkkgaaiaaGreatDoor.Vd

/- VdZj -/
namespace Go.Proofs.YtgjneigkkgaaiaaGreatDoor.Vd

variable {P : Program} {E : Env} {ρ ρ' : Map} {w w' : World} {s s' : S} {a : Act} {K : Ctx} {H H' : Nat → Option Root} {t : Tm} {y : Its t.items}

/-- A state that is being filled: variables with holes are variables; the slots that are no holes are as they were. -/
structure Part (s : S) (t : Tm) (sc : S) : Prop where
  len : sc.fr.length = s.fr.length
  fr : ∀ i : Nat, i ∉ t.items.flatMap It.slots → sc.fr[i]? = (s.base t).fr[i]?
  box : ∀ l : Nat, ∀ cs, s.root l = some (.box cs) → l ∈ t.items.flatMap s.boxLoc → l ∉ t.items.flatMap s.ownLoc → ∃ cs', sc.root l = some (.box cs')
  more : s.H.length ≤ sc.H.length

theorem Part.base (s : S) (t : Tm) : Part s t (s.base t) where
  len := base_len s t
  fr := fun _ _ => rfl
  box := fun l cs hl hb hn => by
    rw [base_root, if_pos hb, if_neg hn, hl]
    exact ⟨_, rfl⟩
  more := by rw [base_H]; exact Nat.le_refl _

theorem root_append {H : List (Option Root)} {r : Option Root} {l : Nat} : (H ++ [r]).getD l none = if l = H.length then r else H.getD l none := by
  simp only [List.getD_eq_getElem?_getD]
  rcases Nat.lt_trichotomy l H.length with h | h | h
  · rw [List.getElem?_append_left h, if_neg (by omega)]
  · subst h; simp
  · rw [List.getElem?_append_right (by omega), if_neg (by omega), List.getElem?_eq_none (by simp; omega), List.getElem?_eq_none (by omega)]

theorem root_setI {H : List (Option Root)} {r : Option Root} {l m : Nat} : (H.set m r).getD l none = if l = m ∧ m < H.length then r else H.getD l none := by
  simp only [List.getD_eq_getElem?_getD, List.getElem?_set]
  by_cases h : m = l
  · subst h
    by_cases h2 : m < H.length
    · simp [h2]
    · simp [h2]
  · simp [h, Ne.symm h]

/-- One hole is filled: the roots. -/
theorem giveC_root (s : S) (k : HK) (x : k.D) (l : Nat) : (s.giveC k x).2.root l = match k, x with
    | .data _ _, _ => s.root l
    | .own e d, x => if l = s.H.length then some (.arr e x d) else s.root l := by
  cases k with
  | data t ds => rfl
  | own e d => exact root_append

theorem give_slot_root (s : S) (i : Nat) (k : HK) (x : k.D) (l : Nat) : (s.give (.slot i k) x).root l = (s.giveC k x).2.root l := rfl

theorem give_cell_root {s : S} {i off : Nat} {k : HK} {x : k.D} {l0 : Nat} {cs : List C} (h1 : s.fr[i]? = some (.c (.bp l0 0))) (h2 : s.root l0 = some (.box cs)) (l : Nat) :
    (s.give (.cell i off k) x).root l = if l = l0 then some (.box (cs.set off (s.giveC k x).1)) else (s.giveC k x).2.root l := by
  have hlt : l0 < (s.giveC k x).2.H.length := by
    have := root_lt h2
    cases k <;> simp [S.giveC] <;> omega
  have he : s.give (.cell i off k) x = { (s.giveC k x).2 with H := (s.giveC k x).2.H.set l0 (some (.box (cs.set off (s.giveC k x).1))) } := by
    simp only [S.give, getD_of h1, h2]
  rw [he]
  show ((s.giveC k x).2.H.set l0 _).getD l none = _
  rw [root_setI]
  by_cases hl : l = l0
  · simp [hl, hlt]
  · simp [hl, S.root]

theorem give_arr_root {s : S} {i : Nat} {e : Ty} {d : Bool} {x : List e.D} {l0 : Nat} (h1 : s.fr[i]? = some (.c (.ref l0))) (h2 : l0 < s.H.length) (l : Nat) :
    (s.give (.arr i e d) x).root l = if l = l0 then some (.arr e x d) else s.root l := by
  simp only [S.give, getD_of h1, S.root, root_setI]
  by_cases hl : l = l0
  · simp [hl, h2]
  · simp [hl]

theorem give_H {s : S} {it : It} {x : it.D} (h : ∀ i off k, it = .cell i off k → ∃ l cs, s.fr[i]? = some (.c (.bp l 0)) ∧ s.root l = some (.box cs)) : (s.give it x).H.length = s.H.length + if it.own = true then 1 else 0 := by
  cases it with
  | slot i k => cases k <;> simp [S.give, S.giveC, It.own]
  | cell i off k =>
    obtain ⟨l, cs, h1, h2⟩ := h i off k rfl
    simp only [S.give, getD_of h1, h2]
    cases k <;> simp [S.giveC, It.own]
  | arr i e d =>
    simp only [S.give]
    split <;> simp [It.own]

theorem Reopen.partCell (h : Reopen P E K ρ s s' t a w y) {sc : S} (hp : Part s t sc) {i off : Nat} {k : HK} (hm : It.cell i off k ∈ t.items) :
    ∃ l cs, s'.fr[i]? = some (.c (.bp l 0)) ∧ sc.fr[i]? = some (.c (.bp l 0)) ∧ sc.root l = some (.box cs) ∧ l ∉ t.items.flatMap s.ownLoc ∧ l < s.H.length ∧ l ∈ t.items.flatMap s.boxLoc ∧ ∃ cs0, s.root l = some (.box cs0) := by
  obtain ⟨l, h1, h2, h3, h4, h5, h6, cs0, h7⟩ := h.cell hm
  obtain ⟨cs, h8⟩ := hp.box l cs0 h7 h4 h5
  have hv := fits_via t.items [] (fitIn_spec h.fit).fits _ hm i (by simp [It.via])
  exact ⟨l, cs, h2, (hp.fr i hv.2).trans h3, h8, h5, h6, h4, cs0, h7⟩

theorem Reopen.partArr (h : Reopen P E K ρ s s' t a w y) {sc : S} (hp : Part s t sc) {i : Nat} {e : Ty} {d : Bool} (hm : It.arr i e d ∈ t.items) :
    ∃ l, s'.fr[i]? = some (.c (.ref l)) ∧ sc.fr[i]? = some (.c (.ref l)) ∧ l ∉ t.items.flatMap s.ownLoc ∧ l < s.H.length := by
  obtain ⟨l, h1, h2, h3, h4, h5⟩ := h.arr hm
  have hv := fits_via t.items [] (fitIn_spec h.fit).fits _ hm i (by simp [It.via])
  exact ⟨l, h2, (hp.fr i hv.2).trans h3, h4, h5⟩

/-- A variable is no array. -/
theorem Reopen.notArr (h : Reopen P E K ρ s s' t a w y) {i : Nat} {e : Ty} {d : Bool} (hm : It.arr i e d ∈ t.items) {l : Nat} (hl : s.fr[i]? = some (.c (.ref l))) {cs : List C} : s.root l ≠ some (.box cs) := by
  obtain ⟨x0, hx0⟩ := h.in0
  obtain ⟨x, hx⟩ := takes_mem hx0 _ hm
  obtain ⟨l', h1, h2⟩ := take_arr hx
  rw [hl] at h1
  simp only [Option.some.injEq, A.val.injEq, List.cons.injEq, C.ref.injEq, and_true, true_and] at h1
  subst h1
  rw [h2]
  simp

theorem Reopen.step (h : Reopen P E K ρ s s' t a w y) {sc : S} (hp : Part s t sc) {it : It} (hm : it ∈ t.items) (x : it.D) : Part s t (sc.give it x) where
  len := (give_len sc it x).trans hp.len
  fr := fun i hi => (give_fr sc it x i (fun h' => hi (List.mem_flatMap.2 ⟨it, hm, h'⟩))).trans (hp.fr i hi)
  more := Nat.le_trans hp.more (by
    cases it with
    | slot i k => cases k <;> simp [S.give, S.giveC]
    | cell i off k =>
      obtain ⟨l, cs, _, h1, h2, _⟩ := h.partCell hp hm
      simp only [S.give, getD_of h1, h2]
      cases k <;> simp [S.giveC]
    | arr i e d => simp only [S.give]; split <;> simp)
  box := fun l cs hl hb hn => by
    obtain ⟨cs', h1⟩ := hp.box l cs hl hb hn
    have hgc : ∀ (k : HK) (x : k.D), (sc.giveC k x).2.root l = some (.box cs') := fun k x => by
      rw [giveC_root]
      cases k with
      | data t ds => exact h1
      | own e d =>
        have := root_lt h1
        dsimp only
        rw [if_neg (by omega)]
        exact h1
    cases it with
    | slot i k => exact ⟨cs', by rw [give_slot_root]; exact hgc k x⟩
    | cell i off k =>
      obtain ⟨l0, cs0, _, h2, h3, _⟩ := h.partCell hp hm
      rw [give_cell_root h2 h3]
      split
      · exact ⟨_, rfl⟩
      · exact ⟨cs', hgc k x⟩
    | arr i e d =>
      obtain ⟨l0, h5, h6, h7, h8, h9⟩ := h.arr hm
      obtain ⟨l0', h2, h3, h4, h4'⟩ := h.partArr hp hm
      rw [h6] at h2
      simp only [Option.some.injEq, A.val.injEq, List.cons.injEq, C.ref.injEq, and_true, true_and] at h2
      subst h2
      rw [give_arr_root h3 (Nat.lt_of_lt_of_le h4' hp.more)]
      split
      · rename_i he
        subst he
        exact absurd hl (h.notArr hm h5)
      · exact ⟨cs', h1⟩

/-- Arrays that are not renamed hold what they held. -/
theorem Reopen.arrs (h : Reopen P E K ρ s s' t a w y) {l : Nat} {e : Ty} {xs : List e.D} {d : Bool} (hl : l < s.H.length) (hL : l ∉ t.items.flatMap s.ownLoc) (hr : s'.root l = some (.arr e xs d)) :
    ∀ (r : List It) (z : Its r) (sc : S), (∀ it ∈ r, it ∈ t.items) → s'.takes r = some z → Part s t sc →
      (sc.root l = some (.arr e xs d) ∨ ∃ i e d, It.arr i e d ∈ r ∧ s'.fr[i]? = some (.c (.ref l))) → (sc.gives r z).root l = some (.arr e xs d)
  | [], z, sc, _, _, _, hd => by
    rcases hd with hd | ⟨i, e', d', hm, _⟩
    · exact hd
    · cases hm
  | it :: r, z, sc, hsub, ht, hp, hd => by
    obtain ⟨x, y', h1, h2, h3⟩ := takes_cons ht
    have hm := hsub it (List.mem_cons_self ..)
    rw [h3]
    refine h.arrs hl hL hr r y' _ (fun it' h' => hsub it' (List.mem_cons_of_mem _ h')) h2 (h.step hp hm x) ?_
    have hgc : sc.root l = some (.arr e xs d) → ∀ (k : HK) (x : k.D), (sc.giveC k x).2.root l = some (.arr e xs d) := fun hd k x => by
      rw [giveC_root]
      cases k with
      | data t ds => exact hd
      | own e d =>
        have := hp.more
        dsimp only
        rw [if_neg (by omega)]
        exact hd
    cases it with
    | slot i k =>
      rcases hd with hd | ⟨i', e', d', hm', hs⟩
      · exact .inl (by rw [give_slot_root]; exact hgc hd k x)
      · rcases List.mem_cons.1 hm' with hm' | hm'
        · cases hm'
        · exact .inr ⟨i', e', d', hm', hs⟩
    | cell i off k =>
      obtain ⟨l0, cs0, g1, g2, g3, g4, g5, g6, cs1, g7⟩ := h.partCell hp hm
      have hne : l ≠ l0 := by
        rintro rfl
        obtain ⟨c, v, ⟨l1, cs2, b, vs, T, q1, q2, q3⟩, _⟩ := take_cell h.rel h1
        rw [g1] at q1
        simp only [Option.some.injEq, A.val.injEq, List.cons.injEq, C.bp.injEq, and_true, true_and] at q1
        subst q1
        rw [hr] at q2
        cases q2
      rcases hd with hd | ⟨i', e', d', hm', hs⟩
      · exact .inl (by rw [give_cell_root g2 g3, if_neg hne]; exact hgc hd k x)
      · rcases List.mem_cons.1 hm' with hm' | hm'
        · cases hm'
        · exact .inr ⟨i', e', d', hm', hs⟩
    | arr i e0 d0 =>
      obtain ⟨l0, g1, g2, g3, g4⟩ := h.partArr hp hm
      obtain ⟨l1, q1, q2⟩ := take_arr h1
      rw [g1] at q1
      simp only [Option.some.injEq, A.val.injEq, List.cons.injEq, C.ref.injEq, and_true, true_and] at q1
      subst q1
      rw [give_arr_root g2 (Nat.lt_of_lt_of_le g4 hp.more)]
      by_cases he : l = l0
      · subst he
        rw [if_pos rfl]
        rw [hr] at q2
        exact .inl q2.symm
      · rw [if_neg he]
        rcases hd with hd | ⟨i', e', d', hm', hs⟩
        · exact .inl hd
        · rcases List.mem_cons.1 hm' with hm' | hm'
          · simp only [It.arr.injEq] at hm'
            obtain ⟨rfl, _⟩ := hm'
            rw [g1] at hs
            simp only [Option.some.injEq, A.val.injEq, List.cons.injEq, C.ref.injEq, and_true, true_and] at hs
            exact absurd hs.symm he
          · exact .inr ⟨i', e', d', hm', hs⟩

end Go.Proofs.YtgjneigkkgaaiaaGreatDoor.Vd

/- VdZk -/
namespace Go.Proofs.YtgjneigkkgaaiaaGreatDoor.Vd

variable {P : Program} {E : Env} {ρ ρ' : Map} {w w' : World} {s s' : S} {a : Act} {K : Ctx} {H H' : Nat → Option Root} {t : Tm} {y : Its t.items}

theorem Own.to_loc {o : Own} {l n : Nat} (h : o.loc = some l) : (o.to n).loc = some n := by
  cases o <;> simp [Own.loc, Own.to] at h ⊢

/-- The roots that die: those renamed, those that were made in the loop. -/
def gone (s s' : S) (t : Tm) (n : Nat) : List Nat := t.items.flatMap s.ownLoc ++ (t.items.flatMap s'.ownLoc ++ List.range' s.H.length (s'.H.length + n))

theorem Reopen.wider (h : Reopen P E K ρ s s' t a w y) (n : Nat) : Wider s.H.length (t.items.flatMap s.ownLoc) (gone s s' t n) where
  sub := fun l hl => List.mem_append_left _ hl
  out := fun l hl => by
    simp only [gone, List.mem_append] at hl
    rcases hl with hl | hl | hl
    · exact .inl hl
    · exact (h.own l hl).symm
    · exact .inr (by simp only [List.mem_range'_1] at hl; omega)

theorem Reopen.stays (h : Reopen P E K ρ s s' t a w y) {n l : Nat} (h1 : l < s.H.length) (h2 : l ∉ t.items.flatMap s.ownLoc) : l ∉ gone s s' t n := fun hm => by
  rcases (h.wider n).out l hm with h3 | h3
  · exact h2 h3
  · omega

theorem Reopen.stayed (h : Reopen P E K ρ s s' t a w y) {n l : Nat} (h1 : l ∉ gone s s' t n) (h2 : l < s'.H.length + n) : l < s.H.length ∧ l ∉ t.items.flatMap s.ownLoc ∧ l ∉ t.items.flatMap s'.ownLoc := by
  simp only [gone, List.mem_append, not_or, List.mem_range'_1] at h1
  refine ⟨?_, h1.1, h1.2.1⟩
  have := h1.2.2
  omega

theorem Reopen.chg (h : Reopen P E K ρ s s' t a w y) {q : List (C × Value)} (hq : Owns s' a w ρ t.items q) :
    Chg P ρ (ρ.ren s.H.length (t.items.flatMap s.ownLoc) q) w w s'.root (s.at t y).root (allOf (gone s s' t q.length)) where
  later := Later.refl w
  free := fun b _ ho => ⟨by simp [Map.ren, ho, Own.loc], rfl⟩
  off := fun b _ ho => ⟨by simp [Map.ren, ho, Own.loc], rfl⟩
  noOff := fun b ho => by
    simp only [Map.ren] at ho
    cases hb : ρ.own b with
    | free => rw [hb] at ho; simp [Own.loc] at ho
    | off => rfl
    | main l =>
      rw [hb] at ho
      simp only [Own.loc] at ho
      split at ho
      · cases ho
      · split at ho <;> cases ho
    | inner l i j =>
      rw [hb] at ho
      simp only [Own.loc] at ho
      split at ho
      · cases ho
      · split at ho <;> cases ho
  block := fun b l _ hl hk => ⟨rfl, fun _ => by
    obtain ⟨h1, h2, h3⟩ := h.stayed (fun hm => hk (killed_allOf.2 hm)) (Nat.lt_of_lt_of_le (h.rel.live b l hl) (Nat.le_add_right _ _))
    rw [owns_locs _ _ hq] at h3
    simp only [Map.ren, hl, findIdx_none h3]
    rw [if_pos ⟨h1, h2⟩]⟩
  hdr := fun l hk _ => by
    rw [killedAll_allOf] at hk
    simp only [Map.ren]
    split
    · rename_i hl
      have : q.length ≤ l - s.H.length := by
        simp only [gone, List.mem_append, not_or, List.mem_range'_1] at hk
        have := hk.2.2
        omega
      rw [List.getElem?_eq_none this]
      rfl
    · rfl
  hdrP := fun l b hk _ => by
    rw [killedAll_allOf] at hk
    simp only [Map.ren]
    split
    · rename_i hl
      have : q.length ≤ l - s.H.length := by
        simp only [gone, List.mem_append, not_or, List.mem_range'_1] at hk
        have := hk.2.2
        omega
      rw [List.getElem?_eq_none this]
      rfl
    · rfl
  arr := fun l e xs d hk _ hr => by
    obtain ⟨h1, h2, _⟩ := h.stayed (fun hm => hk (killed_allOf.2 hm)) (Nat.lt_of_lt_of_le (root_lt hr) (Nat.le_add_right _ _))
    have hf := fitIn_spec h.fit
    rw [at_eq]
    show ((s.base t).gives t.items y).root l = _
    refine h.arrs h1 h2 hr t.items y _ (fun _ h => h) h.now (Part.base s t) ?_
    by_cases ha : ∃ i e d, It.arr i e d ∈ t.items ∧ s'.fr[i]? = some (.c (.ref l))
    · exact .inr ha
    · left
      have hnb : l ∉ t.items.flatMap s.boxLoc := by
        intro hb
        obtain ⟨it, hit, hlo⟩ := List.mem_flatMap.1 hb
        cases it with
        | slot i k => simp [S.boxLoc] at hlo
        | arr i e d => simp [S.boxLoc] at hlo
        | cell i off k =>
          obtain ⟨l', g1, g2, g3, g4, g5, g6, cs, g7⟩ := h.cell hit
          simp only [S.boxLoc, getD_of g1, List.mem_singleton] at hlo
          subst hlo
          obtain ⟨x, hx⟩ := takes_mem h.now _ hit
          obtain ⟨c, v, ⟨l2, cs2, b, vs, T, q1, q2, _⟩, _⟩ := take_cell h.rel hx
          rw [g2] at q1
          simp only [Option.some.injEq, A.val.injEq, List.cons.injEq, C.bp.injEq, and_true, true_and] at q1
          subst q1
          rw [hr] at q2
          cases q2
      have hnl : l ∉ t.items.flatMap s.locs := by
        intro hb
        obtain ⟨it, hit, hlo⟩ := List.mem_flatMap.1 hb
        simp only [S.locs, List.mem_append] at hlo
        rcases hlo with (hlo | hlo) | hlo
        · exact h2 (List.mem_flatMap.2 ⟨it, hit, hlo⟩)
        · exact hnb (List.mem_flatMap.2 ⟨it, hit, hlo⟩)
        · cases it with
          | slot i k => simp at hlo
          | cell i off k => simp at hlo
          | arr i e d =>
            obtain ⟨l', g1, g2, g3, g4, g5⟩ := h.arr hit
            dsimp only at hlo
            rw [getD_of g1] at hlo
            simp only [List.mem_singleton] at hlo
            subst hlo
            exact ha ⟨i, e, d, hit, g2⟩
      rw [base_root, if_neg hnb, if_neg h2]
      rcases h.root l h1 hnl with h3 | h3
      · rw [← h3, hr]; rfl
      · rw [← h3, hr]
  mov := fun l c hm => by cases hm
  got := fun b l hk _ h1 hb => by
    simp only [Map.ren] at hb
    split at hb
    · exact h1 b hb
    · rename_i l' hl'
      split at hb
      · rename_i j hj
        rw [Own.to_loc hl'] at hb
        cases hb
        apply hk
        rw [killed_allOf]
        have := (findIdx_some hj).1
        simp only [gone, List.mem_append, List.mem_range'_1]
        exact .inr (.inr ⟨by omega, by omega⟩)
      · split at hb
        · exact h1 b hb
        · cases hb
  movB := fun b l _ _ hm => absurd hm not_moved_nil

theorem ArrR.rekey {own own' : Nat → Own} {key key' : Own} {e : Ty} {xs : List e.D} {EL EL' : Nat → e.D → List Value → Prop} {v : Value}
    (h : ArrR w own key e xs EL v) (hb : ∀ b, own b = key → own' b = key') (he : ∀ i x us, xs[i]? = some x → EL i x us → EL' i x us) : ArrR w own' key' e xs EL' v := by
  rcases h with h | ⟨b, cap, vs, T, hv, h1, h2, h3, h4, h5, h6⟩
  · exact .inl h
  · refine .inr ⟨b, cap, vs, T, hv, h1, h2, hb b h3, h4, h5, fun i x hx => ?_⟩
    obtain ⟨us, q1, q2, q3⟩ := h6 i x hx
    exact ⟨us, q1, q2, he i x us hx q3⟩

theorem DR.rekey {own own' : Nat → Own} {l l' i : Nat} (hb : ∀ b j, own b = .inner l i j → own' b = .inner l' i j) : (t : Ty) → (j : Nat) → (x : t.D) → (vs : List Value) → DR w own l i t j x vs → DR w own' l' i t j x vs
  | .sl u, j, ys, vs, h => by
    obtain ⟨v, rfl, hu, ha⟩ := h
    exact ⟨v, rfl, hu, ha.rekey (fun b hk => hb b j hk) fun i x us _ hr => Rd.flat u x us hu hr⟩
  | .one h, j, x, vs, hh => DR.rekey hb h j x vs hh
  | .cons h t, j, x, vs, hh => by
    obtain ⟨v1, v2, rfl, h1, h2⟩ := hh
    exact ⟨v1, v2, rfl, DR.rekey hb h j _ _ h1, DR.rekey hb t _ _ _ h2⟩
  | .int _, _, _, _, h => h
  | .bool, _, _, _, h => h
  | .str, _, _, _, h => h

/-- The state while the holes are filled; r: those left. -/
structure Good (P : Program) (ρ : Map) (s s' : S) (t : Tm) (a : Act) (w : World) (ρ' : Map) (Hf : Nat → Option Root) (Q : List (C × Value)) (sc : S) (r : List It) (done : List Nat) (q : List (C × Value)) : Prop where
  part : Part s t sc
  hlen : sc.H.length + q.length = s.H.length + Q.length
  drop : q = Q.drop (sc.H.length - s.H.length)
  slot : ∀ (i : Nat) x, i ∉ r.flatMap It.slots → sc.fr[i]? = some x → ∃ v, a.tmps[i]? = some v ∧ AR P ρ' w Hf x v
  dones : ∀ i ∈ done, i ∉ r.flatMap It.slots ∧ ∃ n, sc.fr[i]? = some (.c (.ref n)) ∧ ∀ l', s'.fr[i]? = some (.c (.ref l')) → ∀ b, (ρ.own b).loc = some l' → (ρ'.own b).loc = some n
  root : ∀ l rt, sc.root l = some rt → (∀ i e d, It.arr i e d ∈ r → s'.fr[i]? ≠ some (.c (.ref l))) → RR P ρ' w Hf l rt

theorem Reopen.good0 (h : Reopen P E K ρ s s' t a w y) {Q : List (C × Value)} (hq : Owns s' a w ρ t.items Q) :
    Good P ρ s s' t a w (ρ.ren s.H.length (t.items.flatMap s.ownLoc) Q) (s.at t y).root Q (s.base t) t.items [] Q where
  part := Part.base s t
  hlen := by rw [base_H]
  drop := by rw [base_H]; simp
  dones := fun i hi => by cases hi
  slot := fun i x hi hx => by
    have hf := fitIn_spec h.fit
    rw [base_fr] at hx
    have hlen : i < s'.fr.length := by
      rw [h.len]
      split at hx <;> (cases hs : s.fr[i]? with
        | none => rw [hs] at hx; cases hx
        | some x0 => exact (List.getElem?_eq_some_iff.1 hs).1)
    obtain ⟨v, hv1, hv2⟩ := h.rel.slot i _ (List.getElem?_eq_getElem hlen)
    refine ⟨v, hv1, ?_⟩
    split at hx
    · cases hs : s.fr[i]? with
      | none => rw [hs] at hx; cases hx
      | some x0 => rw [hs] at hx; cases hx; trivial
    · rename_i hk
      cases hs : s.fr[i]? with
      | none => rw [hs] at hx; cases hx
      | some x0 =>
        rw [hs] at hx
        simp only [Option.map_some, Option.some.injEq] at hx
        have hw := A.wider (h.wider Q.length) (hf.frwf i x0 hs)
        have hAR := AR.left (h.chg hq) hv2
        rcases h.fr i hk hi with h1 | h1
        · rw [List.getElem?_eq_getElem hlen, hs] at h1
          simp only [Option.some.injEq] at h1
          rw [h1, hw.1, hx] at hAR
          exact hAR
        · rw [List.getElem?_eq_getElem hlen, hs] at h1
          simp only [Option.map_some, Option.some.injEq] at h1
          rw [h1, hw.2, hx] at hAR
          exact hAR
  root := fun l rt hl hna => by
    have hf := fitIn_spec h.fit
    have hc := h.chg hq
    rw [base_root] at hl
    split at hl
    · rename_i hb
      obtain ⟨it, hit, hlo⟩ := List.mem_flatMap.1 hb
      cases it with
      | slot i k => simp [S.boxLoc] at hlo
      | arr i e d => simp [S.boxLoc] at hlo
      | cell i off k =>
        obtain ⟨l', g1, g2, g3, g4, g5, g6, cs, g7⟩ := h.cell hit
        simp only [S.boxLoc, getD_of g1, List.mem_singleton] at hlo
        subst hlo
        rw [if_neg g5, g7] at hl
        simp only [Option.map_some, Root.left, blank, Option.some.injEq] at hl
        subst hl
        obtain ⟨x, hx⟩ := takes_mem h.now _ hit
        obtain ⟨c, v, ⟨l2, cs2, b, vs, T, q1, q2, _⟩, _⟩ := take_cell h.rel hx
        rw [g2] at q1
        simp only [Option.some.injEq, A.val.injEq, List.cons.injEq, C.bp.injEq, and_true, true_and] at q1
        subst q1
        have hlen := h.box l hb
        simp only [S.boxLen, g7, q2] at hlen
        obtain ⟨b, vs, T, k1, k2, k3, k4⟩ := h.rel.root l _ q2
        have hnk : ¬ Killed (allOf (gone s s' t Q.length)) l := fun hk => h.stays g6 g5 (killed_allOf.1 hk)
        refine ⟨b, vs, T, (hc.hdr l (fun hk => hnk ⟨_, hk⟩) not_moved_nil).trans k1, ?_, k3, ?_⟩
        · exact ((hc.block b l (Array.getElem?_eq_some_iff.1 k3).1 (by simp [k2, Own.loc]) hnk).2 not_moved_nil).trans k2
        · refine ⟨by simp [hlen, k4.1], fun j c v hj hv => ?_⟩
          have : c = .undef := by
            rw [List.getElem?_map, List.getElem?_map] at hj
            cases hcj : cs[j]? with
            | none => rw [hcj] at hj; cases hj
            | some c0 => rw [hcj] at hj; cases hj; rfl
          subst this
          have hlt : j < cs2.length := by rw [k4.1]; exact (List.getElem?_eq_some_iff.1 hv).1
          exact (k4.2 j _ v (List.getElem?_eq_getElem hlt) hv).one
    · rename_i hb
      split at hl
      · cases hl
      · rename_i hL
        cases hs : s.root l with
        | none => rw [hs] at hl; cases hl
        | some r0 =>
          rw [hs] at hl
          simp only [Option.map_some, Option.some.injEq] at hl
          have hlt := root_lt hs
          have hnl : l ∉ t.items.flatMap s.locs := by
            intro hb'
            obtain ⟨it, hit, hlo⟩ := List.mem_flatMap.1 hb'
            simp only [S.locs, List.mem_append] at hlo
            rcases hlo with (hlo | hlo) | hlo
            · exact hL (List.mem_flatMap.2 ⟨it, hit, hlo⟩)
            · exact hb (List.mem_flatMap.2 ⟨it, hit, hlo⟩)
            · cases it with
              | slot i k => simp at hlo
              | cell i off k => simp at hlo
              | arr i e d =>
                obtain ⟨l', g1, g2, g3, g4, g5⟩ := h.arr hit
                dsimp only at hlo
                rw [getD_of g1] at hlo
                simp only [List.mem_singleton] at hlo
                subst hlo
                exact hna i e d hit g2
          have hnk : ¬ Killed (allOf (gone s s' t Q.length)) l := fun hk => h.stays hlt hL (killed_allOf.1 hk)
          have hw := Root.wider (h.wider Q.length) (hf.rwf l r0 hs)
          rcases h.root l hlt hnl with h3 | h3
          · rw [hs] at h3
            have := RR.left hc hnk not_moved_nil (h.rel.root l _ h3)
            rwa [hw.1, hl] at this
          · rw [hs] at h3
            have := RR.left hc hnk not_moved_nil (h.rel.root l _ h3)
            rwa [hw.2, hl] at this

end Go.Proofs.YtgjneigkkgaaiaaGreatDoor.Vd

/- VdZl -/
namespace Go.Proofs.YtgjneigkkgaaiaaGreatDoor.Vd

variable {P : Program} {E : Env} {ρ ρ' : Map} {w w' : World} {s s' : S} {a : Act} {K : Ctx} {H H' : Nat → Option Root} {t : Tm} {y : Its t.items}

theorem mem_refs {s : S} {ds : List Nat} {l : Nat} : l ∈ s.refs ds ↔ ∃ j ∈ ds, s.fr[j]? = some (.c (.ref l)) := by
  simp only [S.refs, List.mem_flatMap]
  constructor
  · rintro ⟨j, hj, h⟩
    refine ⟨j, hj, ?_⟩
    split at h
    · rename_i l' hl'
      simp only [List.mem_singleton] at h
      subst h
      exact getD_some hl'
    · cases h
  · rintro ⟨j, hj, h⟩
    refine ⟨j, hj, ?_⟩
    rw [getD_of h]
    simp

theorem Good.al (h : Reopen P E K ρ s s' t a w y) {Q : List (C × Value)} (hq : Owns s' a w ρ t.items Q) {sc : S} {r : List It} {done : List Nat} {q : List (C × Value)} {Hf : Nat → Option Root}
    (hg : Good P ρ s s' t a w (ρ.ren s.H.length (t.items.flatMap s.ownLoc) Q) Hf Q sc r done q) {ds d : List Nat} (hd : ∀ l ∈ d, l ∈ s'.refs ds)
    (hds : ∀ i ∈ ds, i ∈ done ∨ (i ∉ t.kill ∧ i ∉ t.items.flatMap It.slots)) (hin : ∀ i ∈ ds, i ∈ t.items.flatMap It.deps) {b : Nat} (hb : b < w.heap.size) (ha : Al ρ.own d b) :
    Al (ρ.ren s.H.length (t.items.flatMap s.ownLoc) Q).own (sc.refs ds) b := by
  have hc := h.chg hq
  rcases ha with ha | ⟨l', hl', hlo⟩
  · exact .inl (hc.free b hb ha).1
  · obtain ⟨j, hj, hjs⟩ := mem_refs.1 (hd l' hl')
    right
    rcases hds j hj with h1 | ⟨h1, h2⟩
    · obtain ⟨_, n, h3, h4⟩ := hg.dones j h1
      exact ⟨n, mem_refs.2 ⟨j, hj, h3⟩, h4 l' hjs b hlo⟩
    · obtain ⟨h3, h4, h5⟩ := h.dep (hin j hj) h1 h2 hjs
      refine ⟨l', mem_refs.2 ⟨j, hj, (hg.part.fr j h2).trans h3⟩, ?_⟩
      rw [(hc.block b l' hb hlo (fun hk => h.stays h5 h4 (killed_allOf.1 hk))).2 not_moved_nil]
      exact hlo

theorem takeC_data {c : C} {T : Ty} {ds : List Nat} {x : T.D} (h : s.takeC c (.data T ds) = some x) : ∃ d, s.view.data c T = some (x, d) ∧ ∀ l ∈ d, l ∈ s.refs ds := by
  simp only [S.takeC] at h
  split at h
  · rename_i x' d hx
    split at h
    · rename_i hd
      simp only [Option.some.injEq] at h
      subst h
      refine ⟨d, hx, fun l hl => ?_⟩
      have := List.all_eq_true.1 hd l hl
      simpa using this
    · cases h
  · cases h

theorem takeC_own {c : C} {e : Ty} {dp : Bool} {x : List e.D} (h : s.takeC c (.own e dp) = some x) : (c = .nils ∧ x = []) ∨ ∃ l, c = .ref l ∧ s.root l = some (.arr e x dp) := by
  simp only [S.takeC] at h
  split at h
  · simp only [Option.some.injEq] at h
    exact .inl ⟨rfl, h.symm⟩
  · rename_i l
    split at h
    · rename_i e' xs d hl
      split at h
      · rename_i he
        subst he
        split at h
        · rename_i hd
          simp only [beq_iff_eq] at hd
          subst hd
          simp only [castD_rfl, Option.some.injEq] at h
          subst h
          exact .inr ⟨l, rfl, hl⟩
        · cases h
      · cases h
    · cases h
  · cases h

/-- What comes of one hole: the cell holds of the value, the new root of the world. -/
theorem Good.cell (h : Reopen P E K ρ s s' t a w y) {Q : List (C × Value)} (hq : Owns s' a w ρ t.items Q) {sc : S} {r : List It} {done : List Nat} {q : List (C × Value)} {Hf : Nat → Option Root}
    (hg : Good P ρ s s' t a w (ρ.ren s.H.length (t.items.flatMap s.ownLoc) Q) Hf Q sc r done q) {it : It} {c : C} {v : Value} (hh : HoleAt s' a w ρ it c v) {k : HK} (hk : it.k = k)
    {x : k.D} (hx : s'.takeC c k = some x) (hds : ∀ i ∈ it.deps, i ∈ done ∨ (i ∉ t.kill ∧ i ∉ t.items.flatMap It.slots)) (hin : it ∈ t.items)
    (hQ : it.own = true → Q[sc.H.length - s.H.length]? = some (c, v)) :
    CR P (ρ.ren s.H.length (t.items.flatMap s.ownLoc) Q) w Hf (sc.giveC k x).1 v ∧
    (∀ l rt, (sc.giveC k x).2.root l = some rt → sc.root l = some rt ∨ (l = sc.H.length ∧ RR P (ρ.ren s.H.length (t.items.flatMap s.ownLoc) Q) w Hf l rt)) ∧
    (it.own = true → ∀ l', c = .ref l' → ∀ b, (ρ.own b).loc = some l' → ((ρ.ren s.H.length (t.items.flatMap s.ownLoc) Q).own b).loc = some sc.H.length) := by
  have hcr := hh.rel h.rel
  have hnd : (Q.flatMap fun p => refsOf p.1).Nodup := by rw [← owns_locs _ _ hq]; exact h.nd
  have hmore := hg.part.more
  cases k with
  | data T ds =>
    have hdeps : it.deps = ds ∧ it.own = false := by
      cases it with
      | slot i k => simp only [It.k] at hk; subst hk; exact ⟨rfl, rfl⟩
      | cell i off k => simp only [It.k] at hk; subst hk; exact ⟨rfl, rfl⟩
      | arr i e d => exact hh.elim
    obtain ⟨d, h1, h2⟩ := takeC_data hx
    obtain ⟨h3, h4⟩ := data_rd (Seen.self s') h.rel.root h1 hcr
    refine ⟨⟨h4, ?_⟩, fun l rt hl => .inl hl, fun ho => by rw [hdeps.2] at ho; cases ho⟩
    refine Rd.mono (fun b hb ha => ⟨?_, rfl⟩) T x [v] h3
    exact Good.al h hq hg h2 (by rw [← hdeps.1]; exact hds) (fun i hi => List.mem_flatMap.2 ⟨it, hin, by rw [hdeps.1]; exact hi⟩) hb ha
  | own e dp =>
    have hown : it.own = true := by
      cases it with
      | slot i k => simp only [It.k] at hk; subst hk; rfl
      | cell i off k => simp only [It.k] at hk; subst hk; rfl
      | arr i e d => exact hh.elim
    have hQ' := hQ hown
    have hhdr : (ρ.ren s.H.length (t.items.flatMap s.ownLoc) Q).hdr sc.H.length = v := by
      simp only [Map.ren]
      rw [if_pos hmore, hQ']
      rfl
    have hidx : ∀ l', c = .ref l' → Q.findIdx? (fun p => isRef l' p.1) = some (sc.H.length - s.H.length) := by
      rintro l' rfl
      exact findIdx_ref Q _ l' v hnd hQ'
    have hown' : ∀ l', c = .ref l' → ∀ b, (ρ.own b).loc = some l' → (ρ.ren s.H.length (t.items.flatMap s.ownLoc) Q).own b = (ρ.own b).to sc.H.length := by
      intro l' hc b hb
      simp only [Map.ren, hb, hidx l' hc]
      rw [show s.H.length + (sc.H.length - s.H.length) = sc.H.length by omega]
    have hsl : ∃ q n c, v = .slice q n c := by
      rcases takeC_own hx with ⟨rfl, _⟩ | ⟨l', rfl, _⟩
      · obtain ⟨q, rfl⟩ := hcr; exact ⟨q, 0, 0, rfl⟩
      · exact hcr.2
    refine ⟨⟨hhdr.symm, hsl⟩, fun l rt hl => ?_, fun _ l' hc b hb => by rw [hown' l' hc b hb]; exact Own.to_loc hb⟩
    rw [giveC_root] at hl
    dsimp only at hl
    split at hl
    · rename_i hln
      refine .inr ⟨hln, ?_⟩
      simp only [Option.some.injEq] at hl
      subst hl
      subst hln
      show ArrR w _ (.main sc.H.length) e x _ ((ρ.ren s.H.length (t.items.flatMap s.ownLoc) Q).hdr sc.H.length)
      rw [hhdr]
      rcases takeC_own hx with ⟨rfl, rfl⟩ | ⟨l', rfl, hr⟩
      · obtain ⟨q, rfl⟩ := hcr
        exact .inl ⟨q, rfl, rfl⟩
      · have hrr : ArrR w ρ.own (.main l') e x (EL w ρ.own l' dp e) (ρ.hdr l') := h.rel.root l' _ hr
        rw [hcr.1]
        refine hrr.rekey (fun b hb => ?_) fun i x us _ he => ?_
        · rw [hown' l' rfl b (by rw [hb]; rfl), hb]; rfl
        · unfold EL at he ⊢
          split
          · rename_i hdp
            rw [if_pos hdp] at he
            exact DR.rekey (fun b j hb => by rw [hown' l' rfl b (by rw [hb]; rfl), hb]; rfl) e 0 x us he
          · rename_i hdp
            rw [if_neg hdp] at he
            exact Rd.mono (fun b hb ha => (h.chg hq).free b hb ha) e x us he
    · exact .inl hl

theorem giveC_H (s : S) (k : HK) (x : k.D) : (s.giveC k x).2.fr = s.fr := by cases k <;> rfl

def It.dones (done : List Nat) : It → List Nat
  | .slot i (.own _ _) => i :: done
  | _ => done

theorem Good.step (h : Reopen P E K ρ s s' t a w y) {Q : List (C × Value)} (hq : Owns s' a w ρ t.items Q) {sc : S} {it : It} {r : List It} {done : List Nat} {q : List (C × Value)}
    (hg : Good P ρ s s' t a w (ρ.ren s.H.length (t.items.flatMap s.ownLoc) Q) (s.at t y).root Q sc (it :: r) done q) (hm : it ∈ t.items) (hfit : t.fits done (it :: r) = true) (hnd : ((it :: r).flatMap It.slots).Nodup)
    {x : it.D} (hx : s'.take it = some x) (how : Owns s' a w ρ (it :: r) q) :
    ∃ q', Owns s' a w ρ r q' ∧ Good P ρ s s' t a w (ρ.ren s.H.length (t.items.flatMap s.ownLoc) Q) (s.at t y).root Q (sc.give it x) r (it.dones done) q' := by
  have hpart := h.step hg.part hm x
  have hlen := give_H (s := sc) (it := it) (x := x) (fun i off k he => by
    subst he
    obtain ⟨l, cs, _, h1, h2, _⟩ := h.partCell hg.part hm
    exact ⟨l, cs, h1, h2⟩)
  have hmore := hg.part.more
  have hdeps := fits_deps hfit
  -- what is left of the list of owned holes
  obtain ⟨q', hq', hl', hd', hQ⟩ : ∃ q', Owns s' a w ρ r q' ∧ (sc.give it x).H.length + q'.length = s.H.length + Q.length ∧ q' = Q.drop ((sc.give it x).H.length - s.H.length) ∧
      (it.own = true → ∃ p, Q[sc.H.length - s.H.length]? = some p ∧ HoleAt s' a w ρ it p.1 p.2) := by
    unfold Owns at how
    by_cases ho : it.own = true
    · rw [if_pos ho] at how
      obtain ⟨p, q', rfl, h1, h2⟩ := how
      have hlen' := hg.hlen
      have hdrop := hg.drop
      rw [if_pos ho] at hlen
      simp only [List.length_cons] at hlen'
      refine ⟨q', h2, by omega, ?_, fun _ => ⟨p, ?_, h1⟩⟩
      · have : q' = (p :: q').drop 1 := rfl
        rw [this, hdrop, List.drop_drop]
        congr 1
        omega
      · have : (Q.drop (sc.H.length - s.H.length))[0]? = some p := by rw [← hdrop]; rfl
        rwa [List.getElem?_drop, Nat.add_zero] at this
    · rw [if_neg ho] at how
      rw [if_neg ho] at hlen
      exact ⟨q, how, by have := hg.hlen; omega, by rw [show (sc.give it x).H.length = sc.H.length by omega]; exact hg.drop, fun h => absurd h ho⟩
  have hndr : (r.flatMap It.slots).Nodup := by
    simp only [List.flatMap_cons, List.nodup_append] at hnd
    exact hnd.2.1
  refine ⟨q', hq', ?_⟩
  cases it with
  | slot i k =>
    obtain ⟨c, v, h1, h2⟩ := take_slot h.rel hx
    have hQ' : (It.slot i k).own = true → Q[sc.H.length - s.H.length]? = some (c, v) := fun ho => by
      obtain ⟨⟨c', v'⟩, g1, g2, g3⟩ := hQ ho
      rw [h1.1] at g2
      rw [h1.2] at g3
      simp only [Option.some.injEq, A.val.injEq, List.cons.injEq, and_true, true_and] at g2 g3
      rw [g1, ← g2, ← g3]
    obtain ⟨k1, k2, k3⟩ := Good.cell h hq hg h1 rfl h2 hdeps hm hQ'
    have hne : ∀ j ∈ done, j ≠ i := fun j hj he => (hg.dones j hj).1 (by simp [It.slots, he])
    have hir : i ∉ r.flatMap It.slots := by
      simp only [List.flatMap_cons, List.nodup_append, It.slots] at hnd
      intro hi
      exact hnd.2.2 i (by simp) i hi rfl
    have hold : ∀ j ∈ done, j ∉ r.flatMap It.slots ∧ ∃ n, (sc.give (.slot i k) x).fr[j]? = some (.c (.ref n)) ∧ ∀ l', s'.fr[j]? = some (.c (.ref l')) → ∀ b, (ρ.own b).loc = some l' → ((ρ.ren s.H.length (t.items.flatMap s.ownLoc) Q).own b).loc = some n := fun j hj => by
      obtain ⟨g1, n, g2, g3⟩ := hg.dones j hj
      refine ⟨fun hr => g1 (by simp only [List.flatMap_cons, List.mem_append]; exact .inr hr), n, ?_, g3⟩
      rw [give_fr _ _ _ _ (by simp [It.slots, hne j hj])]
      exact g2
    have hisc : i < sc.fr.length := by
      rw [hg.part.len, ← h.len]
      exact (List.getElem?_eq_some_iff.1 h1.1).1
    have hnew : (sc.give (.slot i k) x).fr[i]? = some (.c (sc.giveC k x).1) := by
      simp only [S.give]
      rw [List.getElem?_set_self (by rw [giveC_H]; exact hisc)]
    refine ⟨hpart, hl', hd', fun j z hj hz => ?_, ?_, fun l rt hl hna => ?_⟩
    · by_cases hji : j = i
      · subst hji
        rw [hnew] at hz
        cases hz
        exact ⟨v, h1.2, AR.one.2 k1⟩
      · rw [give_fr _ _ _ _ (by simp [It.slots, hji])] at hz
        exact hg.slot j z (by simp only [List.flatMap_cons, List.mem_append, It.slots, List.mem_singleton, not_or]; exact ⟨hji, hj⟩) hz
    · cases k with
      | data T ds => exact hold
      | own e dp =>
        intro j hj
        rcases List.mem_cons.1 hj with rfl | hj
        · refine ⟨hir, sc.H.length, hnew, fun l' hl' b hb => k3 rfl l' ?_ b hb⟩
          rw [h1.1] at hl'
          simpa using hl'
        · exact hold j hj
    · rw [give_slot_root] at hl
      rcases k2 l rt hl with g | ⟨_, g⟩
      · exact hg.root l rt g fun i' e d hm' => by
          rcases List.mem_cons.1 hm' with hm' | hm'
          · cases hm'
          · exact hna i' e d hm'
      · exact g
  | cell i off k =>
    obtain ⟨c, v, h1, h2⟩ := take_cell h.rel hx
    have hQ' : (It.cell i off k).own = true → Q[sc.H.length - s.H.length]? = some (c, v) := fun ho => by
      obtain ⟨⟨c', v'⟩, g1, l2, cs2, b2, vs2, T2, q1, q2, q3, q4, q5, q6⟩ := hQ ho
      obtain ⟨l1, cs1, b1, vs1, T1, p1, p2, p3, p4, p5, p6⟩ := h1
      rw [p1] at q1
      simp only [Option.some.injEq, A.val.injEq, List.cons.injEq, C.bp.injEq, and_true, true_and] at q1
      subst q1
      rw [p2] at q2
      cases q2
      rw [p3] at q3
      cases q3
      rw [p4] at q4
      cases q4
      rw [p5] at q5
      simp only [Option.some.injEq, Obj.cells.injEq, and_true] at q5
      have q5' : vs1 = vs2 := by simpa using congrArg Array.toList q5.1
      subst q5'
      rw [p6] at q6
      cases q6
      exact g1
    obtain ⟨k1, k2, k3⟩ := Good.cell h hq hg h1 rfl h2 hdeps hm hQ'
    obtain ⟨l0, cs, g1, g2, g3, g4, g5, g6, cs0, g7⟩ := h.partCell hg.part hm
    refine ⟨hpart, hl', hd', fun j z hj hz => ?_, fun j hj => ?_, fun l rt hl hna => ?_⟩
    · rw [give_fr _ _ _ _ (by simp [It.slots])] at hz
      exact hg.slot j z (by simpa [It.slots] using hj) hz
    · obtain ⟨q1, n, q2, q3⟩ := hg.dones j hj
      refine ⟨by simpa [It.slots] using q1, n, ?_, q3⟩
      rw [give_fr _ _ _ _ (by simp [It.slots])]
      exact q2
    · rw [give_cell_root g2 g3] at hl
      have hna' : ∀ i' e d, It.arr i' e d ∈ It.cell i off k :: r → s'.fr[i']? ≠ some (.c (.ref l)) := fun i' e d hm' => by
        rcases List.mem_cons.1 hm' with hm' | hm'
        · cases hm'
        · exact hna i' e d hm'
      split at hl
      · rename_i hl0
        subst hl0
        simp only [Option.some.injEq] at hl
        subst hl
        obtain ⟨b, vs, T, q1, q2, q3, q4⟩ := hg.root l _ g3 hna'
        refine ⟨b, vs, T, q1, q2, q3, by simpa using q4.1, fun j c' v' hc' hv' => ?_⟩
        by_cases hj : j = off
        · subst hj
          have hlt : j < cs.length := by rw [q4.1]; exact (List.getElem?_eq_some_iff.1 hv').1
          rw [List.getElem?_set_self hlt] at hc'
          simp only [Option.some.injEq] at hc'
          subst hc'
          obtain ⟨l1, cs1, b1, vs1, T1, p1, p2, p3, p4, p5, p6⟩ := h1
          rw [g1] at p1
          simp only [Option.some.injEq, A.val.injEq, List.cons.injEq, C.bp.injEq, and_true, true_and] at p1
          subst p1
          have hnk : l ∉ gone s s' t Q.length := h.stays g5 g4
          rw [(h.chg hq).hdr l (fun hk => hnk (killedAll_allOf.1 hk)) not_moved_nil, p4] at q1
          simp only [Value.pointer.injEq, Option.some.injEq, Addr.mk.injEq, and_true] at q1
          subst q1
          rw [p5] at q3
          simp only [Option.some.injEq, Obj.cells.injEq, and_true] at q3
          have q3' : vs1 = vs := by simpa using congrArg Array.toList q3.1
          subst q3'
          rw [p6] at hv'
          cases hv'
          exact k1
        · rw [List.getElem?_set_ne (Ne.symm hj)] at hc'
          exact q4.2 j c' v' hc' hv'
      · rcases k2 l rt hl with g | ⟨_, g⟩
        · exact hg.root l rt g hna'
        · exact g
  | arr i e d =>
    obtain ⟨l1, p1, p2⟩ := take_arr hx
    obtain ⟨l0, g1, g2, g3, g4⟩ := h.partArr hg.part hm
    rw [g1] at p1
    simp only [Option.some.injEq, A.val.injEq, List.cons.injEq, C.ref.injEq, and_true, true_and] at p1
    subst p1
    refine ⟨hpart, hl', hd', fun j z hj hz => ?_, fun j hj => ?_, fun l rt hl hna => ?_⟩
    · rw [give_fr _ _ _ _ (by simp [It.slots])] at hz
      exact hg.slot j z (by simpa [It.slots] using hj) hz
    · obtain ⟨q1, n, q2, q3⟩ := hg.dones j hj
      refine ⟨by simpa [It.slots] using q1, n, ?_, q3⟩
      rw [give_fr _ _ _ _ (by simp [It.slots])]
      exact q2
    · rw [give_arr_root g2 (Nat.lt_of_lt_of_le g4 hmore)] at hl
      split at hl
      · rename_i hl0
        subst hl0
        simp only [Option.some.injEq] at hl
        subst hl
        have hnk : ¬ Killed (allOf (gone s s' t Q.length)) l := fun hk => h.stays g4 g3 (killed_allOf.1 hk)
        exact RR.left (h.chg hq) hnk not_moved_nil (h.rel.root l _ p2)
      · rename_i hl0
        refine hg.root l rt hl fun i' e' d' hm' => ?_
        rcases List.mem_cons.1 hm' with hm' | hm'
        · simp only [It.arr.injEq] at hm'
          obtain ⟨rfl, _⟩ := hm'
          rw [g1]
          simp only [ne_eq, Option.some.injEq, A.val.injEq, List.cons.injEq, C.ref.injEq, and_true, true_and]
          exact fun he => hl0 he.symm
        · exact hna i' e' d' hm'

theorem Good.all (h : Reopen P E K ρ s s' t a w y) {Q : List (C × Value)} (hq : Owns s' a w ρ t.items Q) : ∀ (r : List It) (z : Its r) (sc : S) (done : List Nat) (q : List (C × Value)),
    Good P ρ s s' t a w (ρ.ren s.H.length (t.items.flatMap s.ownLoc) Q) (s.at t y).root Q sc r done q → (∀ it ∈ r, it ∈ t.items) → t.fits done r = true → (r.flatMap It.slots).Nodup → s'.takes r = some z → Owns s' a w ρ r q →
    ∃ done', Good P ρ s s' t a w (ρ.ren s.H.length (t.items.flatMap s.ownLoc) Q) (s.at t y).root Q (sc.gives r z) [] done' []
  | [], z, sc, done, q, hg, _, _, _, _, ho => by
    have : q = [] := ho
    subst this
    exact ⟨done, hg⟩
  | it :: r, z, sc, done, q, hg, hsub, hfit, hnd, ht, ho => by
    obtain ⟨x, y', h1, h2, h3⟩ := takes_cons ht
    obtain ⟨q', g1, g2⟩ := Good.step h hq hg (hsub it (List.mem_cons_self ..)) hfit hnd h1 ho
    rw [h3]
    unfold Tm.fits at hfit
    simp only [Bool.and_eq_true] at hfit
    simp only [List.flatMap_cons, List.nodup_append] at hnd
    have hfit' : t.fits (it.dones done) r = true := by
      have := hfit.2
      cases it with
      | slot i k => cases k <;> exact this
      | cell i off k => exact this
      | arr i e d => exact this
    exact Good.all h hq r y' _ _ q' g2 (fun it' h' => hsub it' (List.mem_cons_of_mem _ h')) hfit' hnd.2.1 h2 g1

/-- **The state at the loop's head holds.** -/
theorem Reopen.rel' (h : Reopen P E K ρ s s' t a w y) : ∃ ρ', Rel P K ρ' (s.at t y) a w := by
  have hf := fitIn_spec h.fit
  obtain ⟨Q, hq⟩ := owns_exists h.rel t.items y h.now
  obtain ⟨done, hg⟩ := Good.all h hq t.items y (s.base t) [] Q (h.good0 hq) (fun _ h => h) hf.fits hf.slots h.now hq
  have hc := h.chg hq
  have hH : (s.at t y).H.length = s.H.length + Q.length := hg.hlen
  have hfr : (s.at t y).fr.length = s.fr.length := hg.part.len
  refine ⟨ρ.ren s.H.length (t.items.flatMap s.ownLoc) Q, ?_, h.rel.defers, fun i x hx => hg.slot i x (by simp) hx, fun l r hr => hg.root l r hr (fun i e d hm => by cases hm), ?_, ?_, h.rel.later, ?_, ?_, ?_⟩
  · rw [hfr, ← h.len]; exact h.rel.size
  · intro b l hb
    rw [hH]
    simp only [Map.ren] at hb
    split at hb
    · rename_i hn; rw [hn] at hb; cases hb
    · rename_i l' hl'
      split at hb
      · rename_i j hj
        rw [Own.to_loc hl'] at hb
        cases hb
        have := (findIdx_some hj).1
        omega
      · split at hb
        · rename_i hlt
          rw [hl'] at hb
          cases hb
          omega
        · cases hb
  · intro b hb
    have := h.rel.fresh b hb
    simp [Map.ren, this, Own.loc]
  · intro b hb ho
    obtain ⟨h1, h2⟩ := h.rel.keep b hb ho
    refine ⟨?_, h2⟩
    rcases ho with ho | ho <;> (rw [ho] at h1; simp [Map.ren, h1, Own.loc, ho])
  · intro b ho
    exact h.rel.old b (hc.noOff b ho)
  · intro l v hl
    obtain ⟨h1, h2⟩ := h.rel.fix l v hl
    obtain ⟨h3, h4⟩ := h.fix l v hl
    refine ⟨?_, by rw [hH]; omega⟩
    rw [hc.hdr l (fun hk => h.stays h3 h4 (killedAll_allOf.1 hk)) not_moved_nil]
    exact h1

end Go.Proofs.YtgjneigkkgaaiaaGreatDoor.Vd

/- VdCe -/
namespace Go.Proofs.YtgjneigkkgaaiaaGreatDoor.Vd

variable {P : Program} {E : Env} {ρ ρ' : Map} {w w' : World} {s s' : S} {a : Act} {K : Ctx} {H H' : Nat → Option Root} {t : Tm} {ls : List Nat}

/-- The owners when roots are given up. -/
def Map.cede (ρ : Map) (ls : List Nat) : Map := ⟨fun b => match (ρ.own b).loc with
  | some l => if ls.contains l then .free else ρ.own b
  | Option.none => ρ.own b, ρ.hdr⟩

theorem Map.cede_out (ρ : Map) {b l : Nat} (hb : (ρ.own b).loc = some l) (hl : ls.contains l = false) : (ρ.cede ls).own b = ρ.own b := by
  simp only [Map.cede, hb, hl, Bool.false_eq_true, if_false]

theorem Map.cede_in (ρ : Map) {b l : Nat} (hb : (ρ.own b).loc = some l) (hl : ls.contains l = true) : (ρ.cede ls).own b = .free := by
  simp only [Map.cede, hb, hl, if_true]

theorem Map.cede_no (ρ : Map) {b : Nat} (hb : (ρ.own b).loc = none) : (ρ.cede ls).own b = ρ.own b := by
  simp [Map.cede, hb]

theorem Map.cede_free (ρ : Map) {b : Nat} (hb : ρ.own b = .free) : (ρ.cede ls).own b = .free :=
  (ρ.cede_no (by rw [hb]; rfl)).trans hb

theorem Map.cede_loc (ρ : Map) {b l : Nat} (h : ((ρ.cede ls).own b).loc = some l) : (ρ.own b).loc = some l ∧ ls.contains l = false := by
  cases hb : (ρ.own b).loc with
  | none => rw [ρ.cede_no hb, hb] at h; cases h
  | some m =>
    cases hm : ls.contains m with
    | true => rw [ρ.cede_in hb hm] at h; cases h
    | false =>
      rw [ρ.cede_out hb hm, hb] at h
      cases h
      exact ⟨rfl, hm⟩

theorem Map.cede_off (ρ : Map) {b : Nat} (h : (ρ.cede ls).own b = .off) : ρ.own b = .off := by
  cases hb : (ρ.own b).loc with
  | none => rw [ρ.cede_no hb] at h; exact h
  | some m =>
    cases hm : ls.contains m with
    | true => rw [ρ.cede_in hb hm] at h; cases h
    | false => rw [ρ.cede_out hb hm] at h; rw [h] at hb; cases hb

theorem Map.cede_al (ρ : Map) {deps : List Nat} {b : Nat} (h : Al ρ.own deps b) : Al (ρ.cede ls).own (deps.filter fun l => !ls.contains l) b := by
  rcases h with h | ⟨l, hl, hb⟩
  · exact .inl (ρ.cede_free h)
  · cases hm : ls.contains l with
    | true => exact .inl (ρ.cede_in hb hm)
    | false => exact .inr ⟨l, List.mem_filter.2 ⟨hl, by rw [hm]; rfl⟩, by rw [ρ.cede_out hb hm, hb]⟩

theorem not_killed_allOf {l : Nat} (h : ¬ Killed (allOf ls) l) : ls.contains l = false := by
  cases hm : ls.contains l with
  | true => exact absurd (killed_allOf.2 (by simpa using hm)) h
  | false => rfl

theorem cede_root (s : S) (ls : List Nat) (l : Nat) : (s.cede ls).root l = if ls.contains l then none else (s.root l).map (Root.cede s.view ls) := by
  show (dropAll (s.H.map fun o => o.map (Root.cede s.view ls)) ls).getD l none = _
  rw [dropAll_get]
  by_cases hm : l ∈ ls
  · simp [hm]
  · have : ls.contains l = false := by simpa using hm
    rw [if_neg hm, this]
    simp only [S.root, List.getD_eq_getElem?_getD, List.getElem?_map, Bool.false_eq_true, if_false]
    cases s.H[l]? <;> rfl

theorem cede_chg (h : Rel P K ρ s a w) (ls : List Nat) : Chg P ρ (ρ.cede ls) w w s.root (s.cede ls).root (allOf ls) where
  later := Later.refl w
  free := fun b _ hb => ⟨ρ.cede_free hb, rfl⟩
  off := fun b _ hb => ⟨(ρ.cede_no (by rw [hb]; rfl)).trans hb, rfl⟩
  noOff := fun b hb => ρ.cede_off hb
  block := fun b l _ hb hk => ⟨rfl, fun _ => ρ.cede_out hb (not_killed_allOf hk)⟩
  hdr := fun _ _ _ => rfl
  hdrP := fun _ _ _ _ => rfl
  arr := fun l e xs d hk _ hl => by
    rw [cede_root, not_killed_allOf hk, hl]
    rfl
  mov := fun l c hc => by cases hc
  got := fun b l _ _ hn hb => hn b (ρ.cede_loc hb).1
  movB := fun b l _ _ hm => absurd hm not_moved_nil

theorem C.cede_rel (h : Rel P K ρ s a w) (ls : List Nat) {c : C} {v : Value} (hc : CR P ρ w s.root c v) : CR P (ρ.cede ls) w (s.cede ls).root (c.cede s.view ls) v := by
  have hone := hc.one
  unfold C.cede
  split
  · have hsl : ∀ c, CR P ρ w s.root c v → CR P (ρ.cede ls) w (s.cede ls).root (match s.view.slData (.c c) with
        | some ⟨e, xs, d⟩ => .v (.sl e) xs (d.filter fun l => !ls.contains l)
        | Option.none => .undef) v := by
      intro c hc
      split
      · rename_i e xs d hd
        have := slData_rd (Seen.self s) h.root hd (VR.one hc)
        exact ⟨rfl, Rd.mono (fun b _ ha => ⟨ρ.cede_al ha, rfl⟩) (.sl e) xs [v] this⟩
      · exact hone
    cases c with
    | v t x deps => exact ⟨hc.1, Rd.mono (fun b _ ha => ⟨ρ.cede_al ha, rfl⟩) t x [v] hc.2⟩
    | sp t x deps =>
      obtain ⟨b, o, us, h1, h2, h3, h4⟩ := hc
      exact ⟨b, o, us, h1, ρ.cede_al h2, Rd.mono (fun b _ ha => ⟨ρ.cede_al ha, rfl⟩) t x us h3, h4⟩
    | _ => exact hsl _ hc
  · rename_i hn
    have := (cede_chg h ls).cell hc hone
    rwa [C.left_allOf, if_neg (by simpa [allOf] using hn)] at this

theorem CsR.cede (h : Rel P K ρ s a w) (ls : List Nat) {cs : List C} {vs : List Value} (hc : CsR P ρ w s.root cs vs) : CsR P (ρ.cede ls) w (s.cede ls).root (cs.map (C.cede s.view ls)) vs := by
  refine ⟨by simpa using hc.1, fun j c v hj hv => ?_⟩
  rw [List.getElem?_map] at hj
  cases hcj : cs[j]? with
  | none => simp [hcj] at hj
  | some c0 =>
    simp only [hcj, Option.map_some, Option.some.injEq] at hj
    subst hj
    exact C.cede_rel h ls (hc.2 j c0 v hcj hv)

theorem VR.cede (h : Rel P K ρ s a w) (ls : List Nat) {g : Bool} {cs : List C} {v : Value} (hc : VR P ρ w s.root g cs v) : VR P (ρ.cede ls) w (s.cede ls).root g (cs.map (C.cede s.view ls)) v := by
  obtain ⟨vs, h1, h2⟩ := hc
  exact ⟨vs, CsR.cede h ls h1, h2⟩

theorem AR.cede (h : Rel P K ρ s a w) (ls : List Nat) {x : A} {v : Value} (hc : AR P ρ w s.root x v) : AR P (ρ.cede ls) w (s.cede ls).root (x.cede s.view ls) v := by
  cases x with
  | none => exact hc
  | any => trivial
  | val g cs => exact VR.cede h ls hc
  | tup l =>
    obtain ⟨vs, h1, h2, h3⟩ := hc
    refine ⟨vs, h1, by simpa using h2, fun i p v hi hv => ?_⟩
    rw [List.getElem?_map] at hi
    cases hli : l[i]? with
    | none => simp [hli] at hi
    | some q =>
      simp only [hli, Option.map_some, Option.some.injEq] at hi
      subst hi
      exact VR.cede h ls (h3 i q v hli hv)

theorem RR.cede (h : Rel P K ρ s a w) (ls : List Nat) {l : Nat} {r : Root} (hl : ls.contains l = false) (hr : RR P ρ w s.root l r) : RR P (ρ.cede ls) w (s.cede ls).root l (r.cede s.view ls) := by
  have hm : ∀ b, ρ.own b = .main l → (ρ.cede ls).own b = .main l := fun b hb => (ρ.cede_out (by rw [hb]; rfl) hl).trans hb
  cases r with
  | box cs =>
    obtain ⟨b, vs, T, h1, h2, h3, h4⟩ := hr
    exact ⟨b, vs, T, h1, hm b h2, h3, CsR.cede h ls h4⟩
  | arr e xs d =>
    have := RR.left (cede_chg h ls) (fun hk => by have := killed_allOf.1 hk; simp at hl; exact hl this) not_moved_nil hr
    exact this
  | lit e els =>
    obtain ⟨b, vs, T, h1, h2, h3, h4, h5, h6⟩ := hr
    refine ⟨b, vs, T, by rw [List.length_map]; exact h1, by rw [List.length_map]; exact h2, hm b h3, h4, by rw [List.length_map]; exact h5, fun i cs hi => ?_⟩
    rw [List.getElem?_map] at hi
    cases hi0 : els[i]? with
    | none => simp [hi0] at hi
    | some cs0 =>
      simp only [hi0, Option.map_some, Option.some.injEq] at hi
      subst hi
      obtain ⟨g1, g2⟩ := h6 i cs0 hi0
      refine ⟨by simpa using g1, fun j c hj => ?_⟩
      rw [List.getElem?_map] at hj
      cases hj0 : cs0[j]? with
      | none => simp [hj0] at hj
      | some c0 =>
        simp only [hj0, Option.map_some, Option.some.injEq] at hj
        subst hj
        obtain ⟨v, g3, g4⟩ := g2 j c0 hj0
        exact ⟨v, g3, C.cede_rel h ls g4⟩
  | gap => exact fun b hb => hr b (ρ.cede_loc hb).1

/-- **Roots that are given up.** -/
theorem Rel.cede (h : Rel P K ρ s a w) (ls : List Nat) : Rel P K (ρ.cede ls) (s.cede ls) a w where
  size := by rw [h.size]; simp [S.cede]
  defers := h.defers
  slot := fun i x hx => by
    simp only [S.cede, List.getElem?_map] at hx
    cases hi : s.fr[i]? with
    | none => simp [hi] at hx
    | some x0 =>
      simp only [hi, Option.map_some, Option.some.injEq] at hx
      subst hx
      obtain ⟨v, h1, h2⟩ := h.slot i x0 hi
      exact ⟨v, h1, AR.cede h ls h2⟩
  root := fun l r hr => by
    rw [cede_root] at hr
    cases hm : ls.contains l with
    | true => rw [hm] at hr; cases hr
    | false =>
      rw [hm] at hr
      simp only [Bool.false_eq_true, if_false] at hr
      cases hl : s.root l with
      | none => rw [hl] at hr; cases hr
      | some r0 =>
        rw [hl] at hr
        simp only [Option.map_some, Option.some.injEq] at hr
        subst hr
        exact RR.cede h ls hm (h.root l r0 hl)
  live := fun b l hb => by
    have := h.live b l (ρ.cede_loc hb).1
    simpa [S.cede, dropAll_length] using this
  fresh := fun b hb => ρ.cede_free (h.fresh b hb)
  later := h.later
  keep := fun b hb ho => by
    obtain ⟨h1, h2⟩ := h.keep b hb ho
    refine ⟨?_, h2⟩
    rw [ρ.cede_no, h1]
    rw [h1]
    rcases ho with ho | ho <;> rw [ho] <;> rfl
  old := fun b hb => h.old b (ρ.cede_off hb)
  fix := fun l v hl => by
    obtain ⟨h1, h2⟩ := h.fix l v hl
    exact ⟨h1, by simpa [S.cede, dropAll_length] using h2⟩

theorem C.cede_of_not_hit {V : View} {c : C} (h : c.hit ⟨ls.map fun l => (l, true), []⟩ = false) : c.cede V ls = c := by
  unfold C.hit at h
  simp only [Bool.or_eq_false_iff] at h
  unfold C.cede
  rw [if_neg (by simp [h.1])]

theorem map_cede {V : View} {cs : List C} (h : cs.any (C.hit ⟨ls.map fun l => (l, true), []⟩) = false) : cs.map (C.cede V ls) = cs := by
  simp only [List.any_eq_false, Bool.not_eq_true] at h
  conv => rhs; rw [← List.map_id cs]
  exact List.map_congr_left fun c hc => C.cede_of_not_hit (h c hc)

theorem A.cede_of_not_hit {V : View} {x : A} (h : x.hit ⟨ls.map fun l => (l, true), []⟩ = false) : x.cede V ls = x := by
  cases x with
  | none => rfl
  | any => rfl
  | val g cs => simp only [A.hit] at h; simp [A.cede, map_cede h]
  | tup vs =>
    simp only [A.hit, List.any_eq_false, Bool.not_eq_true] at h
    simp only [A.cede]
    congr 1
    conv => rhs; rw [← List.map_id vs]
    exact List.map_congr_left fun v hv => by
      have := map_cede (V := V) (ls := ls) (cs := v.2) (by simpa using h v hv)
      simp [this]

theorem Root.cede_of_not_hit {V : View} {r : Root} (h : r.hit ⟨ls.map fun l => (l, true), []⟩ = false) : r.cede V ls = r := by
  cases r with
  | box cs => simp only [Root.hit] at h; simp [Root.cede, map_cede h]
  | arr e xs d => rfl
  | gap => rfl
  | lit e els =>
    simp only [Root.hit, List.any_eq_false, Bool.not_eq_true] at h
    simp only [Root.cede]
    congr 1
    conv => rhs; rw [← List.map_id els]
    exact List.map_congr_left fun cs hcs => by
      have := map_cede (V := V) (ls := ls) (cs := cs) (by simpa using h cs hcs)
      simpa using this

theorem Same.cede {s0 s : S} (h : Same s0 s) (ls : List Nat) : Same s0 (s.cede ls) where
  len := by simp [S.cede, h.len]
  more := by simpa [S.cede, dropAll_length] using h.more
  fr := fun i hi => by
    simp only [S.cede, List.mem_append, not_or] at hi
    rw [← h.fr i hi.2]
    simp only [S.cede, List.getElem?_map]
    cases hx : s.fr[i]? with
    | none => rfl
    | some x =>
      have := hits_spec (A.hit ⟨ls.map fun l => (l, true), []⟩) s.fr 0 i x hx (by simpa using hi.1)
      simp [A.cede_of_not_hit this]
  root := fun l hl hn => by
    simp only [S.cede, List.mem_append, not_or] at hn
    rw [← h.root l hl hn.2.2, cede_root]
    have hm : ls.contains l = false := by simpa using hn.1
    rw [hm]
    simp only [Bool.false_eq_true, if_false, S.root, List.getD_eq_getElem?_getD]
    cases hx : s.H[l]? with
    | none => rfl
    | some o =>
      have := hits_spec (fun o : Option Root => (o.map (Root.hit ⟨ls.map fun l => (l, true), []⟩)).getD false) s.H 0 l o hx (by simpa using hn.2.1)
      cases o with
      | none => rfl
      | some r =>
        simp only [Option.map_some, Option.getD_some] at this
        simp [Root.cede_of_not_hit this]

end Go.Proofs.YtgjneigkkgaaiaaGreatDoor.Vd

/- VdZm -/
namespace Go.Proofs.YtgjneigkkgaaiaaGreatDoor.Vd

variable {P : Program} {E : Env} {ρ ρ' : Map} {w w' : World} {s s' : S} {a : Act} {K : Ctx} {H H' : Nat → Option Root} {t : Tm}

theorem gives_fr (s : S) : ∀ (r : List It) (z : Its r) (i : Nat), i ∉ r.flatMap It.slots → (s.gives r z).fr[i]? = s.fr[i]?
  | [], _, _, _ => rfl
  | [it], z, i, hi => give_fr s it z i (by simpa using hi)
  | it :: j :: is, z, i, hi => by
    simp only [List.flatMap_cons, List.mem_append, not_or] at hi
    simp only [S.gives]
    rw [gives_fr (s.give it z.1) (j :: is) z.2 i (by simp only [List.flatMap_cons, List.mem_append, not_or]; exact hi.2)]
    exact give_fr s it z.1 i hi.1

theorem gives_len (s : S) : ∀ (r : List It) (z : Its r), (s.gives r z).fr.length = s.fr.length
  | [], _ => rfl
  | [it], z => give_len s it z
  | it :: j :: is, z => by
    simp only [S.gives]
    rw [gives_len (s.give it z.1) (j :: is) z.2]
    exact give_len s it z.1

/-- The roots that a hole's filling sets, where its variable lies. -/
theorem give_more (s : S) (it : It) (x : it.D) : s.H.length ≤ (s.give it x).H.length := by
  cases it with
  | slot i k => cases k <;> simp [S.give, S.giveC]
  | cell i off k =>
    simp only [S.give]
    split
    · split
      · cases k <;> simp [S.giveC]
      · exact Nat.le_refl _
    · exact Nat.le_refl _
  | arr i e d => simp only [S.give]; split <;> simp

theorem give_root {s : S} {it : It} {x : it.D} {l : Nat} (hl : l < s.H.length) (h1 : l ∉ s.boxLoc it) (h2 : ∀ i e d, it = .arr i e d → s.fr[i]? ≠ some (.c (.ref l))) : (s.give it x).root l = s.root l := by
  have hgc : ∀ (k : HK) (x : k.D), (s.giveC k x).2.root l = s.root l := fun k x => by
    rw [giveC_root]
    cases k with
    | data t ds => rfl
    | own e d => dsimp only; rw [if_neg (by omega)]
  cases it with
  | slot i k => rw [give_slot_root]; exact hgc k x
  | cell i off k =>
    simp only [S.give]
    split
    · rename_i l0 hc
      split
      · rename_i cs hl0
        have := getD_some hc
        show ((s.giveC k x).2.H.set l0 _).getD l none = _
        rw [root_setI, if_neg]
        · exact hgc k x
        · rintro ⟨rfl, _⟩
          exact h1 (by simp only [S.boxLoc, hc, List.mem_singleton])
      · rfl
    · rfl
  | arr i e d =>
    simp only [S.give]
    split
    · rename_i l0 hc
      show (s.H.set l0 _).getD l none = _
      rw [root_setI, if_neg]
      · rfl
      · rintro ⟨rfl, _⟩
        exact h2 i e d rfl (getD_some hc)
    · rfl

/-- Roots that are no holes stay as they are. -/
theorem gives_root {s1 : S} (s : S) (T : List It) : ∀ (r : List It) (z : Its r) (l : Nat), l < s.H.length → (∀ i : Nat, i ∉ T.flatMap It.slots → s.fr[i]? = s1.fr[i]?) → (∀ it ∈ r, it ∈ T) → (∀ it ∈ r, ∀ i ∈ it.via, i ∉ T.flatMap It.slots) →
    (∀ it ∈ r, l ∉ s1.boxLoc it) → (∀ i e d, It.arr i e d ∈ r → s1.fr[i]? ≠ some (.c (.ref l))) → (s.gives r z).root l = s.root l
  | [], _, _, _, _, _, _, _, _ => rfl
  | it :: r, z, l, hl, hfr, hsub, hvia, hb, ha => by
    have hone : ∀ x, (s.give it x).root l = s.root l := fun x => by
      refine give_root hl ?_ ?_
      · have h1 := hb it (List.mem_cons_self ..)
        cases it with
        | slot i k => simp [S.boxLoc]
        | arr i e d => simp [S.boxLoc]
        | cell i off k =>
          have := hfr i (hvia _ (List.mem_cons_self ..) i (by simp [It.via]))
          simp only [S.boxLoc, List.getD_eq_getElem?_getD, this] at h1 ⊢
          exact h1
      · rintro i e d rfl
        rw [hfr i (hvia _ (List.mem_cons_self ..) i (by simp [It.via]))]
        exact ha i e d (List.mem_cons_self ..)
    cases r with
    | nil => exact hone z
    | cons j is =>
      simp only [S.gives]
      rw [gives_root (s1 := s1) (s.give it z.1) T (j :: is) z.2 l (Nat.lt_of_lt_of_le hl (give_more ..)) (fun i hi => ?_) (fun q hq => hsub q (List.mem_cons_of_mem _ hq)) (fun q hq => hvia q (List.mem_cons_of_mem _ hq)) (fun q hq => hb q (List.mem_cons_of_mem _ hq)) (fun i e d hm => ha i e d (List.mem_cons_of_mem _ hm))]
      · exact hone z.1
      · rw [give_fr s it z.1 i (fun h => hi (List.mem_flatMap.2 ⟨it, hsub it (List.mem_cons_self ..), h⟩))]
        exact hfr i hi

theorem at_fr (s : S) (t : Tm) (x : Its t.items) {i : Nat} (h1 : i ∉ t.kill) (h2 : i ∉ t.items.flatMap It.slots) : (s.at t x).fr[i]? = (s.opened t).fr[i]? := by
  rw [at_eq]
  show ((s.base t).gives t.items x).fr[i]? = _
  rw [gives_fr _ _ _ _ h2, base_fr, if_neg h1, opened_eq, swept_fr, List.getElem?_map]

theorem at_len (s : S) (t : Tm) (x : Its t.items) : (s.at t x).fr.length = s.fr.length := by
  rw [at_eq]
  show ((s.base t).gives t.items x).fr.length = _
  rw [gives_len, base_len]

theorem gives_more (s : S) : ∀ (r : List It) (z : Its r), s.H.length ≤ (s.gives r z).H.length
  | [], _ => Nat.le_refl _
  | [it], z => give_more s it z
  | it :: j :: is, z => Nat.le_trans (give_more s it z.1) (gives_more _ (j :: is) z.2)

theorem at_more (s : S) (t : Tm) (x : Its t.items) : s.H.length ≤ (s.at t x).H.length := by
  rw [at_eq]
  show _ ≤ ((s.base t).gives t.items x).H.length
  exact Nat.le_trans (by rw [base_H]; exact Nat.le_refl _) (gives_more _ _ _)

theorem at_root (hf : Fit s E t) (x : Its t.items) {l : Nat} (hl : l < s.H.length) (hn : l ∉ t.items.flatMap s.locs) : (s.at t x).root l = (s.opened t).root l := by
  have hnl : ∀ it ∈ t.items, l ∉ s.locs it := fun it hit hlo => hn (List.mem_flatMap.2 ⟨it, hit, hlo⟩)
  rw [at_eq]
  show ((s.base t).gives t.items x).root l = _
  have hvia := fun it hit i hi => fits_via t.items [] hf.fits it hit i hi
  rw [gives_root (s1 := s.base t) (s.base t) t.items t.items x l (by rw [base_H]; exact hl) (fun _ _ => rfl) (fun _ h => h) (fun it hit i hi => (hvia it hit i hi).2) (fun it hit hb => ?_) (fun i e d hit => ?_)]
  · rw [base_root, if_neg, if_neg, opened_eq, swept_root]
    · intro h
      obtain ⟨it, hit, hlo⟩ := List.mem_flatMap.1 h
      exact hnl it hit (by simp only [S.locs, List.mem_append]; exact .inl (.inl hlo))
    · intro h
      obtain ⟨it, hit, hlo⟩ := List.mem_flatMap.1 h
      exact hnl it hit (by simp only [S.locs, List.mem_append]; exact .inl (.inr hlo))
  · cases it with
    | slot i k => simp [S.boxLoc] at hb
    | arr i e d => simp [S.boxLoc] at hb
    | cell i off k =>
      have hk := (hvia _ hit i (by simp [It.via])).1
      simp only [S.boxLoc] at hb
      split at hb
      · rename_i l0 hc
        simp only [List.mem_singleton] at hb
        subst hb
        have h1 := getD_some hc
        rw [base_fr, if_neg hk] at h1
        cases hs : s.fr[i]? with
        | none => rw [hs] at h1; cases h1
        | some x0 =>
          rw [hs] at h1
          simp only [Option.map_some, Option.some.injEq] at h1
          have : x0 = .c (.bp l 0) := by
            cases x0 with
            | none => cases h1
            | any => cases h1
            | tup vs => cases h1
            | val g cs =>
              simp only [A.left, A.val.injEq] at h1
              obtain ⟨rfl, h1⟩ := h1
              match cs, h1 with
              | [c], h1 =>
                simp only [List.map_cons, List.map_nil, List.cons.injEq, and_true, C.left_allOf] at h1
                split at h1
                · cases h1
                · rw [h1]
              | [], h1 => cases h1
              | _ :: _ :: _, h1 => simp at h1
          subst this
          exact hnl _ hit (by simp only [S.locs, S.boxLoc, getD_of hs, List.mem_append, List.mem_singleton]; exact .inl (.inr trivial))
      · simp at hb
  · intro h1
    have hk := (hvia _ hit i (by simp [It.via])).1
    rw [base_fr, if_neg hk] at h1
    cases hs : s.fr[i]? with
    | none => rw [hs] at h1; cases h1
    | some x0 =>
      rw [hs] at h1
      simp only [Option.map_some, Option.some.injEq] at h1
      obtain ⟨rfl, _⟩ := left_ref h1
      exact hnl _ hit (by simp only [S.locs, getD_of hs, List.mem_append, List.mem_singleton]; exact .inr trivial)

/-- Behind the loop: what is not marked is as it was. -/
theorem Same.back {s0 : S} (h0 : Same s0 s) (hf : Fit s E t) {x : Its t.items} (h : Same (s.at t x) s') : Same s0 (s'.back s t) where
  len := by
    show s'.fr.length = _
    rw [h.len, at_len, h0.len]
  more := Nat.le_trans h0.more (Nat.le_trans (at_more s t x) h.more)
  fr := fun i hi => by
    simp only [S.back, List.mem_append, not_or] at hi
    show s'.fr[i]? = _
    rw [h.fr i hi.1, at_fr s t x hi.2.1 hi.2.2.1]
    exact (h0.swept (allOf (t.items.flatMap s.ownLoc))).fr i hi.2.2.2
  root := fun l hl hn => by
    simp only [S.back, List.mem_append, not_or] at hn
    have hls := Nat.lt_of_lt_of_le hl h0.more
    show s'.root l = _
    rw [h.root l (Nat.lt_of_lt_of_le hls (at_more s t x)) hn.1, at_root hf x hls hn.2.1]
    exact (h0.swept (allOf (t.items.flatMap s.ownLoc))).root l hl hn.2.2

theorem Rel.back (h : Rel P K ρ s' a w) (s : S) (t : Tm) : Rel P K ρ (s'.back s t) a w := ⟨h.size, h.defers, h.slot, h.root, h.live, h.fresh, h.later, h.keep, h.old, h.fix⟩

theorem within_spec {s0 : S} (h : s0.within s t = true) : (t.items.flatMap s.ownLoc).Nodup ∧ (∀ l ∈ t.items.flatMap s.ownLoc, s0.H.length ≤ l ∨ l ∈ t.items.flatMap s0.ownLoc) ∧
    (∀ l ∈ t.items.flatMap s0.boxLoc, s0.boxLen l = s.boxLen l) ∧ (∀ i ∈ s.dF, i ∈ t.kill ∨ i ∈ t.items.flatMap It.slots) ∧ ∀ l ∈ s.dH, s0.H.length ≤ l ∨ l ∈ t.items.flatMap s0.locs := by
  unfold S.within at h
  simp only [Bool.and_eq_true, decide_eq_true_eq, List.all_eq_true, Bool.or_eq_true, beq_iff_eq] at h
  obtain ⟨⟨⟨⟨h1, h2⟩, h3⟩, h4⟩, h5⟩ := h
  refine ⟨h1, fun l hl => ?_, h3, fun i hi => ?_, fun l hl => ?_⟩
  · rcases h2 l hl with h | h
    · exact .inl h
    · exact .inr (by simpa using h)
  · rcases h4 i hi with h | h
    · exact .inl (by simpa using h)
    · rw [List.any_eq_true] at h
      obtain ⟨q, hq, hq'⟩ := h
      exact .inr (List.mem_flatMap.2 ⟨q, hq, by simpa using hq'⟩)
  · rcases h5 l hl with h | h
    · exact .inl h
    · rw [List.any_eq_true] at h
      obtain ⟨q, hq, hq'⟩ := h
      exact .inr (List.mem_flatMap.2 ⟨q, hq, by simpa using hq'⟩)

theorem loop_sound (hF : FixOK K E) (h : Hints) (b : Code) (hb : CodeSound P E K h b) : CodeSound P E K h (.loop b) := by
  intro β s0 cur s ρ a w k y Q hs hR hS hk
  simp only [semC, S.force_eq] at hs
  split at hs
  · rename_i t _
    obtain ⟨ρ, hR, hS⟩ : ∃ ρ', Rel P K ρ' (s.entered E t) a w ∧ Same s0 (s.entered E t) := by
      unfold S.entered
      split
      · exact ⟨ρ, hR, hS⟩
      · exact ⟨_, hR.cede _, hS.cede _⟩
    generalize s.entered E t = s at hs hR hS
    split at hs
    · cases hs
    · rename_i hfit
      have hfit : s.fitIn E t = true := by simpa using hfit
      have hf := fitIn_spec hfit
      split at hs
      · rename_i x0 hx0
        have hfix : ∀ l v, (l, v) ∈ K.fix → l < s.H.length ∧ l ∉ t.items.flatMap s.ownLoc := fun l v hl =>
          ⟨(hR.fix l v hl).2, fun hm => hf.nofix l hm (hF l v hl)⟩
        refine wp_loop_rounds many ?_
        rw [loopO_eq] at hs
        have hent : ∃ ρ', Rel P K ρ' (s.at t x0) a w := (⟨⟨x0, hx0⟩, hx0, hfit, hR, rfl, Nat.le_refl _, fun _ _ _ => .inl rfl, fun _ _ _ => .inl rfl, hf.nd, fun l hl => .inr hl, fun _ _ => rfl, hfix⟩ : Reopen P E K ρ s s t a w x0).rel'
        obtain ⟨ρ1, hR1⟩ := hent
        clear hR
        revert hs hR1
        suffices H : ∀ n (x : Its t.items) ρ1 a w, iter (fun again x => semC E h cur b (s.at t x) fun e s' => match e with
            | .normal => s.onward s' t again
            | e => k e (s'.back s t)) n x = some y → Rel P K ρ1 (s.at t x) a w → Code.rounds P b Q n a w from fun hs hR1 => H many x0 ρ1 a w hs hR1
        intro n
        induction n with
        | zero => intro x ρ1 a w hs _; cases hs
        | succ n ih =>
          intro x ρ1 a w hs hR1
          rw [rounds_succ]
          refine hb (s.at t x) cur (s.at t x) ρ1 a w _ y _ hs hR1 (Same.refl _) fun e s' ρ' a' w' hR' hS' hk' => ?_
          cases e with
          | normal =>
            show Code.rounds P b Q n a' w'
            have step : ∀ (s' : S) ρ' z, Rel P K ρ' s' a' w' → Same (s.at t x) s' → s.within s' t = true → s'.takes t.items = some z → iter (fun again x => semC E h cur b (s.at t x) fun e s' => match e with
                | .normal => s.onward s' t again
                | e => k e (s'.back s t)) n z = some y → Code.rounds P b Q n a' w' := by
              intro s' ρ' z hR' hS' hw hz hk'
              obtain ⟨h1, h2, h3, h4, h5⟩ := within_spec hw
              have hre : Reopen P E K ρ' s s' t a' w' z := ⟨⟨x0, hx0⟩, hz, hfit, hR', by rw [hS'.len, at_len], Nat.le_trans (at_more s t x) hS'.more, fun i hi1 hi2 => ?_, fun l hl hn => ?_, h1, h2, h3, hfix⟩
              · obtain ⟨ρ2, hR2⟩ := hre.rel'
                exact ih z ρ2 a' w' hk' hR2
              · right
                rw [hS'.fr i (fun hd => by rcases h4 i hd with h | h <;> contradiction), at_fr s t x hi1 hi2, opened_eq, swept_fr, List.getElem?_map]
              · right
                rw [hS'.root l (Nat.lt_of_lt_of_le hl (at_more s t x)) (fun hd => by
                  rcases h5 l hd with h | h
                  · omega
                  · exact hn h), at_root hf x hl hn, opened_eq, swept_root]
            dsimp only [S.onward] at hk'
            split at hk'
            · rename_i hw
              split at hk'
              · rename_i z hz
                exact step s' ρ' z hR' hS' hw hz hk'
              · split at hk'
                · rename_i hw2
                  split at hk'
                  · rename_i z hz
                    exact step _ _ z (hR'.cede _) (hS'.cede _) hw2 hz hk'
                  · cases hk'
                · cases hk'
            · cases hk'
          | exit id => exact hk (.exit id) _ ρ' a' w' (hR'.back s t) (Same.back hS hf hS') hk'
          | ret => exact hk .ret _ ρ' a' w' (hR'.back s t) (Same.back hS hf hS') hk'
      · cases hs
  · cases hs

/-- **All code is sound.** -/
theorem code_sound (hT : TyOK P E) (hF : FixOK K E) (hC : CallsOK P E K) (h : Hints) (c : Code) (hok : codeOK P h c = true) : CodeSound P E K h c :=
  semC_sound hT hF hC h (loop_sound hF h) c hok

end Go.Proofs.YtgjneigkkgaaiaaGreatDoor.Vd

/- VdZn -/
namespace Go.Proofs.YtgjneigkkgaaiaaGreatDoor.Vd

variable {P : Program} {E : Env} {ρ ρ' ρ0 : Map} {w w' : World} {s s' : S} {a : Act} {K : Ctx} {H H' Hc : Nat → Option Root}

def rt (rs : List (Option Root)) : Nat → Option Root := fun l => rs.getD l none

/-- The callee's roots at the end: those that it was given, and new ones. -/
def exitIo (nx : Nat) : List PK → List (Σ t : Ty, t.D) → List (Option Root) × List Root
  | [], _ => ([], [])
  | .mv t :: pk, r => match r with
    | ⟨u, x⟩ :: r => let q := exitIo nx pk r; ((ownCells 0 u x).2.map some ++ q.1, q.2)
    | [] => let q := exitIo nx pk []; (List.replicate (nsl t) none ++ q.1, q.2)
  | .mp t own :: pk, r => match r with
    | ⟨u, x⟩ :: r => let c := cellsOf own nx [] u x; let q := exitIo (nx + c.2.length) pk r; (some (.box c.1) :: (List.replicate (if own then nsl t else 0) none ++ q.1), c.2 ++ q.2)
    | [] => let q := exitIo nx pk []; (List.replicate (PK.mp t own).count none ++ q.1, q.2)
  | .ow t :: pk, r => let q := exitIo nx pk r; (List.replicate (nsl t) none ++ q.1, q.2)
  | .data _ :: pk, r | .rp _ :: pk, r | .fn _ _ :: pk, r | .rfn _ _ :: pk, r => exitIo nx pk r

def entryLen (con : Con0) : Nat := (con.pk.map PK.count).sum

/-- The state that a call leaves behind, in the callee's numbers. -/
def exitRoots (con : Con0) (y : Out con.rk con.pk) : List (Option Root) :=
  let q := results (entryLen con) [] con.rk (tupList _ y)
  let g := exitIo (entryLen con + q.2.1.length) con.pk q.2.2
  g.1 ++ (q.2.1 ++ g.2).map some

structure Exit0 (P : Program) (con : Con0) (y : Out con.rk con.pk) (w : World) (ρ : Map) (w' : World) (ρ' : Map) (v : Value) : Prop where
  later : Later w w'
  keep : ∀ b, b < w.heap.size → (ρ.own b = .free ∨ ρ.own b = .off) → ρ'.own b = ρ.own b ∧ w'.heap[b]? = w.heap[b]?
  noOff : ∀ b, ρ'.own b = .off → ρ.own b = .off
  fresh : ∀ b, w'.heap.size ≤ b → ρ'.own b = .free
  live : ∀ b l, (ρ'.own b).loc = some l → l < (exitRoots con y).length
  hdr : ∀ l ∈ stays 0 con.pk, ρ'.hdr l = ρ.hdr l
  res : AR P ρ' w' (rt (exitRoots con y)) (tupA (results (entryLen con) [] con.rk (tupList _ y)).1) v
  root : ∀ l r, (rt (exitRoots con y)) l = some r → RR P ρ' w' (rt (exitRoots con y)) l r

/-- Package-level variables that hold known cells (their blocks). -/
class Laid (P : Program) where
  tabs : List (Nat × Array Value)

/-- They stand, and nobody owns them. -/
def Met (P : Program) [Laid P] (w : World) (own : Nat → Own) : Prop := ∀ g cs, (g, cs) ∈ Laid.tabs P → own g = .free ∧ ∃ T z, w.heap[g]? = some (.cells cs T z)

theorem Met.step [Laid P] {own own' : Nat → Own} (h : Met P w own) (hs : ∀ b, b < w.heap.size → own b = .free → own' b = .free ∧ w'.heap[b]? = w.heap[b]?) : Met P w' own' := fun g cs hg => by
  obtain ⟨h1, T, z, h2⟩ := h g cs hg
  obtain ⟨h3, h4⟩ := hs g (Array.getElem?_eq_some_iff.1 h2).1 h1
  exact ⟨h3, T, z, h4.trans h2⟩

theorem Rel.met [Laid P] (hR : Rel P K ρ s a w) (h : Met P K.w0 K.own0) : Met P w ρ.own := h.step fun b hb ho => by
  obtain ⟨h1, h2⟩ := hR.keep b hb (.inl ho)
  exact ⟨h1.trans ho, h2⟩

/-- **A function meets its contract.** -/
structure ConOK (P : Program) [Laid P] (f : Nat) (con : Con0) : Prop where
  fn : ∃ fn, P.funcs[f]? = some fn ∧ fn.name ≠ "runtime.NumGoroutine" ∧ fn.body.isSome = true
  run : ∀ (x : In con.pk) (y : Out con.rk con.pk), con.F x = some y → ∀ (w : World) (ρ : Map) (args : List Value), (∀ b, w.heap.size ≤ b → ρ.own b = .free) →
    (∀ b l, (ρ.own b).loc = some l → l < (entriesL 0 (insL con.pk x)).2.length) → (entriesL 0 (insL con.pk x)).1.length = args.length →
    (∀ (i : Nat) A v, (entriesL 0 (insL con.pk x)).1[i]? = some A → args[i]? = some v → AR P ρ w (rt ((entriesL 0 (insL con.pk x)).2.map some)) A v) →
    (∀ l r, (entriesL 0 (insL con.pk x)).2[l]? = some r → RR P ρ w (rt ((entriesL 0 (insL con.pk x)).2.map some)) l r) → Met P w ρ.own →
    Calls P f args.toArray w fun e w' => ∃ v ρ', e = .returned v ∧ Exit0 P con y w ρ w' ρ' v

/-! ### What is handed over -/

/-- The places of the caller's that the callee's roots n, n + 1, .. are; their values. -/
structure Compat (ρ ρ0 : Map) (n : Nat) (ps : List Spot) (vals : List Value) : Prop where
  len : vals.length = ps.length
  hdr : ∀ (i : Nat) v, vals[i]? = some v → ρ0.hdr (n + i) = v
  root : ∀ (i l : Nat), ps[i]? = some (.root l) → (∀ b, ρ.own b = .main l → ρ0.own b = .main (n + i)) ∧ ∀ b i' j, ρ.own b = .inner l i' j → ρ0.own b = .inner (n + i) i' j
  in1 : ∀ (i l i' j : Nat), ps[i]? = some (.in1 l i' j) → ∀ b, ρ.own b = .inner l i' j → ρ0.own b = .main (n + i)

theorem Compat.left {n : Nat} {ps qs : List Spot} {vals vals' : List Value} (h : Compat ρ ρ0 n (ps ++ qs) (vals ++ vals')) (hl : vals.length = ps.length) : Compat ρ ρ0 n ps vals where
  len := hl
  hdr := fun i v hi => h.hdr i v (by rw [List.getElem?_append_left (List.getElem?_eq_some_iff.1 hi).1]; exact hi)
  root := fun i l hi => h.root i l (by rw [List.getElem?_append_left (List.getElem?_eq_some_iff.1 hi).1]; exact hi)
  in1 := fun i l i' j hi => h.in1 i l i' j (by rw [List.getElem?_append_left (List.getElem?_eq_some_iff.1 hi).1]; exact hi)

theorem Compat.right {n : Nat} {ps qs : List Spot} {vals vals' : List Value} (h : Compat ρ ρ0 n (ps ++ qs) (vals ++ vals')) (hl : vals.length = ps.length) : Compat ρ ρ0 (n + ps.length) qs vals' where
  len := by have := h.len; simp only [List.length_append] at this; omega
  hdr := fun i v hi => by
    have := h.hdr (ps.length + i) v (by rw [List.getElem?_append_right (by omega)]; rw [show ps.length + i - vals.length = i by omega]; exact hi)
    rwa [← Nat.add_assoc] at this
  root := fun i l hi => by
    have := h.root (ps.length + i) l (by rw [List.getElem?_append_right (by omega)]; rw [show ps.length + i - ps.length = i by omega]; exact hi)
    rwa [← Nat.add_assoc] at this
  in1 := fun i l i' j hi => by
    have := h.in1 (ps.length + i) l i' j (by rw [List.getElem?_append_right (by omega)]; rw [show ps.length + i - ps.length = i by omega]; exact hi)
    rwa [← Nat.add_assoc] at this

/-- What a slice's place and value are (element type e; lent: it comes back). -/
def PlaceV (s : S) (ρ : Map) (w : World) (lent : Bool) (e : Ty) : Spot → Value → Prop
  | .none, v => ∃ q, v = .slice q 0 0
  | .root l, v => ∃ xs d, s.root l = some (.arr e xs d) ∧ (d = true ∨ e.flat = true) ∧ (lent = true → v = ρ.hdr l)
  | .in1 l i j, v => lent = true ∧ e.flat = true ∧ ∃ e' xs x b n c ys, s.root l = some (.arr e' xs true) ∧ xs[i]? = some x ∧ cellAt e' x j = some ⟨.sl e, ys⟩ ∧ ρ.hdr l = .slice (some ⟨b, 0, none⟩) n c ∧ ρ.own b = .main l ∧ w.cell? ⟨b, i * e'.size + j, none⟩ = some v

/-- The element types of the slices in a type. -/
def slTys : Ty → List Ty
  | .sl e => [e]
  | .one h => slTys h
  | .cons h t => slTys h ++ slTys t
  | _ => []

theorem slTys_length : (t : Ty) → (slTys t).length = nsl t
  | .sl _ => rfl
  | .one h => slTys_length h
  | .cons h t => by simp [slTys, nsl, slTys_length h, slTys_length t]
  | .int _ | .bool | .str => rfl

/-- Places, one a slice. -/
def Places (s : S) (ρ : Map) (w : World) (lent : Bool) (es : List Ty) (ps : List Spot) (vals : List Value) : Prop :=
  ps.length = es.length ∧ vals.length = es.length ∧ ∀ (i : Nat) e p v, es[i]? = some e → ps[i]? = some p → vals[i]? = some v → PlaceV s ρ w lent e p v

theorem Places.append {s : S} {lent : Bool} {es es' : List Ty} {ps ps' : List Spot} {vals vals' : List Value} (h : Places s ρ w lent es ps vals) (h' : Places s ρ w lent es' ps' vals') : Places s ρ w lent (es ++ es') (ps ++ ps') (vals ++ vals') := by
  obtain ⟨h1, h2, h3⟩ := h
  obtain ⟨g1, g2, g3⟩ := h'
  refine ⟨by simp [h1, g1], by simp [h2, g2], fun i e p v he hp hv => ?_⟩
  by_cases hi : i < es.length
  · rw [List.getElem?_append_left hi] at he
    rw [List.getElem?_append_left (by omega)] at hp hv
    exact h3 i e p v he hp hv
  · rw [List.getElem?_append_right (by omega)] at he hp hv
    rw [h1] at hp
    rw [h2] at hv
    exact g3 _ e p v he hp hv

theorem Places.one {s : S} {lent : Bool} {e : Ty} {p : Spot} {v : Value} (h : PlaceV s ρ w lent e p v) : Places s ρ w lent [e] [p] [v] := by
  refine ⟨rfl, rfl, fun i e' p' v' he hp hv => ?_⟩
  cases i with
  | zero => simp at he hp hv; subst he; subst hp; subst hv; exact h
  | succ i => simp at he

theorem ownCells_len : (t : Ty) → (n : Nat) → (x : t.D) → (ownCells n t x).2.length = nsl t
  | .sl _, _, _ => rfl
  | .one h, n, x => ownCells_len h n x
  | .cons h t, n, x => by simp [ownCells, nsl, ownCells_len h, ownCells_len t]
  | .int _, _, _ | .bool, _, _ | .str, _, _ => rfl

theorem ownCells_size : (t : Ty) → (n : Nat) → (x : t.D) → (ownCells n t x).1.length = t.size
  | .sl _, _, _ => rfl
  | .one h, n, x => ownCells_size h n x
  | .cons h t, n, x => by simp [ownCells, Ty.size, ownCells_size h, ownCells_size t]
  | .int _, _, _ | .bool, _, _ | .str, _, _ => rfl

/-- A callee's root that is a slice of the caller's. -/
theorem root_given {V : View} (hV : Seen V s) (hroot : ∀ l r, s.root l = some r → RR P ρ w s.root l r) {mv : Bool} {c : C} {e : Ty} {xs : List e.D} {ps : List Spot} {v : Value} (h : V.held mv c (.sl e) = some (xs, ps)) (hc : CR P ρ w s.root c v) :
    ∃ p, ps = [p] ∧ PlaceV s ρ w mv e p v ∧ ∀ n ρ0, (∀ b, ρ.own b = .free → ρ0.own b = .free) → Compat ρ ρ0 n [p] [v] → RR P ρ0 w Hc n (.arr e xs true) ∧ CR P ρ0 w Hc (.ref n) v := by
  have fromRoot : ∀ (l : Nat) (ys : List e.D) (d : Bool) (m c' : Nat) (q : Option Addr), s.root l = some (.arr e ys d) → (d || e.flat) = true → ρ.hdr l = .slice q m c' → m = ys.length → ∀ k, k ≤ ys.length → v = .slice q k c' → (c' = 0 → k = 0) →
      ∀ n ρ0, (∀ b, ρ.own b = .free → ρ0.own b = .free) → Compat ρ ρ0 n [.root l] [v] → RR P ρ0 w Hc n (.arr e (ys.take k) true) ∧ CR P ρ0 w Hc (.ref n) v := by
    intro l ys d m c' q hl hd hh hm k hk hv hz n ρ0 hfree hcp
    have hr : ArrR w ρ.own (.main l) e ys (EL w ρ.own l d e) (ρ.hdr l) := hroot l _ hl
    obtain ⟨g1, g2⟩ := hcp.root 0 l rfl
    have g3 := hcp.hdr 0 v rfl
    refine ⟨?_, ⟨g3.symm, q, k, c', hv⟩⟩
    show ArrR w ρ0.own (.main n) e (ys.take k) (EL w ρ0.own n true e) (ρ0.hdr n)
    rw [show ρ0.hdr n = v from g3]
    rcases hr with ⟨q', h1, h2⟩ | ⟨b, cap, vs, T, h1, h2, h3, h4, h5, h6, h7⟩
    · rw [hh] at h1
      simp only [Value.slice.injEq] at h1
      subst h2
      simp only [List.length_nil, Nat.le_zero_eq] at hk
      refine .inl ⟨q, ?_, by simp⟩
      rw [hv, h1.2.2, hk]
    · rw [hh] at h1
      simp only [Value.slice.injEq] at h1
      obtain ⟨rfl, _, rfl⟩ := h1
      refine .inr ⟨b, c', vs, T, ?_, ?_, h3, g1 b h4, h5, h6, fun i x hx => ?_⟩
      · rw [hv, List.length_take, Nat.min_eq_left hk]
      · rw [List.length_take, Nat.min_eq_left hk]; omega
      · have hx' : ys[i]? = some x := by
          rw [List.getElem?_take] at hx
          split at hx
          · exact hx
          · cases hx
        obtain ⟨us, q1, q2, q3⟩ := h7 i x hx'
        refine ⟨us, q1, q2, ?_⟩
        unfold EL at q3 ⊢
        rw [if_pos rfl]
        split at q3
        · exact DR.rekey (fun b j hb => g2 b i j hb) e 0 x us q3
        · rename_i hdf
          have : e.flat = true := by simpa [hdf] using hd
          exact DR.ofFlat e 0 x us this q3
  cases c with
  | nils =>
    simp only [View.held, Option.some.injEq, Prod.mk.injEq] at h
    obtain ⟨rfl, rfl⟩ := h
    obtain ⟨q, rfl⟩ := hc
    refine ⟨.none, rfl, ⟨q, rfl⟩, fun n ρ0 _ hcp => ?_⟩
    have g3 : ρ0.hdr n = _ := hcp.hdr 0 _ rfl
    refine ⟨?_, g3.symm, q, 0, 0, rfl⟩
    show ArrR w ρ0.own (.main n) e [] (EL w ρ0.own n true e) (ρ0.hdr n)
    rw [g3]
    exact .inl ⟨q, rfl, rfl⟩
  | ref l =>
    simp only [View.held] at h
    split at h
    · rename_i e' ys d hl
      split at h
      · rename_i he
        subst he
        split at h
        · rename_i hd
          simp only [castD_rfl, Option.some.injEq, Prod.mk.injEq] at h
          obtain ⟨rfl, rfl⟩ := h
          obtain ⟨hv, _⟩ := hc
          have hr : ArrR w ρ.own (.main l) e' ys (EL w ρ.own l d e') (ρ.hdr l) := hroot l _ (hV l _ hl)
          obtain ⟨q, c', hs, hle⟩ := hr.slice
          refine ⟨.root l, rfl, ⟨ys, d, hV l _ hl, by simpa using hd, fun _ => hv⟩, fun n ρ0 hfree hcp => ?_⟩
          have := fromRoot l ys d ys.length c' q (hV l _ hl) hd hs rfl ys.length (Nat.le_refl _) (hv.trans hs) (fun hz => by omega) n ρ0 hfree hcp
          rwa [List.take_length] at this
        · cases h
      · cases h
    · cases h
  | pre l k =>
    simp only [View.held] at h
    split at h
    · cases h
    · rename_i hmv
      split at h
      · rename_i e' ys d hl
        split at h
        · rename_i he
          subst he
          split at h
          · rename_i hd
            simp only [castD_rfl, Option.some.injEq, Prod.mk.injEq] at h
            obtain ⟨rfl, rfl⟩ := h
            obtain ⟨q, m, c', h1, rfl, h3⟩ := hc
            have hr : ArrR w ρ.own (.main l) e' ys (EL w ρ.own l d e') (ρ.hdr l) := hroot l _ (hV l _ hl)
            obtain ⟨q', c2, hs, hle⟩ := hr.slice
            rw [h1] at hs
            simp only [Value.slice.injEq] at hs
            obtain ⟨rfl, rfl, rfl⟩ := hs
            refine ⟨.root l, rfl, ⟨ys, d, hV l _ hl, by simpa using hd, fun h => by rw [h] at hmv; exact absurd rfl hmv⟩, fun n ρ0 hfree hcp => ?_⟩
            exact fromRoot l ys d _ c' q (hV l _ hl) hd h1 rfl k h3 rfl (fun hz => by omega) n ρ0 hfree hcp
          · cases h
        · cases h
      · cases h
  | ref1 l i j u ys =>
    simp only [View.held] at h
    split at h
    · rename_i hmv
      split at h
      · rename_i he
        subst he
        simp only [castD_rfl, Option.some.injEq, Prod.mk.injEq] at h
        obtain ⟨rfl, rfl⟩ := h
        obtain ⟨e', xs, x, us, h1, h2, h3, h4, h5, b, n', c', h6, h8, h7⟩ := hc
        obtain ⟨⟨v', hv', huf, harr⟩, _⟩ := DR.at e' 0 x us h5 j _ _ v h3 h4
        simp only [List.cons.injEq, and_true] at hv'
        subst hv'
        rw [Nat.zero_add] at harr
        refine ⟨.in1 l i j, rfl, ⟨hmv, huf, e', xs, x, b, n', c', ys, h1, h2, h3, h6, h8, h7 j v h4⟩, fun n ρ0 hfree hcp => ?_⟩
        have g1 := hcp.in1 0 l i j rfl
        have g3 : ρ0.hdr n = v := hcp.hdr 0 v rfl
        obtain ⟨q, c2, hs, _⟩ := harr.slice
        refine ⟨?_, g3.symm, q, _, c2, hs⟩
        show ArrR w ρ0.own (.main n) u ys (EL w ρ0.own n true u) (ρ0.hdr n)
        rw [g3]
        refine harr.rekey (fun b hb => g1 b hb) fun i' x' us' _ hr => ?_
        unfold EL
        rw [if_pos rfl]
        exact DR.ofFlat u 0 x' us' huf hr
      · cases h
    · cases h
  | _ => simp [View.held] at h

end Go.Proofs.YtgjneigkkgaaiaaGreatDoor.Vd

/- VdZo -/
namespace Go.Proofs.YtgjneigkkgaaiaaGreatDoor.Vd

variable {P : Program} {E : Env} {ρ ρ' ρ0 : Map} {w w' : World} {s s' : S} {a : Act} {K : Ctx} {H H' Hc : Nat → Option Root}

theorem CsR.cons_inv {c : C} {cs : List C} {vs : List Value} (h : CsR P ρ w H (c :: cs) vs) : ∃ v vs', vs = v :: vs' ∧ CR P ρ w H c v ∧ CsR P ρ w H cs vs' := by
  obtain ⟨h1, h2⟩ := h
  cases vs with
  | nil => simp at h1
  | cons v vs' =>
    refine ⟨v, vs', rfl, h2 0 c v rfl rfl, by simpa using h1, fun j c' v' hc hv => h2 (j + 1) c' v' (by simpa using hc) (by simpa using hv)⟩

theorem CsR.nil : CsR P ρ w H [] [] := ⟨rfl, fun j c v hc _ => by simp at hc⟩

theorem held_prim {V : View} {mv : Bool} {c : C} {t : Ty} {x : t.D} {ps : List Spot} {v : Value} (ht : ∀ e, t ≠ .sl e) (hf : t.flat = true) (h : V.held mv c t = some (x, ps)) (hc : CR P ρ w s.root c v) :
    ps = [] ∧ t.agg = false ∧ ∀ A, Rd w A t x [v] := by
  cases c with
  | v t' x' deps =>
    have key : (if h : t' = t then some (castD h x', []) else none : Option (t.D × List Spot)) = some (x, ps) := by
      cases t <;> first | exact absurd rfl (ht _) | exact h
    split at key
    · rename_i he
      subst he
      simp only [castD_rfl, Option.some.injEq, Prod.mk.injEq] at key
      obtain ⟨rfl, rfl⟩ := key
      exact ⟨rfl, hc.1, fun A => Rd.flat _ _ _ hf hc.2⟩
    · cases key
  | _ => exfalso; cases t <;> first | exact absurd rfl (ht _) | simp [View.held] at h

theorem heldAll_given {V : View} (hV : Seen V s) (hroot : ∀ l r, s.root l = some r → RR P ρ w s.root l r) {mv : Bool} : (t : Ty) → (cs : List C) → ∀ (x : t.D) ps rest vs, V.heldAll mv t cs = some (x, ps, rest) → CsR P ρ w s.root cs vs →
    ∃ v1 v2 vals, vs = v1 ++ v2 ∧ CsR P ρ w s.root rest v2 ∧ Places s ρ w mv (slTys t) ps vals ∧ ∀ n ρ0, (∀ b, ρ.own b = .free → ρ0.own b = .free) → Compat ρ ρ0 n ps vals →
      CsR P ρ0 w Hc (ownCells n t x).1 v1 ∧ ∀ (i : Nat) r, (ownCells n t x).2[i]? = some r → RR P ρ0 w Hc (n + i) r
  | .one h, cs, x, ps, rest, vs, hh, hc => heldAll_given hV hroot h cs x ps rest vs hh hc
  | .cons h t, cs, x, ps, rest, vs, hh, hc => by
    simp only [View.heldAll] at hh
    split at hh
    · rename_i x1 p1 r1 h1
      split at hh
      · rename_i x2 p2 r2 h2
        simp only [Option.some.injEq, Prod.mk.injEq] at hh
        obtain ⟨rfl, rfl, rfl⟩ := hh
        obtain ⟨v1, v2, vals1, rfl, g2, g3, g4⟩ := heldAll_given hV hroot h cs x1 p1 r1 vs h1 hc
        obtain ⟨u1, u2, vals2, rfl, k2, k3, k4⟩ := heldAll_given hV hroot t r1 x2 p2 r2 v2 h2 g2
        refine ⟨v1 ++ u1, u2, vals1 ++ vals2, by simp, k2, g3.append k3, fun n ρ0 hfr hcp => ?_⟩
        have hl : vals1.length = p1.length := by rw [g3.1, g3.2.1]
        obtain ⟨q1, q2⟩ := g4 n ρ0 hfr (hcp.left hl)
        have hn : (ownCells n h x1).2.length = p1.length := by rw [ownCells_len, ← slTys_length, g3.1]
        obtain ⟨q3, q4⟩ := k4 (n + p1.length) ρ0 hfr (hcp.right hl)
        simp only [ownCells, hn]
        refine ⟨q1.append q3, fun i r hi => ?_⟩
        by_cases hlt : i < p1.length
        · rw [List.getElem?_append_left (by omega)] at hi
          exact q2 i r hi
        · rw [List.getElem?_append_right (by omega), hn] at hi
          have := q4 _ r hi
          rwa [show n + p1.length + (i - p1.length) = n + i by omega] at this
      · cases hh
    · cases hh
  | .int k, [], _, _, _, _, hh, _ | .bool, [], _, _, _, _, hh, _ | .str, [], _, _, _, _, hh, _ | .sl e, [], _, _, _, _, hh, _ => by simp [View.heldAll] at hh
  | .int k, c :: cs, x, ps, rest, vs, hh, hc => by
    obtain ⟨v, vs', rfl, h1, h2⟩ := hc.cons_inv
    simp only [View.heldAll] at hh
    split at hh
    · rename_i x1 p1 h3
      simp only [Option.some.injEq, Prod.mk.injEq] at hh
      obtain ⟨rfl, rfl, rfl⟩ := hh
      obtain ⟨rfl, g2, g3⟩ := held_prim (fun e => by simp) rfl h3 h1
      exact ⟨[v], vs', [], rfl, h2, ⟨rfl, rfl, fun i e p v he => by simp [slTys] at he⟩, fun n ρ0 _ _ => ⟨CsR.single ⟨rfl, g3 _⟩, fun i r hi => by simp [ownCells] at hi⟩⟩
    · cases hh
  | .bool, c :: cs, x, ps, rest, vs, hh, hc => by
    obtain ⟨v, vs', rfl, h1, h2⟩ := hc.cons_inv
    simp only [View.heldAll] at hh
    split at hh
    · rename_i x1 p1 h3
      simp only [Option.some.injEq, Prod.mk.injEq] at hh
      obtain ⟨rfl, rfl, rfl⟩ := hh
      obtain ⟨rfl, g2, g3⟩ := held_prim (fun e => by simp) rfl h3 h1
      exact ⟨[v], vs', [], rfl, h2, ⟨rfl, rfl, fun i e p v he => by simp [slTys] at he⟩, fun n ρ0 _ _ => ⟨CsR.single ⟨rfl, g3 _⟩, fun i r hi => by simp [ownCells] at hi⟩⟩
    · cases hh
  | .str, c :: cs, x, ps, rest, vs, hh, hc => by
    obtain ⟨v, vs', rfl, h1, h2⟩ := hc.cons_inv
    simp only [View.heldAll] at hh
    split at hh
    · rename_i x1 p1 h3
      simp only [Option.some.injEq, Prod.mk.injEq] at hh
      obtain ⟨rfl, rfl, rfl⟩ := hh
      obtain ⟨rfl, g2, g3⟩ := held_prim (fun e => by simp) rfl h3 h1
      exact ⟨[v], vs', [], rfl, h2, ⟨rfl, rfl, fun i e p v he => by simp [slTys] at he⟩, fun n ρ0 _ _ => ⟨CsR.single ⟨rfl, g3 _⟩, fun i r hi => by simp [ownCells] at hi⟩⟩
    · cases hh
  | .sl e, c :: cs, x, ps, rest, vs, hh, hc => by
    obtain ⟨v, vs', rfl, h1, h2⟩ := hc.cons_inv
    simp only [View.heldAll] at hh
    split at hh
    · rename_i x1 p1 h3
      simp only [Option.some.injEq, Prod.mk.injEq] at hh
      obtain ⟨rfl, rfl, rfl⟩ := hh
      obtain ⟨p, rfl, g2, g3⟩ := root_given (Hc := Hc) hV hroot h3 h1
      refine ⟨[v], vs', [v], rfl, h2, Places.one g2, fun n ρ0 hfr hcp => ?_⟩
      obtain ⟨q1, q2⟩ := g3 n ρ0 hfr hcp
      refine ⟨CsR.single q2, fun i r hi => ?_⟩
      cases i with
      | zero =>
        simp only [ownCells, List.getElem?_cons_zero, Option.some.injEq] at hi
        subst hi
        exact q1
      | succ i => simp [ownCells] at hi
    · cases hh

/-- Data that are read, in cells. -/
theorem Rd.cells {own : Nat → Own} {deps : List Nat} : (t : Ty) → (x : t.D) → (vs : List Value) → ρ.own = own → Rd w (Al own deps) t x vs → CsR P ρ w H (expand deps t x) vs
  | .one h, x, vs, ho, hr => Rd.cells h x vs ho hr
  | .cons h t, x, vs, ho, hr => by
    obtain ⟨v1, v2, rfl, h1, h2⟩ := hr
    exact (Rd.cells h x.1 v1 ho h1).append (Rd.cells t x.2 v2 ho h2)
  | .int k, x, vs, ho, hr => by
    simp only [Rd] at hr
    subst hr
    exact CsR.single ⟨rfl, rfl⟩
  | .bool, x, vs, ho, hr => by
    simp only [Rd] at hr
    subst hr
    exact CsR.single ⟨rfl, rfl⟩
  | .str, x, vs, ho, hr => by
    simp only [Rd] at hr
    subst hr
    exact CsR.single ⟨rfl, rfl⟩
  | .sl e, x, vs, ho, hr => by
    have h := hr
    obtain ⟨q, cap, rfl, _⟩ := h
    exact CsR.single ⟨rfl, by rw [ho]; exact hr⟩

theorem VD.rel {deps : List Nat} {t : Ty} {x : t.D} {v : Value} (h : VD w (Al ρ.own deps) t x v) : AR P ρ w H (ofData deps t x) v := by
  obtain ⟨vs, h1, h2⟩ := h
  exact ⟨vs, Rd.cells t x vs rfl h1, h2⟩

theorem hold_given {V : View} (hV : Seen V s) (hroot : ∀ l r, s.root l = some r → RR P ρ w s.root l r) {mv : Bool} {t : Ty} {A : A} {x : t.D} {ps : List Spot} {v : Value} (h : V.hold mv t A = some (x, ps)) (ha : AR P ρ w s.root A v) :
    ∃ vals, Places s ρ w mv (slTys t) ps vals ∧ ∀ n ρ0, (∀ b, ρ.own b = .free → ρ0.own b = .free) → Compat ρ ρ0 n ps vals →
      AR P ρ0 w Hc (.val t.agg (ownCells n t x).1) v ∧ ∀ (i : Nat) r, (ownCells n t x).2[i]? = some r → RR P ρ0 w Hc (n + i) r := by
  unfold View.hold at h
  split at h
  · rename_i g cs
    split at h
    · rename_i hg
      split at h
      · rename_i x' p' hh
        simp only [Option.some.injEq, Prod.mk.injEq] at h
        obtain ⟨rfl, rfl⟩ := h
        obtain ⟨vs, hc, hv⟩ := ha
        obtain ⟨v1, v2, vals, rfl, g2, g3, g4⟩ := heldAll_given (Hc := Hc) hV hroot t cs _ _ _ _ hh hc
        have : v2 = [] := by have := g2.1; simpa using this.symm
        subst this
        rw [List.append_nil] at hv
        refine ⟨vals, g3, fun n ρ0 hfr hcp => ?_⟩
        obtain ⟨q1, q2⟩ := g4 n ρ0 hfr hcp
        rw [hg] at hv
        exact ⟨⟨v1, q1, hv⟩, q2⟩
      · cases h
    · cases h
  · cases h

end Go.Proofs.YtgjneigkkgaaiaaGreatDoor.Vd

/- VdZp -/
namespace Go.Proofs.YtgjneigkkgaaiaaGreatDoor.Vd

variable {P : Program} {E : Env} {ρ ρ' ρ0 : Map} {w w' : World} {s s' : S} {a : Act} {K : Ctx} {H H' Hc : Nat → Option Root}

/-- A parameter that is only read. -/
def ParR (P : Program) (own : Nat → Own) (w : World) : (p : PK) → p.D → Value → Prop
  | .data t, x, v => VD w (Free own) t x v
  | .rp t, x, v => ∃ b o us, v = .pointer (some ⟨b, o, none⟩) ∧ own b = .free ∧ Rd w (Free own) t x us ∧ ∀ (j : Nat) u, us[j]? = some u → w.cell? ⟨b, o + j, none⟩ = some u
  | .fn ins out, g, v => FnR P own w ins out g v
  | .rfn ins out, g, v => ∃ b o u, v = .pointer (some ⟨b, o, none⟩) ∧ own b = .free ∧ w.cell? ⟨b, o, none⟩ = some u ∧ FnR P own w ins out g u
  | .mv _, _, _ | .ow _, _, _ | .mp _ _, _, _ => False

theorem FnR.weaken {own own' : Nat → Own} {ins : List Ty} {out : Ty} {g : Prod' ins → Option out.D} {v : Value} (h : FnR P own w ins out g v) (ho : ∀ b, own b = .free → own' b = .free) : FnR P own' w ins out g v := by
  obtain ⟨h1, f, first, caps, rfl, h2, h3⟩ := h
  exact ⟨h1, f, first, caps, rfl, h2, fun w' own2 hl hfr x args y ha hg => h3 w' own2 hl (fun b hb hf => hfr b hb (ho b hf)) x args y ha hg⟩

theorem par_entry {own : Nat → Own} {p : PK} {x : p.D} {v : Value} (h : ParR P own w p x v) (ho : ∀ b, own b = .free → ρ0.own b = .free) (n : Nat) : AR P ρ0 w Hc (entry n p x).1 v ∧ (entry n p x).2 = [] := by
  have hrd : ∀ {t : Ty} {x : t.D} {vs : List Value}, Rd w (Free own) t x vs → Rd w (Al ρ0.own []) t x vs := fun {t x vs} hr => Rd.mono (fun b _ hb => ⟨.inl (ho b hb), rfl⟩) t x vs hr
  cases p with
  | data t =>
    obtain ⟨vs, h1, h2⟩ := h
    exact ⟨VD.rel ⟨vs, hrd h1, h2⟩, rfl⟩
  | rp t =>
    obtain ⟨b, o, us, rfl, h2, h3, h4⟩ := h
    exact ⟨AR.one.2 ⟨b, o, us, rfl, .inl (ho b h2), hrd h3, h4⟩, rfl⟩
  | fn ins out => exact ⟨AR.one.2 (FnR.weaken h ho), rfl⟩
  | rfn ins out =>
    obtain ⟨b, o, u, rfl, h2, h3, h4⟩ := h
    exact ⟨AR.one.2 ⟨b, o, u, rfl, ho b h2, h3, FnR.weaken h4 ho⟩, rfl⟩
  | mv t => exact h.elim
  | ow t => exact h.elim
  | mp t o => exact h.elim

theorem entries_par {own : Nat → Own} (ho : ∀ b, own b = .free → ρ0.own b = .free) (n : Nat) : ∀ (L : List (Σ p : PK, p.D)) (vals : List Value), vals.length = L.length → (∀ (k : Nat) p x v, L[k]? = some ⟨p, x⟩ → vals[k]? = some v → ParR P own w p x v) →
    (entriesL n L).2 = [] ∧ (entriesL n L).1.length = vals.length ∧ ∀ (k : Nat) A v, (entriesL n L).1[k]? = some A → vals[k]? = some v → AR P ρ0 w Hc A v
  | [], vals, hl, _ => ⟨rfl, by simpa [entriesL] using hl.symm, fun k A v hA => by simp [entriesL] at hA⟩
  | ⟨p, x⟩ :: L, [], hl, _ => by simp at hl
  | ⟨p, x⟩ :: L, v :: vals, hl, h => by
    obtain ⟨h1, h2⟩ := par_entry (Hc := Hc) (h 0 p x v rfl rfl) ho n
    obtain ⟨g1, g2, g3⟩ := entries_par ho (n + (entry n p x).2.length) L vals (by simpa using hl) (fun k p' x' v' hk hv => h (k + 1) p' x' v' (by simpa using hk) (by simpa using hv))
    refine ⟨by simp only [entriesL]; rw [g1, h2]; rfl, by simp only [entriesL, List.length_cons, g2], fun k A v' hA hv => ?_⟩
    simp only [entriesL] at hA
    cases k with
    | zero =>
      simp only [List.getElem?_cons_zero, Option.some.injEq] at hA hv
      subst hA
      subst hv
      exact h1
    | succ k => exact g3 k A v' (by simpa using hA) (by simpa using hv)

theorem fillIn_spec : ∀ (pk : List PK) (l : List Src) (i : In pk), fillIn pk l = some i → l.length = pk.length ∧ (insL pk i).length = pk.length ∧ ∀ (k : Nat) p x, (insL pk i)[k]? = some ⟨p, x⟩ → pk[k]? = some p ∧ ∃ q, l[k]? = some q ∧ p.from q = some x
  | [], [], _, _ => ⟨rfl, rfl, fun k p x hk => by simp [insL] at hk⟩
  | [], _ :: _, _, h => by simp [fillIn] at h
  | [p], [], i, h => by simp [fillIn] at h
  | [p], [q], i, h => by
    refine ⟨rfl, rfl, fun k p' x' hk => ?_⟩
    cases k with
    | zero =>
      simp only [insL, List.getElem?_cons_zero, Option.some.injEq, Sigma.mk.injEq] at hk
      obtain ⟨rfl, hk⟩ := hk
      cases hk
      exact ⟨rfl, q, rfl, h⟩
    | succ k => simp [insL] at hk
  | [p], _ :: _ :: _, i, h => by simp [fillIn] at h
  | p :: p2 :: ps, [], i, h => by simp [fillIn] at h
  | p :: p2 :: ps, q :: l, i, h => by
    simp only [fillIn] at h
    split at h
    · rename_i y ys h1 h2
      simp only [Option.some.injEq] at h
      subst h
      obtain ⟨g1, g2, g3⟩ := fillIn_spec (p2 :: ps) l ys h2
      refine ⟨by simpa using g1, by simpa [insL] using g2, fun k p' x' hk => ?_⟩
      cases k with
      | zero =>
        simp only [insL, List.getElem?_cons_zero, Option.some.injEq, Sigma.mk.injEq] at hk
        obtain ⟨rfl, hk⟩ := hk
        cases hk
        exact ⟨rfl, q, rfl, h1⟩
      | succ k =>
        obtain ⟨e1, q', e2, e3⟩ := g3 k p' x' (by simpa [insL] using hk)
        exact ⟨by simpa using e1, q', by simpa using e2, e3⟩
    · cases h

theorem FirstR.get : ∀ {l : List (Σ t : Ty, t.D)} {vs : List Value}, FirstR l vs → vs.length = l.length ∧ ∀ (k : Nat) q v, l[k]? = some q → vs[k]? = some v → q.1.flat = true ∧ VD default (fun _ => False) q.1 q.2 v
  | [], vs, h => by
    have : vs = [] := h
    subst this
    exact ⟨rfl, fun k q v hk => by simp at hk⟩
  | x :: r, vs, h => by
    obtain ⟨v, q, rfl, h1, h2, h3⟩ := h
    obtain ⟨g1, g2⟩ := FirstR.get h3
    refine ⟨by simp [g1], fun k q' v' hk hv => ?_⟩
    cases k with
    | zero =>
      simp only [List.getElem?_cons_zero, Option.some.injEq] at hk hv
      subst hk
      subst hv
      exact ⟨h1, h2⟩
    | succ k => exact g2 k q' v' (by simpa using hk) (by simpa using hv)

theorem ArgsD.get {A : Nat → Prop} : ∀ (ts : List Ty) (x : Prod' ts) (vs : List Value), ArgsD w A ts x vs → vs.length = ts.length ∧ (tupList ts x).length = ts.length ∧ ∀ (k : Nat) q v, (tupList ts x)[k]? = some q → vs[k]? = some v → VD w A q.1 q.2 v
  | [], _, vs, h => by
    have : vs = [] := h
    subst this
    exact ⟨rfl, rfl, fun k q v hk => by simp [tupList] at hk⟩
  | [t], x, vs, h => by
    obtain ⟨v, rfl, h1⟩ := h
    refine ⟨rfl, rfl, fun k q v' hk hv => ?_⟩
    cases k with
    | zero =>
      simp only [tupList, List.getElem?_cons_zero, Option.some.injEq] at hk hv
      subst hk
      subst hv
      exact h1
    | succ k => simp [tupList] at hk
  | t :: u :: ts, x, vs, h => by
    obtain ⟨v, r, rfl, h1, h2⟩ := h
    obtain ⟨g1, g2, g3⟩ := ArgsD.get (u :: ts) x.2 r h2
    refine ⟨by simp [g1], by simp [tupList, g2], fun k q v' hk hv => ?_⟩
    cases k with
    | zero =>
      simp only [tupList, List.getElem?_cons_zero, Option.some.injEq] at hk hv
      subst hk
      subst hv
      exact h1
    | succ k => exact g3 k q v' (by simpa [tupList] using hk) (by simpa using hv)

theorem tupList_castP {ts us : List Ty} (h : ts = us) (y : Prod' ts) : tupList ts y = tupList us (castP h y) := by subst h; rfl

theorem flat_own : (t : Ty) → (n : Nat) → (deps : List Nat) → (x : t.D) → t.flat = true → (ownCells n t x).1 = expand deps t x
  | .one h, n, deps, x, hf => flat_own h n deps x hf
  | .cons h t, n, deps, x, hf => by
    simp only [Ty.flat, Bool.and_eq_true] at hf
    simp only [ownCells, expand, flat_own h n deps x.1 hf.1, flat_own t _ deps x.2 hf.2]
  | .int _, _, _, _, _ | .bool, _, _, _, _ | .str, _, _, _, _ => rfl
  | .sl _, _, _, _, hf => by cases hf

theorem CsR.append_inv {cs ds : List C} {vs : List Value} (h : CsR P ρ w H (cs ++ ds) vs) : ∃ v1 v2, vs = v1 ++ v2 ∧ CsR P ρ w H cs v1 ∧ CsR P ρ w H ds v2 := by
  obtain ⟨h1, h2⟩ := h
  simp only [List.length_append] at h1
  refine ⟨vs.take cs.length, vs.drop cs.length, (List.take_append_drop ..).symm, ⟨by simp; omega, fun j c v hc hv => ?_⟩, ⟨by simp; omega, fun j c v hc hv => ?_⟩⟩
  · have hj : j < cs.length := (List.getElem?_eq_some_iff.1 hc).1
    rw [List.getElem?_take_of_lt hj] at hv
    exact h2 j c v (by rw [List.getElem?_append_left hj]; exact hc) hv
  · rw [List.getElem?_drop] at hv
    exact h2 (cs.length + j) c v (by rw [List.getElem?_append_right (by omega)]; rwa [show cs.length + j - cs.length = j by omega]) hv

theorem CsR.single_inv {c : C} {vs : List Value} (h : CsR P ρ w H [c] vs) : ∃ v, vs = [v] ∧ CR P ρ w H c v := by
  obtain ⟨v, vs', rfl, h1, h2⟩ := h.cons_inv
  have := h2.1
  simp only [List.length_nil] at this
  exact ⟨v, by rw [List.length_eq_zero_iff.1 this.symm], h1⟩

theorem expand_rd {deps : List Nat} : (t : Ty) → (x : t.D) → (vs : List Value) → CsR P ρ w H (expand deps t x) vs → Rd w (Al ρ.own deps) t x vs
  | .one h, x, vs, hc => expand_rd h x vs hc
  | .cons h t, x, vs, hc => by
    obtain ⟨v1, v2, rfl, h1, h2⟩ := CsR.append_inv hc
    exact ⟨v1, v2, rfl, expand_rd h _ _ h1, expand_rd t _ _ h2⟩
  | .int k, x, vs, hc => by obtain ⟨v, rfl, h1⟩ := hc.single_inv; exact h1.2
  | .bool, x, vs, hc => by obtain ⟨v, rfl, h1⟩ := hc.single_inv; exact h1.2
  | .str, x, vs, hc => by obtain ⟨v, rfl, h1⟩ := hc.single_inv; exact h1.2
  | .sl e, x, vs, hc => by obtain ⟨v, rfl, h1⟩ := hc.single_inv; exact h1.2

theorem cellsOf_flat {own : Bool} {n : Nat} {deps : List Nat} {t : Ty} {x : t.D} {vs : List Value} {A : Nat → Prop} (hf : t.flat = true) (h : CsR P ρ w H (cellsOf own n deps t x).1 vs) : Rd w A t x vs := by
  have : (cellsOf own n deps t x).1 = expand deps t x := by
    unfold cellsOf
    split
    · exact flat_own t n deps x hf
    · rfl
  rw [this] at h
  exact Rd.flat t x vs hf (expand_rd t x vs h)

theorem boxData_rel {V : View} (hV : Seen V s) (hroot : ∀ l r, s.root l = some r → RR P ρ w s.root l r) {t : Ty} {A : A} {l : Nat} {x : t.D} {d : List Nat} {v : Value} (h : V.boxData t A = some (l, x, d)) (ha : AR P ρ w s.root A v) :
    ∃ b vs T cs, v = .pointer (some ⟨b, 0, none⟩) ∧ ρ.hdr l = v ∧ ρ.own b = .main l ∧ w.heap[b]? = some (.cells (List.toArray vs) T (0, 0)) ∧ Rd w (Al ρ.own d) t x vs ∧ s.root l = some (.box cs) ∧ CsR P ρ w s.root cs vs ∧ A = .c (.bp l 0) := by
  unfold View.boxData at h
  split at h
  · rename_i l'
    split at h
    · rename_i cs hl
      split at h
      · rename_i x' d' hx
        simp only [Option.some.injEq, Prod.mk.injEq] at h
        obtain ⟨rfl, rfl, rfl⟩ := h
        obtain ⟨b, h1, h2⟩ := AR.one.1 ha
        obtain ⟨b', vs, T, g1, g2, g3, g4⟩ := hroot l' _ (hV l' _ hl)
        rw [h1] at g1
        simp only [Value.pointer.injEq, Option.some.injEq, Addr.mk.injEq, and_true] at g1
        subst g1
        exact ⟨b, vs, T, cs, h2, by rw [h2, h1], g2, g3, asm_rd hV hroot hx g4, hV l' _ hl, g4, rfl⟩
      · cases h
    · cases h
  · cases h

/-- A map under which what is borrowed is free. -/
def Lets (ρ : Map) (own : Nat → Own) (d : List Nat) : Prop := (∀ b, ρ.own b = .free → own b = .free) ∧ ∀ b l, (ρ.own b).loc = some l → l ∈ d → own b = .free

theorem Lets.al {own : Nat → Own} {d d' : List Nat} (h : Lets ρ own d) (hd : ∀ l ∈ d', l ∈ d) {t : Ty} {x : t.D} {vs : List Value} (hr : Rd w (Al ρ.own d') t x vs) : Rd w (Free own) t x vs :=
  Rd.mono (fun b _ hb => ⟨hb.elim (h.1 b) fun ⟨l, hl, hlo⟩ => h.2 b l hlo (hd l hl), rfl⟩) t x vs hr

theorem Lets.sub {own : Nat → Own} {d d' : List Nat} (h : Lets ρ own d) (hd : ∀ l ∈ d', l ∈ d) : Lets ρ own d' := ⟨h.1, fun b l hb hl => h.2 b l hb (hd l hl)⟩

theorem capData_rel {V : View} (hV : Seen V s) (hroot : ∀ l r, s.root l = some r → RR P ρ w s.root l r) {rec : (ins : List Ty) → (out : Ty) → A → Option ((Prod' ins → Option out.D) × List Nat)}
    (hrec : ∀ ins out A g d v, rec ins out A = some (g, d) → AR P ρ w s.root A v → ∀ own, Lets ρ own d → FnR P own w ins out g v) : ∀ (pk : List PK) (ls : List Nat) (post : List Src) (d : List Nat), V.capData rec pk ls = some (post, d) →
    (∀ l ∈ ls, ∃ b, ρ.hdr l = .pointer (some ⟨b, 0, none⟩)) → post.length = ls.length ∧ ∀ own, Lets ρ own d → ∀ (k : Nat) p q l x, pk[k]? = some p → post[k]? = some q → ls[k]? = some l → p.from q = some x → ParR P own w p x (ρ.hdr l)
  | [], [], post, d, h, _ => by
    simp only [View.capData, Option.some.injEq, Prod.mk.injEq] at h
    obtain ⟨rfl, rfl⟩ := h
    exact ⟨rfl, fun own _ k p q l x hk => by simp at hk⟩
  | .rp t :: pk, l :: ls, post, d, h, hp => by
    simp only [View.capData] at h
    split at h
    · rename_i l1 x1 d1 r d' h1 h2
      simp only [Option.some.injEq, Prod.mk.injEq] at h
      obtain ⟨rfl, rfl⟩ := h
      obtain ⟨g1, g2⟩ := capData_rel hV hroot hrec pk ls r d' h2 (fun l' hl' => hp l' (List.mem_cons_of_mem _ hl'))
      refine ⟨by simp [g1], fun own hown k p q l' x hk hq hl hx => ?_⟩
      cases k with
      | zero =>
        simp only [List.getElem?_cons_zero, Option.some.injEq] at hk hq hl
        subst hk
        subst hq
        subst hl
        simp only [PK.from, dif_pos, castD_rfl, Option.some.injEq] at hx
        subst hx
        obtain ⟨b0, hb0⟩ := hp l (List.mem_cons_self ..)
        obtain ⟨b, vs, T, cs, e1, e2, e3, e4, e5, e6, e7, e8⟩ := boxData_rel hV hroot h1 (v := ρ.hdr l) (AR.one.2 ⟨b0, hb0, hb0⟩)
        simp only [A.val.injEq, List.cons.injEq, C.bp.injEq, and_true, true_and] at e8
        subst e8
        refine ⟨b, 0, vs, e1, hown.2 b l (by rw [e3]; rfl) (by simp), hown.al (fun l hl => by simp [hl]) e5, fun j u hj => ?_⟩
        rw [Nat.zero_add, cell_of_row w b _ _ T (0, 0) e4]
        simpa using hj
      | succ k => exact g2 own (hown.sub fun l hl => by simp [hl]) k p q l' x (by simpa using hk) (by simpa using hq) (by simpa using hl) hx
    · cases h
  | .rfn ins out :: pk, l :: ls, post, d, h, hp => by
    simp only [View.capData] at h
    split at h
    · rename_i c hc
      split at h
      · rename_i g d1 r d' h1 h2
        simp only [Option.some.injEq, Prod.mk.injEq] at h
        obtain ⟨rfl, rfl⟩ := h
        obtain ⟨g1, g2⟩ := capData_rel hV hroot hrec pk ls r d' h2 (fun l' hl' => hp l' (List.mem_cons_of_mem _ hl'))
        refine ⟨by simp [g1], fun own hown k p q l' x hk hq hl hx => ?_⟩
        cases k with
        | zero =>
          simp only [List.getElem?_cons_zero, Option.some.injEq] at hk hq hl
          subst hk
          subst hq
          subst hl
          simp only [PK.from, dif_pos, castF, Option.some.injEq] at hx
          subst hx
          obtain ⟨b, vs, T, e1, e2, e3, e4⟩ := hroot l _ (hV l _ hc)
          obtain ⟨u, rfl, hu⟩ := e4.single_inv
          refine ⟨b, 0, u, e1, hown.2 b l (by rw [e2]; rfl) (by simp), ?_, hrec _ _ _ _ _ _ h1 (AR.one.2 hu) own (hown.sub fun l hl => by simp [hl])⟩
          rw [cell_of_row w b _ _ T (0, 0) e3]
          rfl
        | succ k => exact g2 own (hown.sub fun l hl => by simp [hl]) k p q l' x (by simpa using hk) (by simpa using hq) (by simpa using hl) hx
      · cases h
    · cases h
  | [], _ :: _, post, d, h, _ => by simp [View.capData] at h
  | .rp _ :: _, [], post, d, h, _ => by simp [View.capData] at h
  | .rfn _ _ :: _, [], post, d, h, _ => by simp [View.capData] at h
  | .data _ :: _, _, post, d, h, _ => by simp [View.capData] at h
  | .mv _ :: _, _, post, d, h, _ => by simp [View.capData] at h
  | .ow _ :: _, _, post, d, h, _ => by simp [View.capData] at h
  | .mp _ _ :: _, _, post, d, h, _ => by simp [View.capData] at h
  | .fn _ _ :: _, _, post, d, h, _ => by simp [View.capData] at h

/-- The contracts of what is called. -/
def ConsOK (P : Program) [Laid P] (E : Env) : Prop := ∀ f con, lookupN f E.con = some con → ConOK P f con

theorem VD.mono {A A' : Nat → Prop} {t : Ty} {x : t.D} {v : Value} (h : VD w A t x v) (hA : ∀ b, A b → A' b) : VD w A' t x v := by
  obtain ⟨vs, h1, h2⟩ := h
  exact ⟨vs, Rd.mono (fun b _ hb => ⟨hA b hb, rfl⟩) t x vs h1, h2⟩

theorem VD.flat {A A' : Nat → Prop} {t : Ty} {x : t.D} {v : Value} (hf : t.flat = true) (h : VD w A t x v) : VD w' A' t x v := by
  obtain ⟨vs, h1, h2⟩ := h
  exact ⟨vs, Rd.flat t x vs hf h1, h2⟩

theorem asFn_rel [Laid P] {V : View} (hV : Seen V s) (hE : ConsOK P E) (hM : Met P w ρ.own) (hroot : ∀ l r, s.root l = some r → RR P ρ w s.root l r) : ∀ (fuel : Nat) ins out A g d v, V.asFn E fuel ins out A = some (g, d) → AR P ρ w s.root A v → ∀ own, Lets ρ own d → FnR P own w ins out g v := by
  have viaFn : ∀ (ins : List Ty) (out : Ty) A g d v, fnOf ins out A = some (g, d) → AR P ρ w s.root A v → ∀ own, Lets ρ own d → FnR P own w ins out g v := by
    intro ins out A g d v h ha own hown
    unfold fnOf at h
    split at h
    · rename_i ins' out' g'
      split at h
      · rename_i h1
        subst h1
        split at h
        · rename_i h2
          subst h2
          simp only [castF, Option.some.injEq, Prod.mk.injEq] at h
          obtain ⟨rfl, rfl⟩ := h
          have ha' : FnR P ρ.own w ins' out' g' v := AR.one.1 ha
          exact ha'.weaken hown.1
        · cases h
      · cases h
    · cases h
  intro fuel
  induction fuel with
  | zero =>
    intro ins out A g d v h ha
    exact viaFn _ _ _ _ _ _ h ha
  | succ n ih =>
    intro ins out A g d v h ha own hown
    simp only [View.asFn] at h
    split at h
    · exact viaFn _ _ _ _ _ _ h ha own hown
    · rename_i f first caps heq
      have hA : A = .val false [.clo f first caps] := by
        unfold cloOf at heq
        split at heq
        · simp only [Option.some.injEq, Prod.mk.injEq] at heq
          obtain ⟨rfl, rfl, rfl⟩ := heq
          rfl
        · cases heq
      subst hA
      split at h
      · rename_i con hcon
        split at h
        · rename_i post d' hcap
          split at h
          · rename_i hOut
            split at h
            · rename_i hc
              simp only [Bool.and_eq_true, beq_iff_eq, List.all_eq_true] at hc
              obtain ⟨⟨hflat, hrk⟩, hdata⟩ := hc
              simp only [Option.some.injEq, Prod.mk.injEq] at h
              obtain ⟨rfl, rfl⟩ := h
              obtain ⟨fv, rfl, hfirst, hptr⟩ := AR.one.1 ha
              have hco := hE f con hcon
              refine ⟨hflat, f, fv.toArray, (caps.map ρ.hdr).toArray, rfl, hco.fn, fun w2 own2 hlat hfr x args y hargs hg => ?_⟩
              unfold cloFn at hg
              split at hg
              · rename_i i hi
                split at hg
                · rename_i y0 hy0
                  simp only [Option.some.injEq] at hg
                  -- the callee's parameters
                  obtain ⟨e1, e2, e3⟩ := fillIn_spec con.pk _ i hi
                  obtain ⟨f1, f2⟩ := FirstR.get hfirst
                  obtain ⟨a1, a2, a3⟩ := ArgsD.get ins x args hargs
                  obtain ⟨c1, c2⟩ := capData_rel hV hroot (fun ins out A g d v => ih ins out A g d v) _ _ _ _ hcap hptr
                  have hsl : (srcs first).length = first.length := by simp [srcs]
                  have htl : (srcs (tupList ins x)).length = ins.length := by simp [srcs, a2]
                  let ownc : Nat → Own := fun b => if b < w2.heap.size ∧ own2 b ≠ .free then .off else .free
                  have hoc : ∀ b, own2 b = .free → ownc b = .free := fun b hb => by simp [ownc, hb]
                  have hpar : ∀ (k : Nat) p x' v', (insL con.pk i)[k]? = some ⟨p, x'⟩ → (fv ++ (args ++ caps.map ρ.hdr))[k]? = some v' → ParR P ownc w2 p x' v' := by
                    intro k p x' v' hk hv
                    obtain ⟨hp, q, hq, hx⟩ := e3 k p x' hk
                    have fromData : k < first.length + ins.length → ∀ t y, q = .d t y → VD w2 (Free ownc) t y v' → ParR P ownc w2 p x' v' := by
                      intro hlt t y hqd hvd
                      have hd := hdata p (List.mem_of_getElem? (i := k) (by rw [List.getElem?_take_of_lt hlt]; exact hp))
                      cases p <;> simp only [PK.isData, Bool.false_eq_true] at hd
                      rename_i t'
                      subst hqd
                      simp only [PK.from] at hx
                      split at hx
                      · rename_i he
                        subst he
                        simp only [castD_rfl, Option.some.injEq] at hx
                        subst hx
                        exact hvd
                      · cases hx
                    by_cases hk1 : k < first.length
                    · rw [List.getElem?_append_left (by omega)] at hv
                      rw [List.append_assoc, List.getElem?_append_left (by omega)] at hq
                      simp only [srcs, List.getElem?_map] at hq
                      cases hf : first[k]? with
                      | none => rw [hf] at hq; cases hq
                      | some q0 =>
                        rw [hf] at hq
                        simp only [Option.map_some, Option.some.injEq] at hq
                        obtain ⟨g1, g2⟩ := f2 k q0 v' hf hv
                        exact fromData (by omega) _ _ hq.symm (VD.flat g1 g2)
                    · rw [List.getElem?_append_right (by omega)] at hv
                      rw [List.append_assoc, List.getElem?_append_right (by omega)] at hq
                      rw [hsl] at hq
                      rw [f1] at hv
                      by_cases hk2 : k - first.length < ins.length
                      · rw [List.getElem?_append_left (by omega)] at hv hq
                        simp only [srcs, List.getElem?_map] at hq
                        cases hf : (tupList ins x)[k - first.length]? with
                        | none => rw [hf] at hq; cases hq
                        | some q0 =>
                          rw [hf] at hq
                          simp only [Option.map_some, Option.some.injEq] at hq
                          exact fromData (by omega) _ _ hq.symm ((a3 _ q0 v' hf hv).mono fun b hb => hoc b hb)
                      · rw [List.getElem?_append_right (by omega)] at hv hq
                        rw [htl] at hq
                        rw [a1] at hv
                        rw [List.getElem?_map] at hv
                        cases hl : caps[k - first.length - ins.length]? with
                        | none => rw [hl] at hv; cases hv
                        | some l =>
                          rw [hl] at hv
                          simp only [Option.map_some, Option.some.injEq] at hv
                          subst hv
                          have hpar := c2 own hown (k - first.length - ins.length) p q l x' (by rw [List.getElem?_drop]; rwa [show first.length + ins.length + (k - first.length - ins.length) = k by omega]) hq hl hx
                          -- later on
                          have hlt : ∀ b, own b = .free → b < w.heap.size → ownc b = .free ∧ w2.heap[b]? = w.heap[b]? := fun b hb hbs => ⟨hoc b (hfr b hbs hb).1, (hfr b hbs hb).2⟩
                          have hfn : ∀ {ins out g v}, FnR P own w ins out g v → FnR P ownc w2 ins out g v := by
                            rintro ins out g v ⟨q1, q2, q3, q4, rfl, q5, q6⟩
                            exact ⟨q1, q2, q3, q4, rfl, q5, fun w3 own3 hl3 hfr3 x3 args3 y3 ha3 hg3 => q6 w3 own3 (hlat.trans hl3) (fun b hb hf => by
                              obtain ⟨z1, z2⟩ := hlt b hf hb
                              obtain ⟨z3, z4⟩ := hfr3 b (Nat.lt_of_lt_of_le hb hlat.size) z1
                              exact ⟨z3, z4.trans z2⟩) x3 args3 y3 ha3 hg3⟩
                          cases p with
                          | data t => obtain ⟨vs, z1, z2⟩ := hpar; exact ⟨vs, Rd.mono (fun b hb hf => hlt b hf hb) _ _ _ z1, z2⟩
                          | rp t =>
                            obtain ⟨b, o, us, z1, z2, z3, z4⟩ := hpar
                            have hbs : b < w.heap.size := by
                              have hl := z3.length
                              cases us with
                              | nil => exact absurd hl (by have := Ty.size_pos t; simp; omega)
                              | cons u us => exact World.block_lt_of_cell? w _ (z4 0 u rfl)
                            exact ⟨b, o, us, z1, (hlt b z2 hbs).1, Rd.mono (fun b hb hf => hlt b hf hb) _ _ _ z3, fun j u hj => (cell_of_same (hlt b z2 hbs).2).trans (z4 j u hj)⟩
                          | fn ins' out' => exact hfn hpar
                          | rfn ins' out' =>
                            obtain ⟨b, o, u, z1, z2, z3, z4⟩ := hpar
                            have hbs := World.block_lt_of_cell? w _ z3
                            exact ⟨b, o, u, z1, (hlt b z2 hbs).1, (cell_of_same (hlt b z2 hbs).2).trans z3, hfn z4⟩
                          | mv t => exact hpar.elim
                          | ow t => exact hpar.elim
                          | mp t o => exact hpar.elim
                  have hlen : (fv ++ (args ++ caps.map ρ.hdr)).length = (insL con.pk i).length := by
                    rw [e2, ← e1]
                    simp only [List.length_append, List.length_map, hsl, htl, c1, f1, a1]
                    omega
                  obtain ⟨n1, n2, n3⟩ := entries_par (ρ0 := ⟨ownc, fun _ => undef⟩) (Hc := rt []) (fun b hb => hb) 0 (insL con.pk i) (fv ++ (args ++ caps.map ρ.hdr)) hlen hpar
                  have hcall := hco.run i y0 hy0 w2 ⟨ownc, fun _ => undef⟩ (fv ++ (args ++ caps.map ρ.hdr)) (fun b hb => by simp only [ownc]; rw [if_neg (by omega)]) (fun b l hb => by
                    simp only [ownc] at hb
                    split at hb <;> cases hb) n2 (by rw [n1]; exact n3) (fun l r hr => by rw [n1] at hr; simp at hr) (hM.step fun b hb ho => ⟨hoc b (hfr b hb (hown.1 b ho)).1, (hfr b hb (hown.1 b ho)).2⟩)
                  have harr : (fv ++ (args ++ caps.map ρ.hdr)).toArray = fv.toArray ++ (args.toArray ++ (caps.map ρ.hdr).toArray) := by simp
                  rw [harr] at hcall
                  refine hcall.mono ?_
                  rintro e w'' ⟨v', ρ'', rfl, hx⟩
                  refine ⟨v', rfl, ?_, hx.later, fun b hb => (hx.keep b hb (by simp only [ownc]; split <;> simp)).2⟩
                  have hres := hx.res
                  rw [tupList_castP hOut y0, hg] at hres
                  obtain ⟨t0, own0, hrk0⟩ : ∃ t0 own0, con.rk = [(t0, own0)] := by
                    match hrk' : con.rk, hrk with
                    | [(t0, own0)], _ => exact ⟨t0, own0, rfl⟩
                  rw [hrk0] at hres
                  simp only [tupList, results, tupA] at hres
                  obtain ⟨vs, z1, z2⟩ := hres
                  exact ⟨vs, cellsOf_flat hflat z1, z2⟩
                · cases hg
              · cases hg
            · cases h
          · cases h
        · cases h
      · cases h

end Go.Proofs.YtgjneigkkgaaiaaGreatDoor.Vd

/- VdZq -/
namespace Go.Proofs.YtgjneigkkgaaiaaGreatDoor.Vd

variable {P : Program} {E : Env} {ρ ρ' ρ0 : Map} {w w' : World} {s s' : S} {a : Act} {K : Ctx} {H H' Hc : Nat → Option Root}

/-- What is known of an argument's places and values. -/
def GotOK (s : S) (ρ : Map) (w : World) (p : PK) (g : Got) (vals : List Value) : Prop :=
  match p with
  | .mv t => g.box = none ∧ g.gone = [] ∧ Places s ρ w true (slTys t) g.lent vals
  | .ow t => g.box = none ∧ g.lent = [] ∧ Places s ρ w false (slTys t) g.gone vals
  | .mp t own => g.lent = [] ∧ ∃ l cs vals', g.box = some l ∧ s.root l = some (.box cs) ∧ vals = ρ.hdr l :: vals' ∧ if own then Places s ρ w false (slTys t) g.gone vals' else g.gone = [] ∧ vals' = []
  | _ => g.box = none ∧ g.lent = [] ∧ g.gone = [] ∧ vals = []

theorem GotOK.count {p : PK} {g : Got} {vals : List Value} (h : GotOK s ρ w p g vals) : g.places.length = p.count ∧ vals.length = p.count := by
  cases p with
  | mv t =>
    obtain ⟨h1, h2, h3, h4, _⟩ := h
    rw [slTys_length] at h3 h4
    simp [Got.places, h1, h2, h3, h4, PK.count]
  | ow t =>
    obtain ⟨h1, h2, h3, h4, _⟩ := h
    rw [slTys_length] at h3 h4
    simp [Got.places, h1, h2, h3, h4, PK.count]
  | mp t own =>
    obtain ⟨h1, l, cs, vals', h2, h3, rfl, h4⟩ := h
    cases own with
    | true =>
      simp only [if_true] at h4
      obtain ⟨h5, h6, _⟩ := h4
      rw [slTys_length] at h5 h6
      simp [Got.places, h1, h2, h5, h6, PK.count]; omega
    | false =>
      simp only [Bool.false_eq_true, if_false] at h4
      simp [Got.places, h1, h2, h4.1, h4.2, PK.count]
  | data t => obtain ⟨h1, h2, h3, h4⟩ := h; simp [Got.places, h1, h2, h3, h4, PK.count]
  | rp t => obtain ⟨h1, h2, h3, h4⟩ := h; simp [Got.places, h1, h2, h3, h4, PK.count]
  | fn i o => obtain ⟨h1, h2, h3, h4⟩ := h; simp [Got.places, h1, h2, h3, h4, PK.count]
  | rfn i o => obtain ⟨h1, h2, h3, h4⟩ := h; simp [Got.places, h1, h2, h3, h4, PK.count]

theorem entry_len (n : Nat) (p : PK) (x : p.D) : (entry n p x).2.length = p.count := by
  cases p with
  | mv t => exact ownCells_len t n x
  | ow t => exact ownCells_len t n x
  | mp t own =>
    simp only [entry, PK.count, List.length_cons, cellsOf]
    cases own <;> simp [ownCells_len]
    omega
  | _ => rfl

theorem arg_given [Laid P] {V : View} (hV : Seen V s) (hE : ConsOK P E) (hM : Met P w ρ.own) (hroot : ∀ l r, s.root l = some r → RR P ρ w s.root l r) {p : PK} {A : A} {x : p.D} {g : Got} {v : Value} (h : V.arg E p A = some (x, g)) (ha : AR P ρ w s.root A v) :
    ∃ vals, GotOK s ρ w p g vals ∧ ∀ n ρ0, Lets ρ ρ0.own g.deps → Compat ρ ρ0 n g.places vals → AR P ρ0 w Hc (entry n p x).1 v ∧ ∀ (i : Nat) r, (entry n p x).2[i]? = some r → RR P ρ0 w Hc (n + i) r := by
  have par : (∀ own, Lets ρ own g.deps → ParR P own w p x v) → GotOK s ρ w p g [] → ∃ vals, GotOK s ρ w p g vals ∧ ∀ n ρ0, Lets ρ ρ0.own g.deps → Compat ρ ρ0 n g.places vals → AR P ρ0 w Hc (entry n p x).1 v ∧ ∀ (i : Nat) r, (entry n p x).2[i]? = some r → RR P ρ0 w Hc (n + i) r :=
    fun hp hg => ⟨[], hg, fun n ρ0 hl _ => by
      obtain ⟨h1, h2⟩ := par_entry (Hc := Hc) (hp ρ0.own hl) (fun b hb => hb) n
      exact ⟨h1, fun i r hi => by rw [h2] at hi; simp at hi⟩⟩
  cases p with
  | data t =>
    simp only [View.arg] at h
    split at h
    · rename_i x' d hx
      simp only [Option.some.injEq, Prod.mk.injEq] at h
      obtain ⟨rfl, rfl⟩ := h
      exact par (fun own hl => (asData_vd hV hroot hx ha).mono fun b hb => hb.elim (hl.1 b) fun ⟨l, h1, h2⟩ => hl.2 b l h2 h1) ⟨rfl, rfl, rfl, rfl⟩
    · cases h
  | rp t =>
    simp only [View.arg] at h
    split at h
    · rename_i l x' d hx
      simp only [Option.some.injEq, Prod.mk.injEq] at h
      obtain ⟨rfl, rfl⟩ := h
      obtain ⟨b, vs, T, cs, e1, e2, e3, e4, e5, e6, e7, e8⟩ := boxData_rel hV hroot hx ha
      refine par (fun own hl => ⟨b, 0, vs, e1, hl.2 b l (by rw [e3]; rfl) (by simp), hl.al (fun l hl => by simp [hl]) e5, fun j u hj => ?_⟩) ⟨rfl, rfl, rfl, rfl⟩
      rw [Nat.zero_add, cell_of_row w b _ _ T (0, 0) e4]
      simpa using hj
    · cases h
  | fn ins out =>
    simp only [View.arg] at h
    split at h
    · rename_i g' d hx
      simp only [Option.some.injEq, Prod.mk.injEq] at h
      obtain ⟨rfl, rfl⟩ := h
      exact par (fun own hl => asFn_rel hV hE hM hroot 3 ins out A _ d v hx ha own hl) ⟨rfl, rfl, rfl, rfl⟩
    · cases h
  | rfn ins out =>
    simp only [View.arg] at h
    split at h
    · rename_i l
      split at h
      · rename_i c hc
        split at h
        · rename_i g' d hx
          simp only [Option.some.injEq, Prod.mk.injEq] at h
          obtain ⟨rfl, rfl⟩ := h
          obtain ⟨b', hb', hv⟩ := AR.one.1 ha
          obtain ⟨b, vs, T, e1, e2, e3, e4⟩ := hroot l _ (hV l _ hc)
          obtain ⟨u, rfl, hu⟩ := e4.single_inv
          rw [hb'] at e1
          simp only [Value.pointer.injEq, Option.some.injEq, Addr.mk.injEq, and_true] at e1
          subst e1
          refine par (fun own hl => ⟨b', 0, u, hv, hl.2 b' l (by rw [e2]; rfl) (by simp), ?_, asFn_rel hV hE hM hroot 3 ins out _ _ d _ hx (AR.one.2 hu) own (hl.sub fun l hl => by simp [hl])⟩) ⟨rfl, rfl, rfl, rfl⟩
          rw [cell_of_row w b' _ _ T (0, 0) e3]
          rfl
        · cases h
      · cases h
    · cases h
  | ow t =>
    simp only [View.arg] at h
    split at h
    · rename_i x' ps hx
      simp only [Option.some.injEq, Prod.mk.injEq] at h
      obtain ⟨rfl, rfl⟩ := h
      obtain ⟨vals, h1, h2⟩ := hold_given (Hc := Hc) hV hroot hx ha
      exact ⟨vals, ⟨rfl, rfl, h1⟩, fun n ρ0 hl hcp => h2 n ρ0 hl.1 hcp⟩
    · cases h
  | mv t =>
    simp only [View.arg] at h
    split at h
    · rename_i x' ps hx
      simp only [Option.some.injEq, Prod.mk.injEq] at h
      obtain ⟨rfl, rfl⟩ := h
      obtain ⟨vals, h1, h2⟩ := hold_given (Hc := Hc) hV hroot hx ha
      exact ⟨vals, ⟨rfl, rfl, h1⟩, fun n ρ0 hl hcp => h2 n ρ0 hl.1 (by simpa [Got.places] using hcp)⟩
    · cases h
  | mp t own =>
    cases own with
    | false =>
      simp only [View.arg] at h
      split at h
      · rename_i l x' d hx
        simp only [Option.some.injEq, Prod.mk.injEq] at h
        obtain ⟨rfl, rfl⟩ := h
        obtain ⟨b, vs, T, cs, e1, e2, e3, e4, e5, e6, e7, e8⟩ := boxData_rel hV hroot hx ha
        refine ⟨[ρ.hdr l], ⟨rfl, l, cs, [], rfl, e6, rfl, rfl, rfl⟩, fun n ρ0 hl hcp => ?_⟩
        have g1 : ρ0.hdr n = ρ.hdr l := hcp.hdr 0 _ rfl
        have g2 := (hcp.root 0 l rfl).1
        refine ⟨AR.one.2 ⟨b, by rw [g1, e2, e1], e1⟩, fun i r hi => ?_⟩
        cases i with
        | zero =>
          simp only [entry, List.getElem?_cons_zero, Option.some.injEq] at hi
          subst hi
          refine ⟨b, vs, T, by rw [show ρ0.hdr (n + 0) = ρ.hdr l from g1, e2, e1], g2 b e3, e4, ?_⟩
          simp only [cellsOf, Bool.false_eq_true, if_false]
          refine Rd.cells t _ vs rfl (Rd.mono (fun b _ hb => ⟨?_, rfl⟩) t _ vs e5)
          exact .inl (hb.elim (hl.1 b) fun ⟨l, h1, h2⟩ => hl.2 b l h2 h1)
        | succ i => simp [entry, cellsOf] at hi
      · cases h
    | true =>
      simp only [View.arg] at h
      split at h
      · rename_i l x' ps hx
        simp only [Option.some.injEq, Prod.mk.injEq] at h
        obtain ⟨rfl, rfl⟩ := h
        unfold View.boxHold at hx
        split at hx
        · rename_i l0
          split at hx
          · rename_i cs hl
            split at hx
            · rename_i x2 p2 hh
              simp only [Option.some.injEq, Prod.mk.injEq] at hx
              obtain ⟨rfl, rfl, rfl⟩ := hx
              obtain ⟨b', hb', hv⟩ := AR.one.1 ha
              obtain ⟨b, vs, T, e1, e2, e3, e4⟩ := hroot l0 _ (hV l0 _ hl)
              rw [hb'] at e1
              simp only [Value.pointer.injEq, Option.some.injEq, Addr.mk.injEq, and_true] at e1
              subst e1
              obtain ⟨v1, v2, vals, rfl, k2, k3, k4⟩ := heldAll_given (Hc := Hc) hV hroot t cs _ _ _ _ hh e4
              have : v2 = [] := by have := k2.1; simpa using this.symm
              subst this
              rw [List.append_nil] at e3
              refine ⟨ρ.hdr l0 :: vals, ⟨rfl, l0, cs, vals, rfl, hV l0 _ hl, rfl, by simpa using k3⟩, fun n ρ0 hlt hcp => ?_⟩
              have g1 : ρ0.hdr n = ρ.hdr l0 := hcp.hdr 0 _ rfl
              have g2 := (hcp.root 0 l0 rfl).1
              have hcp' : Compat ρ ρ0 (n + 1) p2 vals := Compat.right (ps := [.root l0]) (vals := [ρ.hdr l0]) (by simpa [Got.places] using hcp) rfl
              obtain ⟨q1, q2⟩ := k4 (n + 1) ρ0 hlt.1 hcp'
              refine ⟨AR.one.2 ⟨b', by rw [g1, hb'], hv⟩, fun i r hi => ?_⟩
              cases i with
              | zero =>
                simp only [entry, List.getElem?_cons_zero, Option.some.injEq] at hi
                subst hi
                exact ⟨b', v1, T, by rw [show ρ0.hdr (n + 0) = ρ.hdr l0 from g1, hb'], g2 b' e2, e3, by simpa [cellsOf] using q1⟩
              | succ i =>
                have := q2 i r (by simpa [entry, cellsOf] using hi)
                rwa [show n + 1 + i = n + (i + 1) by omega] at this
            · cases hx
          · cases hx
        · cases hx
      · cases h

theorem args_cons {V : View} {p : PK} {pk : List PK} {X : A} {as : List A} {x : In (p :: pk)} {gs : List Got} (h : V.args E (p :: pk) (X :: as) = some (x, gs)) :
    ∃ (y : p.D) (z : In pk) (g : Got) (gs' : List Got), V.arg E p X = some (y, g) ∧ V.args E pk as = some (z, gs') ∧ gs = g :: gs' ∧ insL (p :: pk) x = ⟨p, y⟩ :: insL pk z := by
  cases pk with
  | nil =>
    cases as with
    | nil =>
      simp only [View.args] at h
      split at h
      · rename_i y g hy
        simp only [Option.some.injEq, Prod.mk.injEq] at h
        obtain ⟨rfl, rfl⟩ := h
        exact ⟨_, (), g, [], hy, rfl, rfl, rfl⟩
      · cases h
    | cons A2 as => simp [View.args] at h
  | cons q ps =>
    simp only [View.args] at h
    split at h
    · rename_i y g z gs' h1 h2
      simp only [Option.some.injEq, Prod.mk.injEq] at h
      obtain ⟨rfl, rfl⟩ := h
      exact ⟨y, z, g, gs', h1, h2, rfl, rfl⟩
    · cases h

/-- All arguments: their places and values. -/
def GotsOK (s : S) (ρ : Map) (w : World) : List PK → List Got → List Value → Prop
  | [], gs, vals => gs = [] ∧ vals = []
  | p :: pk, gs, vals => ∃ g gs' v1 v2, gs = g :: gs' ∧ vals = v1 ++ v2 ∧ GotOK s ρ w p g v1 ∧ GotsOK s ρ w pk gs' v2

theorem GotsOK.count : ∀ {pk : List PK} {gs : List Got} {vals : List Value}, GotsOK s ρ w pk gs vals → (gs.flatMap Got.places).length = (pk.map PK.count).sum ∧ vals.length = (pk.map PK.count).sum
  | [], gs, vals, h => by
    obtain ⟨rfl, rfl⟩ := h
    exact ⟨rfl, rfl⟩
  | p :: pk, gs, vals, h => by
    obtain ⟨g, gs', v1, v2, rfl, rfl, h1, h2⟩ := h
    obtain ⟨g1, g2⟩ := h1.count
    obtain ⟨g3, g4⟩ := h2.count
    simp only [List.flatMap_cons, List.length_append, List.map_cons, List.sum_cons]
    omega

theorem args_given [Laid P] {V : View} (hV : Seen V s) (hE : ConsOK P E) (hM : Met P w ρ.own) (hroot : ∀ l r, s.root l = some r → RR P ρ w s.root l r) : ∀ (pk : List PK) (as : List A) (x : In pk) (gs : List Got) (vs : List Value), V.args E pk as = some (x, gs) → as.length = vs.length →
    (∀ (k : Nat) A v, as[k]? = some A → vs[k]? = some v → AR P ρ w s.root A v) → ∃ vals, GotsOK s ρ w pk gs vals ∧ as.length = pk.length ∧ ∀ n ρ0, Lets ρ ρ0.own (gs.flatMap (·.deps)) → Compat ρ ρ0 n (gs.flatMap Got.places) vals →
      (entriesL n (insL pk x)).1.length = vs.length ∧ (∀ (k : Nat) A v, (entriesL n (insL pk x)).1[k]? = some A → vs[k]? = some v → AR P ρ0 w Hc A v) ∧ (entriesL n (insL pk x)).2.length = (pk.map PK.count).sum ∧
      ∀ (i : Nat) r, (entriesL n (insL pk x)).2[i]? = some r → RR P ρ0 w Hc (n + i) r
  | [], as, x, gs, vs, h, hl, ha => by
    cases as with
    | nil =>
      simp only [View.args, Option.some.injEq, Prod.mk.injEq] at h
      obtain ⟨_, rfl⟩ := h
      exact ⟨[], ⟨rfl, rfl⟩, rfl, fun n ρ0 _ _ => ⟨by simpa [insL, entriesL] using hl, fun k A v hA => by simp [insL, entriesL] at hA, rfl, fun i r hi => by simp [insL, entriesL] at hi⟩⟩
    | cons A as => simp [View.args] at h
  | p :: pk, [], x, gs, vs, h, hl, ha => by cases pk <;> simp [View.args] at h
  | p :: pk, A :: as, x, gs, [], h, hl, ha => by simp at hl
  | p :: pk, A :: as, x, gs, v :: vs, h, hl, ha => by
    obtain ⟨y, z, g, gs', h1, h2, rfl, h4⟩ := args_cons h
    obtain ⟨v1, g1, g2⟩ := arg_given (Hc := Hc) hV hE hM hroot h1 (ha 0 A v rfl rfl)
    obtain ⟨v2, g3, glen, g4⟩ := args_given hV hE hM hroot pk as z gs' vs h2 (by simpa using hl) (fun k A v hA hv => ha (k + 1) A v (by simpa using hA) (by simpa using hv))
    refine ⟨v1 ++ v2, ⟨g, gs', v1, v2, rfl, rfl, g1, g3⟩, by simp [glen], fun n ρ0 hlt hcp => ?_⟩
    obtain ⟨c1, c2⟩ := g1.count
    have hl1 : v1.length = g.places.length := by rw [c1, c2]
    simp only [List.flatMap_cons] at hlt hcp
    obtain ⟨q1, q2⟩ := g2 n ρ0 (hlt.sub fun l hl => List.mem_append_left _ hl) (hcp.left hl1)
    have hcp2 := hcp.right hl1
    rw [c1] at hcp2
    obtain ⟨q3, q4, q5, q6⟩ := g4 (n + p.count) ρ0 (hlt.sub fun l hl => List.mem_append_right _ hl) hcp2
    rw [h4]
    simp only [entriesL, entry_len]
    refine ⟨by simp [q3], fun k A' v' hA hv => ?_, by simp [entry_len, q5], fun i r hi => ?_⟩
    · cases k with
      | zero =>
        simp only [List.getElem?_cons_zero, Option.some.injEq] at hA hv
        subst hA
        subst hv
        exact q1
      | succ k => exact q4 k A' v' (by simpa using hA) (by simpa using hv)
    · by_cases hlt' : i < p.count
      · rw [List.getElem?_append_left (by rw [entry_len]; exact hlt')] at hi
        exact q2 i r hi
      · rw [List.getElem?_append_right (by rw [entry_len]; omega), entry_len] at hi
        have := q6 _ r hi
        rwa [show n + p.count + (i - p.count) = n + i by omega] at this

end Go.Proofs.YtgjneigkkgaaiaaGreatDoor.Vd

/- VdZr -/
namespace Go.Proofs.YtgjneigkkgaaiaaGreatDoor.Vd

variable {P : Program} {E : Env} {ρ ρ' ρ0 ρo : Map} {w w' : World} {s s' : S} {a : Act} {K : Ctx} {H H' Hc : Nat → Option Root}

def idxOf (ps : List Spot) (p : Spot) : Option Nat := ps.findIdx? fun q => decide (q = p)

def Map.restr (ρ : Map) (ps : List Spot) (vals : List Value) (deps : List Nat) : Map where
  own b := match ρ.own b with
    | .free => .free
    | .off => .off
    | .main l => match idxOf ps (.root l) with
      | some k => .main k
      | none => if l ∈ deps then .free else .off
    | .inner l i j => match idxOf ps (.in1 l i j) with
      | some k => .main k
      | none => match idxOf ps (.root l) with
        | some k => .inner k i j
        | none => if l ∈ deps then .free else .off
  hdr k := vals.getD k undef

theorem idxOf_some {ps : List Spot} {p : Spot} {k : Nat} (h : idxOf ps p = some k) : ps[k]? = some p ∧ k < ps.length := by
  unfold idxOf at h
  rw [List.findIdx?_eq_some_iff_getElem] at h
  obtain ⟨hk, hp, _⟩ := h
  simp only [decide_eq_true_eq] at hp
  exact ⟨by rw [List.getElem?_eq_getElem hk, hp], hk⟩

theorem idxOf_none {ps : List Spot} {p : Spot} (h : p ∉ ps) : idxOf ps p = none := by
  unfold idxOf
  rw [List.findIdx?_eq_none_iff]
  intro q hq
  simp only [decide_eq_false_iff_not]
  rintro rfl
  exact h hq

theorem apart_tail {p : Spot} {r : List Spot} (h : Spot.apart (p :: r) = true) : Spot.apart r = true ∧ (p ≠ .none → p ∉ r) := by
  cases p with
  | none => exact ⟨h, fun h => absurd rfl h⟩
  | root l => simp only [Spot.apart, Bool.and_eq_true, Bool.not_eq_true', List.contains_eq_mem, decide_eq_false_iff_not] at h; exact ⟨h.2, fun _ => h.1⟩
  | in1 l i j => simp only [Spot.apart, Bool.and_eq_true, Bool.not_eq_true', List.contains_eq_mem, decide_eq_false_iff_not] at h; exact ⟨h.2, fun _ => h.1⟩

theorem idxOf_apart : ∀ {ps : List Spot} {p : Spot} {k : Nat}, Spot.apart ps = true → p ≠ .none → ps[k]? = some p → idxOf ps p = some k
  | [], p, k, _, _, h => by simp at h
  | q :: ps, p, k, ha, hp, h => by
    obtain ⟨h1, h2⟩ := apart_tail ha
    cases k with
    | zero =>
      simp at h
      subst h
      simp [idxOf, List.findIdx?_cons]
    | succ k =>
      simp only [List.getElem?_cons_succ] at h
      have hne : q ≠ p := by
        rintro rfl
        exact h2 hp (List.mem_of_getElem? h)
      have ih := idxOf_apart h1 hp h
      unfold idxOf at ih ⊢
      simp [List.findIdx?_cons, hne, ih]

structure Apart (ps : List Spot) (deps : List Nat) : Prop where
  ap : Spot.apart ps = true
  mix : ∀ l, (.root l) ∈ ps → ∀ i j, (.in1 l i j) ∉ ps
  dep : ∀ l, (.root l) ∈ ps → l ∉ deps
  dep1 : ∀ l i j, (.in1 l i j) ∈ ps → l ∉ deps

theorem argsApart_spec {gs : List Got} (h : argsApart gs = true) : Apart (gs.flatMap Got.places) (gs.flatMap (·.deps)) := by
  unfold argsApart at h
  simp only [Bool.and_eq_true, List.all_eq_true, Bool.not_eq_true', List.contains_eq_mem, decide_eq_false_iff_not] at h
  obtain ⟨⟨h1, h2⟩, h3⟩ := h
  refine ⟨h1, fun l hl i j hin => h2 l (List.mem_flatMap.2 ⟨_, hl, by simp [Spot.main]⟩) (List.mem_flatMap.2 ⟨_, hin, by simp [Spot.inner]⟩), fun l hl => h3 l (List.mem_flatMap.2 ⟨_, hl, by simp [Spot.loc]⟩), fun l i j hl => h3 l (List.mem_flatMap.2 ⟨_, hl, by simp [Spot.loc]⟩)⟩

section
variable {ps : List Spot} {vals : List Value} {deps : List Nat}

theorem restr_free {b : Nat} (h : ρ.own b = .free) : (ρ.restr ps vals deps).own b = .free := by simp [Map.restr, h]
theorem restr_off {b : Nat} (h : ρ.own b = .off) : (ρ.restr ps vals deps).own b = .off := by simp [Map.restr, h]

theorem restr_root (h : Apart ps deps) {b l : Nat} (ho : (ρ.own b).loc = some l) (h1 : .root l ∉ ps) (h2 : ∀ i j, ρ.own b = .inner l i j → .in1 l i j ∉ ps) : (ρ.restr ps vals deps).own b = if l ∈ deps then .free else .off := by
  cases hb : ρ.own b with
  | free => rw [hb] at ho; cases ho
  | off => rw [hb] at ho; cases ho
  | main l' =>
    rw [hb] at ho
    cases ho
    simp [Map.restr, hb, idxOf_none h1]
  | inner l' i j =>
    rw [hb] at ho
    cases ho
    simp [Map.restr, hb, idxOf_none h1, idxOf_none (h2 i j hb)]

theorem restr_lets (h : Apart ps deps) : Lets ρ (ρ.restr ps vals deps).own deps :=
  ⟨fun b hb => restr_free hb, fun b l ho hl => by
    rw [restr_root h ho (fun hm => h.dep l hm hl) (fun i j _ hm => h.dep1 l i j hm hl), if_pos hl]⟩

theorem restr_compat (h : Apart ps deps) (hl : vals.length = ps.length) : Compat ρ (ρ.restr ps vals deps) 0 ps vals where
  len := hl
  hdr := fun i v hi => by simp [Map.restr, List.getD_eq_getElem?_getD, hi]
  root := fun i l hi => by
    have hm := List.mem_of_getElem? hi
    have hix := idxOf_apart h.ap (by simp) hi
    refine ⟨fun b hb => by simp [Map.restr, hb, hix], fun b i' j hb => by simp [Map.restr, hb, idxOf_none (h.mix l hm i' j), hix]⟩
  in1 := fun i l i' j hi b hb => by
    have hix := idxOf_apart h.ap (by simp) hi
    simp [Map.restr, hb, hix]

theorem restr_loc {b k : Nat} (h : ((ρ.restr ps vals deps).own b).loc = some k) : k < ps.length := by
  simp only [Map.restr] at h
  split at h
  · cases h
  · cases h
  · split at h
    · rename_i k' hk
      cases h
      exact (idxOf_some hk).2
    · split at h <;> cases h
  · split at h
    · rename_i k' hk
      cases h
      exact (idxOf_some hk).2
    · split at h
      · rename_i k' hk
        cases h
        exact (idxOf_some hk).2
      · split at h <;> cases h

/-- Owners as the caller sees them. -/
def backOwn (ps : List Spot) (N nx : Nat) : Own → Own
  | .main k => if k < N then (match ps[k]? with
    | some (.root l) => .main l
    | some (.in1 l i j) => .inner l i j
    | _ => .free) else .main (nx + (k - N))
  | .inner k i j => if k < N then (match ps[k]? with
    | some (.root l) => .inner l i j
    | _ => .free) else .inner (nx + (k - N)) i j
  | o => o

def Map.merge (ρ ρ0 ρo : Map) (sz : Nat) (ps : List Spot) (N nx cnt : Nat) : Map where
  own b := if b < sz ∧ (ρ0.own b = .free ∨ ρ0.own b = .off) then ρ.own b else backOwn ps N nx (ρo.own b)
  hdr l := if nx ≤ l ∧ l < nx + cnt then ρo.hdr (N + (l - nx)) else ρ.hdr l

/-- The number of new roots. -/
def newCnt (con : Con0) (y : Out con.rk con.pk) : Nat :=
  let q := results (entryLen con) [] con.rk (tupList _ y)
  (q.2.1 ++ (exitIo (entryLen con + q.2.1.length) con.pk q.2.2).2).length

/-- What is known behind a call. -/
structure Came (P : Program) (K : Ctx) (ρ : Map) (s : S) (a : Act) (w : World) (con : Con0) (y : Out con.rk con.pk) (gs : List Got) (vals : List Value) (w' : World) (ρo : Map) (v : Value) (nx : Nat) : Prop where
  rel : Rel P K ρ s a w
  got : GotsOK s ρ w con.pk gs vals
  ap : Apart (gs.flatMap Got.places) (gs.flatMap (·.deps))
  ex : Exit0 P con y w (ρ.restr (gs.flatMap Got.places) vals (gs.flatMap (·.deps))) w' ρo v
  new : ∀ i, i < newCnt con y → Unused K ρ s (nx + i)

def Came.map (ρ : Map) (w : World) (con : Con0) (y : Out con.rk con.pk) (gs : List Got) (vals : List Value) (ρo : Map) (nx : Nat) : Map :=
  ρ.merge (ρ.restr (gs.flatMap Got.places) vals (gs.flatMap (·.deps))) ρo w.heap.size (gs.flatMap Got.places) (entryLen con) nx (newCnt con y)

end

theorem results_roots : ∀ (rk : List (Ty × Bool)) (l : List (Σ t : Ty, t.D)) (n n' : Nat) (d d' : List Nat), (results n d rk l).2 = (results n' d' rk l).2
  | [], l, n, n', d, d' => rfl
  | _ :: _, [], n, n', d, d' => rfl
  | (t0, own) :: rk, ⟨t, x⟩ :: l, n, n', d, d' => by
    have hc : (cellsOf own n d t x).2 = (cellsOf own n' d' t x).2 := by
      unfold cellsOf
      cases own with
      | false => rfl
      | true =>
        simp only [if_true]
        exact ownCells_roots t n n' x
    simp only [results]
    rw [results_roots rk l (n + (cellsOf own n d t x).2.length) (n' + (cellsOf own n' d' t x).2.length) d d', hc]
where
  ownCells_roots : (t : Ty) → (n n' : Nat) → (x : t.D) → (ownCells n t x).2 = (ownCells n' t x).2
    | .sl _, _, _, _ => rfl
    | .one h, n, n', x => ownCells_roots h n n' x
    | .cons h t, n, n', x => by
      simp only [ownCells]
      rw [ownCells_roots h n n' x.1, ownCells_roots t (n + (ownCells n' h x.1).2.length) (n' + (ownCells n' h x.1).2.length) x.2]
    | .int _, _, _, _ | .bool, _, _, _ | .str, _, _, _ => rfl

theorem ownCells_roots (t : Ty) (n n' : Nat) (x : t.D) : (ownCells n t x).2 = (ownCells n' t x).2 := results_roots.ownCells_roots t n n' x

theorem cellsOf_roots (own : Bool) (t : Ty) (n n' : Nat) (d d' : List Nat) (x : t.D) : (cellsOf own n d t x).2 = (cellsOf own n' d' t x).2 := by
  unfold cellsOf
  cases own with
  | false => rfl
  | true => simp only [if_true]; exact ownCells_roots t n n' x

theorem cellsOf_len (own : Bool) (t : Ty) (n : Nat) (d : List Nat) (x : t.D) : (cellsOf own n d t x).2.length = if own then nsl t else 0 := by
  unfold cellsOf
  cases own <;> simp [ownCells_len]

theorem exitIo_len : ∀ (pk : List PK) (r : List (Σ t : Ty, t.D)) (n : Nat), r.map (·.1) = ioTys pk → (exitIo n pk r).1.length = (pk.map PK.count).sum
  | [], r, n, _ => rfl
  | .mv t :: pk, ⟨u, x⟩ :: r, n, h => by
    simp only [List.map_cons, ioTys, List.cons.injEq] at h
    obtain ⟨rfl, h⟩ := h
    simp [exitIo, ownCells_len, exitIo_len pk r n h, PK.count]
  | .mp t own :: pk, ⟨u, x⟩ :: r, n, h => by
    simp only [List.map_cons, ioTys, List.cons.injEq] at h
    obtain ⟨rfl, h⟩ := h
    simp only [exitIo, List.length_cons, List.length_append, List.length_replicate, exitIo_len pk r _ h, List.map_cons, List.sum_cons, PK.count]
    omega
  | .mv t :: pk, [], n, h => by simp [ioTys] at h
  | .mp t own :: pk, [], n, h => by simp [ioTys] at h
  | .ow t :: pk, r, n, h => by simp only [ioTys] at h; simp [exitIo, exitIo_len pk r n h, PK.count]
  | .data t :: pk, r, n, h => by simp only [ioTys] at h; simp [exitIo, exitIo_len pk r n h, PK.count]
  | .rp t :: pk, r, n, h => by simp only [ioTys] at h; simp [exitIo, exitIo_len pk r n h, PK.count]
  | .fn i o :: pk, r, n, h => by simp only [ioTys] at h; simp [exitIo, exitIo_len pk r n h, PK.count]
  | .rfn i o :: pk, r, n, h => by simp only [ioTys] at h; simp [exitIo, exitIo_len pk r n h, PK.count]

theorem tupList_tys : ∀ (ts : List Ty) (y : Prod' ts), (tupList ts y).map (·.1) = ts
  | [], _ => rfl
  | [t], y => rfl
  | t :: u :: ts, y => by simp [tupList, tupList_tys (u :: ts) y.2]

theorem results_rest : ∀ (rk : List (Ty × Bool)) (l : List (Σ t : Ty, t.D)) (ts : List Ty) (n : Nat) (d : List Nat), l.map (·.1) = rk.map (·.1) ++ ts → (results n d rk l).2.2.map (·.1) = ts
  | [], l, ts, n, d, h => by simpa [results] using h
  | (t0, own) :: rk, [], ts, n, d, h => by simp at h
  | (t0, own) :: rk, ⟨t, x⟩ :: l, ts, n, d, h => by
    simp only [List.map_cons, List.cons_append, List.cons.injEq] at h
    simp only [results]
    exact results_rest rk l ts _ d h.2

theorem outs_tys (con : Con0) (y : Out con.rk con.pk) (n : Nat) (d : List Nat) : (results n d con.rk (tupList _ y)).2.2.map (·.1) = ioTys con.pk :=
  results_rest con.rk _ _ n d (tupList_tys _ y)

theorem exitRoots_new (con : Con0) (y : Out con.rk con.pk) (i : Nat) : rt (exitRoots con y) (entryLen con + i) = ((results (entryLen con) [] con.rk (tupList _ y)).2.1 ++ (exitIo (entryLen con + (results (entryLen con) [] con.rk (tupList _ y)).2.1.length) con.pk (results (entryLen con) [] con.rk (tupList _ y)).2.2).2)[i]? := by
  have hl : (exitIo (entryLen con + (results (entryLen con) [] con.rk (tupList _ y)).2.1.length) con.pk (results (entryLen con) [] con.rk (tupList _ y)).2.2).1.length = entryLen con := exitIo_len _ _ _ (outs_tys con y _ _)
  simp only [rt, exitRoots, List.getD_eq_getElem?_getD]
  rw [List.getElem?_append_right (by omega), hl, Nat.add_sub_cancel_left, List.getElem?_map]
  cases ((results (entryLen con) [] con.rk (tupList _ y)).2.1 ++ (exitIo (entryLen con + (results (entryLen con) [] con.rk (tupList _ y)).2.1.length) con.pk (results (entryLen con) [] con.rk (tupList _ y)).2.2).2)[i]? <;> rfl

theorem exitRoots_old (con : Con0) (y : Out con.rk con.pk) {i : Nat} {r : Root} (h : (exitIo (entryLen con + (results (entryLen con) [] con.rk (tupList _ y)).2.1.length) con.pk (results (entryLen con) [] con.rk (tupList _ y)).2.2).1[i]? = some (some r)) : rt (exitRoots con y) i = some r := by
  simp only [rt, exitRoots, List.getD_eq_getElem?_getD]
  rw [List.getElem?_append_left (List.getElem?_eq_some_iff.1 h).1, h]
  rfl

theorem exitRoots_len (con : Con0) (y : Out con.rk con.pk) : (exitRoots con y).length = entryLen con + newCnt con y := by
  have hl : (exitIo (entryLen con + (results (entryLen con) [] con.rk (tupList _ y)).2.1.length) con.pk (results (entryLen con) [] con.rk (tupList _ y)).2.2).1.length = entryLen con := exitIo_len _ _ _ (outs_tys con y _ _)
  simp only [exitRoots, newCnt, List.length_append, List.length_map, hl]

end Go.Proofs.YtgjneigkkgaaiaaGreatDoor.Vd

/- VdZs -/
namespace Go.Proofs.YtgjneigkkgaaiaaGreatDoor.Vd

variable {P : Program} {E : Env} {ρ ρ' ρ0 ρo : Map} {w w' : World} {s s' : S} {a : Act} {K : Ctx} {H H' Hc : Nat → Option Root}
variable {con : Con0} {y : Out con.rk con.pk} {gs : List Got} {vals : List Value} {v : Value} {nx : Nat}

theorem place_loc {gs : List Got} {p : Spot} (h : p ∈ gs.flatMap Got.places) {l : Nat} (hl : l ∈ p.loc) : l ∈ backLocs gs ∨ l ∈ goneLocs gs := by
  obtain ⟨g, hg, hp⟩ := List.mem_flatMap.1 h
  simp only [Got.places, List.mem_append] at hp
  rcases hp with hp | hp | hp
  · left
    refine List.mem_flatMap.2 ⟨g, hg, ?_⟩
    simp only [List.mem_append]
    left
    cases hb : g.box with
    | none => rw [hb] at hp; cases hp
    | some l0 =>
      rw [hb] at hp
      simp only [List.mem_singleton] at hp
      subst hp
      simpa [Spot.loc] using hl
  · left
    refine List.mem_flatMap.2 ⟨g, hg, ?_⟩
    simp only [List.mem_append]
    exact .inr (List.mem_flatMap.2 ⟨p, hp, hl⟩)
  · right
    exact List.mem_flatMap.2 ⟨g, hg, List.mem_flatMap.2 ⟨p, hp, hl⟩⟩

/-- What dies with a call. -/
def callKill (gs : List Got) (nx cnt : Nat) : List (Nat × Bool) := ((backLocs gs).map fun l => (l, false)) ++ allDie (goneLocs gs ++ List.range' nx cnt)

theorem callKill_killed {gs : List Got} {cnt l : Nat} : Killed ⟨callKill gs nx cnt, []⟩ l ↔ l ∈ backLocs gs ∨ l ∈ goneLocs gs ∨ (nx ≤ l ∧ l < nx + cnt) := by
  simp only [Killed, callKill, allDie, List.mem_append, List.mem_map, Prod.mk.injEq, List.mem_range'_1]
  constructor
  · rintro ⟨b, ⟨l', h1, rfl, _⟩ | ⟨l', h1, rfl, _⟩⟩
    · exact .inl h1
    · exact .inr h1
  · rintro (h | h)
    · exact ⟨false, .inl ⟨l, h, rfl, rfl⟩⟩
    · exact ⟨true, .inr ⟨l, h, rfl, rfl⟩⟩

theorem callKill_all {gs : List Got} {cnt l : Nat} : KilledAll ⟨callKill gs nx cnt, []⟩ l ↔ l ∈ goneLocs gs ∨ (nx ≤ l ∧ l < nx + cnt) := by
  simp only [KilledAll, callKill, allDie, List.mem_append, List.mem_map, Prod.mk.injEq, List.mem_range'_1]
  constructor
  · rintro (⟨l', h1, _, h2⟩ | ⟨l', h1, rfl, _⟩)
    · cases h2
    · exact h1
  · intro h
    exact .inr ⟨l, h, rfl, trivial⟩

variable (hC : Came P K ρ s a w con y gs vals w' ρo v nx)
include hC

theorem Came.N : (gs.flatMap Got.places).length = entryLen con := hC.got.count.1

theorem Came.old {l : Nat} {r : Root} (h : s.root l = some r) (hg : r ≠ .gap) : ¬ (nx ≤ l ∧ l < nx + newCnt con y) := by
  rintro ⟨h1, h2⟩
  have := (hC.new (l - nx) (by omega)).root
  rw [show nx + (l - nx) = l by omega, h] at this
  rcases this with h3 | h3
  · cases h3
  · exact hg (Option.some.inj h3)

theorem Came.own_old {b l : Nat} (h : (ρ.own b).loc = some l) : ¬ (nx ≤ l ∧ l < nx + newCnt con y) := by
  rintro ⟨h1, h2⟩
  exact (hC.new (l - nx) (by omega)).own b (by rw [h, show nx + (l - nx) = l by omega])

theorem Came.kept {b : Nat} (h : (ρ.restr (gs.flatMap Got.places) vals (gs.flatMap (·.deps))).own b = .free ∨ (ρ.restr (gs.flatMap Got.places) vals (gs.flatMap (·.deps))).own b = .off) (hb : b < w.heap.size) :
    (Came.map ρ w con y gs vals ρo nx).own b = ρ.own b ∧ w'.heap[b]? = w.heap[b]? := by
  refine ⟨?_, (hC.ex.keep b hb h).2⟩
  simp only [Came.map, Map.merge]
  rw [if_pos ⟨hb, h⟩]

theorem Came.back {b : Nat} (h : ¬ (b < w.heap.size ∧ ((ρ.restr (gs.flatMap Got.places) vals (gs.flatMap (·.deps))).own b = .free ∨ (ρ.restr (gs.flatMap Got.places) vals (gs.flatMap (·.deps))).own b = .off))) :
    (Came.map ρ w con y gs vals ρo nx).own b = backOwn (gs.flatMap Got.places) (entryLen con) nx (ρo.own b) := by
  simp only [Came.map, Map.merge]
  rw [if_neg h]

/-- A block that the callee leaves with an owner is one that it was given or made. -/
theorem Came.owned {b : Nat} {k : Nat} (h : (ρo.own b).loc = some k) : (Came.map ρ w con y gs vals ρo nx).own b = backOwn (gs.flatMap Got.places) (entryLen con) nx (ρo.own b) := by
  refine hC.back ?_
  rintro ⟨hb, ho⟩
  have := (hC.ex.keep b hb ho).1
  rw [this] at h
  rcases ho with ho | ho <;> (rw [ho] at h; cases h)

theorem Came.free {b : Nat} (h : ρo.own b = .free) : Al (Came.map ρ w con y gs vals ρo nx).own (gs.flatMap (·.deps)) b := by
  by_cases hb : b < w.heap.size ∧ ((ρ.restr (gs.flatMap Got.places) vals (gs.flatMap (·.deps))).own b = .free ∨ (ρ.restr (gs.flatMap Got.places) vals (gs.flatMap (·.deps))).own b = .off)
  · rw [Al, (hC.kept hb.2 hb.1).1]
    have h1 := (hC.ex.keep b hb.1 hb.2).1
    rw [h] at h1
    -- free with the callee: free with the caller, or borrowed
    cases ho : ρ.own b with
    | free => exact .inl rfl
    | off => rw [restr_off ho] at h1; cases h1
    | main l =>
      right
      refine ⟨l, ?_, rfl⟩
      simp only [Map.restr, ho] at h1
      split at h1
      · cases h1
      · split at h1
        · assumption
        · cases h1
    | inner l i j =>
      right
      refine ⟨l, ?_, rfl⟩
      simp only [Map.restr, ho] at h1
      split at h1
      · cases h1
      · split at h1
        · cases h1
        · split at h1
          · assumption
          · cases h1
  · left
    rw [hC.back hb, h]
    rfl

theorem Came.chg {cnt : Nat} (hcnt : cnt = newCnt con y) (H' : Nat → Option Root) (harr : ∀ l e xs d, ¬ Killed ⟨callKill gs nx cnt, []⟩ l → s.root l = some (.arr e xs d) → H' l = some (.arr e xs d)) :
    Chg P ρ (Came.map ρ w con y gs vals ρo nx) w w' s.root H' ⟨callKill gs nx cnt, []⟩ := by
  subst hcnt
  exact {
    later := hC.ex.later
    free := fun b hb ho => by
      obtain ⟨h1, h2⟩ := hC.kept (.inl (restr_free ho)) hb
      exact ⟨h1.trans ho, h2⟩
    off := fun b hb ho => by
      obtain ⟨h1, h2⟩ := hC.kept (.inr (restr_off ho)) hb
      exact ⟨h1.trans ho, h2⟩
    noOff := fun b ho => by
      by_cases hb : b < w.heap.size ∧ ((ρ.restr (gs.flatMap Got.places) vals (gs.flatMap (·.deps))).own b = .free ∨ (ρ.restr (gs.flatMap Got.places) vals (gs.flatMap (·.deps))).own b = .off)
      · rwa [(hC.kept hb.2 hb.1).1] at ho
      · rw [hC.back hb] at ho
        have h1 : ρo.own b = .off := by
          cases hb' : ρo.own b with
          | free => rw [hb'] at ho; cases ho
          | off => rfl
          | main k =>
            rw [hb'] at ho
            simp only [backOwn] at ho
            split at ho
            · split at ho <;> cases ho
            · cases ho
          | inner k i j =>
            rw [hb'] at ho
            simp only [backOwn] at ho
            split at ho
            · split at ho <;> cases ho
            · cases ho
        have h2 := hC.ex.noOff b h1
        rcases Nat.lt_or_ge b w.heap.size with h3 | h3
        · exact absurd ⟨h3, .inr h2⟩ hb
        · rw [restr_free (hC.rel.fresh b h3)] at h2
          cases h2
    block := fun b l hb hl hk => by
      have hk' := fun h => hk (callKill_killed.2 h)
      have h1 : Spot.root l ∉ gs.flatMap Got.places := fun hm => hk' ((place_loc hm (l := l) (by simp [Spot.loc])).elim .inl fun h => .inr (.inl h))
      have h2 : ∀ i j, ρ.own b = .inner l i j → Spot.in1 l i j ∉ gs.flatMap Got.places := fun i j _ hm => hk' ((place_loc hm (l := l) (by simp [Spot.loc])).elim .inl fun h => .inr (.inl h))
      have h3 := restr_root (vals := vals) hC.ap hl h1 h2
      obtain ⟨h4, h5⟩ := hC.kept (by rw [h3]; split <;> simp) hb
      exact ⟨h5, fun _ => h4⟩
    hdr := fun l hk _ => by
      rw [callKill_all] at hk
      simp only [Came.map, Map.merge]
      rw [if_neg fun h => hk (.inr h)]
    hdrP := fun l b hk _ => by
      rw [callKill_all] at hk
      simp only [Came.map, Map.merge]
      rw [if_neg fun h => hk (.inr h)]
    arr := fun l e xs d hk _ hr => harr l e xs d hk hr
    mov := fun l c hm => by cases hm
    got := fun b l hk _ h1 hb => by
      have hk' := fun h => hk (callKill_killed.2 h)
      by_cases hkp : b < w.heap.size ∧ ((ρ.restr (gs.flatMap Got.places) vals (gs.flatMap (·.deps))).own b = .free ∨ (ρ.restr (gs.flatMap Got.places) vals (gs.flatMap (·.deps))).own b = .off)
      · rw [(hC.kept hkp.2 hkp.1).1] at hb
        exact h1 b hb
      · rw [hC.back hkp] at hb
        have pl : ∀ (k : Nat) (p : Spot), (gs.flatMap Got.places)[k]? = some p → l ∈ p.loc → False := fun k p hp hl =>
          hk' ((place_loc (List.mem_of_getElem? hp) hl).elim .inl fun h => .inr (.inl h))
        cases ho : ρo.own b with
        | free => rw [ho] at hb; cases hb
        | off => rw [ho] at hb; cases hb
        | main k =>
          have hlv := hC.ex.live b k (by rw [ho]; rfl)
          rw [exitRoots_len] at hlv
          rw [ho] at hb
          simp only [backOwn] at hb
          split at hb
          · split at hb
            · rename_i l' hl'; cases hb; exact pl _ _ hl' (by simp [Spot.loc])
            · rename_i l' i j hl'; cases hb; exact pl _ _ hl' (by simp [Spot.loc])
            · cases hb
          · rename_i hn
            cases hb
            exact hk' (.inr (.inr ⟨by omega, by omega⟩))
        | inner k i j =>
          have hlv := hC.ex.live b k (by rw [ho]; rfl)
          rw [exitRoots_len] at hlv
          rw [ho] at hb
          simp only [backOwn] at hb
          split at hb
          · split at hb
            · rename_i l' hl'; cases hb; exact pl _ _ hl' (by simp [Spot.loc])
            · cases hb
          · rename_i hn
            cases hb
            exact hk' (.inr (.inr ⟨by omega, by omega⟩))
    movB := fun b l _ _ hm => absurd hm not_moved_nil }

theorem Came.placeLt {p : Spot} (hp : p ∈ gs.flatMap Got.places) {l : Nat} (hl : l ∈ p.loc) : l < s.H.length ∧ ¬ (nx ≤ l ∧ l < nx + newCnt con y) := by
  have key : ∀ (pk : List PK) (gs : List Got) (vals : List Value), GotsOK s ρ w pk gs vals → p ∈ gs.flatMap Got.places → l < s.H.length ∧ ¬ (nx ≤ l ∧ l < nx + newCnt con y) := by
    intro pk
    induction pk with
    | nil =>
      rintro gs vals ⟨rfl, _⟩ hm
      cases hm
    | cons q pk ih =>
      rintro gs vals ⟨g, gs', v1, v2, rfl, rfl, h1, h2⟩ hm
      simp only [List.flatMap_cons, List.mem_append] at hm
      rcases hm with hm | hm
      · have pl : ∀ {lent es ps vals}, Places s ρ w lent es ps vals → p ∈ ps → l < s.H.length ∧ ¬ (nx ≤ l ∧ l < nx + newCnt con y) := by
          rintro lent es ps vals ⟨e1, e2, e3⟩ hmem
          obtain ⟨k, hk⟩ := List.mem_iff_getElem?.1 hmem
          have hlt := (List.getElem?_eq_some_iff.1 hk).1
          have := e3 k es[k] p vals[k] (List.getElem?_eq_getElem (by omega)) hk (List.getElem?_eq_getElem (by omega))
          cases p with
          | none => simp [Spot.loc] at hl
          | root l' =>
            simp only [Spot.loc, List.mem_singleton] at hl
            subst hl
            obtain ⟨xs, d, h, _⟩ := this
            exact ⟨root_lt h, hC.old h (by simp)⟩
          | in1 l' i j =>
            simp only [Spot.loc, List.mem_singleton] at hl
            subst hl
            obtain ⟨_, _, e', xs, x, b, n, c, ys, h, _⟩ := this
            exact ⟨root_lt h, hC.old h (by simp)⟩
        simp only [Got.places, List.mem_append] at hm
        cases q with
        | mv t => obtain ⟨g1, g2, g3⟩ := h1; rw [g1, g2] at hm; simp only [List.not_mem_nil, false_or, or_false] at hm; exact pl g3 hm
        | ow t => obtain ⟨g1, g2, g3⟩ := h1; rw [g1, g2] at hm; simp only [List.not_mem_nil, false_or] at hm; exact pl g3 hm
        | mp t own =>
          obtain ⟨g1, l0, cs, vals', g2, g3, rfl, g4⟩ := h1
          rw [g1, g2] at hm
          simp only [List.mem_singleton, List.not_mem_nil, false_or] at hm
          rcases hm with rfl | hm
          · simp only [Spot.loc, List.mem_singleton] at hl
            subst hl
            exact ⟨root_lt g3, hC.old g3 (by simp)⟩
          · cases own with
            | true => exact pl (by simpa using g4) hm
            | false => simp only [Bool.false_eq_true, if_false] at g4; rw [g4.1] at hm; cases hm
        | data t => obtain ⟨g1, g2, g3, _⟩ := h1; rw [g1, g2, g3] at hm; simp at hm
        | rp t => obtain ⟨g1, g2, g3, _⟩ := h1; rw [g1, g2, g3] at hm; simp at hm
        | fn i o => obtain ⟨g1, g2, g3, _⟩ := h1; rw [g1, g2, g3] at hm; simp at hm
        | rfn i o => obtain ⟨g1, g2, g3, _⟩ := h1; rw [g1, g2, g3] at hm; simp at hm
      · exact ih gs' v2 h2 hm
  exact key con.pk gs vals hC.got hp

theorem Came.live {b l : Nat} (h : ((Came.map ρ w con y gs vals ρo nx).own b).loc = some l) : l < s.H.length ∨ (nx ≤ l ∧ l < nx + newCnt con y) := by
  by_cases hb : b < w.heap.size ∧ ((ρ.restr (gs.flatMap Got.places) vals (gs.flatMap (·.deps))).own b = .free ∨ (ρ.restr (gs.flatMap Got.places) vals (gs.flatMap (·.deps))).own b = .off)
  · rw [(hC.kept hb.2 hb.1).1] at h
    exact .inl (hC.rel.live b l h)
  · rw [hC.back hb] at h
    have hin : ∀ (k : Nat) (p : Spot), (gs.flatMap Got.places)[k]? = some p → ∀ l, l ∈ p.loc → l < s.H.length := fun k p hp l hl => (hC.placeLt (List.mem_of_getElem? hp) hl).1
    have hnew : ∀ k, k < (exitRoots con y).length → ¬ k < entryLen con → nx ≤ nx + (k - entryLen con) ∧ nx + (k - entryLen con) < nx + newCnt con y := fun k h1 h2 => by
      rw [exitRoots_len] at h1
      omega
    cases ho : ρo.own b with
    | free => rw [ho] at h; cases h
    | off => rw [ho] at h; cases h
    | main k =>
      have hk := hC.ex.live b k (by rw [ho]; rfl)
      rw [ho] at h
      simp only [backOwn] at h
      split at h
      · split at h
        · rename_i l' hl'
          cases h
          exact .inl (hin _ _ hl' _ (by simp [Spot.loc]))
        · rename_i l' i j hl'
          cases h
          exact .inl (hin _ _ hl' _ (by simp [Spot.loc]))
        · cases h
      · rename_i hn
        cases h
        exact .inr (hnew k hk hn)
    | inner k i j =>
      have hk := hC.ex.live b k (by rw [ho]; rfl)
      rw [ho] at h
      simp only [backOwn] at h
      split at h
      · split at h
        · rename_i l' hl'
          cases h
          exact .inl (hin _ _ hl' _ (by simp [Spot.loc]))
        · cases h
      · rename_i hn
        cases h
        exact .inr (hnew k hk hn)

/-- Cells that went out, in the caller's numbers. -/
theorem Came.owned_cells {Ho H'' : Nat → Option Root} : ∀ (t : Ty) (x : t.D) (n m : Nat) (vs : List Value), CsR P ρo w' Ho (ownCells n t x).1 vs → (∀ i, i < nsl t → (Came.map ρ w con y gs vals ρo nx).hdr (m + i) = ρo.hdr (n + i)) →
    CsR P (Came.map ρ w con y gs vals ρo nx) w' H'' (ownCells m t x).1 vs
  | .one h, x, n, m, vs, hc, hh => Came.owned_cells h x n m vs hc hh
  | .cons h t, x, n, m, vs, hc, hh => by
    simp only [ownCells] at hc
    obtain ⟨v1, v2, rfl, h1, h2⟩ := CsR.append_inv hc
    rw [ownCells_len] at h2
    simp only [ownCells, ownCells_len]
    refine (Came.owned_cells h x.1 n m v1 h1 fun i hi => hh i (by simp only [nsl]; omega)).append (Came.owned_cells t x.2 (n + nsl h) (m + nsl h) v2 h2 fun i hi => ?_)
    have := hh (nsl h + i) (by simp only [nsl]; omega)
    rwa [← Nat.add_assoc, ← Nat.add_assoc] at this
  | .int k, x, n, m, vs, hc, hh => by obtain ⟨v, rfl, h1⟩ := hc.single_inv; exact CsR.single ⟨h1.1, Rd.flat _ _ _ rfl h1.2⟩
  | .bool, x, n, m, vs, hc, hh => by obtain ⟨v, rfl, h1⟩ := hc.single_inv; exact CsR.single ⟨h1.1, Rd.flat _ _ _ rfl h1.2⟩
  | .str, x, n, m, vs, hc, hh => by obtain ⟨v, rfl, h1⟩ := hc.single_inv; exact CsR.single ⟨h1.1, Rd.flat _ _ _ rfl h1.2⟩
  | .sl e, x, n, m, vs, hc, hh => by
    obtain ⟨v, rfl, h1⟩ := hc.single_inv
    refine CsR.single ⟨h1.1.trans ?_, h1.2⟩
    exact (hh 0 (by simp [nsl])).symm

theorem Came.cells {Ho H'' : Nat → Option Root} {own : Bool} {t : Ty} {x : t.D} {n m : Nat} {vs : List Value} (hc : CsR P ρo w' Ho (cellsOf own n [] t x).1 vs) (hh : own = true → ∀ i, i < nsl t → (Came.map ρ w con y gs vals ρo nx).hdr (m + i) = ρo.hdr (n + i)) :
    CsR P (Came.map ρ w con y gs vals ρo nx) w' H'' (cellsOf own m (gs.flatMap (·.deps)) t x).1 vs := by
  unfold cellsOf at hc ⊢
  cases own with
  | true => simp only [if_true] at hc ⊢; exact hC.owned_cells t x n m vs hc (hh rfl)
  | false =>
    simp only [Bool.false_eq_true, if_false] at hc ⊢
    refine Rd.cells t x vs rfl (Rd.mono (fun b _ hb => ⟨?_, rfl⟩) t x vs (expand_rd t x vs hc))
    refine hC.free (hb.elim id ?_)
    rintro ⟨l, hl, _⟩
    cases hl

theorem Came.hdr_new {i : Nat} (hi : i < newCnt con y) : (Came.map ρ w con y gs vals ρo nx).hdr (nx + i) = ρo.hdr (entryLen con + i) := by
  simp only [Came.map, Map.merge]
  rw [if_pos ⟨by omega, by omega⟩, Nat.add_sub_cancel_left]

/-- A new root. -/
theorem Came.newRoot {H'' : Nat → Option Root} {i : Nat} {r : Root} (h : rt (exitRoots con y) (entryLen con + i) = some r) : RR P (Came.map ρ w con y gs vals ρo nx) w' H'' (nx + i) r ∨ ∀ e xs, r ≠ .arr e xs true := by
  have hi : i < newCnt con y := by
    rcases Nat.lt_or_ge i (newCnt con y) with h1 | h1
    · exact h1
    · simp only [rt, List.getD_eq_getElem?_getD] at h
      rw [List.getElem?_eq_none (by rw [exitRoots_len]; omega)] at h
      cases h
  cases r with
  | box cs => right; intro e xs h; cases h
  | lit e els => right; intro e xs h; cases h
  | gap => right; intro e xs h; cases h
  | arr e xs d =>
    cases d with
    | false => right; intro e xs h; cases h
    | true =>
      left
      have hr : ArrR w' ρo.own (.main (entryLen con + i)) e xs (EL w' ρo.own (entryLen con + i) true e) (ρo.hdr (entryLen con + i)) := hC.ex.root _ _ h
      show ArrR w' _ (.main (nx + i)) e xs (EL w' _ (nx + i) true e) ((Came.map ρ w con y gs vals ρo nx).hdr (nx + i))
      rw [hC.hdr_new hi]
      have hb : ∀ b, ρo.own b = .main (entryLen con + i) → (Came.map ρ w con y gs vals ρo nx).own b = .main (nx + i) := fun b hb => by
        rw [hC.owned (k := entryLen con + i) (by rw [hb]; rfl), hb]
        simp only [backOwn]
        rw [if_neg (by omega), Nat.add_sub_cancel_left]
      refine hr.rekey hb fun i' x us _ he => ?_
      unfold EL at he ⊢
      rw [if_pos rfl] at he ⊢
      refine DR.rekey (fun b j hb => ?_) e 0 x us he
      rw [hC.owned (k := entryLen con + i) (by rw [hb]; rfl), hb]
      simp only [backOwn]
      rw [if_neg (by omega), Nat.add_sub_cancel_left]

end Go.Proofs.YtgjneigkkgaaiaaGreatDoor.Vd

/- VdZt -/
namespace Go.Proofs.YtgjneigkkgaaiaaGreatDoor.Vd

variable {P : Program} {E : Env} {ρ ρ' ρ0 ρo : Map} {w w' : World} {s s' : S} {a : Act} {K : Ctx} {H H' Hc : Nat → Option Root}
variable {con : Con0} {y : Out con.rk con.pk} {gs : List Got} {vals : List Value} {v : Value} {nx : Nat}

/-- An element whose slices are its own, but for some that are still to be looked at. -/
def DRb (bad : Nat → Prop) (w : World) (own : Nat → Own) (l i : Nat) : (t : Ty) → (j : Nat) → t.D → List Value → Prop
  | .sl u, j, ys, vs => ∃ v, vs = [v] ∧ u.flat = true ∧ (bad j ∨ ArrR w own (.inner l i j) u ys (fun _ y us => Rd w (Free own) u y us) v)
  | .one h, j, x, vs => DRb bad w own l i h j x vs
  | .cons h t, j, x, vs => ∃ v1 v2, vs = v1 ++ v2 ∧ DRb bad w own l i h j x.1 v1 ∧ DRb bad w own l i t (j + h.size) x.2 v2
  | .int k, _, x, vs => vs = [.int k x]
  | .bool, _, x, vs => vs = [.bool x]
  | .str, _, x, vs => vs = [.string x]

theorem DRb.done {bad : Nat → Prop} {own : Nat → Own} {l i : Nat} (hb : ∀ j, ¬ bad j) : (t : Ty) → (j : Nat) → (x : t.D) → (vs : List Value) → DRb bad w own l i t j x vs → DR w own l i t j x vs
  | .sl u, j, ys, vs, h => by
    obtain ⟨v, rfl, hu, h1⟩ := h
    exact ⟨v, rfl, hu, h1.resolve_left (hb j)⟩
  | .one h, j, x, vs, hh => DRb.done hb h j x vs hh
  | .cons h t, j, x, vs, hh => by
    obtain ⟨v1, v2, rfl, h1, h2⟩ := hh
    exact ⟨v1, v2, rfl, DRb.done hb h j _ _ h1, DRb.done hb t _ _ _ h2⟩
  | .int _, _, _, _, h => h
  | .bool, _, _, _, h => h
  | .str, _, _, _, h => h

theorem DRb.mono {bad bad' : Nat → Prop} {own : Nat → Own} {l i : Nat} (hb : ∀ j, bad j → bad' j) : (t : Ty) → (j : Nat) → (x : t.D) → (vs : List Value) → DRb bad w own l i t j x vs → DRb bad' w own l i t j x vs
  | .sl u, j, ys, vs, h => by
    obtain ⟨v, rfl, hu, h1⟩ := h
    exact ⟨v, rfl, hu, h1.imp (hb j) id⟩
  | .one h, j, x, vs, hh => DRb.mono hb h j x vs hh
  | .cons h t, j, x, vs, hh => by
    obtain ⟨v1, v2, rfl, h1, h2⟩ := hh
    exact ⟨v1, v2, rfl, DRb.mono hb h j _ _ h1, DRb.mono hb t _ _ _ h2⟩
  | .int _, _, _, _, h => h
  | .bool, _, _, _, h => h
  | .str, _, _, _, h => h

theorem DRb.start {bad : Nat → Prop} {own own' : Nat → Own} {l i : Nat} (hf : ∀ b j, b < w.heap.size → own b = .inner l i j → ¬ bad j → own' b = .inner l i j ∧ w'.heap[b]? = w.heap[b]?) (hdec : ∀ j, bad j ∨ ¬ bad j) : (t : Ty) → (j : Nat) → (x : t.D) → (vs : List Value) → DR w own l i t j x vs → DRb bad w' own' l i t j x vs
  | .sl u, j, ys, vs, h => by
    obtain ⟨v, rfl, hu, ha⟩ := h
    refine ⟨v, rfl, hu, ?_⟩
    rcases hdec j with hb | hb
    · exact .inl hb
    · exact .inr (ha.step (fun b hs hk => hf b j hs hk hb) fun i x us _ hr => Rd.flat u x us hu hr)
  | .one h, j, x, vs, hh => DRb.start hf hdec h j x vs hh
  | .cons h t, j, x, vs, hh => by
    obtain ⟨v1, v2, rfl, h1, h2⟩ := hh
    exact ⟨v1, v2, rfl, DRb.start hf hdec h j _ _ h1, DRb.start hf hdec t _ _ _ h2⟩
  | .int _, _, _, _, h => h
  | .bool, _, _, _, h => h
  | .str, _, _, _, h => h

theorem DRb.length {bad : Nat → Prop} {own : Nat → Own} {l i : Nat} : (t : Ty) → (j : Nat) → (x : t.D) → (us : List Value) → DRb bad w own l i t j x us → us.length = t.size
  | .sl _, _, _, _, h => by obtain ⟨v, rfl, _⟩ := h; rfl
  | .one h, j, x, us, hh => DRb.length h j x us hh
  | .cons h t, j, x, us, hh => by
    obtain ⟨v1, v2, rfl, h1, h2⟩ := hh
    simp [Ty.size, DRb.length h _ _ _ h1, DRb.length t _ _ _ h2]
  | .int _, _, _, _, h => by simp only [DRb] at h; subst h; rfl
  | .bool, _, _, _, h => by simp only [DRb] at h; subst h; rfl
  | .str, _, _, _, h => by simp only [DRb] at h; subst h; rfl

/-- A slice inside is looked at. -/
theorem DRb.set {bad : Nat → Prop} {own : Nat → Own} {l i : Nat} {u : Ty} {z : List u.D} {v : Value} : (t : Ty) → (j0 : Nat) → (x : t.D) → (us : List Value) → DRb bad w own l i t j0 x us → ∀ (j : Nat) (y : List u.D),
    cellAt t x j = some ⟨.sl u, y⟩ → us[j]? = some v → DR w own l i (.sl u) (j0 + j) z [v] → DRb (fun k => bad k ∧ k ≠ j0 + j) w own l i t j0 (setAt t x j (.sl u) z) us
  | .one h, j0, x, us, hr, j, y, hc, hv, hz => DRb.set h j0 x us hr j y hc hv hz
  | .cons h t, j0, x, us, hr, j, y, hc, hv, hz => by
    obtain ⟨v1, v2, rfl, h1, h2⟩ := hr
    have hl := DRb.length h _ _ _ h1
    simp only [cellAt] at hc
    simp only [setAt]
    have keep1 : ∀ {bad' : Nat → Prop}, (∀ k, j0 ≤ k → k < j0 + h.size → bad k → bad' k) → DRb bad' w own l i h j0 x.1 v1 := fun {bad'} hb => DRb.local bad bad' h j0 x.1 v1 hb h1
    have keep2 : ∀ {bad' : Nat → Prop}, (∀ k, j0 + h.size ≤ k → bad k → bad' k) → DRb bad' w own l i t (j0 + h.size) x.2 v2 := fun {bad'} hb => DRb.local bad bad' t (j0 + h.size) x.2 v2 (fun k h1 _ => hb k h1) h2
    by_cases hj : j < h.size
    · rw [if_pos hj] at hc ⊢
      exact ⟨v1, v2, rfl, DRb.set h j0 x.1 v1 h1 j y hc (by rwa [List.getElem?_append_left (by omega)] at hv) hz, keep2 fun k hk hb => ⟨hb, by omega⟩⟩
    · rw [if_neg hj] at hc ⊢
      have := DRb.set t (j0 + h.size) x.2 v2 h2 (j - h.size) y hc (by rw [List.getElem?_append_right (by omega), hl] at hv; exact hv) (by rwa [show j0 + h.size + (j - h.size) = j0 + j by omega])
      rw [show j0 + h.size + (j - h.size) = j0 + j by omega] at this
      exact ⟨v1, v2, rfl, keep1 fun k h1 h2 hb => ⟨hb, by omega⟩, this⟩
  | .sl e, j0, x, us, hr, j, y, hc, hv, hz => by
    cases j with
    | succ j => simp [cellAt] at hc
    | zero =>
      simp only [cellAt, Option.some.injEq, Sigma.mk.injEq, Ty.sl.injEq] at hc
      obtain ⟨rfl, hc⟩ := hc
      obtain ⟨v0, rfl, hu, _⟩ := hr
      simp at hv
      subst hv
      obtain ⟨v1, hv1, hu1, hz1⟩ := hz
      simp only [List.cons.injEq, and_true] at hv1
      subst hv1
      refine ⟨v0, rfl, hu, .inr ?_⟩
      simpa [setAt, castD] using hz1
  | .int k, j0, x, us, hr, j, y, hc, hv, hz => by cases j <;> simp [cellAt] at hc
  | .bool, j0, x, us, hr, j, y, hc, hv, hz => by cases j <;> simp [cellAt] at hc
  | .str, j0, x, us, hr, j, y, hc, hv, hz => by cases j <;> simp [cellAt] at hc
where
  DRb.local (bad bad' : Nat → Prop) {own : Nat → Own} {l i : Nat} : (t : Ty) → (j : Nat) → (x : t.D) → (vs : List Value) → (∀ k, j ≤ k → k < j + t.size → bad k → bad' k) → DRb bad w own l i t j x vs → DRb bad' w own l i t j x vs
    | .sl u, j, ys, vs, hb, h => by
      obtain ⟨v, rfl, hu, h1⟩ := h
      exact ⟨v, rfl, hu, h1.imp (hb j (Nat.le_refl _) (by simp [Ty.size])) id⟩
    | .one h, j, x, vs, hb, hh => DRb.local bad bad' h j x vs hb hh
    | .cons h t, j, x, vs, hb, hh => by
      obtain ⟨v1, v2, rfl, h1, h2⟩ := hh
      exact ⟨v1, v2, rfl, DRb.local bad bad' h j _ _ (fun k h1 h2 => hb k h1 (by simp only [Ty.size]; omega)) h1, DRb.local bad bad' t _ _ _ (fun k h1 h2 => hb k (by omega) (by simp only [Ty.size]; omega)) h2⟩
    | .int _, _, _, _, _, h => h
    | .bool, _, _, _, _, h => h
    | .str, _, _, _, _, h => h

def Got.backs (g : Got) : List Spot := (match g.box with
  | some l => [.root l]
  | Option.none => []) ++ g.lent

/-- A root with slices inside that were lent. -/
def InB (s : S) (ρ' : Map) (w' : World) (sc : View) (rem : List Spot) (l : Nat) : Prop :=
  ∃ e xs0 xs, s.root l = some (.arr e xs0 true) ∧ sc.root l = some (.arr e xs true) ∧
    ArrR w' ρ'.own (.main l) e xs (fun i x us => DRb (fun j => .in1 l i j ∈ rem) w' ρ'.own l i e 0 x us) (ρ'.hdr l) ∧
    ∀ (i j : Nat) x0 u y0, xs0[i]? = some x0 → cellAt e x0 j = some ⟨.sl u, y0⟩ → ∃ x y, xs[i]? = some x ∧ cellAt e x j = some ⟨.sl u, y⟩

/-- While what was lent comes back: `rem` is still out. -/
structure Inv (P : Program) (s : S) (ρ' : Map) (w' : World) (H'' : Nat → Option Root) (L : List Nat) (sc : View) (rem : List Spot) : Prop where
  pend : ∀ l, .root l ∈ rem → sc.root l = s.root l
  st : ∀ l ∈ L, .root l ∈ rem ∨ (∃ r, sc.root l = some r ∧ RR P ρ' w' H'' l r ∧ ∀ i j, .in1 l i j ∉ rem) ∨ InB s ρ' w' sc rem l

theorem with_root {sc : View} {l m : Nat} {r : Root} : (sc.with l r).root m = if m = l then some r else sc.root m := rfl

section
variable (hC : Came P K ρ s a w con y gs vals w' ρo v nx)
include hC

theorem Came.hdr_old {l : Nat} (h : ¬ (nx ≤ l ∧ l < nx + newCnt con y)) : (Came.map ρ w con y gs vals ρo nx).hdr l = ρ.hdr l := by
  simp only [Came.map, Map.merge]
  rw [if_neg h]

theorem Came.val_hdr {k : Nat} {u : Value} (hk : k ∈ stays 0 con.pk) (hv : vals[k]? = some u) : ρo.hdr k = u := by
  rw [hC.ex.hdr k hk]
  simp [Map.restr, List.getD_eq_getElem?_getD, hv]

theorem Came.mainBack {k l : Nat} (hp : (gs.flatMap Got.places)[k]? = some (.root l)) : (∀ b, ρo.own b = .main k → (Came.map ρ w con y gs vals ρo nx).own b = .main l) ∧ ∀ b i j, ρo.own b = .inner k i j → (Came.map ρ w con y gs vals ρo nx).own b = .inner l i j := by
  have hk : k < entryLen con := by rw [← hC.N]; exact (List.getElem?_eq_some_iff.1 hp).1
  refine ⟨fun b hb => ?_, fun b i j hb => ?_⟩
  · rw [hC.owned (k := k) (by rw [hb]; rfl), hb]
    simp only [backOwn]
    rw [if_pos hk, hp]
  · rw [hC.owned (k := k) (by rw [hb]; rfl), hb]
    simp only [backOwn]
    rw [if_pos hk, hp]

theorem Came.innerBack {k l i j : Nat} (hp : (gs.flatMap Got.places)[k]? = some (.in1 l i j)) : ∀ b, ρo.own b = .main k → (Came.map ρ w con y gs vals ρo nx).own b = .inner l i j := by
  have hk : k < entryLen con := by rw [← hC.N]; exact (List.getElem?_eq_some_iff.1 hp).1
  intro b hb
  rw [hC.owned (k := k) (by rw [hb]; rfl), hb]
  simp only [backOwn]
  rw [if_pos hk, hp]

omit hC in
theorem cellAt_lt : (t : Ty) → (x : t.D) → (j : Nat) → ∀ q, cellAt t x j = some q → j < t.size
  | .one h, x, j, q, hc => cellAt_lt h x j q hc
  | .cons h t, x, j, q, hc => by
    simp only [cellAt] at hc
    simp only [Ty.size]
    split at hc
    · omega
    · have := cellAt_lt t x.2 (j - h.size) q hc
      omega
  | .int _, x, 0, q, _ | .bool, x, 0, q, _ | .str, x, 0, q, _ | .sl _, x, 0, q, _ => by simp [Ty.size]
  | .int _, x, _ + 1, q, hc | .bool, x, _ + 1, q, hc | .str, x, _ + 1, q, hc | .sl _, x, _ + 1, q, hc => by simp [cellAt] at hc

/-- One slice comes back. -/
theorem Came.upd {Ho H'' : Nat → Option Root} {L : List Nat} {sc : View} {p : Spot} {rem : List Spot} {u : Ty} {ys : List u.D} {k : Nat} {val : Value} (hp : (gs.flatMap Got.places)[k]? = some p) (hval : vals[k]? = some val) (hst : k ∈ stays 0 con.pk)
    (hpv : PlaceV s ρ w true u p val) (hrr : RR P ρo w' Ho k (.arr u ys true)) (hap : Spot.apart (p :: rem) = true) (hmem : ∀ q ∈ rem, q ∈ gs.flatMap Got.places) (hin : ∀ l ∈ p.loc, l ∈ L) (hI : Inv P s (Came.map ρ w con y gs vals ρo nx) w' H'' L sc (p :: rem)) :
    Inv P s (Came.map ρ w con y gs vals ρo nx) w' H'' L (sc.upd p u ys) rem := by
  have hr : ArrR w' ρo.own (.main k) u ys (EL w' ρo.own k true u) (ρo.hdr k) := hrr
  rw [hC.val_hdr hst hval] at hr
  obtain ⟨hap1, hap2⟩ := apart_tail hap
  cases p with
  | none =>
    refine ⟨fun l hl => hI.pend l (List.mem_cons_of_mem _ hl), fun l hl => ?_⟩
    rcases hI.st l hl with h1 | ⟨r, h1, h2, h3⟩ | ⟨e, xs0, xs, h1, h2, h3, h4⟩
    · exact .inl (by simpa using h1)
    · exact .inr (.inl ⟨r, h1, h2, fun i j hm => h3 i j (List.mem_cons_of_mem _ hm)⟩)
    · refine .inr (.inr ⟨e, xs0, xs, h1, h2, h3.rekey (fun b hb => hb) fun i x us _ hd => DRb.mono (fun j hj => ?_) _ _ _ _ hd, h4⟩)
      simpa using hj
  | root l0 =>
    obtain ⟨xs0, d, h1, h2, h3⟩ := hpv
    have hval' := h3 rfl
    have hl0 := hC.old h1 (by simp)
    have hsc : sc.root l0 = some (.arr u xs0 d) := (hI.pend l0 (List.mem_cons_self ..)).trans h1
    have hupd : sc.upd (.root l0) u ys = sc.with l0 (.arr u ys d) := by
      simp only [View.upd, hsc, dif_pos, castD_rfl]
    rw [hupd]
    obtain ⟨g1, g2⟩ := hC.mainBack hp
    have hnew : RR P (Came.map ρ w con y gs vals ρo nx) w' H'' l0 (.arr u ys d) := by
      show ArrR w' _ (.main l0) u ys (EL w' _ l0 d u) ((Came.map ρ w con y gs vals ρo nx).hdr l0)
      rw [hC.hdr_old hl0, ← hval']
      refine hr.rekey g1 fun i x us _ he => ?_
      unfold EL at he ⊢
      rw [if_pos rfl] at he
      have hdr := DR.rekey (fun b j hb => g2 b i j hb) u 0 x us he
      split
      · exact hdr
      · rename_i hd
        have hfl : u.flat = true := h2.resolve_left hd
        exact Rd.flat u x us hfl (DR.rd (A := fun _ => True) (fun _ _ => trivial) u 0 x us hdr)
    refine ⟨fun l hl => ?_, fun l hl => ?_⟩
    · rw [with_root, if_neg]
      · exact hI.pend l (List.mem_cons_of_mem _ hl)
      · rintro rfl
        exact hap2 (by simp) hl
    · by_cases hll : l = l0
      · subst hll
        exact .inr (.inl ⟨_, by rw [with_root, if_pos rfl], hnew, fun i j hm => hC.ap.mix l (List.mem_of_getElem? hp) i j (hmem _ hm)⟩)
      · rcases hI.st l hl with h4 | ⟨r, h4, h5, h6⟩ | ⟨e, ys0, ys', h4, h5, h6, h7⟩
        · exact .inl (by
            rcases List.mem_cons.1 h4 with h | h
            · cases h; exact absurd rfl hll
            · exact h)
        · exact .inr (.inl ⟨r, by rw [with_root, if_neg hll]; exact h4, h5, fun i j hm => h6 i j (List.mem_cons_of_mem _ hm)⟩)
        · refine .inr (.inr ⟨e, ys0, ys', h4, by rw [with_root, if_neg hll]; exact h5, h6.rekey (fun b hb => hb) fun i x us _ hd => DRb.mono (fun j hj => ?_) _ _ _ _ hd, h7⟩)
          simpa using hj
  | in1 l0 i0 j0 =>
    obtain ⟨_, huf, e', xs1, x1, b1, n1, c1, ys1, h1, h2, h3, h4, h4', h5⟩ := hpv
    have hl0 := hC.old h1 (by simp)
    have hpm := List.mem_of_getElem? hp
    obtain ⟨e, xs0, xs, k1, k2, k3, k4⟩ : InB s (Came.map ρ w con y gs vals ρo nx) w' sc (.in1 l0 i0 j0 :: rem) l0 := by
      rcases hI.st l0 (hin l0 (by simp [Spot.loc])) with h | ⟨r, _, _, h6⟩ | h
      · exfalso
        rcases List.mem_cons.1 h with h | h
        · cases h
        · exact hC.ap.mix l0 (hmem _ h) i0 j0 hpm
      · exact absurd (List.mem_cons_self ..) (h6 i0 j0)
      · exact h
    rw [h1] at k1
    simp only [Option.some.injEq, Root.arr.injEq, and_true] at k1
    obtain ⟨rfl, k1⟩ := k1
    cases k1
    have hupd : sc.upd (.in1 l0 i0 j0) u ys = sc.with l0 (.arr e' (xs.modify i0 fun x => setAt e' x j0 (.sl u) ys) true) := by
      simp only [View.upd, k2]
    rw [hupd]
    have hinner := hC.innerBack hp
    -- the block of the root is as it was
    have hblk : w'.heap[b1]? = w.heap[b1]? := by
      have hlt := World.block_lt_of_cell? w _ h5
      have h6 : (ρ.restr (gs.flatMap Got.places) vals (gs.flatMap (·.deps))).own b1 = .off := by
        rw [restr_root (vals := vals) hC.ap (b := b1) (l := l0) (by rw [h4']; rfl) (fun hm => hC.ap.mix l0 hm i0 j0 hpm) (fun i j hi => by rw [h4'] at hi; cases hi), if_neg (hC.ap.dep1 l0 i0 j0 hpm)]
      exact (hC.kept (.inr h6) hlt).2
    have hcell : w'.cell? ⟨b1, i0 * e'.size + j0, none⟩ = some val := (cell_of_same hblk).trans h5
    have hnew : InB s (Came.map ρ w con y gs vals ρo nx) w' (sc.with l0 (.arr e' (xs.modify i0 fun x => setAt e' x j0 (.sl u) ys) true)) rem l0 := by
      refine ⟨e', xs1, _, h1, by rw [with_root, if_pos rfl], ?_, ?_⟩
      · have hk3 := k3
        rw [hC.hdr_old hl0] at k3 ⊢
        rcases k3 with ⟨q, g1, g2⟩ | ⟨b, cap, vs, T, g1, g2, g3, g4, g5, g6, g7⟩
        · exact .inl ⟨q, g1, by rw [g2]; simp⟩
        · rw [h4] at g1
          simp only [Value.slice.injEq, Option.some.injEq, Addr.mk.injEq, and_true] at g1
          obtain ⟨rfl, hn1, rfl⟩ := g1
          refine .inr ⟨b1, c1, vs, T, by rw [h4, hn1, List.length_modify], by rw [List.length_modify]; exact g2, g3, g4, g5, g6, fun i x hx => ?_⟩
          rw [List.getElem?_modify] at hx
          by_cases hi : i0 = i
          · subst hi
            simp only [if_pos] at hx
            cases hxi : xs[i0]? with
            | none => rw [hxi] at hx; cases hx
            | some x0 =>
              rw [hxi] at hx
              have hx2 : setAt e' x0 j0 (.sl u) ys = x := by simpa using hx
              subst hx2
              obtain ⟨us, q1, q2, q3⟩ := g7 i0 x0 hxi
              refine ⟨us, q1, q2, ?_⟩
              obtain ⟨x0', y0, z1, z2⟩ := k4 i0 j0 x1 u ys1 h2 h3
              rw [hxi] at z1
              cases z1
              have hj : j0 < us.length := by
                rw [q1]
                exact cellAt_lt e' x0 j0 _ z2
              have huv : us[j0]? = some val := by
                have := q2 j0 us[j0] (List.getElem?_eq_getElem hj)
                rw [cell_of_row w' b1 _ _ T (0, 0) g5] at hcell
                rw [hcell] at this
                rw [List.getElem?_eq_getElem hj, this]
              have hz : DR w' (Came.map ρ w con y gs vals ρo nx).own l0 i0 (.sl u) (0 + j0) ys [val] := by
                refine ⟨val, rfl, huf, hr.rekey (fun b hb => by rw [Nat.zero_add]; exact hinner b hb) fun i' x' us' _ he => ?_⟩
                unfold EL at he
                rw [if_pos rfl] at he
                exact Rd.flat u x' us' huf (DR.rd (A := fun _ => True) (fun _ _ => trivial) u 0 x' us' he)
              refine DRb.mono (fun j hj => ?_) _ _ _ _ (DRb.set e' 0 x0 us q3 j0 y0 z2 huv hz)
              rcases List.mem_cons.1 hj.1 with h | h
              · simp only [Spot.in1.injEq, true_and] at h
                exact absurd h (by rw [Nat.zero_add] at hj; exact hj.2)
              · exact h
          · simp only [if_neg hi, Option.map_eq_map, Option.map_id_fun', id] at hx
            obtain ⟨us, q1, q2, q3⟩ := g7 i x hx
            refine ⟨us, q1, q2, DRb.mono (fun j hj => ?_) _ _ _ _ q3⟩
            rcases List.mem_cons.1 hj with h | h
            · simp only [Spot.in1.injEq, true_and] at h
              exact absurd h.1.symm hi
            · exact h
      · intro i j x0 u' y0 hx0 hc0
        obtain ⟨x, y', z1, z2⟩ := k4 i j x0 u' y0 hx0 hc0
        rw [List.getElem?_modify]
        by_cases hi : i0 = i
        · subst hi
          rw [z1]
          simp only [if_true, Option.map_eq_map, Option.map_some]
          obtain ⟨x0', y0', z3, z4⟩ := k4 i0 j0 x1 u ys1 h2 h3
          rw [z1] at z3
          cases z3
          have := cellAt_setAt e' x j0 (.sl u) y0' ys z4 j
          by_cases hjj : j = j0
          · subst hjj
            rw [z2] at z4
            simp only [Option.some.injEq, Sigma.mk.injEq, Ty.sl.injEq] at z4
            obtain ⟨rfl, _⟩ := z4
            exact ⟨_, ys, rfl, by rw [this, if_pos rfl]⟩
          · exact ⟨_, y', rfl, by rw [this, if_neg hjj]; exact z2⟩
        · simp only [if_neg hi, Option.map_eq_map, Option.map_id_fun', id]
          exact ⟨x, y', z1, z2⟩
    refine ⟨fun l hl => ?_, fun l hl => ?_⟩
    · rw [with_root, if_neg]
      · exact hI.pend l (List.mem_cons_of_mem _ hl)
      · rintro rfl
        exact hC.ap.mix l (hmem _ hl) i0 j0 hpm
    · by_cases hll : l = l0
      · subst hll
        exact .inr (.inr hnew)
      · rcases hI.st l hl with h6 | ⟨r, h6, h7, h8⟩ | ⟨e, ys0, ys', h6, h7, h8, h9⟩
        · exact .inl (by
            rcases List.mem_cons.1 h6 with h | h
            · cases h
            · exact h)
        · exact .inr (.inl ⟨r, by rw [with_root, if_neg hll]; exact h6, h7, fun i j hm => h8 i j (List.mem_cons_of_mem _ hm)⟩)
        · refine .inr (.inr ⟨e, ys0, ys', h6, by rw [with_root, if_neg hll]; exact h7, h8.rekey (fun b hb => hb) fun i x us _ hd => DRb.mono (fun j hj => ?_) _ _ _ _ hd, h9⟩)
          rcases List.mem_cons.1 hj with h | h
          · simp only [Spot.in1.injEq] at h
            exact absurd h.1 hll
          · exact h

end
end Go.Proofs.YtgjneigkkgaaiaaGreatDoor.Vd

/- VdZu -/
namespace Go.Proofs.YtgjneigkkgaaiaaGreatDoor.Vd

variable {P : Program} {E : Env} {ρ ρ' ρ0 ρo : Map} {w w' : World} {s s' : S} {a : Act} {K : Ctx} {H H' Hc : Nat → Option Root}
variable {con : Con0} {y : Out con.rk con.pk} {gs : List Got} {vals : List Value} {v : Value} {nx : Nat}

theorem apart_right : ∀ {l r : List Spot}, Spot.apart (l ++ r) = true → Spot.apart r = true
  | [], r, h => h
  | p :: l, r, h => apart_right (apart_tail h).1

theorem Places.split {es es' : List Ty} {lent : Bool} {ps : List Spot} {vs : List Value} (h : Places s ρ w lent (es ++ es') ps vs) : ∃ p1 p2 v1 v2, ps = p1 ++ p2 ∧ vs = v1 ++ v2 ∧ Places s ρ w lent es p1 v1 ∧ Places s ρ w lent es' p2 v2 := by
  obtain ⟨h1, h2, h3⟩ := h
  simp only [List.length_append] at h1 h2
  refine ⟨ps.take es.length, ps.drop es.length, vs.take es.length, vs.drop es.length, (List.take_append_drop ..).symm, (List.take_append_drop ..).symm, ⟨by simp; omega, by simp; omega, fun i e p v he hp hv => ?_⟩, ⟨by simp; omega, by simp; omega, fun i e p v he hp hv => ?_⟩⟩
  · have hi : i < es.length := (List.getElem?_eq_some_iff.1 he).1
    rw [List.getElem?_take_of_lt hi] at hp hv
    exact h3 i e p v (by rw [List.getElem?_append_left hi]; exact he) hp hv
  · rw [List.getElem?_drop] at hp hv
    exact h3 (es.length + i) e p v (by rw [List.getElem?_append_right (by omega), Nat.add_sub_cancel_left]; exact he) hp hv

/-- A list lies in another from number n on. -/
def Within {α : Type} (l L : List α) (n : Nat) : Prop := ∀ (i : Nat) x, l[i]? = some x → L[n + i]? = some x

theorem Within.left {α : Type} {l1 l2 L : List α} {n : Nat} (h : Within (l1 ++ l2) L n) : Within l1 L n := fun i x hi => h i x (by rw [List.getElem?_append_left (List.getElem?_eq_some_iff.1 hi).1]; exact hi)

theorem Within.right {α : Type} {l1 l2 L : List α} {n : Nat} (h : Within (l1 ++ l2) L n) : Within l2 L (n + l1.length) := fun i x hi => by
  have := h (l1.length + i) x (by rw [List.getElem?_append_right (by omega), Nat.add_sub_cancel_left]; exact hi)
  rwa [← Nat.add_assoc] at this

theorem backs_locs {gs : List Got} {p : Spot} (hp : p ∈ gs.flatMap Got.backs) {l : Nat} (hl : l ∈ p.loc) : l ∈ backLocs gs := by
  obtain ⟨g, hg, h⟩ := List.mem_flatMap.1 hp
  refine List.mem_flatMap.2 ⟨g, hg, ?_⟩
  simp only [Got.backs, List.mem_append] at h ⊢
  rcases h with h | h
  · left
    cases hb : g.box with
    | none => rw [hb] at h; cases h
    | some l0 =>
      rw [hb] at h
      simp only [List.mem_singleton] at h
      subst h
      simpa [Spot.loc] using hl
  · right
    exact List.mem_flatMap.2 ⟨p, h, hl⟩

section
variable (hC : Came P K ρ s a w con y gs vals w' ρo v nx)
include hC

theorem Came.updAll {Ho H'' : Nat → Option Root} {L : List Nat} : ∀ (t : Ty) (x : t.D) (sc : View) (ps1 rest rem : List Spot) (v1 : List Value) (n : Nat), Places s ρ w true (slTys t) ps1 v1 → Within ps1 (gs.flatMap Got.places) n → Within v1 vals n →
    (∀ i, i < nsl t → n + i ∈ stays 0 con.pk) → (∀ (i : Nat) r, (ownCells 0 t x).2[i]? = some r → RR P ρo w' Ho (n + i) r) → Spot.apart (ps1 ++ rem) = true → (∀ q ∈ ps1 ++ rem, q ∈ gs.flatMap Got.places) → (∀ p ∈ ps1, ∀ l ∈ p.loc, l ∈ L) →
    Inv P s (Came.map ρ w con y gs vals ρo nx) w' H'' L sc (ps1 ++ rem) → Inv P s (Came.map ρ w con y gs vals ρo nx) w' H'' L (sc.updAll t x (ps1 ++ rest)).1 rem ∧ (sc.updAll t x (ps1 ++ rest)).2 = rest
  | .one h, x, sc, ps1, rest, rem, v1, n, hp, hw, hv, hst, hr, hap, hm, hin, hI => Came.updAll h x sc ps1 rest rem v1 n hp hw hv hst hr hap hm hin hI
  | .cons h t, x, sc, ps1, rest, rem, v1, n, hp, hw, hv, hst, hr, hap, hm, hin, hI => by
    simp only [slTys] at hp
    obtain ⟨p1, p2, u1, u2, rfl, rfl, g1, g2⟩ := hp.split
    have hl1 : p1.length = nsl h := by rw [g1.1, slTys_length]
    have hl2 : u1.length = nsl h := by rw [g1.2.1, slTys_length]
    have hw2 := hw.right
    have hv2 := hv.right
    rw [hl1] at hw2
    rw [hl2] at hv2
    simp only [View.updAll, List.append_assoc]
    simp only [List.append_assoc] at hap hm hI
    obtain ⟨q1, q2⟩ := Came.updAll (Ho := Ho) h x.1 sc p1 (p2 ++ rest) (p2 ++ rem) u1 n g1 hw.left hv.left (fun i hi => hst i (by simp only [nsl]; omega)) (fun i r hi => hr i r (by
      simp only [ownCells]
      rw [List.getElem?_append_left (List.getElem?_eq_some_iff.1 hi).1]
      exact hi)) hap hm (fun p hp => hin p (List.mem_append_left _ hp)) hI
    rw [q2]
    refine Came.updAll (Ho := Ho) t x.2 _ p2 rest rem u2 (n + nsl h) g2 hw2 hv2 (fun i hi => by
      have := hst (nsl h + i) (by simp only [nsl]; omega)
      rwa [← Nat.add_assoc] at this) (fun i r hi => ?_) (apart_right hap) (fun q hq => hm q (List.mem_append_right _ hq)) (fun p hp => hin p (List.mem_append_right _ hp)) q1
    have := hr (nsl h + i) r (by
      simp only [ownCells]
      rw [List.getElem?_append_right (by rw [ownCells_len]; omega), ownCells_len, Nat.add_sub_cancel_left, ownCells_roots t _ 0]
      exact hi)
    rwa [← Nat.add_assoc] at this
  | .sl u, x, sc, ps1, rest, rem, v1, n, hp, hw, hv, hst, hr, hap, hm, hin, hI => by
    obtain ⟨h1, h2, h3⟩ := hp
    simp only [slTys, List.length_singleton] at h1 h2
    obtain ⟨p, rfl⟩ := List.length_eq_one_iff.1 h1
    obtain ⟨val, rfl⟩ := List.length_eq_one_iff.1 h2
    refine ⟨?_, rfl⟩
    exact hC.upd (k := n) (hw 0 p rfl) (hv 0 val rfl) (hst 0 (by simp [nsl])) (h3 0 u p val rfl rfl rfl) (hr 0 _ rfl) hap (fun q hq => hm q (List.mem_append_right _ hq)) (hin p (by simp)) hI
  | .int k, x, sc, ps1, rest, rem, v1, n, hp, hw, hv, hst, hr, hap, hm, hin, hI => by
    have : ps1 = [] := List.length_eq_zero_iff.1 hp.1
    subst this
    exact ⟨hI, rfl⟩
  | .bool, x, sc, ps1, rest, rem, v1, n, hp, hw, hv, hst, hr, hap, hm, hin, hI => by
    have : ps1 = [] := List.length_eq_zero_iff.1 hp.1
    subst this
    exact ⟨hI, rfl⟩
  | .str, x, sc, ps1, rest, rem, v1, n, hp, hw, hv, hst, hr, hap, hm, hin, hI => by
    have : ps1 = [] := List.length_eq_zero_iff.1 hp.1
    subst this
    exact ⟨hI, rfl⟩

/-- A variable comes back. -/
theorem Came.boxBack {Ho H'' : Nat → Option Root} {L : List Nat} {sc : View} {l0 n : Nat} {rem : List Spot} {cs : List C} {own : Bool} {t : Ty} {x : t.D} {m m' : Nat} (hl : s.root l0 = some (.box cs)) (hp : (gs.flatMap Got.places)[n]? = some (.root l0)) (hval : vals[n]? = some (ρ.hdr l0))
    (hst : n ∈ stays 0 con.pk) (hrr : RR P ρo w' Ho n (.box (cellsOf own m [] t x).1)) (hh : own = true → ∀ i, i < nsl t → (Came.map ρ w con y gs vals ρo nx).hdr (m' + i) = ρo.hdr (m + i))
    (hap : Spot.apart (.root l0 :: rem) = true) (hmem : ∀ q ∈ rem, q ∈ gs.flatMap Got.places) (hI : Inv P s (Came.map ρ w con y gs vals ρo nx) w' H'' L sc (.root l0 :: rem)) :
    Inv P s (Came.map ρ w con y gs vals ρo nx) w' H'' L (sc.with l0 (.box (cellsOf own m' (gs.flatMap (·.deps)) t x).1)) rem := by
  obtain ⟨hap1, hap2⟩ := apart_tail hap
  have hl0 := hC.old hl (by simp)
  obtain ⟨g1, g2⟩ := hC.mainBack hp
  have hnew : RR P (Came.map ρ w con y gs vals ρo nx) w' H'' l0 (.box (cellsOf own m' (gs.flatMap (·.deps)) t x).1) := by
    obtain ⟨b, vs, T, h1, h2, h3, h4⟩ := hrr
    refine ⟨b, vs, T, ?_, g1 b h2, h3, hC.cells h4 hh⟩
    rw [hC.hdr_old hl0, ← h1, hC.val_hdr hst hval]
  refine ⟨fun l hlr => ?_, fun l hlL => ?_⟩
  · rw [with_root, if_neg]
    · exact hI.pend l (List.mem_cons_of_mem _ hlr)
    · rintro rfl
      exact hap2 (by simp) hlr
  · by_cases hll : l = l0
    · subst hll
      exact .inr (.inl ⟨_, by rw [with_root, if_pos rfl], hnew, fun i j hm => hC.ap.mix l (List.mem_of_getElem? hp) i j (hmem _ hm)⟩)
    · rcases hI.st l hlL with h4 | ⟨r, h4, h5, h6⟩ | ⟨e, ys0, ys', h4, h5, h6, h7⟩
      · exact .inl (by
          rcases List.mem_cons.1 h4 with h | h
          · cases h; exact absurd rfl hll
          · exact h)
      · exact .inr (.inl ⟨r, by rw [with_root, if_neg hll]; exact h4, h5, fun i j hm => h6 i j (List.mem_cons_of_mem _ hm)⟩)
      · refine .inr (.inr ⟨e, ys0, ys', h4, by rw [with_root, if_neg hll]; exact h5, h6.rekey (fun b hb => hb) fun i x us _ hd => DRb.mono (fun j hj => ?_) _ _ _ _ hd, h7⟩)
        simpa using hj

theorem Came.giveBack {Ho H'' : Nat → Option Root} {L : List Nat} : ∀ (pk : List PK) (g1 : List Got) (v1 : List Value) (outs : List (Σ t : Ty, t.D)) (n mo : Nat) (sc : View), GotsOK s ρ w pk g1 v1 → outs.map (·.1) = ioTys pk →
    Within (g1.flatMap Got.places) (gs.flatMap Got.places) n → Within v1 vals n → (∀ k ∈ stays n pk, k ∈ stays 0 con.pk) → (∀ (i : Nat) r, (exitIo (entryLen con + mo) pk outs).1[i]? = some (some r) → RR P ρo w' Ho (n + i) r) →
    mo + (exitIo (entryLen con + mo) pk outs).2.length ≤ newCnt con y → Spot.apart (g1.flatMap Got.backs) = true → (∀ q ∈ g1.flatMap Got.backs, q ∈ gs.flatMap Got.places) → (∀ p ∈ g1.flatMap Got.backs, ∀ l ∈ p.loc, l ∈ L) →
    Inv P s (Came.map ρ w con y gs vals ρo nx) w' H'' L sc (g1.flatMap Got.backs) → Inv P s (Came.map ρ w con y gs vals ρo nx) w' H'' L (Vd.giveBack (nx + mo) (gs.flatMap (·.deps)) pk g1 outs sc).1 [] ∧
      (Vd.giveBack (nx + mo) (gs.flatMap (·.deps)) pk g1 outs sc).2 = (exitIo (entryLen con + mo) pk outs).2
  | [], g1, v1, outs, n, mo, sc, hg, ho, hw, hv, hst, hr, hc, hap, hm, hin, hI => by
    obtain ⟨rfl, rfl⟩ := hg
    exact ⟨hI, rfl⟩
  | p :: pk, g1, v1, outs, n, mo, sc, hg, ho, hw, hv, hst, hr, hc, hap, hm, hin, hI => by
    obtain ⟨g, gs', u1, u2, rfl, rfl, h1, h2⟩ := hg
    obtain ⟨c1, c2⟩ := h1.count
    have hw1 := hw.left (l1 := g.places)
    have hw2 : Within (gs'.flatMap Got.places) (gs.flatMap Got.places) (n + p.count) := by
      have := Within.right (l1 := g.places) (by simpa using hw)
      rwa [c1] at this
    have hv1 := hv.left
    have hv2 := hv.right
    rw [c2] at hv2
    have hst2 : ∀ k ∈ stays (n + p.count) pk, k ∈ stays 0 con.pk := fun k hk => hst k (by simp only [stays]; exact List.mem_append_right _ hk)
    have hap2 : Spot.apart (gs'.flatMap Got.backs) = true := apart_right (l := g.backs) (by simpa using hap)
    have hm2 : ∀ q ∈ gs'.flatMap Got.backs, q ∈ gs.flatMap Got.places := fun q hq => hm q (by simp only [List.flatMap_cons, List.mem_append]; exact .inr hq)
    have hin2 : ∀ q ∈ gs'.flatMap Got.backs, ∀ l ∈ q.loc, l ∈ L := fun q hq => hin q (by simp only [List.flatMap_cons, List.mem_append]; exact .inr hq)
    simp only [List.flatMap_cons] at hap hI hm hin
    have quiet : g.backs = [] → ioTys (p :: pk) = ioTys pk → (∀ m, (exitIo m (p :: pk) outs).1 = List.replicate p.count none ++ (exitIo m pk outs).1) → (∀ m, (exitIo m (p :: pk) outs).2 = (exitIo m pk outs).2) → (∀ m d sc, Vd.giveBack m d (p :: pk) (g :: gs') outs sc = Vd.giveBack m d pk gs' outs sc) →
        Inv P s (Came.map ρ w con y gs vals ρo nx) w' H'' L (Vd.giveBack (nx + mo) (gs.flatMap (·.deps)) (p :: pk) (g :: gs') outs sc).1 [] ∧ (Vd.giveBack (nx + mo) (gs.flatMap (·.deps)) (p :: pk) (g :: gs') outs sc).2 = (exitIo (entryLen con + mo) (p :: pk) outs).2 := by
      intro hb hio he1 he2 hgb
      rw [hgb, he2]
      refine Came.giveBack (Ho := Ho) pk gs' u2 outs (n + p.count) mo sc h2 (by rw [← hio]; exact ho) hw2 hv2 hst2 (fun i r hi => ?_) (by rw [← he2]; exact hc) hap2 hm2 hin2 (by rwa [hb, List.nil_append] at hI)
      have := hr (p.count + i) r (by rw [he1, List.getElem?_append_right (by simp)]; simpa using hi)
      rwa [← Nat.add_assoc] at this
    cases p with
    | data t => obtain ⟨e1, e2, e3, e4⟩ := h1; exact quiet (by simp [Got.backs, e1, e2]) rfl (fun _ => by simp [exitIo, PK.count]) (fun _ => rfl) (fun _ _ _ => rfl)
    | rp t => obtain ⟨e1, e2, e3, e4⟩ := h1; exact quiet (by simp [Got.backs, e1, e2]) rfl (fun _ => by simp [exitIo, PK.count]) (fun _ => rfl) (fun _ _ _ => rfl)
    | fn i o => obtain ⟨e1, e2, e3, e4⟩ := h1; exact quiet (by simp [Got.backs, e1, e2]) rfl (fun _ => by simp [exitIo, PK.count]) (fun _ => rfl) (fun _ _ _ => rfl)
    | rfn i o => obtain ⟨e1, e2, e3, e4⟩ := h1; exact quiet (by simp [Got.backs, e1, e2]) rfl (fun _ => by simp [exitIo, PK.count]) (fun _ => rfl) (fun _ _ _ => rfl)
    | ow t => obtain ⟨e1, e2, e3⟩ := h1; exact quiet (by simp [Got.backs, e1, e2]) rfl (fun _ => by simp [exitIo, PK.count]) (fun _ => by simp [exitIo]) (fun _ _ _ => rfl)
    | mv t =>
      obtain ⟨e1, e2, e3⟩ := h1
      cases outs with
      | nil => simp [ioTys] at ho
      | cons o outs =>
        obtain ⟨u, x⟩ := o
        simp only [List.map_cons, ioTys, List.cons.injEq] at ho
        obtain ⟨rfl, ho⟩ := ho
        have hbk : g.backs = g.lent := by simp [Got.backs, e1]
        have hpl : g.places = g.lent := by simp [Got.places, e1, e2]
        rw [hbk] at hap hI hm hin
        rw [hpl] at hw1
        simp only [exitIo] at hr hc ⊢
        simp only [Vd.giveBack]
        have h0 : (sc.updAll u x g.lent) = (sc.updAll u x (g.lent ++ [])) := by rw [List.append_nil]
        obtain ⟨q1, _⟩ := hC.updAll (Ho := Ho) (H'' := H'') (L := L) u x sc g.lent [] (gs'.flatMap Got.backs) u1 n e3 hw1 hv1 (fun i hi => hst (n + i) (by
          simp only [stays, List.mem_append, List.mem_range'_1]
          exact .inl ⟨by omega, by omega⟩)) (fun i r hi => hr i r (by
          rw [List.getElem?_append_left (by rw [List.length_map]; exact (List.getElem?_eq_some_iff.1 hi).1), List.getElem?_map, hi]
          rfl)) hap hm (fun p hp => hin p (List.mem_append_left _ hp)) hI
        rw [h0]
        refine Came.giveBack (Ho := Ho) pk gs' u2 outs (n + nsl u) mo _ h2 ho hw2 hv2 hst2 (fun i r hi => ?_) hc hap2 hm2 hin2 q1
        have := hr (nsl u + i) r (by
          rw [List.getElem?_append_right (by simp [ownCells_len])]
          simpa [ownCells_len] using hi)
        rwa [← Nat.add_assoc] at this
    | mp t own =>
      obtain ⟨e1, l0, cs, vals', e2, e3, rfl, e4⟩ := h1
      cases outs with
      | nil => simp [ioTys] at ho
      | cons o outs =>
        obtain ⟨u, x⟩ := o
        simp only [List.map_cons, ioTys, List.cons.injEq] at ho
        obtain ⟨rfl, ho⟩ := ho
        have hbk : g.backs = [.root l0] := by simp [Got.backs, e1, e2]
        rw [hbk] at hap hI hm hin
        have hpl : g.places[0]? = some (.root l0) := by simp [Got.places, e2]
        simp only [exitIo] at hr hc ⊢
        simp only [Vd.giveBack, e2]
        have hcl := cellsOf_roots own u (nx + mo) (entryLen con + mo) (gs.flatMap (·.deps)) [] x
        have hlen : (cellsOf own (nx + mo) (gs.flatMap (·.deps)) u x).2.length = if own then nsl u else 0 := cellsOf_len _ _ _ _ _
        have hlen' : (cellsOf own (entryLen con + mo) [] u x).2.length = if own then nsl u else 0 := cellsOf_len _ _ _ _ _
        simp only [List.length_append] at hc
        rw [hlen'] at hr hc
        have hb := hC.boxBack (Ho := Ho) (H'' := H'') (L := L) (sc := sc) (rem := gs'.flatMap Got.backs) (t := u) (x := x) (m := entryLen con + mo) (m' := nx + mo) e3 (hw1 0 _ hpl) (hv1 0 _ rfl) (hst n (by simp [stays])) (hr 0 _ rfl) (fun hown i hi => by
          have := hC.hdr_new (i := mo + i) (by rw [if_pos hown] at hc; omega)
          rwa [← Nat.add_assoc, ← Nat.add_assoc] at this) hap (fun q hq => hm q (List.mem_append_right _ hq)) hI
        rw [hlen, Nat.add_assoc]
        have hrec := Came.giveBack (Ho := Ho) pk gs' u2 outs (n + (PK.mp u own).count) (mo + if own then nsl u else 0) _ h2 ho hw2 hv2 hst2 (fun i r hi => by
          have := hr ((PK.mp u own).count + i) r (by
            rw [show (PK.mp u own).count + i = ((if own then nsl u else 0) + i) + 1 by simp only [PK.count]; omega, List.getElem?_cons_succ, List.getElem?_append_right (by simp), List.length_replicate, Nat.add_sub_cancel_left, Nat.add_assoc]
            exact hi)
          rwa [← Nat.add_assoc] at this) (by rw [Nat.add_assoc] at hc ⊢; exact hc) hap2 hm2 hin2 hb
        obtain ⟨r1, r2⟩ := hrec
        refine ⟨r1, ?_⟩
        rw [r2, hcl, hlen', Nat.add_assoc]

/-- As the call returns: all that was lent is still out. -/
theorem Came.start {V : View} (hvis : ∀ l ∈ backLocs gs, V.root l = s.root l) {H'' : Nat → Option Root} : Inv P s (Came.map ρ w con y gs vals ρo nx) w' H'' (backLocs gs) V (gs.flatMap Got.backs) := by
  refine ⟨fun l hl => hvis l (backs_locs hl (by simp [Spot.loc])), fun l hl => ?_⟩
  obtain ⟨g, hg, hlg⟩ := List.mem_flatMap.1 hl
  by_cases hroot : .root l ∈ gs.flatMap Got.backs
  · exact .inl hroot
  · right
    right
    -- a slice inside an element was lent
    obtain ⟨i0, j0, hin⟩ : ∃ i j, .in1 l i j ∈ g.lent := by
      rcases List.mem_append.1 hlg with h | h
      · exfalso
        apply hroot
        refine List.mem_flatMap.2 ⟨g, hg, ?_⟩
        cases hb : g.box with
        | none => rw [hb] at h; cases h
        | some l' =>
          rw [hb] at h
          simp only [List.mem_singleton] at h
          subst h
          simp [Got.backs, hb]
      · obtain ⟨p, hp, hpl⟩ := List.mem_flatMap.1 h
        cases p with
        | none => simp [Spot.loc] at hpl
        | root l' =>
          simp only [Spot.loc, List.mem_singleton] at hpl
          subst hpl
          exact absurd (List.mem_flatMap.2 ⟨g, hg, by simp only [Got.backs, List.mem_append]; exact .inr hp⟩) hroot
        | in1 l' i j =>
          simp only [Spot.loc, List.mem_singleton] at hpl
          subst hpl
          exact ⟨i, j, hp⟩
    have hinp : .in1 l i0 j0 ∈ gs.flatMap Got.places := List.mem_flatMap.2 ⟨g, hg, by simp only [Got.places, List.mem_append]; exact .inr (.inl hin)⟩
    -- its root
    have hlent : ∀ (pk : List PK) (g1 : List Got) (v1 : List Value), GotsOK s ρ w pk g1 v1 → g ∈ g1 → ∃ e xs, s.root l = some (.arr e xs true) := by
      intro pk
      induction pk with
      | nil =>
        rintro g1 v1 ⟨rfl, _⟩ hm
        cases hm
      | cons q pk ih =>
        rintro g1 v1 ⟨g', gs', u1, u2, rfl, rfl, h1, h2⟩ hm
        rcases List.mem_cons.1 hm with rfl | hm
        · cases q with
          | mv t =>
            obtain ⟨_, _, e1, e2, e3⟩ := h1
            obtain ⟨k, hk⟩ := List.mem_iff_getElem?.1 hin
            have hlt := (List.getElem?_eq_some_iff.1 hk).1
            obtain ⟨_, _, e', xs, x, b, n, c, ys, h, _⟩ := e3 k (slTys t)[k] _ u1[k] (List.getElem?_eq_getElem (by omega)) hk (List.getElem?_eq_getElem (by omega))
            exact ⟨e', xs, h⟩
          | ow t => obtain ⟨_, h, _⟩ := h1; rw [h] at hin; cases hin
          | mp t own => obtain ⟨h, _⟩ := h1; rw [h] at hin; cases hin
          | data t => obtain ⟨_, h, _⟩ := h1; rw [h] at hin; cases hin
          | rp t => obtain ⟨_, h, _⟩ := h1; rw [h] at hin; cases hin
          | fn i o => obtain ⟨_, h, _⟩ := h1; rw [h] at hin; cases hin
          | rfn i o => obtain ⟨_, h, _⟩ := h1; rw [h] at hin; cases hin
        · exact ih gs' u2 h2 hm
    obtain ⟨e, xs, hl0⟩ := hlent _ _ _ hC.got hg
    refine ⟨e, xs, xs, hl0, (hvis l hl).trans hl0, ?_, fun i j x0 u y0 h1 h2 => ⟨x0, y0, h1, h2⟩⟩
    have hr : ArrR w ρ.own (.main l) e xs (EL w ρ.own l true e) (ρ.hdr l) := hC.rel.root l _ hl0
    rw [hC.hdr_old (hC.old hl0 (by simp))]
    have hnr : Spot.root l ∉ gs.flatMap Got.places := fun hm => hC.ap.mix l hm i0 j0 hinp
    have hnd : l ∉ gs.flatMap (·.deps) := hC.ap.dep1 l i0 j0 hinp
    refine hr.step (fun b hb ho => ?_) fun i x us _ he => ?_
    · have h6 : (ρ.restr (gs.flatMap Got.places) vals (gs.flatMap (·.deps))).own b = .off := by
        rw [restr_root (vals := vals) hC.ap (b := b) (l := l) (by rw [ho]; rfl) hnr (fun i j hi => by rw [ho] at hi; cases hi), if_neg hnd]
      obtain ⟨q1, q2⟩ := hC.kept (.inr h6) hb
      exact ⟨q1.trans ho, q2⟩
    · unfold EL at he
      rw [if_pos rfl] at he
      refine DRb.start (fun b j hb ho hbad => ?_) (fun j => Classical.em _) e 0 x us he
      have h6 : (ρ.restr (gs.flatMap Got.places) vals (gs.flatMap (·.deps))).own b = .off := by
        rw [restr_root (vals := vals) hC.ap (b := b) (l := l) (by rw [ho]; rfl) hnr (fun i' j' hi hm => ?_), if_neg hnd]
        rw [ho] at hi
        cases hi
        -- lent slices only lie inside elements
        obtain ⟨g2, hg2, hp2⟩ := List.mem_flatMap.1 hm
        simp only [Got.places, List.mem_append] at hp2
        rcases hp2 with hp2 | hp2 | hp2
        · cases hb2 : g2.box with
          | none => rw [hb2] at hp2; cases hp2
          | some l' => rw [hb2] at hp2; simp at hp2
        · exact hbad (List.mem_flatMap.2 ⟨g2, hg2, by simp only [Got.backs, List.mem_append]; exact .inr hp2⟩)
        · exact Came.goneNot hC hg2 hp2
      obtain ⟨q1, q2⟩ := hC.kept (.inr h6) hb
      exact ⟨q1.trans ho, q2⟩
where
  Came.goneNot (hC : Came P K ρ s a w con y gs vals w' ρo v nx) {g : Got} (hg : g ∈ gs) {l i j : Nat} (hp : .in1 l i j ∈ g.gone) : False := by
    have key : ∀ (pk : List PK) (g1 : List Got) (v1 : List Value), GotsOK s ρ w pk g1 v1 → g ∈ g1 → False := by
      have pl : ∀ {es ps vals}, Places s ρ w false es ps vals → (.in1 l i j) ∈ ps → False := by
        rintro es ps vals ⟨e1, e2, e3⟩ hmem
        obtain ⟨k, hk⟩ := List.mem_iff_getElem?.1 hmem
        have hlt := (List.getElem?_eq_some_iff.1 hk).1
        have := e3 k es[k] _ vals[k] (List.getElem?_eq_getElem (by omega)) hk (List.getElem?_eq_getElem (by omega))
        exact absurd this.1 (by simp)
      intro pk
      induction pk with
      | nil =>
        rintro g1 v1 ⟨rfl, _⟩ hm
        cases hm
      | cons q pk ih =>
        rintro g1 v1 ⟨g', gs', u1, u2, rfl, rfl, h1, h2⟩ hm
        rcases List.mem_cons.1 hm with rfl | hm
        · cases q with
          | mv t => obtain ⟨_, h, _⟩ := h1; rw [h] at hp; cases hp
          | ow t => obtain ⟨_, _, h⟩ := h1; exact pl h hp
          | mp t own =>
            obtain ⟨_, l0, cs, vals', _, _, rfl, h⟩ := h1
            cases own with
            | true => exact pl (by simpa using h) hp
            | false => simp only [Bool.false_eq_true, if_false] at h; rw [h.1] at hp; cases hp
          | data t => obtain ⟨_, _, h, _⟩ := h1; rw [h] at hp; cases hp
          | rp t => obtain ⟨_, _, h, _⟩ := h1; rw [h] at hp; cases hp
          | fn i o => obtain ⟨_, _, h, _⟩ := h1; rw [h] at hp; cases hp
          | rfn i o => obtain ⟨_, _, h, _⟩ := h1; rw [h] at hp; cases hp
        · exact ih gs' u2 h2 hm
    exact key _ _ _ hC.got hg

end
end Go.Proofs.YtgjneigkkgaaiaaGreatDoor.Vd

/- VdZv -/
namespace Go.Proofs.YtgjneigkkgaaiaaGreatDoor.Vd

variable {P : Program} {E : Env} {ρ ρ' ρ0 ρo : Map} {w w' : World} {s s' : S} {a : Act} {K : Ctx} {H H' Hc : Nat → Option Root}
variable {con : Con0} {y : Out con.rk con.pk} {gs : List Got} {vals : List Value} {v : Value} {nx : Nat}

theorem apart_sub {l1 l2 : List Spot} (h : l1.Sublist l2) : Spot.apart l2 = true → Spot.apart l1 = true := by
  induction h with
  | slnil => exact fun h => h
  | cons p _ ih => exact fun h => ih (apart_tail h).1
  | cons_cons p hs ih =>
    intro h
    obtain ⟨h1, h2⟩ := apart_tail h
    have h3 := ih h1
    have h4 : p ≠ .none → p ∉ _ := fun hp hm => h2 hp (hs.subset hm)
    cases p with
    | none => exact h3
    | root l => simp only [Spot.apart, Bool.and_eq_true, Bool.not_eq_true', List.contains_eq_mem, decide_eq_false_iff_not]; exact ⟨h4 (by simp), h3⟩
    | in1 l i j => simp only [Spot.apart, Bool.and_eq_true, Bool.not_eq_true', List.contains_eq_mem, decide_eq_false_iff_not]; exact ⟨h4 (by simp), h3⟩

theorem backs_sub : ∀ gs : List Got, (gs.flatMap Got.backs).Sublist (gs.flatMap Got.places)
  | [] => List.Sublist.slnil
  | g :: gs => by
    simp only [List.flatMap_cons]
    refine List.Sublist.append ?_ (backs_sub gs)
    simp only [Got.backs, Got.places]
    exact List.Sublist.append (List.Sublist.refl _) (List.sublist_append_left _ _)

theorem ownCells_arr : (t : Ty) → (n : Nat) → (x : t.D) → ∀ r ∈ (ownCells n t x).2, ∃ e xs, r = .arr e xs true
  | .sl e, n, x, r, hr => by simp only [ownCells, List.mem_singleton] at hr; exact ⟨e, x, hr⟩
  | .one h, n, x, r, hr => ownCells_arr h n x r hr
  | .cons h t, n, x, r, hr => by
    simp only [ownCells, List.mem_append] at hr
    rcases hr with hr | hr
    · exact ownCells_arr h n x.1 r hr
    · exact ownCells_arr t _ x.2 r hr
  | .int _, n, x, r, hr | .bool, n, x, r, hr | .str, n, x, r, hr => by simp [ownCells] at hr

theorem cellsOf_arr {own : Bool} {n : Nat} {d : List Nat} {t : Ty} {x : t.D} : ∀ r ∈ (cellsOf own n d t x).2, ∃ e xs, r = .arr e xs true := by
  intro r hr
  unfold cellsOf at hr
  cases own with
  | true => exact ownCells_arr t n x r hr
  | false => simp at hr

theorem results_arr : ∀ (rk : List (Ty × Bool)) (l : List (Σ t : Ty, t.D)) (n : Nat) (d : List Nat), ∀ r ∈ (results n d rk l).2.1, ∃ e xs, r = .arr e xs true
  | [], l, n, d, r, hr => by simp [results] at hr
  | _ :: _, [], n, d, r, hr => by simp [results] at hr
  | (t0, own) :: rk, ⟨t, x⟩ :: l, n, d, r, hr => by
    simp only [results, List.mem_append] at hr
    rcases hr with hr | hr
    · exact cellsOf_arr r hr
    · exact results_arr rk l _ d r hr

theorem exitIo_arr : ∀ (pk : List PK) (l : List (Σ t : Ty, t.D)) (n : Nat), ∀ r ∈ (exitIo n pk l).2, ∃ e xs, r = .arr e xs true
  | [], l, n, r, hr => by simp [exitIo] at hr
  | .mv t :: pk, ⟨u, x⟩ :: l, n, r, hr => exitIo_arr pk l n r hr
  | .mv t :: pk, [], n, r, hr => exitIo_arr pk [] n r hr
  | .mp t own :: pk, ⟨u, x⟩ :: l, n, r, hr => by
    simp only [exitIo, List.mem_append] at hr
    rcases hr with hr | hr
    · exact cellsOf_arr r hr
    · exact exitIo_arr pk l _ r hr
  | .mp t own :: pk, [], n, r, hr => exitIo_arr pk [] n r hr
  | .ow t :: pk, l, n, r, hr => exitIo_arr pk l n r hr
  | .data t :: pk, l, n, r, hr => exitIo_arr pk l n r hr
  | .rp t :: pk, l, n, r, hr => exitIo_arr pk l n r hr
  | .fn i o :: pk, l, n, r, hr => exitIo_arr pk l n r hr
  | .rfn i o :: pk, l, n, r, hr => exitIo_arr pk l n r hr

theorem newSet_mem : ∀ {rs : List Root} {n l : Nat} {r : Option Root}, (l, r) ∈ newSet n rs → ∃ i q, l = n + i ∧ rs[i]? = some q ∧ r = some q
  | [], n, l, r, h => by simp [newSet] at h
  | q :: rs, n, l, r, h => by
    simp only [newSet, List.mem_cons, Prod.mk.injEq] at h
    rcases h with ⟨rfl, rfl⟩ | h
    · exact ⟨0, q, rfl, rfl, rfl⟩
    · obtain ⟨i, q', rfl, h2, rfl⟩ := newSet_mem h
      exact ⟨i + 1, q', by omega, by simpa using h2, rfl⟩

theorem newSet_fst : ∀ (rs : List Root) (n : Nat), (newSet n rs).map Prod.fst = List.range' n rs.length
  | [], n => rfl
  | r :: rs, n => by simp [newSet, newSet_fst rs (n + 1), List.range'_succ]

section
variable (hC : Came P K ρ s a w con y gs vals w' ρo v nx)
include hC

/-- Results in the caller's numbers. -/
theorem Came.results {Ho H'' : Nat → Option Root} : ∀ (rk : List (Ty × Bool)) (l : List (Σ t : Ty, t.D)) (mo : Nat), mo + (Vd.results (entryLen con + mo) [] rk l).2.1.length ≤ newCnt con y →
    (Vd.results (nx + mo) (gs.flatMap (·.deps)) rk l).1.length = (Vd.results (entryLen con + mo) [] rk l).1.length ∧ ∀ (i : Nat) q, (Vd.results (entryLen con + mo) [] rk l).1[i]? = some q → ∃ cs, (Vd.results (nx + mo) (gs.flatMap (·.deps)) rk l).1[i]? = some (q.1, cs) ∧
      ∀ vs, CsR P ρo w' Ho q.2 vs → CsR P (Came.map ρ w con y gs vals ρo nx) w' H'' cs vs
  | [], l, mo, _ => ⟨rfl, fun i q hi => by simp [Vd.results] at hi⟩
  | _ :: _, [], mo, _ => ⟨rfl, fun i q hi => by simp [Vd.results] at hi⟩
  | (t0, own) :: rk, ⟨t, x⟩ :: l, mo, hle => by
    simp only [Vd.results, List.length_append] at hle
    have e1 : (cellsOf own (entryLen con + mo) [] t x).2.length = if own then nsl t else 0 := cellsOf_len _ _ _ _ _
    have e2 : (cellsOf own (nx + mo) (gs.flatMap (·.deps)) t x).2.length = if own then nsl t else 0 := cellsOf_len _ _ _ _ _
    rw [e1, Nat.add_assoc] at hle
    obtain ⟨g1, g2⟩ := Came.results (Ho := Ho) (H'' := H'') rk l (mo + if own then nsl t else 0) (by omega)
    simp only [Vd.results, e1, e2]
    rw [Nat.add_assoc, Nat.add_assoc]
    refine ⟨by simp [g1], fun i q hi => ?_⟩
    cases i with
    | zero =>
      simp only [List.getElem?_cons_zero, Option.some.injEq] at hi
      subst hi
      refine ⟨_, rfl, fun vs hc => hC.cells hc fun hown i hi => ?_⟩
      have := hC.hdr_new (i := mo + i) (by rw [if_pos hown] at hle; omega)
      rwa [← Nat.add_assoc, ← Nat.add_assoc] at this
    | succ i => exact g2 i q (by simpa using hi)

theorem Came.res {H'' : Nat → Option Root} : AR P (Came.map ρ w con y gs vals ρo nx) w' H'' (tupA (Vd.results nx (gs.flatMap (·.deps)) con.rk (tupList _ y)).1) v := by
  have hle : 0 + (Vd.results (entryLen con + 0) [] con.rk (tupList _ y)).2.1.length ≤ newCnt con y := by
    simp only [newCnt, List.length_append, Nat.add_zero]
    omega
  obtain ⟨h1, h2⟩ := hC.results (Ho := rt (exitRoots con y)) (H'' := H'') con.rk (tupList _ y) 0 hle
  have hr := hC.ex.res
  simp only [Nat.add_zero] at h1 h2
  generalize (Vd.results nx (gs.flatMap (·.deps)) con.rk (tupList _ y)).1 = L2 at h1 h2
  generalize (Vd.results (entryLen con) [] con.rk (tupList _ y)).1 = L1 at h1 h2 hr
  have vr : ∀ {g : Bool} {cs cs' : List C} {u : Value}, (∀ vs, CsR P ρo w' (rt (exitRoots con y)) cs vs → CsR P (Came.map ρ w con y gs vals ρo nx) w' H'' cs' vs) → VR P ρo w' (rt (exitRoots con y)) g cs u → VR P (Came.map ρ w con y gs vals ρo nx) w' H'' g cs' u := by
    rintro g cs cs' u hcs ⟨vs, q1, q2⟩
    exact ⟨vs, hcs vs q1, q2⟩
  have tup : ∀ {L1 L2 : List (Bool × List C)}, L2.length = L1.length → (∀ (i : Nat) q, L1[i]? = some q → ∃ cs, L2[i]? = some (q.1, cs) ∧ ∀ vs, CsR P ρo w' (rt (exitRoots con y)) q.2 vs → CsR P (Came.map ρ w con y gs vals ρo nx) w' H'' cs vs) →
      AR P ρo w' (rt (exitRoots con y)) (.tup L1) v → AR P (Came.map ρ w con y gs vals ρo nx) w' H'' (.tup L2) v := by
    rintro L1 L2 h1 h2 ⟨vs, q1, q2, q3⟩
    refine ⟨vs, q1, h1.trans q2, fun i p u hp hu => ?_⟩
    have hi : i < L1.length := by rw [← h1]; exact (List.getElem?_eq_some_iff.1 hp).1
    obtain ⟨cs, z1, z2⟩ := h2 i L1[i] (List.getElem?_eq_getElem hi)
    rw [hp] at z1
    cases z1
    exact vr z2 (q3 i _ u (List.getElem?_eq_getElem hi) hu)
  match L1, L2, h1, h2, hr with
  | [], [], h1, h2, hr => exact tup h1 h2 hr
  | [(g, cs)], [(g', cs')], _, h2, hr =>
    obtain ⟨cs2, z1, z2⟩ := h2 0 _ rfl
    simp only [List.getElem?_cons_zero, Option.some.injEq, Prod.mk.injEq] at z1
    obtain ⟨rfl, rfl⟩ := z1
    exact vr z2 hr
  | _ :: _ :: _, _ :: _ :: _, h1, h2, hr => exact tup h1 h2 hr

end

theorem results_cnt : ∀ (rk : List (Ty × Bool)) (l : List (Σ t : Ty, t.D)) (ts : List Ty) (n : Nat) (d : List Nat), l.map (·.1) = rk.map (·.1) ++ ts → (results n d rk l).2.1.length = (rk.map fun r => if r.2 then nsl r.1 else 0).sum
  | [], l, ts, n, d, h => rfl
  | (t0, own) :: rk, [], ts, n, d, h => by simp at h
  | (t0, own) :: rk, ⟨t, x⟩ :: l, ts, n, d, h => by
    simp only [List.map_cons, List.cons_append, List.cons.injEq] at h
    obtain ⟨rfl, h⟩ := h
    simp only [results, List.length_append, cellsOf_len, List.map_cons, List.sum_cons]
    rw [results_cnt rk l ts _ d h]

theorem exitIo_cnt : ∀ (pk : List PK) (r : List (Σ t : Ty, t.D)) (n : Nat), r.map (·.1) = ioTys pk → (exitIo n pk r).2.length = (pk.map fun p => match p with
    | .mp t true => nsl t
    | _ => 0).sum
  | [], r, n, _ => rfl
  | .mv t :: pk, ⟨u, x⟩ :: r, n, h => by
    simp only [List.map_cons, ioTys, List.cons.injEq] at h
    simp [exitIo, exitIo_cnt pk r n h.2]
  | .mp t own :: pk, ⟨u, x⟩ :: r, n, h => by
    simp only [List.map_cons, ioTys, List.cons.injEq] at h
    obtain ⟨rfl, h⟩ := h
    simp only [exitIo, List.length_append, cellsOf_len, exitIo_cnt pk r _ h, List.map_cons, List.sum_cons]
    cases own <;> simp
  | .mv t :: pk, [], n, h => by simp [ioTys] at h
  | .mp t own :: pk, [], n, h => by simp [ioTys] at h
  | .ow t :: pk, r, n, h => by simp only [ioTys] at h; simp [exitIo, exitIo_cnt pk r n h]
  | .data t :: pk, r, n, h => by simp only [ioTys] at h; simp [exitIo, exitIo_cnt pk r n h]
  | .rp t :: pk, r, n, h => by simp only [ioTys] at h; simp [exitIo, exitIo_cnt pk r n h]
  | .fn i o :: pk, r, n, h => by simp only [ioTys] at h; simp [exitIo, exitIo_cnt pk r n h]
  | .rfn i o :: pk, r, n, h => by simp only [ioTys] at h; simp [exitIo, exitIo_cnt pk r n h]

theorem newCnt_eq (con : Con0) (y : Out con.rk con.pk) : newCnt con y = conNames con := by
  simp only [newCnt, List.length_append, conNames]
  rw [results_cnt con.rk _ (ioTys con.pk) _ _ (tupList_tys _ y), exitIo_cnt _ _ _ (outs_tys con y _ _)]
  rfl

theorem InB.rr {sc : View} {l : Nat} {H'' : Nat → Option Root} (h : InB s ρ' w' sc [] l) : ∃ r, sc.root l = some r ∧ RR P ρ' w' H'' l r := by
  obtain ⟨e, xs0, xs, h1, h2, h3, h4⟩ := h
  refine ⟨_, h2, ?_⟩
  show ArrR w' ρ'.own (.main l) e xs (EL w' ρ'.own l true e) (ρ'.hdr l)
  refine h3.rekey (fun b hb => hb) fun i x us _ hd => ?_
  unfold EL
  rw [if_pos rfl]
  exact DRb.done (fun j hj => by cases hj) e 0 x us hd

theorem call_core [Laid P] (hE : ConsOK P E) (hMet : Met P K.w0 K.own0) (hR : Rel P K ρ s a w) {V : View} (hV : Seen V s) {o : Oper} {f : Nat} {as : List A} {vs : List Value} (hlen : as.length = vs.length) (hAR : ∀ (k : Nat) A v, as[k]? = some A → vs[k]? = some v → AR P ρ w s.root A v)
    (hn : ∀ con, lookupN f E.con = some con → ∀ i, i < conNames con → Unused K ρ s (V.nx + i))
    (hrun : (∃ fn, P.funcs[f]? = some fn ∧ fn.name ≠ "runtime.NumGoroutine" ∧ fn.body.isSome = true) → (execOp a.eval o).run P w = .ok (.enter f vs.toArray) w) : Sound P K s a w o (callR E f as V) := by
  unfold callR
  split
  · rename_i con hcon
    split
    · rename_i x gs hargs
      split
      · rename_i hap0
        simp only [Bool.and_eq_true, List.all_eq_true] at hap0
        obtain ⟨hap, hvis0⟩ := hap0
        have hvis : ∀ l ∈ backLocs gs, V.root l = s.root l := fun l hl => by
          obtain ⟨r, hr⟩ := Option.isSome_iff_exists.1 (hvis0 l hl)
          rw [hr, hV l r hr]
        refine Sound.bnd fun y hy => ?_
        intro _ next Q hnext
        have hco := hE f con hcon
        have hapt := argsApart_spec hap
        obtain ⟨vals, hg, hal, hgiv⟩ := args_given (Hc := rt ((entriesL 0 (insL con.pk x)).2.map some)) hV hE (hR.met hMet) hR.root con.pk as x gs vs hargs hlen hAR
        have hcount := hg.count
        have hlv : vals.length = (gs.flatMap Got.places).length := by rw [hcount.1, hcount.2]
        obtain ⟨q1, q2, q3, q4⟩ := hgiv 0 (ρ.restr (gs.flatMap Got.places) vals (gs.flatMap (·.deps))) (restr_lets hapt) (restr_compat hapt hlv)
        have hcall := hco.run x y hy w (ρ.restr (gs.flatMap Got.places) vals (gs.flatMap (·.deps))) vs (fun b hb => restr_free (hR.fresh b hb)) (fun b l hb => by rw [q3, ← hcount.1]; exact restr_loc hb) q1 q2 (fun l r hl => by
          have := q4 l r hl
          rwa [Nat.zero_add] at this) ((hR.met hMet).step fun b _ ho => ⟨restr_free ho, rfl⟩)
        unfold Oper.wp
        rw [hrun hco.fn, Oper.upon_enter]
        refine hcall.mono ?_
        rintro e w' ⟨v, ρo, rfl, hx⟩
        show next (a.put o.dst v) w'
        have hC : Came P K ρ s a w con y gs vals w' ρo v V.nx := ⟨hR, hg, hapt, hx, fun i hi => hn con hcon i (by rw [← newCnt_eq con y]; exact hi)⟩
        -- the same new roots in both numberings
        have hq2 : (results V.nx (gs.flatMap (·.deps)) con.rk (tupList _ y)).2 = (results (entryLen con) [] con.rk (tupList _ y)).2 := results_roots _ _ _ _ _ _
        have hgb := hC.giveBack (Ho := rt (exitRoots con y)) (H'' := fun _ => none) (L := backLocs gs) con.pk gs vals (results (entryLen con) [] con.rk (tupList _ y)).2.2 0 (results (entryLen con) [] con.rk (tupList _ y)).2.1.length V hg (outs_tys con y _ _)
          (fun i p hi => by rw [Nat.zero_add]; exact hi) (fun i p hi => by rw [Nat.zero_add]; exact hi) (fun k hk => hk) (fun i r hi => by rw [Nat.zero_add]; exact hx.root i r (exitRoots_old con y hi)) (by simp [newCnt]) (apart_sub (backs_sub gs) hapt.ap)
          (fun q hq => (backs_sub gs).subset hq) (fun p hp l hl => backs_locs hp hl) (hC.start hvis)
        have hgb2 := hgb.2
        have hcnt : ((results (entryLen con) [] con.rk (tupList _ y)).2.1 ++ (giveBack (V.nx + (results (entryLen con) [] con.rk (tupList _ y)).2.1.length) (gs.flatMap (·.deps)) con.pk gs (results (entryLen con) [] con.rk (tupList _ y)).2.2 V).2).length = newCnt con y := by
          rw [hgb2]; rfl
        refine hnext _ (Came.map ρ w con y gs vals ρo V.nx) _ w' rfl ?_
        rw [hq2]
        generalize hd : ({ dst := tupA (results V.nx (gs.flatMap (·.deps)) con.rk (tupList _ y)).1, set := _, kill := _ } : Delta) = d
        have dset : d.set = ((backLocs gs).map fun l => (l, (giveBack (V.nx + (results (entryLen con) [] con.rk (tupList _ y)).2.1.length) (gs.flatMap (·.deps)) con.pk gs (results (entryLen con) [] con.rk (tupList _ y)).2.2 V).1.root l)) ++ (noRoots (goneLocs gs) ++ newSet V.nx ((results (entryLen con) [] con.rk (tupList _ y)).2.1 ++ (giveBack (V.nx + (results (entryLen con) [] con.rk (tupList _ y)).2.1.length) (gs.flatMap (·.deps)) con.pk gs (results (entryLen con) [] con.rk (tupList _ y)).2.2 V).2)) := by rw [← hd]
        have dkill : d.kill = callKill gs V.nx (newCnt con y) := by rw [← hd, ← hcnt]; rfl
        have dmov : d.mov = [] := by rw [← hd]
        have ddst : d.dst = tupA (results V.nx (gs.flatMap (·.deps)) con.rk (tupList _ y)).1 := by rw [← hd]
        have dfst : d.set.map Prod.fst = backLocs gs ++ (goneLocs gs ++ List.range' V.nx (newCnt con y)) := by
          rw [dset, List.map_append, List.map_append, noRoots_fst, newSet_fst, hcnt, List.map_map]
          congr 1
          exact List.map_id' _
        clear hd
        have hk : (⟨d.kill, d.mov⟩ : Sweep) = ⟨callKill gs V.nx (newCnt con y), []⟩ := by rw [dkill, dmov]
        have hchg := hC.chg rfl (s.apply o.dst d).root (fun l e xs dd hnk hr => by
          have hnl : l ∉ d.set.map Prod.fst := by
            rw [dfst]
            intro hm
            apply hnk
            rw [callKill_killed]
            simp only [List.mem_append, List.mem_range'_1] at hm
            exact hm
          rw [root_other hnl, hr]
          rfl)
        refine hR.apply o.dst d v (by rw [hk]; exact hchg) ?_ ?_ ?_ ?_ ?_ ?_
        · intro l r hm
          rw [dset] at hm
          rcases List.mem_append.1 hm with hm | hm
          · obtain ⟨l', hl', he⟩ := List.mem_map.1 hm
            simp only [Prod.mk.injEq] at he
            obtain ⟨rfl, he⟩ := he
            have hst := (hC.giveBack (Ho := rt (exitRoots con y)) (H'' := (s.apply o.dst d).root) (L := backLocs gs) con.pk gs vals (results (entryLen con) [] con.rk (tupList _ y)).2.2 0 (results (entryLen con) [] con.rk (tupList _ y)).2.1.length V hg (outs_tys con y _ _)
              (fun i p hi => by rw [Nat.zero_add]; exact hi) (fun i p hi => by rw [Nat.zero_add]; exact hi) (fun k hk => hk) (fun i r hi => by rw [Nat.zero_add]; exact hx.root i r (exitRoots_old con y hi)) (by simp [newCnt]) (apart_sub (backs_sub gs) hapt.ap)
              (fun q hq => (backs_sub gs).subset hq) (fun p hp l hl => backs_locs hp hl) (hC.start hvis)).1.st l' hl'
            rcases hst with h | ⟨r', h1, h2, _⟩ | h
            · cases h
            · rw [he] at h1
              cases h1
              exact h2
            · obtain ⟨r', h1, h2⟩ := InB.rr (P := P) (H'' := (s.apply o.dst d).root) h
              rw [he] at h1
              cases h1
              exact h2
          · rcases List.mem_append.1 hm with hm | hm
            · exact absurd (noRoots_mem hm).2 (by simp)
            · obtain ⟨i, q, rfl, hq, he⟩ := newSet_mem hm
              cases he
              rw [hgb2] at hq
              have hex := exitRoots_new con y i
              rw [hq] at hex
              rcases hC.newRoot (H'' := (s.apply o.dst d).root) hex with h | h
              · exact h
              · exfalso
                rcases List.mem_append.1 (List.mem_of_getElem? hq) with hq' | hq'
                · obtain ⟨e, xs, rfl⟩ := results_arr _ _ _ _ _ hq'
                  exact h e xs rfl
                · obtain ⟨e, xs, rfl⟩ := exitIo_arr _ _ _ _ hq'
                  exact h e xs rfl
        · rintro l (h | h)
          · rw [hk] at h
            rw [dfst]
            have := callKill_killed.1 h
            simpa only [List.mem_append, List.mem_range'_1] using this
          · rw [hk] at h
            exact absurd h not_moved_nil
        · intro _
          rw [ddst]
          exact hC.res
        · intro b l hb
          rw [apply_H]
          rcases hC.live hb with h2 | h1
          · exact Nat.lt_of_lt_of_le h2 (Nat.le_trans (by rw [swept_H]; simp) (setAll_length_ge _ _).1)
          · have : l ∈ d.set.map Prod.fst := by
              rw [dfst]
              simp only [List.mem_append, List.mem_range'_1]
              exact .inr (.inr h1)
            obtain ⟨⟨l', r⟩, h3, h4⟩ := List.mem_map.1 this
            dsimp only at h4
            subst h4
            exact (setAll_length_ge _ _).2 _ _ h3
        · intro b hb
          rw [hC.back (fun h => by have := hx.later.size; omega), hx.fresh b hb]
          rfl
        · intro l u hl
          refine hC.hdr_old fun h => ?_
          exact (hC.new (l - V.nx) (by omega)).fix u (by rw [show V.nx + (l - V.nx) = l by omega]; exact hl)
      · exact Sound.fail
    · exact Sound.fail
  · exact Sound.fail

end Go.Proofs.YtgjneigkkgaaiaaGreatDoor.Vd

/- VdZw -/
namespace Go.Proofs.YtgjneigkkgaaiaaGreatDoor.Vd

variable {P : Program} {E : Env} {ρ ρ' ρ0 ρo : Map} {w w' : World} {s s' : S} {a : Act} {K : Ctx} {H H' Hc : Nat → Option Root}

theorem run_callFunc_enter {f : Nat} {args : Array Value} (h : ∃ fn, P.funcs[f]? = some fn ∧ fn.name ≠ "runtime.NumGoroutine" ∧ fn.body.isSome = true) : (callFunc f args).run P w = .ok (.enter f args) w := by
  obtain ⟨fn, h1, h2, h3⟩ := h
  have h4 : fn.body ≠ none := by
    intro h
    rw [h] at h3
    cases h3
  simp [callFunc, h1, h2, h4]

theorem run_call {o : Oper} {c : Call} {x : Operand} {f : Nat} {first caps : Array Value} (ho : o.op = .call c) (hx : c.callee = .value x) (hv : a.eval x = .func (.func f) first caps) (h : ∃ fn, P.funcs[f]? = some fn ∧ fn.name ≠ "runtime.NumGoroutine" ∧ fn.body.isSome = true) :
    (execOp a.eval o).run P w = .ok (.enter f ((first ++ c.args.map a.eval) ++ caps)) w := by
  simp [execOp, ho, resolve, hx, hv, Deferred.ofValue, invoke, run_callFunc_enter h]

theorem evals_rel {ρA : Operand → A} (hρ : ∀ o, AR P ρ w H (ρA o) (a.eval o)) (l : List Operand) : ∀ (k : Nat) A v, (l.map ρA)[k]? = some A → (l.map a.eval)[k]? = some v → AR P ρ w H A v := by
  intro k A v hA hv
  rw [List.getElem?_map] at hA hv
  cases hx : l[k]? with
  | none => rw [hx] at hA; cases hA
  | some x =>
    rw [hx] at hA hv
    simp only [Option.map_some, Option.some.injEq] at hA hv
    subst hA
    subst hv
    exact hρ x

theorem dataArgs_rel {V : View} (hV : Seen V s) (hroot : ∀ l r, s.root l = some r → RR P ρ w s.root l r) : ∀ (ts : List Ty) (as : List A) (x : Prod' ts) (vs : List Value), V.dataArgs ts as = some x → as.length = vs.length → (∀ (k : Nat) A v, as[k]? = some A → vs[k]? = some v → AR P ρ w s.root A v) → ArgsD w (fun _ => True) ts x vs
  | [], [], x, vs, h, hl, ha => List.length_eq_zero_iff.1 hl.symm
  | [], _ :: _, x, vs, h, hl, ha => by simp [View.dataArgs] at h
  | [t], [], x, vs, h, hl, ha => by simp [View.dataArgs] at h
  | [t], [X], x, vs, h, hl, ha => by
    obtain ⟨v, rfl⟩ := List.length_eq_one_iff.1 hl.symm
    simp only [View.dataArgs] at h
    cases hx : V.asData t X with
    | none => rw [hx] at h; cases h
    | some r =>
      rw [hx] at h
      simp only [Option.map_some, Option.some.injEq] at h
      subst h
      exact ⟨v, rfl, (asData_vd hV hroot hx (ha 0 X v rfl rfl)).mono fun _ _ => trivial⟩
  | [t], _ :: _ :: _, x, vs, h, hl, ha => by simp [View.dataArgs] at h
  | t :: u :: ts, [], x, vs, h, hl, ha => by simp [View.dataArgs] at h
  | t :: u :: ts, X :: as, x, [], h, hl, ha => by simp at hl
  | t :: u :: ts, X :: as, x, v :: vs, h, hl, ha => by
    simp only [View.dataArgs] at h
    split at h
    · rename_i z d y hx hy
      simp only [Option.some.injEq] at h
      subst h
      exact ⟨v, vs, rfl, (asData_vd hV hroot hx (ha 0 X v rfl rfl)).mono (fun _ _ => trivial),
        dataArgs_rel hV hroot (u :: ts) as y vs hy (by simpa using hl) (fun k A v hA hv => ha (k + 1) A v (by simpa using hA) (by simpa using hv))⟩
    · cases h

theorem ArgsD.mono {A A' : Nat → Prop} (h : ∀ b, A b → A' b) : ∀ (ts : List Ty) (x : Prod' ts) (vs : List Value), ArgsD w A ts x vs → ArgsD w A' ts x vs
  | [], _, _, hh => hh
  | [t], x, vs, ⟨v, h1, h2⟩ => ⟨v, h1, h2.mono h⟩
  | t :: u :: ts, x, vs, ⟨v, r, h1, h2, h3⟩ => ⟨v, r, h1, h2.mono h, ArgsD.mono h (u :: ts) x.2 r h3⟩

theorem calls_ok [Laid P] (hE : ConsOK P E) (hMet : Met P K.w0 K.own0) : CallsOK P E K := by
  intro ρ s a w V o ρA hR hV hρ
  refine ⟨fun c f ho hc hn => ?_, fun c x ho hc hn => ?_⟩
  · refine call_core (vs := c.args.toList.map a.eval) hE hMet hR hV (by simp) (evals_rel hρ _) hn fun hfn => ?_
    rw [run_call (a := a) (x := .func f) (f := f) (first := #[]) (caps := #[]) ho hc rfl hfn]
    congr 2
    apply Array.ext'
    simp
  · unfold dynR
    split
    · rename_i f first caps hx
      have he := hρ x
      rw [hx] at he
      obtain ⟨fv, hv, hfirst, hptr⟩ := AR.one.1 he
      obtain ⟨f1, f2⟩ := FirstR.get hfirst
      refine call_core (vs := fv ++ (c.args.toList.map a.eval) ++ caps.map ρ.hdr) hE hMet hR hV (by simp [f1]) (fun k A v hA hv => ?_) (fun con _ i _ => hn _ (Nat.le_add_right _ _)) fun hfn => ?_
      · rw [List.append_assoc] at hA hv
        by_cases h1 : k < first.length
        · rw [List.getElem?_append_left (by simpa using h1)] at hA
          rw [List.getElem?_append_left (by omega)] at hv
          rw [List.getElem?_map] at hA
          cases hq : first[k]? with
          | none => rw [hq] at hA; cases hA
          | some q =>
            rw [hq] at hA
            simp only [Option.map_some, Option.some.injEq] at hA
            subst hA
            obtain ⟨g1, g2⟩ := f2 k q v hq hv
            exact VD.rel (VD.flat g1 g2)
        · rw [List.getElem?_append_right (by simpa using h1)] at hA
          rw [List.getElem?_append_right (by omega), f1] at hv
          rw [List.length_map] at hA
          by_cases h2 : k - first.length < c.args.toList.length
          · rw [List.getElem?_append_left (by simpa using h2)] at hA hv
            exact evals_rel hρ _ _ A v hA hv
          · rw [List.getElem?_append_right (by simpa using h2)] at hA hv
            rw [List.length_map] at hA hv
            rw [List.getElem?_map] at hA hv
            cases hl : caps[k - first.length - c.args.toList.length]? with
            | none => rw [hl] at hA; cases hA
            | some l =>
              rw [hl] at hA hv
              simp only [Option.map_some, Option.some.injEq] at hA hv
              subst hA
              subst hv
              obtain ⟨b, hb⟩ := hptr l (List.mem_of_getElem? hl)
              exact AR.one.2 ⟨b, hb, hb⟩
      · rw [run_call (a := a) ho hc hv hfn]
        congr 2
        apply Array.ext'
        simp
    · rename_i ins out g hx
      have he := hρ x
      rw [hx] at he
      have hf : FnR P ρ.own w ins out g (a.eval x) := AR.one.1 he
      obtain ⟨hflat, f, first, caps, hv, hfn, hcall⟩ := hf
      split
      · rename_i z hz
        refine Sound.bnd fun y hy => ?_
        simp only [hflat, if_true]
        · have hargs := dataArgs_rel hV hR.root ins _ z (c.args.toList.map a.eval) hz (by simp) (evals_rel hρ _)
          intro _ next Q hn
          have hc1 := hcall w (fun _ => .free) (Later.refl w) (fun b _ _ => ⟨rfl, rfl⟩) z (c.args.toList.map a.eval) y (ArgsD.mono (fun _ _ => rfl) _ _ _ hargs) hy
          unfold Oper.wp
          rw [run_call (a := a) ho hc hv hfn, Oper.upon_enter]
          have harr : (first ++ c.args.map a.eval) ++ caps = first ++ ((c.args.toList.map a.eval).toArray ++ caps) := by
            apply Array.ext'
            simp
          rw [harr]
          refine hc1.mono ?_
          rintro e w' ⟨v', rfl, h1, h2, h3⟩
          refine hn _ ρ _ w' rfl (hR.apply o.dst { dst := ofData [] out y } v' ?_ (fun _ _ hm => by cases hm) (fun l hl => ?_) (fun _ => VD.rel (h1.mono fun _ h => h.elim)) ?_ (fun b hb => hR.fresh b (Nat.le_trans h2.size hb)) (fun _ _ _ => rfl))
          · rw [apply_pure_root]
            exact { later := h2, free := fun b hb ho => ⟨ho, h3 b hb⟩, off := fun b hb ho => ⟨ho, h3 b hb⟩, noOff := fun _ h => h, block := fun b _ hb _ _ => ⟨h3 b hb, fun _ => rfl⟩, hdr := fun _ _ _ => rfl, hdrP := fun _ _ _ _ => rfl, arr := fun _ _ _ _ _ _ h => h, mov := fun _ _ h => (by cases h), got := fun _ _ _ _ h => h _, movB := fun _ _ _ _ h => (by cases h) }
          · rcases hl with ⟨b, hb⟩ | hb
            · cases hb
            · cases hb
          · rw [apply_pure_H]
            exact hR.live
      · exact Sound.fail
    · exact Sound.fail

end Go.Proofs.YtgjneigkkgaaiaaGreatDoor.Vd

/- VdZx -/
namespace Go.Proofs.YtgjneigkkgaaiaaGreatDoor.Vd

variable {P : Program} {E : Env} {ρ ρ' ρ0 ρo : Map} {w w' : World} {s s' : S} {a : Act} {K : Ctx} {H H' Hc : Nat → Option Root}

theorem run_mapM {α β : Type} {f : α → Sem β} {as : Array α} {vs : List β} (hs : as.size ≤ 6) (hl : vs.length = as.size) (h : ∀ (i : Nat) (hi : i < as.size) v, vs[i]? = some v → (f as[i]).run P w = .ok v w) : (as.mapM f).run P w = .ok vs.toArray w := by
  obtain ⟨l⟩ := as
  match l, vs, hl, h with
  | [], [], _, _ => simp
  | [a0], [v0], _, h => simp [show (f a0).run P w = .ok v0 w from h 0 (by simp) v0 rfl]
  | [a0, a1], [v0, v1], _, h => simp [show (f a0).run P w = .ok v0 w from h 0 (by simp) v0 rfl, show (f a1).run P w = .ok v1 w from h 1 (by simp) v1 rfl]
  | [a0, a1, a2], [v0, v1, v2], _, h => simp [show (f a0).run P w = .ok v0 w from h 0 (by simp) v0 rfl, show (f a1).run P w = .ok v1 w from h 1 (by simp) v1 rfl, show (f a2).run P w = .ok v2 w from h 2 (by simp) v2 rfl]
  | [a0, a1, a2, a3], [v0, v1, v2, v3], _, h => simp [show (f a0).run P w = .ok v0 w from h 0 (by simp) v0 rfl, show (f a1).run P w = .ok v1 w from h 1 (by simp) v1 rfl, show (f a2).run P w = .ok v2 w from h 2 (by simp) v2 rfl, show (f a3).run P w = .ok v3 w from h 3 (by simp) v3 rfl]
  | [a0, a1, a2, a3, a4], [v0, v1, v2, v3, v4], _, h => simp [show (f a0).run P w = .ok v0 w from h 0 (by simp) v0 rfl, show (f a1).run P w = .ok v1 w from h 1 (by simp) v1 rfl, show (f a2).run P w = .ok v2 w from h 2 (by simp) v2 rfl, show (f a3).run P w = .ok v3 w from h 3 (by simp) v3 rfl, show (f a4).run P w = .ok v4 w from h 4 (by simp) v4 rfl]
  | [a0, a1, a2, a3, a4, a5], [v0, v1, v2, v3, v4, v5], _, h => simp [show (f a0).run P w = .ok v0 w from h 0 (by simp) v0 rfl, show (f a1).run P w = .ok v1 w from h 1 (by simp) v1 rfl, show (f a2).run P w = .ok v2 w from h 2 (by simp) v2 rfl, show (f a3).run P w = .ok v3 w from h 3 (by simp) v3 rfl, show (f a4).run P w = .ok v4 w from h 4 (by simp) v4 rfl, show (f a5).run P w = .ok v5 w from h 5 (by simp) v5 rfl]
  | _ :: _ :: _ :: _ :: _ :: _ :: _ :: _, _, _, _ => simp at hs

theorem resCells_rel (hR : Rel P K ρ s a w) (hT : TyOK P E) : ∀ (rs : List ResultVar) (as : List A), resCells E s rs = some as → ∃ vs : List Value, vs.length = rs.length ∧ as.length = vs.length ∧
    (∀ (i : Nat) r v, rs[i]? = some r → vs[i]? = some v → (match r with
      | .tmp t => (pure (a.tmps.getD t undef) : Sem Value)
      | .cell p T => do loadVar T (← asAddr (a.tmps.getD p undef))).run P w = .ok v w) ∧ ∀ (i : Nat) A v, as[i]? = some A → vs[i]? = some v → AR P ρ w s.root A v
  | [], as, h => by
    simp only [resCells, Option.some.injEq] at h
    subst h
    exact ⟨[], rfl, rfl, fun i r v hi => by simp at hi, fun i A v hi => by simp at hi⟩
  | .tmp t :: rs, as, h => by
    simp only [resCells] at h
    cases h1 : resCells E s rs with
    | none => rw [h1] at h; cases h
    | some as' =>
      rw [h1] at h
      simp only [Option.map_some, Option.some.injEq] at h
      subst h
      obtain ⟨vs, g1, g2, g3, g4⟩ := resCells_rel hR hT rs as' h1
      refine ⟨a.tmps.getD t undef :: vs, by simp [g1], by simp [g2], fun i r v hi hv => ?_, fun i A v hA hv => ?_⟩
      · cases i with
        | zero =>
          simp only [List.getElem?_cons_zero, Option.some.injEq] at hi hv
          subst hi
          subst hv
          rfl
        | succ i => exact g3 i r v (by simpa using hi) (by simpa using hv)
      · cases i with
        | zero =>
          simp only [List.getElem?_cons_zero, Option.some.injEq] at hA hv
          subst hA
          subst hv
          exact hR.eval (.tmp t)
        | succ i => exact g4 i A v (by simpa using hA) (by simpa using hv)
  | .cell t T :: rs, as, h => by
    simp only [resCells] at h
    split at h
    · rename_i l hl
      split at h
      · rename_i cs ty hroot hTt
        split at h
        · rename_i hlen
          cases h1 : resCells E s rs with
          | none => rw [h1] at h; cases h
          | some as' =>
            rw [h1] at h
            simp only [Option.map_some, Option.some.injEq] at h
            subst h
            obtain ⟨vs, g1, g2, g3, g4⟩ := resCells_rel hR hT rs as' h1
            have he := hR.eval (.tmp t)
            have hev : s.eval (.tmp t) = .val false [.bp l 0] := hl
            rw [hev] at he
            obtain ⟨b, hb, hv⟩ := AR.one.1 he
            have hv : a.tmps.getD t undef = .pointer (some ⟨b, 0, none⟩) := hv
            obtain ⟨b', us, T', e1, e2, e3, e4⟩ := hR.root l _ hroot
            rw [hb] at e1
            simp only [Value.pointer.injEq, Option.some.injEq, Addr.mk.injEq, and_true] at e1
            subst e1
            have hul : us.length = ty.size := by rw [← e4.1, hlen]
            obtain ⟨u, hu1, hu2⟩ := run_load_us (hT.ty T ty hTt) (w := w) (us := us) (b := b) (o := 0) hul (fun j u hj => by
              rw [Nat.zero_add, cell_of_row w b _ _ T' (0, 0) e3]
              simpa using hj)
            refine ⟨u :: vs, by simp [g1], by simp [g2], fun i r v hi hv' => ?_, fun i A v hA hv' => ?_⟩
            · cases i with
              | zero =>
                simp only [List.getElem?_cons_zero, Option.some.injEq] at hi hv'
                subst hi
                subst hv'
                simp only [Sem.run_bind, hv]
                simpa [Instr.loadAt, Instr.sureAddr, asAddr] using hu1
              | succ i => exact g3 i r v (by simpa using hi) (by simpa using hv')
            · cases i with
              | zero =>
                simp only [List.getElem?_cons_zero, Option.some.injEq] at hA hv'
                subst hA
                subst hv'
                exact ⟨us, e4, hu2⟩
              | succ i => exact g4 i A v (by simpa using hA) (by simpa using hv')
        · cases h
      · cases h
    · cases h

def tupV (vs : List Value) : Value := match vs with
  | [v] => v
  | vs => .tuple vs.toArray

theorem run_results (hR : Rel P K ρ s a w) (hT : TyOK P E) {fn : Func} (hsz : fn.results.size ≤ 6) {as : List A} (h : resCells E s fn.results.toList = some as) :
    ∃ vs : List Value, as.length = vs.length ∧ (Go.results fn a.tmps).run P w = .ok (tupV vs) w ∧ ∀ (i : Nat) A v, as[i]? = some A → vs[i]? = some v → AR P ρ w s.root A v := by
  obtain ⟨vs, h1, h2, h3, h4⟩ := resCells_rel hR hT _ _ h
  refine ⟨vs, h2, ?_, h4⟩
  unfold Go.results
  rw [Sem.run_bind, run_mapM (vs := vs) hsz (by simpa using h1) fun i hi v hv => ?_]
  · simp only [Result.andThen_ok]
    match vs with
    | [] => rfl
    | [v] => rfl
    | _ :: _ :: _ => simp [tupV]
  · have := h3 i fn.results[i] v (by simp [hi]) hv
    cases hr : fn.results[i] <;> rw [hr] at this <;> exact this

theorem tupA_rel {l : List (Bool × List C)} {vs : List Value} (hl : l.length = vs.length) (h : ∀ (i : Nat) p v, l[i]? = some p → vs[i]? = some v → VR P ρ w H p.1 p.2 v) : AR P ρ w H (tupA l) (tupV vs) := by
  match l, vs, hl with
  | [], [], _ => exact ⟨[], rfl, rfl, fun i p v hi => by simp at hi⟩
  | [(g, cs)], [v], _ => exact h 0 _ v rfl rfl
  | _ :: _ :: _, v1 :: v2 :: vs, hl => exact ⟨v1 :: v2 :: vs, rfl, hl, h⟩

end Go.Proofs.YtgjneigkkgaaiaaGreatDoor.Vd

/- VdZy -/
namespace Go.Proofs.YtgjneigkkgaaiaaGreatDoor.Vd

variable {P : Program} {E : Env} {ρ ρ' ρ0 ρo : Map} {w w' : World} {s s' : S} {a : Act} {K : Ctx} {H H' Hc : Nat → Option Root}

/-- Spots of the callee's own, in order, with their values, and how the map that goes out sees them. -/
theorem went_rel (hroot : ∀ l r, s.root l = some r → RR P ρ w s.root l r) {own : Bool} {t : Ty} {X : A} {q : Went} {v : Value} (h : s.view.went own t X = some q) (ha : AR P ρ w s.root X v) :
    ∃ x vals, q.xs = [⟨t, x⟩] ∧ vals.length = q.go.length ∧ (q.go.length = if own then nsl t else 0) ∧ (∀ p ∈ q.go, ∀ l i j, p ≠ .in1 l i j) ∧ ∀ n ρo, Lets ρ ρo.own q.deps → Compat ρ ρo n q.go vals →
      AR P ρo w Hc (.val t.agg (cellsOf own n [] t x).1) v ∧ ∀ (i : Nat) r, (cellsOf own n [] t x).2[i]? = some r → RR P ρo w Hc (n + i) r := by
  unfold View.went at h
  cases own with
  | true =>
    simp only [if_true] at h
    split at h
    · rename_i x p hx
      simp only [Option.some.injEq] at h
      subst h
      obtain ⟨vals, h1, h2⟩ := hold_given (Hc := Hc) (Seen.self s) hroot hx ha
      refine ⟨x, vals, rfl, by rw [h1.2.1, h1.1], by simp [h1.1, slTys_length], fun p' hp l i j he => ?_, fun n ρo hl hc => ?_⟩
      · subst he
        obtain ⟨k, hk⟩ := List.mem_iff_getElem?.1 hp
        have hlt := (List.getElem?_eq_some_iff.1 hk).1
        obtain ⟨e1, e2, e3⟩ := h1
        have := e3 k (slTys t)[k] _ vals[k] (List.getElem?_eq_getElem (by dsimp only at hlt; omega)) hk (List.getElem?_eq_getElem (by dsimp only at hlt; omega))
        exact absurd this.1 (by simp)
      · simpa [cellsOf] using h2 n ρo hl.1 hc
    · cases h
  | false =>
    simp only [Bool.false_eq_true, if_false] at h
    split at h
    · rename_i x d hx
      simp only [Option.some.injEq] at h
      subst h
      refine ⟨x, [], rfl, rfl, by simp, fun p hp => by simp at hp, fun n ρo hl hc => ⟨?_, fun i r hi => by simp [cellsOf] at hi⟩⟩
      have hv := asData_vd (Seen.self s) hroot hx ha
      have : VD w (Al ρo.own []) t x v := hv.mono fun b hb => .inl (hb.elim (hl.1 b) fun ⟨l, h1, h2⟩ => hl.2 b l h2 h1)
      have hr : AR P ρo w Hc (ofData [] t x) v := VD.rel this
      simpa [cellsOf, ofData] using hr
    · cases h

theorem outs_rel (hroot : ∀ l r, s.root l = some r → RR P ρ w s.root l r) : ∀ (rk : List (Ty × Bool)) (as : List A) (q : Went) (vs : List Value), s.view.outs rk as = some q → as.length = vs.length → (∀ (i : Nat) A v, as[i]? = some A → vs[i]? = some v → AR P ρ w s.root A v) →
    ∃ vals, vals.length = q.go.length ∧ q.xs.map (·.1) = rk.map (·.1) ∧ (∀ p ∈ q.go, ∀ l i j, p ≠ .in1 l i j) ∧ ∀ n ρo rest, Lets ρ ρo.own q.deps → Compat ρ ρo n q.go vals →
      (results n [] rk (q.xs ++ rest)).2.2 = rest ∧ (results n [] rk (q.xs ++ rest)).2.1.length = q.go.length ∧ (results n [] rk (q.xs ++ rest)).1.length = vs.length ∧
      (∀ (i : Nat) p v, (results n [] rk (q.xs ++ rest)).1[i]? = some p → vs[i]? = some v → VR P ρo w Hc p.1 p.2 v) ∧ ∀ (i : Nat) r, (results n [] rk (q.xs ++ rest)).2.1[i]? = some r → RR P ρo w Hc (n + i) r
  | [], [], q, vs, h, hl, ha => by
    simp only [View.outs, Option.some.injEq] at h
    subst h
    exact ⟨[], rfl, rfl, fun p hp => by simp at hp, fun n ρo rest _ _ => ⟨rfl, rfl, by simpa [results] using hl, fun i p v hi => by simp [results] at hi, fun i r hi => by simp [results] at hi⟩⟩
  | [], _ :: _, q, vs, h, hl, ha => by simp [View.outs] at h
  | _ :: _, [], q, vs, h, hl, ha => by simp [View.outs] at h
  | (t, own) :: rk, X :: as, q, [], h, hl, ha => by simp at hl
  | (t, own) :: rk, X :: as, q, v :: vs, h, hl, ha => by
    simp only [View.outs] at h
    split at h
    · rename_i q1 q2 h1 h2
      simp only [Option.some.injEq] at h
      subst h
      obtain ⟨x, v1, e1, e2, e3, e4, e5⟩ := went_rel (Hc := Hc) hroot h1 (ha 0 X v rfl rfl)
      obtain ⟨v2, g1, g2, g3, g4⟩ := outs_rel hroot rk as q2 vs h2 (by simpa using hl) (fun i A v hA hv => ha (i + 1) A v (by simpa using hA) (by simpa using hv))
      refine ⟨v1 ++ v2, by simp [Went.app, e2, g1], by simp [Went.app, e1, g2], fun p hp => (List.mem_append.1 hp).elim (e4 p) (g3 p), fun n ρo rest hlt hc => ?_⟩
      simp only [Went.app] at hlt hc ⊢
      obtain ⟨k1, k2⟩ := e5 n ρo (hlt.sub fun l hl => List.mem_append_left _ hl) (hc.left e2)
      obtain ⟨k3, k4, k5, k6, k7⟩ := g4 (n + q1.go.length) ρo rest (hlt.sub fun l hl => List.mem_append_right _ hl) (hc.right e2)
      have hcl : (cellsOf own n [] t x).2.length = q1.go.length := by rw [cellsOf_len, e3]
      rw [e1, List.append_assoc, List.singleton_append]
      simp only [results, hcl]
      refine ⟨k3, by simp [hcl, k4], by simp [k5], fun i p u hp hu => ?_, fun i r hi => ?_⟩
      · cases i with
        | zero =>
          simp only [List.getElem?_cons_zero, Option.some.injEq] at hp hu
          subst hp
          subst hu
          exact k1
        | succ i => exact k6 i p u (by simpa using hp) (by simpa using hu)
      · by_cases hi' : i < q1.go.length
        · rw [List.getElem?_append_left (by omega)] at hi
          exact k2 i r hi
        · rw [List.getElem?_append_right (by omega), hcl] at hi
          have := k7 _ r hi
          rwa [show n + q1.go.length + (i - q1.go.length) = n + i by omega] at this
    · cases h

theorem fillP_list : ∀ (ts : List Ty) (l : List (Σ t : Ty, t.D)) (y : Prod' ts), fillP ts l = some y → tupList ts y = l
  | [], [], y, _ => rfl
  | [], _ :: _, y, h => by simp [fillP] at h
  | [t], [], y, h => by simp [fillP] at h
  | [t], [⟨u, x⟩], y, h => by
    simp only [fillP] at h
    split at h
    · rename_i he
      subst he
      simp only [castD_rfl, Option.some.injEq] at h
      subst h
      rfl
    · cases h
  | [t], _ :: _ :: _, y, h => by simp [fillP] at h
  | t :: t' :: ts, [], y, h => by simp [fillP] at h
  | t :: t' :: ts, ⟨u, x⟩ :: r, y, h => by
    simp only [fillP] at h
    split at h
    · rename_i he
      subst he
      split at h
      · rename_i z hz
        simp only [castD_rfl, Option.some.injEq] at h
        subst h
        simp only [tupList, fillP_list (t' :: ts) r z hz]
      · cases h
    · cases h

/-- Roots that stay under their number and with their header. -/
def Keeps (ρ ρo : Map) (l : Nat) : Prop := ρo.hdr l = ρ.hdr l ∧ ∀ b, (ρ.own b).loc = some l → ρo.own b = ρ.own b

theorem keep_arr {l : Nat} {e : Ty} {xs : List e.D} {d : Bool} (hk : Keeps ρ ρo l) (hd : d = true ∨ e.flat = true) (h : RR P ρ w H l (.arr e xs d)) : RR P ρo w Hc l (.arr e xs true) := by
  have h' : ArrR w ρ.own (.main l) e xs (EL w ρ.own l d e) (ρ.hdr l) := h
  show ArrR w ρo.own (.main l) e xs (EL w ρo.own l true e) (ρo.hdr l)
  rw [hk.1]
  refine h'.rekey (fun b hb => (hk.2 b (by rw [hb]; rfl)).trans hb) fun i x us _ he => ?_
  unfold EL at he ⊢
  rw [if_pos rfl]
  split at he
  · exact DR.rekey (fun b j hb => (hk.2 b (by rw [hb]; rfl)).trans hb) e 0 x us he
  · rename_i hdf
    exact DR.ofFlat e 0 x us (hd.resolve_left hdf) he

theorem lent_rel (hroot : ∀ l r, s.root l = some r → RR P ρ w s.root l r) : ∀ (t : Ty) (n : Nat) (x y : t.D), s.view.lent n t x = some y → (∀ i, i < nsl t → Keeps ρ ρo (n + i)) → ∀ (i : Nat) r, (ownCells 0 t y).2[i]? = some r → RR P ρo w Hc (n + i) r
  | .one h, n, x, y, hh, hk, i, r, hi => lent_rel hroot h n x y hh hk i r hi
  | .cons h t, n, x, y, hh, hk, i, r, hi => by
    simp only [View.lent] at hh
    split at hh
    · rename_i y1 y2 h1 h2
      simp only [Option.some.injEq] at hh
      subst hh
      simp only [ownCells] at hi
      by_cases hlt : i < nsl h
      · rw [List.getElem?_append_left (by rw [ownCells_len]; exact hlt)] at hi
        exact lent_rel hroot h n x.1 y1 h1 (fun i hi => hk i (by simp only [nsl]; omega)) i r hi
      · rw [List.getElem?_append_right (by rw [ownCells_len]; omega), ownCells_len, ownCells_roots t _ 0] at hi
        have := lent_rel hroot t (n + nsl h) x.2 y2 h2 (fun i hi => by
          have := hk (nsl h + i) (by simp only [nsl]; omega)
          rwa [← Nat.add_assoc] at this) _ r hi
        rwa [show n + nsl h + (i - nsl h) = n + i by omega] at this
    · cases hh
  | .sl e, n, x, y, hh, hk, i, r, hi => by
    simp only [View.lent] at hh
    split at hh
    · rename_i e' xs d hl
      split at hh
      · rename_i he
        subst he
        split at hh
        · rename_i hd
          simp only [castD_rfl, Option.some.injEq] at hh
          subst hh
          cases i with
          | zero =>
            simp only [ownCells, List.getElem?_cons_zero, Option.some.injEq] at hi
            subst hi
            exact keep_arr (hk 0 (by simp [nsl])) (by simpa using hd) (hroot n _ hl)
          | succ i => simp [ownCells] at hi
        · cases hh
      · cases hh
    · cases hh
  | .int _, n, x, y, hh, hk, i, r, hi | .bool, n, x, y, hh, hk, i, r, hi | .str, n, x, y, hh, hk, i, r, hi => by simp [ownCells] at hi

theorem keep_box {l : Nat} {cs cs' : List C} (hk : Keeps ρ ρo l) (h : RR P ρ w H l (.box cs)) (hc : ∀ vs, CsR P ρ w H cs vs → CsR P ρo w Hc cs' vs) : RR P ρo w Hc l (.box cs') := by
  obtain ⟨b, vs, T, h1, h2, h3, h4⟩ := h
  exact ⟨b, vs, T, hk.1.trans h1, (hk.2 b (by rw [h2]; rfl)).trans h2, h3, hc vs h4⟩

theorem went_cells (hroot : ∀ l r, s.root l = some r → RR P ρ w s.root l r) {own : Bool} {t : Ty} {cs : List C} {q : Went} {vs : List Value} (h : s.view.went own t (.val t.agg cs) = some q) (hc : CsR P ρ w s.root cs vs) :
    ∃ x vals, q.xs = [⟨t, x⟩] ∧ vals.length = q.go.length ∧ (q.go.length = if own then nsl t else 0) ∧ (∀ p ∈ q.go, ∀ l i j, p ≠ .in1 l i j) ∧ ∀ n ρo, Lets ρ ρo.own q.deps → Compat ρ ρo n q.go vals →
      CsR P ρo w Hc (cellsOf own n [] t x).1 vs ∧ ∀ (i : Nat) r, (cellsOf own n [] t x).2[i]? = some r → RR P ρo w Hc (n + i) r := by
  unfold View.went at h
  cases own with
  | true =>
    simp only [if_true, View.hold] at h
    split at h
    · rename_i x p hx
      simp only [Option.some.injEq] at h
      subst h
      split at hx
      · rename_i x' p' hh
        simp only [Option.some.injEq, Prod.mk.injEq] at hx
        obtain ⟨rfl, rfl⟩ := hx
        obtain ⟨v1, v2, vals, rfl, g2, h1, h2⟩ := heldAll_given (Hc := Hc) (Seen.self s) hroot t cs _ _ _ _ hh hc
        have : v2 = [] := by have := g2.1; simpa using this.symm
        subst this
        refine ⟨x', vals, rfl, by rw [h1.2.1, h1.1], by simp [h1.1, slTys_length], fun p'' hp l i j he => ?_, fun n ρo hl hc => ?_⟩
        · subst he
          obtain ⟨k, hk⟩ := List.mem_iff_getElem?.1 hp
          have hlt := (List.getElem?_eq_some_iff.1 hk).1
          obtain ⟨e1, e2, e3⟩ := h1
          have := e3 k (slTys t)[k] _ vals[k] (List.getElem?_eq_getElem (by dsimp only at hlt; omega)) hk (List.getElem?_eq_getElem (by dsimp only at hlt; omega))
          exact absurd this.1 (by simp)
        · rw [List.append_nil]
          simpa [cellsOf] using h2 n ρo hl.1 hc
      · cases hx
    · cases h
  | false =>
    simp only [Bool.false_eq_true, if_false, View.asData, if_true] at h
    split at h
    · rename_i x d hx
      simp only [Option.some.injEq] at h
      subst h
      split at hx
      · rename_i x' d' hh
        simp only [Option.some.injEq, Prod.mk.injEq] at hx
        obtain ⟨rfl, rfl⟩ := hx
        refine ⟨x', [], rfl, rfl, by simp, fun p hp => by simp at hp, fun n ρo hl _ => ⟨?_, fun i r hi => by simp [cellsOf] at hi⟩⟩
        have hr := asm_rd (Seen.self s) hroot hh hc
        simp only [cellsOf, Bool.false_eq_true, if_false]
        exact Rd.cells t x' vs rfl (Rd.mono (fun b _ hb => ⟨.inl (hb.elim (hl.1 b) fun ⟨l, h1, h2⟩ => hl.2 b l h2 h1), rfl⟩) t x' vs hr)
      · cases hx
    · cases h

theorem ios_skip {p : PK} {pk : List PK} {n m : Nat} {q : Went} (h1 : ∀ m, exitIo m (p :: pk) q.xs = (List.replicate p.count none ++ (exitIo m pk q.xs).1, (exitIo m pk q.xs).2)) (h2 : ∀ n, stays n (p :: pk) = stays (n + p.count) pk)
    (h : (∀ l ∈ stays (n + p.count) pk, Keeps ρ ρo l) → (exitIo m pk q.xs).2.length = q.go.length ∧ (∀ (i : Nat) r, (exitIo m pk q.xs).1[i]? = some (some r) → RR P ρo w Hc (n + p.count + i) r) ∧ ∀ (i : Nat) r, (exitIo m pk q.xs).2[i]? = some r → RR P ρo w Hc (m + i) r) :
    (∀ l ∈ stays n (p :: pk), Keeps ρ ρo l) → (exitIo m (p :: pk) q.xs).2.length = q.go.length ∧ (∀ (i : Nat) r, (exitIo m (p :: pk) q.xs).1[i]? = some (some r) → RR P ρo w Hc (n + i) r) ∧ ∀ (i : Nat) r, (exitIo m (p :: pk) q.xs).2[i]? = some r → RR P ρo w Hc (m + i) r := by
  intro hk
  rw [h2] at hk
  obtain ⟨g1, g2, g3⟩ := h hk
  rw [h1]
  refine ⟨g1, fun i r hi => ?_, g3⟩
  dsimp only at hi
  by_cases hlt : i < p.count
  · rw [List.getElem?_append_left (by simpa using hlt), List.getElem?_replicate] at hi
    split at hi <;> simp at hi
  · rw [List.getElem?_append_right (by simp; omega), List.length_replicate] at hi
    have := g2 _ r hi
    rwa [show n + p.count + (i - p.count) = n + i by omega] at this

theorem ios_rel (hroot : ∀ l r, s.root l = some r → RR P ρ w s.root l r) : ∀ (pk : List PK) (L : List (Σ p : PK, p.D)) (n : Nat) (q : Went), L.map (·.1) = pk → s.view.ios n L = some q →
    ∃ vals, vals.length = q.go.length ∧ q.xs.map (·.1) = ioTys pk ∧ (∀ p ∈ q.go, ∀ l i j, p ≠ .in1 l i j) ∧ ∀ m ρo, Lets ρ ρo.own q.deps → Compat ρ ρo m q.go vals → (∀ l ∈ stays n pk, Keeps ρ ρo l) →
      (exitIo m pk q.xs).2.length = q.go.length ∧ (∀ (i : Nat) r, (exitIo m pk q.xs).1[i]? = some (some r) → RR P ρo w Hc (n + i) r) ∧ ∀ (i : Nat) r, (exitIo m pk q.xs).2[i]? = some r → RR P ρo w Hc (m + i) r
  | pk, [], n, q, hp, h => by
    simp only [View.ios, Option.some.injEq] at h
    subst h
    subst hp
    exact ⟨[], rfl, rfl, fun p hp => by simp at hp, fun m ρo _ _ _ => ⟨rfl, fun i r hi => by simp [exitIo] at hi, fun i r hi => by simp [exitIo] at hi⟩⟩
  | pk, ⟨.mv t, x⟩ :: L, n, q, hp, h => by
    subst hp
    simp only [View.ios] at h
    split at h
    · rename_i y q' hy hq
      simp only [Option.some.injEq] at h
      subst h
      obtain ⟨vals, g1, g2, g3, g4⟩ := ios_rel hroot _ L (n + nsl t) q' rfl hq
      refine ⟨vals, by simpa [Went.app] using g1, by simp [Went.app, g2, ioTys], fun p hp => g3 p (by simpa [Went.app] using hp), fun m ρo hl hc hk => ?_⟩
      simp only [Went.app, List.nil_append] at hl hc ⊢
      obtain ⟨k1, k2, k3⟩ := g4 m ρo hl hc (fun l hl => hk l (by simp only [List.map_cons, stays, PK.count]; exact List.mem_append_right _ hl))
      simp only [List.map_cons, List.singleton_append, exitIo]
      refine ⟨k1, fun i r hi => ?_, k3⟩
      by_cases hlt : i < nsl t
      · rw [List.getElem?_append_left (by simpa [ownCells_len] using hlt), List.getElem?_map] at hi
        cases ho : (ownCells 0 t y).2[i]? with
        | none => rw [ho] at hi; cases hi
        | some r0 =>
          rw [ho] at hi
          simp only [Option.map_some, Option.some.injEq] at hi
          subst hi
          exact lent_rel hroot t n x y hy (fun i hi => hk (n + i) (by simp only [List.map_cons, stays, List.mem_append, List.mem_range'_1]; exact .inl ⟨by omega, by omega⟩)) i _ ho
      · rw [List.getElem?_append_right (by simp [ownCells_len]; omega)] at hi
        have := k2 (i - nsl t) r (by simpa [ownCells_len] using hi)
        rwa [show n + nsl t + (i - nsl t) = n + i by omega] at this
    · cases h
  | pk, ⟨.mp t own, x⟩ :: L, n, q, hp, h => by
    subst hp
    simp only [View.ios] at h
    split at h
    · rename_i cs hcs
      split at h
      · rename_i w1 q' hw hq
        simp only [Option.some.injEq] at h
        subst h
        have hbox := hroot n _ hcs
        obtain ⟨b, vs, T, b1, b2, b3, b4⟩ := hbox
        obtain ⟨y, v1, e1, e2, e3, e4, e5⟩ := went_cells (Hc := Hc) hroot hw b4
        obtain ⟨v2, g1, g2, g3, g4⟩ := ios_rel hroot _ L (n + (1 + if own then nsl t else 0)) q' rfl hq
        refine ⟨v1 ++ v2, by simp [Went.app, e2, g1], by simp [Went.app, e1, g2, ioTys], fun p hp => (List.mem_append.1 hp).elim (e4 p) (g3 p), fun m ρo hl hc hk => ?_⟩
        simp only [Went.app] at hl hc ⊢
        obtain ⟨k1, k2⟩ := e5 m ρo (hl.sub fun l hl => List.mem_append_left _ hl) (hc.left e2)
        have hcl : (cellsOf own m [] t y).2.length = w1.go.length := by rw [cellsOf_len, e3]
        obtain ⟨k3, k4, k5⟩ := g4 (m + w1.go.length) ρo (hl.sub fun l hl => List.mem_append_right _ hl) (hc.right e2) (fun l hl => hk l (by simp only [List.map_cons, stays, PK.count]; exact List.mem_append_right _ hl))
        rw [e1, List.singleton_append]
        simp only [List.map_cons, exitIo, hcl]
        refine ⟨by simp [hcl, k3], fun i r hi => ?_, fun i r hi => ?_⟩
        · cases i with
          | zero =>
            simp only [List.getElem?_cons_zero, Option.some.injEq] at hi
            subst hi
            obtain ⟨q1, q2⟩ := hk n (by simp [stays])
            exact ⟨b, vs, T, q1.trans b1, (q2 b (by rw [b2]; rfl)).trans b2, b3, k1⟩
          | succ i =>
            simp only [List.getElem?_cons_succ] at hi
            by_cases hlt : i < if own then nsl t else 0
            · rw [List.getElem?_append_left (by simpa using hlt), List.getElem?_replicate] at hi
              split at hi <;> simp at hi
            · rw [List.getElem?_append_right (by simp; omega), List.length_replicate] at hi
              have := k4 _ r hi
              rwa [show n + (1 + if own then nsl t else 0) + (i - if own then nsl t else 0) = n + (i + 1) by omega] at this
        · by_cases hi' : i < w1.go.length
          · rw [List.getElem?_append_left (by omega)] at hi
            exact k2 i r hi
          · rw [List.getElem?_append_right (by omega), hcl] at hi
            have := k5 _ r hi
            rwa [show m + w1.go.length + (i - w1.go.length) = m + i by omega] at this
      · cases h
    · cases h
  | pk, ⟨.ow t, x⟩ :: L, n, q, hp, h => by
    subst hp
    simp only [View.ios] at h
    obtain ⟨vals, g1, g2, g3, g4⟩ := ios_rel hroot (L.map fun x : (Σ p : PK, p.D) => x.1) L (n + PK.count (.ow t)) q rfl h
    exact ⟨vals, g1, g2, g3, fun m ρo hl hc hk => ios_skip (P := P) (ρ := ρ) (ρo := ρo) (w := w) (Hc := Hc) (q := q) (p := .ow t) (pk := L.map fun x : (Σ p : PK, p.D) => x.1) (n := n) (m := m) (fun m => by simp [exitIo, PK.count]) (fun n => by simp [stays]) (g4 m ρo hl hc) hk⟩
  | pk, ⟨.data t, x⟩ :: L, n, q, hp, h => by
    subst hp
    simp only [View.ios] at h
    obtain ⟨vals, g1, g2, g3, g4⟩ := ios_rel hroot (L.map fun x : (Σ p : PK, p.D) => x.1) L (n + PK.count (.data t)) q rfl h
    exact ⟨vals, g1, g2, g3, fun m ρo hl hc hk => ios_skip (P := P) (ρ := ρ) (ρo := ρo) (w := w) (Hc := Hc) (q := q) (p := .data t) (pk := L.map fun x : (Σ p : PK, p.D) => x.1) (n := n) (m := m) (fun m => by simp [exitIo, PK.count]) (fun n => by simp [stays]) (g4 m ρo hl hc) hk⟩
  | pk, ⟨.rp t, x⟩ :: L, n, q, hp, h => by
    subst hp
    simp only [View.ios] at h
    obtain ⟨vals, g1, g2, g3, g4⟩ := ios_rel hroot (L.map fun x : (Σ p : PK, p.D) => x.1) L (n + PK.count (.rp t)) q rfl h
    exact ⟨vals, g1, g2, g3, fun m ρo hl hc hk => ios_skip (P := P) (ρ := ρ) (ρo := ρo) (w := w) (Hc := Hc) (q := q) (p := .rp t) (pk := L.map fun x : (Σ p : PK, p.D) => x.1) (n := n) (m := m) (fun m => by simp [exitIo, PK.count]) (fun n => by simp [stays]) (g4 m ρo hl hc) hk⟩
  | pk, ⟨.fn i o, x⟩ :: L, n, q, hp, h => by
    subst hp
    simp only [View.ios] at h
    obtain ⟨vals, g1, g2, g3, g4⟩ := ios_rel hroot (L.map fun x : (Σ p : PK, p.D) => x.1) L (n + PK.count (.fn i o)) q rfl h
    exact ⟨vals, g1, g2, g3, fun m ρo hl hc hk => ios_skip (P := P) (ρ := ρ) (ρo := ρo) (w := w) (Hc := Hc) (q := q) (p := .fn i o) (pk := L.map fun x : (Σ p : PK, p.D) => x.1) (n := n) (m := m) (fun m => by simp [exitIo, PK.count]) (fun n => by simp [stays]) (g4 m ρo hl hc) hk⟩
  | pk, ⟨.rfn i o, x⟩ :: L, n, q, hp, h => by
    subst hp
    simp only [View.ios] at h
    obtain ⟨vals, g1, g2, g3, g4⟩ := ios_rel hroot (L.map fun x : (Σ p : PK, p.D) => x.1) L (n + PK.count (.rfn i o)) q rfl h
    exact ⟨vals, g1, g2, g3, fun m ρo hl hc hk => ios_skip (P := P) (ρ := ρ) (ρo := ρo) (w := w) (Hc := Hc) (q := q) (p := .rfn i o) (pk := L.map fun x : (Σ p : PK, p.D) => x.1) (n := n) (m := m) (fun m => by simp [exitIo, PK.count]) (fun n => by simp [stays]) (g4 m ρo hl hc) hk⟩

end Go.Proofs.YtgjneigkkgaaiaaGreatDoor.Vd

