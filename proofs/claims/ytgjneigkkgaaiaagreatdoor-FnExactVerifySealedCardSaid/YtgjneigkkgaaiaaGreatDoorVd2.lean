/- A typed abstract semantics of Go code and its soundness over the model: part 2. No conditions. -/
import Derived.Test.YtgjneigkkgaaiaaGreatDoorVd1
set_option linter.unusedVariables false
set_option linter.unusedSimpArgs false
set_option linter.unusedSectionVars false
set_option linter.unnecessarySimpa false
/- VdQ -/
namespace Go.Proofs.YtgjneigkkgaaiaaGreatDoor.Vd

variable {P : Program} {E : Env} {ρ : Map} {w : World} {s : S} {a : Act} {K : Ctx} {H : Nat → Option Root}

theorem Later.setRow (w : World) (g : Nat) (cs : Array Value) : Later w (w.setRow g cs) := ⟨by simp, rfl, rfl, rfl⟩

theorem segment {cur : Array Value} {o : Nat} {us : List Value} (hl : o + us.length ≤ cur.size) : ∀ k, (cur.toList.take o ++ us ++ cur.toList.drop (o + us.length)).toArray[k]? = if o ≤ k ∧ k < o + us.length then us[k - o]? else cur[k]? := by
  intro k
  have h1 : (cur.toList.take o).length = o := by simp; omega
  rw [List.getElem?_toArray]
  by_cases hk : k < o
  · rw [List.append_assoc, List.getElem?_append_left (by omega), if_neg (by omega), List.getElem?_take, if_pos hk, Array.getElem?_toList]
  · by_cases hk2 : k < o + us.length
    · rw [List.getElem?_append_left (by rw [List.length_append, h1]; omega), List.getElem?_append_right (by omega), h1, if_pos (by omega)]
    · rw [List.getElem?_append_right (by rw [List.length_append, h1]; omega), if_neg (by omega), List.length_append, h1, List.getElem?_drop, Array.getElem?_toList]
      congr 1
      omega

theorem segment_size {cur : Array Value} {o : Nat} {us : List Value} (hl : o + us.length ≤ cur.size) : (cur.toList.take o ++ us ++ cur.toList.drop (o + us.length)).toArray.size = cur.size := by
  simp
  omega

theorem CsR.oneCell {cs : List C} {vs : List Value} (h : CsR P ρ w H cs vs) : ∀ v ∈ vs, v.oneCell' = true := by
  intro v hv
  obtain ⟨j, hj⟩ := List.mem_iff_getElem?.1 hv
  have hjl := (List.getElem?_eq_some_iff.1 hj).1
  have hc : cs[j]? = some (cs[j]'(by rw [h.1]; exact hjl)) := List.getElem?_eq_getElem _
  exact (h.2 j _ v hc hj).one

/-- The size of a variable's type. -/
theorem Env.sz_run (hT : TyOK P E) {T : TypeId} {n : Nat} (h : E.sz T = some n) (w : World) : (sizeOf T).run P w = .ok n w := by
  unfold Env.sz at h
  split at h
  · rename_i t ht
    simp only [Option.some.injEq] at h
    subst h
    exact shp.size (hT.ty T t ht) w
  · split at h
    · rename_i ho
      simp only [Option.some.injEq] at h
      subst h
      exact (other.agg (hT.other T ho) w).2
    · cases h

theorem vsOf_spec {T : TypeId} {X : A} {cs : List C} (h : vsOf E T X = some cs) {v : Value} (hx : AR P ρ w H X v) : E.sz T = some cs.length ∧ ∃ us, CsR P ρ w H cs us ∧ v.cells = us.toArray := by
  unfold vsOf at h
  split at h
  · split at h
    · rename_i hz
      simp only [Option.some.injEq] at h
      subst h
      exact ⟨hz, VR.cells hx⟩
    · cases h
  · cases h

/-- A store of cells into a block. -/
theorem run_storeAt_row (hT : TyOK P E) {T : TypeId} {cs : List C} {us : List Value} {v : Value} (hz : E.sz T = some cs.length) (hcs : CsR P ρ w H cs us) (hv : v.cells = us.toArray) {b o : Nat} {cur : Array Value} {TT : TypeId}
    (hb : w.heap[b]? = some (.cells cur TT (0, 0))) (hl : o + us.length ≤ cur.size) :
    (Instr.storeAt T (.pointer (some ⟨b, o, none⟩)) v).run P w = .ok () (w.setRow b (cur.toList.take o ++ us ++ cur.toList.drop (o + us.length)).toArray) := by
  have h1 := run_storeCells_at P b o TT us 0 cur w hb (by simpa using hl) hcs.oneCell
  simp only [Nat.add_zero] at h1
  have h2 := Env.sz_run hT hz w
  have h3 : us.length = cs.length := hcs.1.symm
  simp only [Instr.storeAt, Instr.sureAddr, storeVar, Sem.run_bind, Sem.run_pure, Result.andThen_ok, h2, hv, List.size_toArray, h3, ne_eq, not_true_eq_false, if_false]
  simpa [h3] using h1

theorem killed_in {ks : List (Nat × Bool)} {ms : List (Nat × C)} {l : Nat} : Killed ⟨ks, ms⟩ l ↔ l ∈ ks.map Prod.fst := by
  constructor
  · rintro ⟨b, hb⟩; exact List.mem_map.2 ⟨_, hb, rfl⟩
  · intro h
    obtain ⟨⟨l', b⟩, hb, rfl⟩ := List.mem_map.1 h
    exact ⟨b, hb⟩

/-- One block of a root's own is written; nothing else. -/
theorem Chg.write {ρ : Map} {l : Nat} {g : Nat} {cs : Array Value} {H' : Nat → Option Root} (ho : (ρ.own g).loc = some l) (hH : ∀ l', l' ≠ l → ∀ e xs d, H l' = some (.arr e xs d) → H' l' = some (.arr e xs d)) :
    Chg P ρ ρ w (w.setRow g cs) H H' ⟨[(l, false)], []⟩ where
  later := Later.setRow w g cs
  free := fun b _ h => ⟨h, setRow_other w g b cs (by rintro rfl; rw [h] at ho; cases ho)⟩
  off := fun b _ h => ⟨h, setRow_other w g b cs (by rintro rfl; rw [h] at ho; cases ho)⟩
  noOff := fun _ h => h
  block := fun b l' _ h hk => ⟨setRow_other w g b cs (by
    rintro rfl
    rw [h] at ho
    simp only [Option.some.injEq] at ho
    exact hk (killed_in.2 (by simp [ho]))), fun _ => rfl⟩
  hdr := fun _ _ _ => rfl
  hdrP := fun _ _ _ _ => rfl
  arr := fun l' e xs d hk _ h => hH l' (by rintro rfl; exact hk (killed_in.2 (by simp))) e xs d h
  mov := fun _ _ h => by cases h
  got := fun _ _ _ _ h => h _
  movB := fun _ _ _ _ h => absurd h not_moved_nil

/-- The step of such a write. -/
theorem Sound.write (hR : Rel P K ρ s a w) {o : Oper} {l g : Nat} {cs : Array Value} {r : Root} {x : A} {v : Value} (ho : (ρ.own g).loc = some l)
    (run : (execOp a.eval o).run P w = .ok (.value v) (w.setRow g cs) ∨ ((execOp a.eval o).run P w = .ok .skip (w.setRow g cs) ∧ v = undef))
    (hr : ∀ H', Chg P ρ ρ w (w.setRow g cs) s.root H' ⟨[(l, false)], []⟩ → H' l = some r → RR P ρ (w.setRow g cs) H' l r ∧ AR P ρ (w.setRow g cs) H' x v) :
    Sound P K s a w o (.ret { dst := x, set := [(l, some r)], kill := [(l, false)] }) := by
  intro _ next Q hnext
  have hc : Chg P ρ ρ w (w.setRow g cs) s.root (s.apply o.dst { dst := x, set := [(l, some r)], kill := [(l, false)] }).root ⟨[(l, false)], []⟩ :=
    Chg.write ho fun l' hl' e xs d h => by rw [root_other (by simpa using hl'), h]; rfl
  obtain ⟨h1, h2⟩ := hr _ hc root_set
  have hrel : Rel P K ρ (s.apply o.dst { dst := x, set := [(l, some r)], kill := [(l, false)] }) (a.put o.dst v) (w.setRow g cs) := by
    refine hR.apply o.dst _ v hc ?_ ?_ (fun _ => h2) ?_ ?_ ?_
    · intro l2 r2 hm
      simp only [List.mem_singleton, Prod.mk.injEq, Option.some.injEq] at hm
      obtain ⟨rfl, rfl⟩ := hm
      exact h1
    · rintro l2 (hk | hm)
      · have := killed_in.1 hk; simpa using this
      · exact absurd hm not_moved_nil
    · intro b l2 hb
      rw [apply_H]
      exact Nat.lt_of_lt_of_le (hR.live b l2 hb) (Nat.le_trans (by rw [swept_H]; simp) (setAll_length_ge _ _).1)
    · intro b hb
      exact hR.fresh b (by simpa using hb)
    · intro _ _ _; rfl
  rcases run with run | ⟨run, rfl⟩
  · exact wp_value run (hnext _ _ _ _ rfl hrel)
  · exact wp_skip' run (hnext _ _ _ _ rfl hrel)

theorem CsR.seg {cs ds : List C} {cur : Array Value} {us : List Value} (h : CsR P ρ w H cs cur.toList) (h' : CsR P ρ w H ds us) {off : Nat} (hl : off + us.length ≤ cur.size) :
    CsR P ρ w H (setCells cs off ds) (cur.toList.take off ++ us ++ cur.toList.drop (off + us.length)) := by
  obtain ⟨h3, h4⟩ := setCells_spec ds cs off
  have hlen : cs.length = cur.size := h.1.trans (by simp)
  have h6 := segment_size hl
  rw [List.size_toArray] at h6
  refine ⟨h3.trans (hlen.trans h6.symm), fun k c v hc hv => ?_⟩
  have h5 := segment hl k
  rw [List.getElem?_toArray] at h5
  rw [h5] at hv
  rw [h4 k, h'.1] at hc
  by_cases hk : off ≤ k ∧ k < off + us.length
  · rw [if_pos (by omega)] at hc
    rw [if_pos hk] at hv
    exact h'.2 _ c v hc hv
  · rw [if_neg (by omega)] at hc
    rw [if_neg hk] at hv
    exact h.2 k c v hc (by simpa using hv)

theorem storeBox_sound (hR : Rel P K ρ s a w) (hT : TyOK P E) {o : Oper} {T : TypeId} {x y : Operand} (ho : o.op = .store T x y) {l off : Nat} {cs vs : List C} {Y : A} (hl : s.root l = some (.box cs))
    (hvs : vsOf E T Y = some vs) (hle : off + vs.length ≤ cs.length) (hx : AR P ρ w s.root (.val false [.bp l off]) (a.eval x)) (hy : AR P ρ w s.root Y (a.eval y)) :
    Sound P K s a w o (.ret { dst := .none, set := [(l, some (.box ((setCells cs off vs).map (C.left ⟨[(l, false)], []⟩))))], kill := [(l, false)] }) := by
  obtain ⟨b, hb, hv⟩ := VR.cell hx
  obtain ⟨b', cur, TT, hb', hown, hh, hcs⟩ := hR.root l _ hl
  rw [hb] at hb'
  simp only [Value.pointer.injEq, Option.some.injEq, Addr.mk.injEq, and_true] at hb'
  subst hb'
  obtain ⟨hz, us, hus, hcells⟩ := vsOf_spec hvs hy
  have hcs' : CsR P ρ w s.root cs cur.toArray.toList := by simpa using hcs
  have hlen : off + us.length ≤ cur.toArray.size := by
    have h1 := hcs.1
    have h2 := hus.1
    simp only [List.size_toArray]
    omega
  have run := run_storeAt_row hT hz hus hcells hh hlen
  refine Sound.write hR (cs := (cur.toArray.toList.take off ++ us ++ cur.toArray.toList.drop (off + us.length)).toArray) (g := b) (v := undef) (by rw [hown]; rfl) (.inr ⟨?_, rfl⟩) fun H' hc hH => ⟨?_, rfl⟩
  · simp only [execOp, ho, hv, Sem.run_bind]
    rw [run]
    rfl
  · exact ⟨b, _, TT, hb, hown, setRow_heap w b _ _ TT (0, 0) hh, CsR.left hc (hcs'.seg hus hlen)⟩

end Go.Proofs.YtgjneigkkgaaiaaGreatDoor.Vd

/- VdR -/
namespace Go.Proofs.YtgjneigkkgaaiaaGreatDoor.Vd

variable {P : Program} {E : Env} {ρ : Map} {w w' : World} {s : S} {a : Act} {K : Ctx} {H : Nat → Option Root}

theorem DR.set {own : Nat → Own} {l i : Nat} : (t : Ty) → (j0 : Nat) → (x : t.D) → (us : List Value) → DR w own l i t j0 x us → ∀ (j : Nat) (u : Ty) (y z : u.D) v,
    cellAt t x j = some ⟨u, y⟩ → DR w own l i u (j0 + j) z [v] → DR w own l i t j0 (setAt t x j u z) (us.set j v)
  | .one h, j0, x, us, hr, j, u, y, z, v, hc, hz => DR.set h j0 x us hr j u y z v hc hz
  | .cons h t, j0, x, us, hr, j, u, y, z, v, hc, hz => by
    obtain ⟨v1, v2, rfl, h1, h2⟩ := hr
    have hl := DR.length h _ _ _ h1
    simp only [cellAt] at hc
    simp only [setAt]
    by_cases hj : j < h.size
    · rw [if_pos hj] at hc ⊢
      exact ⟨v1.set j v, v2, by rw [List.set_append_left _ _ (by omega)], DR.set h j0 x.1 v1 h1 j u y z v hc hz, h2⟩
    · rw [if_neg hj] at hc ⊢
      refine ⟨v1, v2.set (j - h.size) v, by rw [List.set_append_right _ _ (by omega), hl], h1, DR.set t (j0 + h.size) x.2 v2 h2 (j - h.size) u y z v hc ?_⟩
      rwa [show j0 + h.size + (j - h.size) = j0 + j by omega]
  | .int k, j0, x, us, hr, j, u, y, z, v, hc, hz => by
    cases j with
    | succ j => simp [cellAt] at hc
    | zero =>
      simp only [cellAt, Option.some.injEq] at hc
      cases hc
      simp only [DR] at hr hz
      subst hr
      simp only [List.cons.injEq, and_true] at hz
      subst hz
      simp [setAt, castD, DR]
  | .bool, j0, x, us, hr, j, u, y, z, v, hc, hz => by
    cases j with
    | succ j => simp [cellAt] at hc
    | zero =>
      simp only [cellAt, Option.some.injEq] at hc
      cases hc
      simp only [DR] at hr hz
      subst hr
      simp only [List.cons.injEq, and_true] at hz
      subst hz
      simp [setAt, castD, DR]
  | .str, j0, x, us, hr, j, u, y, z, v, hc, hz => by
    cases j with
    | succ j => simp [cellAt] at hc
    | zero =>
      simp only [cellAt, Option.some.injEq] at hc
      cases hc
      simp only [DR] at hr hz
      subst hr
      simp only [List.cons.injEq, and_true] at hz
      subst hz
      simp [setAt, castD, DR]
  | .sl e, j0, x, us, hr, j, u, y, z, v, hc, hz => by
    cases j with
    | succ j => simp [cellAt] at hc
    | zero =>
      simp only [cellAt, Option.some.injEq] at hc
      cases hc
      obtain ⟨v0, rfl, _⟩ := hr
      simpa [setAt, castD] using hz

theorem Rd.set {A : Nat → Prop} : (t : Ty) → (x : t.D) → (us : List Value) → Rd w A t x us → ∀ (j : Nat) (u : Ty) (y z : u.D) v,
    cellAt t x j = some ⟨u, y⟩ → Rd w A u z [v] → Rd w A t (setAt t x j u z) (us.set j v)
  | .one h, x, us, hr, j, u, y, z, v, hc, hz => Rd.set h x us hr j u y z v hc hz
  | .cons h t, x, us, hr, j, u, y, z, v, hc, hz => by
    obtain ⟨v1, v2, rfl, h1, h2⟩ := hr
    have hl := h1.length
    simp only [cellAt] at hc
    simp only [setAt]
    by_cases hj : j < h.size
    · rw [if_pos hj] at hc ⊢
      exact ⟨v1.set j v, v2, by rw [List.set_append_left _ _ (by omega)], Rd.set h x.1 v1 h1 j u y z v hc hz, h2⟩
    · rw [if_neg hj] at hc ⊢
      exact ⟨v1, v2.set (j - h.size) v, by rw [List.set_append_right _ _ (by omega), hl], h1, Rd.set t x.2 v2 h2 (j - h.size) u y z v hc hz⟩
  | .int k, x, us, hr, j, u, y, z, v, hc, hz => by
    cases j with
    | succ j => simp [cellAt] at hc
    | zero =>
      simp only [cellAt, Option.some.injEq] at hc
      cases hc
      simp only [Rd] at hr
      subst hr
      simpa [setAt, castD] using hz
  | .bool, x, us, hr, j, u, y, z, v, hc, hz => by
    cases j with
    | succ j => simp [cellAt] at hc
    | zero =>
      simp only [cellAt, Option.some.injEq] at hc
      cases hc
      simp only [Rd] at hr
      subst hr
      simpa [setAt, castD] using hz
  | .str, x, us, hr, j, u, y, z, v, hc, hz => by
    cases j with
    | succ j => simp [cellAt] at hc
    | zero =>
      simp only [cellAt, Option.some.injEq] at hc
      cases hc
      simp only [Rd] at hr
      subst hr
      simpa [setAt, castD] using hz
  | .sl e, x, us, hr, j, u, y, z, v, hc, hz => by
    cases j with
    | succ j => simp [cellAt] at hc
    | zero =>
      simp only [cellAt, Option.some.injEq] at hc
      cases hc
      obtain ⟨a, cap, rfl, _⟩ := hr
      simpa [setAt, castD] using hz

/-- An element's relation: in memory of its own, or only read. -/
def EL0 (w : World) (own : Nat → Own) (l i : Nat) (d : Bool) (t : Ty) (j : Nat) (x : t.D) (us : List Value) : Prop :=
  if d then DR w own l i t j x us else Rd w (Free own) t x us

theorem EL0.set {own : Nat → Own} {l i : Nat} {d : Bool} {t : Ty} {x : t.D} {us : List Value} (h : EL0 w own l i d t 0 x us) {j : Nat} {u : Ty} {y z : u.D} {v : Value} (hc : cellAt t x j = some ⟨u, y⟩) (hz : EL0 w own l i d u j z [v]) :
    EL0 w own l i d t 0 (setAt t x j u z) (us.set j v) := by
  unfold EL0 at h hz ⊢
  cases d with
  | true => exact DR.set t 0 x us (by simpa using h) j u y z v hc (by simpa using hz)
  | false => exact Rd.set t x us (by simpa using h) j u y z v hc (by simpa using hz)

/-- The owners when roots move into root l. -/
def Map.take (ρ : Map) (l : Nat) (deep : Bool) (ms : List Mv) : Map :=
  { ρ with own := fun b => match ρ.own b with
    | .main l' => match ms.find? (fun q => q.l == l') with
      | some q => if deep then .inner l q.i q.j else .free
      | none => .main l'
    | .inner l' i j => match ms.find? (fun q => q.l == l') with
      | some q => if deep then .inner l q.i q.j else .free
      | none => if l' = l then (if deep then .inner l' i j else .free) else .inner l' i j
    | o => o }

theorem find_mv {ms : List Mv} (hn : (mvLocs ms).Nodup) {q : Mv} (hq : q ∈ ms) : ms.find? (fun p => p.l == q.l) = some q := by
  induction ms with
  | nil => cases hq
  | cons p ms ih =>
    simp only [mvLocs, List.map_cons, List.nodup_cons] at hn
    rcases List.mem_cons.1 hq with rfl | hq'
    · simp
    · have : p.l ≠ q.l := by
        intro h
        exact hn.1 (h ▸ List.mem_map.2 ⟨q, hq', rfl⟩)
      rw [List.find?_cons_of_neg (by simpa using this)]
      exact ih hn.2 hq'

/-- What a step must leave alone for the moved data to stand: all but the main blocks of root l. -/
structure Kept (ρ : Map) (w w' : World) (l : Nat) (own' : Nat → Own) (deep : Bool) (ms : List Mv) : Prop where
  heap : ∀ b, b < w.heap.size → ρ.own b ≠ .main l → w'.heap[b]? = w.heap[b]?
  own : ∀ b, b < w.heap.size → ρ.own b ≠ .main l → own' b = (ρ.take l deep ms).own b
  nodup : (mvLocs ms).Nodup
  apart : l ∉ mvLocs ms

theorem Kept.free {own' : Nat → Own} {l : Nat} {deep : Bool} {ms : List Mv} (h : Kept ρ w w' l own' deep ms) {b : Nat} (hb : b < w.heap.size) (ho : ρ.own b = .free) : own' b = .free ∧ w'.heap[b]? = w.heap[b]? :=
  ⟨by rw [h.own b hb (by rw [ho]; simp)]; simp [Map.take, ho], h.heap b hb (by rw [ho]; simp)⟩

theorem Kept.rdFree {own' : Nat → Own} {l : Nat} {deep : Bool} {ms : List Mv} (h : Kept ρ w w' l own' deep ms) {t : Ty} {x : t.D} {us : List Value} (hr : Rd w (Free ρ.own) t x us) : Rd w' (Free own') t x us :=
  Rd.mono (fun _ hb ho => h.free hb ho) t x us hr

/-- A root of elements without slices, moved. -/
theorem Kept.root {own' : Nat → Own} {l : Nat} {deep : Bool} {ms : List Mv} (h : Kept ρ w w' l own' deep ms) {q : Mv} (hq : q ∈ ms) {e : Ty} {xs : List e.D} {d : Bool} (hf : e.flat = true) (hr : RR P ρ w H q.l (.arr e xs d)) :
    ArrR w' own' (if deep then .inner l q.i q.j else .free) e xs (fun _ y us => Rd w' (Free own') e y us) (ρ.hdr q.l) := by
  have hne : q.l ≠ l := by rintro rfl; exact h.apart (List.mem_map.2 ⟨q, hq, rfl⟩)
  rcases hr with ⟨a, h1, h2⟩ | ⟨b, cap, vs, T, h1, h2, h3, h4, h5, h6, h7⟩
  · exact .inl ⟨a, h1, h2⟩
  · have hb : b < w.heap.size := (Array.getElem?_eq_some_iff.1 h5).1
    have hm : ρ.own b ≠ .main l := by rw [h4]; simpa using hne
    refine .inr ⟨b, cap, vs, T, h1, h2, h3, ?_, (h.heap b hb hm).trans h5, h6, fun i x hx => ?_⟩
    · rw [h.own b hb hm]
      simp [Map.take, h4, find_mv h.nodup hq]
    · obtain ⟨us, g1, g2, g3⟩ := h7 i x hx
      refine ⟨us, g1, g2, ?_⟩
      unfold EL at g3
      cases d with
      | true =>
        exact Rd.flat e x us hf (DR.rd (A := fun _ => True) (fun _ _ => trivial) e 0 x us (by simpa using g3))
      | false => exact Rd.flat e x us hf (by simpa using g3)

/-- A cell that goes into element i, cell j. -/
theorem moved_rel {V : View} (hV : Seen V s) (hroot : ∀ l r, s.root l = some r → RR P ρ w s.root l r) {own' : Nat → Own} {l i j : Nat} {deep : Bool} {ms : List Mv} (h : Kept ρ w w' l own' deep ms) {c : C} {t : Ty} {x : t.D} {b : Bool} {m : List Mv} {v : Value}
    (hm : V.moved i j c t = some (x, b, m)) (hsub : ∀ q ∈ m, q ∈ ms) (hd : deep = true → b = true) (hc : CR P ρ w s.root c v) : t.agg = false → EL0 w' own' l i deep t j x [v] := by
  intro hagg
  unfold View.moved at hm
  split at hm
  · rename_i e
    split at hm
    · simp only [Option.some.injEq, Prod.mk.injEq] at hm
      obtain ⟨rfl, rfl, rfl⟩ := hm
      obtain ⟨a', rfl⟩ := hc
      unfold EL0
      cases deep with
      | true => exact ⟨_, rfl, hd rfl, .inl ⟨a', rfl, rfl⟩⟩
      | false => exact Rd.empty
    · rename_i l2
      split at hm
      · rename_i e' xs d hl
        split at hm
        · rename_i he
          subst he
          split at hm
          · rename_i hfl
            simp only [Option.some.injEq, Prod.mk.injEq] at hm
            obtain ⟨rfl, rfl, rfl⟩ := hm
            obtain ⟨rfl, _⟩ := hc
            have hq := hsub _ (List.mem_singleton.2 rfl)
            have := h.root hq hfl (hroot l2 _ (hV l2 _ hl))
            unfold EL0
            cases deep with
            | true =>
              simp only [if_true] at this ⊢
              exact ⟨_, rfl, hfl, this⟩
            | false =>
              simp only [Bool.false_eq_true, if_false] at this ⊢
              exact this.rd (fun b hb => hb) fun i x us _ hr => hr
          · cases hm
        · cases hm
      · cases hm
    · rename_i t' x'
      split at hm
      · rename_i ht
        subst ht
        simp only [Option.some.injEq, Prod.mk.injEq] at hm
        obtain ⟨rfl, rfl, rfl⟩ := hm
        have hdf : deep = false := by cases deep <;> simp_all
        subst hdf
        have h2 : Rd w (Free ρ.own) (.sl e) x' [v] := Rd.mono (fun b _ hb => ⟨hb.elim id (fun ⟨l, hl, _⟩ => by cases hl), rfl⟩) _ _ _ hc.2
        exact h.rdFree h2
      · cases hm
    · cases hm
  · split at hm
    · rename_i hne c0 t' x' d
      split at hm
      · rename_i ht
        subst ht
        simp only [Option.some.injEq, Prod.mk.injEq] at hm
        obtain ⟨rfl, rfl, rfl⟩ := hm
        have h1 := hc.2
        unfold EL0
        cases t' with
        | int k => cases deep <;> exact h1
        | bool => cases deep <;> exact h1
        | str => cases deep <;> exact h1
        | sl e => exact absurd rfl (hne e)
        | one _ => cases hagg
        | cons _ _ => cases hagg
      · cases hm
    · cases hm

end Go.Proofs.YtgjneigkkgaaiaaGreatDoor.Vd

/- VdS -/
namespace Go.Proofs.YtgjneigkkgaaiaaGreatDoor.Vd

variable {P : Program} {E : Env} {ρ : Map} {w w' : World} {s : S} {a : Act} {K : Ctx} {H : Nat → Option Root}

theorem cellAt_agg : (t : Ty) → (x : t.D) → (j : Nat) → ∀ u y, cellAt t x j = some ⟨u, y⟩ → u.agg = false
  | .one h, x, j, u, y, hc => cellAt_agg h x j u y hc
  | .cons h t, x, j, u, y, hc => by
    simp only [cellAt] at hc
    split at hc
    · exact cellAt_agg h x.1 j u y hc
    · exact cellAt_agg t x.2 _ u y hc
  | .int _, x, 0, u, y, hc | .bool, x, 0, u, y, hc | .str, x, 0, u, y, hc | .sl _, x, 0, u, y, hc => by
    simp only [cellAt, Option.some.injEq] at hc
    cases hc
    rfl
  | .int _, x, _ + 1, u, y, hc | .bool, x, _ + 1, u, y, hc | .str, x, _ + 1, u, y, hc | .sl _, x, _ + 1, u, y, hc => by simp [cellAt] at hc

theorem cellAt_setAt : (t : Ty) → (x : t.D) → (j : Nat) → ∀ (u : Ty) (y z : u.D), cellAt t x j = some ⟨u, y⟩ → ∀ k, cellAt t (setAt t x j u z) k = if k = j then some ⟨u, z⟩ else cellAt t x k
  | .one h, x, j, u, y, z, hc, k => cellAt_setAt h x j u y z hc k
  | .cons h t, x, j, u, y, z, hc, k => by
    simp only [cellAt] at hc
    by_cases hj : j < h.size
    · rw [if_pos hj] at hc
      have := cellAt_setAt h x.1 j u y z hc k
      simp only [setAt, if_pos hj, cellAt]
      by_cases hk : k < h.size
      · rw [if_pos hk, if_pos hk]; exact this
      · rw [if_neg hk, if_neg hk, if_neg (by omega)]
    · rw [if_neg hj] at hc
      have := cellAt_setAt t x.2 (j - h.size) u y z hc (k - h.size)
      simp only [setAt, if_neg hj, cellAt]
      by_cases hk : k < h.size
      · rw [if_pos hk, if_pos hk, if_neg (by omega)]
      · rw [if_neg hk, if_neg hk, this]
        by_cases hkj : k = j
        · subst hkj; simp
        · rw [if_neg (by omega), if_neg hkj]
  | .int _, x, 0, u, y, z, hc, k | .bool, x, 0, u, y, z, hc, k | .str, x, 0, u, y, z, hc, k | .sl _, x, 0, u, y, z, hc, k => by
    simp only [cellAt, Option.some.injEq] at hc
    cases hc
    cases k <;> simp [setAt, castD, cellAt]
  | .int _, x, _ + 1, u, y, z, hc, k | .bool, x, _ + 1, u, y, z, hc, k | .str, x, _ + 1, u, y, z, hc, k | .sl _, x, _ + 1, u, y, z, hc, k => by simp [cellAt] at hc

/-- What is known of the roots that moved into an element. -/
def MvIn (ρ : Map) (i : Nat) (e : Ty) (x : e.D) (us : List Value) (m : List Mv) : Prop :=
  ∀ q ∈ m, q.i = i ∧ cellAt e x q.j = some ⟨.sl q.u, q.ys⟩ ∧ us[q.j]? = some (ρ.hdr q.l)

theorem moved_mv {V : View} (hV : Seen V s) (hroot : ∀ l r, s.root l = some r → RR P ρ w s.root l r) {i j : Nat} {c : C} {t : Ty} {x : t.D} {b : Bool} {m : List Mv} {v : Value}
    (hm : V.moved i j c t = some (x, b, m)) (hc : CR P ρ w s.root c v) : ∀ q ∈ m, q.i = i ∧ q.j = j ∧ (⟨t, x⟩ : Σ t : Ty, t.D) = ⟨.sl q.u, q.ys⟩ ∧ v = ρ.hdr q.l := by
  intro q hq
  unfold View.moved at hm
  split at hm
  · split at hm
    · simp only [Option.some.injEq, Prod.mk.injEq] at hm
      obtain ⟨rfl, rfl, rfl⟩ := hm
      cases hq
    · rename_i l2
      split at hm
      · split at hm
        · rename_i he
          subst he
          split at hm
          · simp only [Option.some.injEq, Prod.mk.injEq] at hm
            obtain ⟨rfl, rfl, rfl⟩ := hm
            rw [List.mem_singleton] at hq
            subst hq
            exact ⟨rfl, rfl, rfl, hc.1⟩
          · cases hm
        · cases hm
      · cases hm
    · split at hm
      · simp only [Option.some.injEq, Prod.mk.injEq] at hm
        obtain ⟨_, _, rfl⟩ := hm
        cases hq
      · cases hm
    · cases hm
  · split at hm
    · split at hm
      · simp only [Option.some.injEq, Prod.mk.injEq] at hm
        obtain ⟨_, _, rfl⟩ := hm
        cases hq
      · cases hm
    · cases hm

/-- Cells set in an element, one after another. -/
theorem setAts_rel {V : View} (hV : Seen V s) (hroot : ∀ l r, s.root l = some r → RR P ρ w s.root l r) {own' : Nat → Own} {l i : Nat} {deep : Bool} {ms : List Mv} (h : Kept ρ w w' l own' deep ms) {e : Ty} :
    ∀ (cs : List C) (vs : List Value) (x x' : e.D) (us : List Value) (j : Nat) (b : Bool) (m : List Mv), setAts V i e x j cs = some (x', b, m) → (∀ q ∈ m, q ∈ ms) → (deep = true → b = true) → CsR P ρ w s.root cs vs →
      us.length = e.size → EL0 w' own' l i deep e 0 x us → (vs = [] ∨ j + vs.length ≤ us.length) ∧ EL0 w' own' l i deep e 0 x' (us.take j ++ vs ++ us.drop (j + vs.length)) ∧
        (∀ k, k < j → cellAt e x' k = cellAt e x k) ∧ (∀ q ∈ m, q.i = i ∧ j ≤ q.j ∧ cellAt e x' q.j = some ⟨.sl q.u, q.ys⟩ ∧ vs[q.j - j]? = some (ρ.hdr q.l))
  | [], vs, x, x', us, j, b, m, hs, hsub, hd, hcs, hl, hx => by
    have : vs = [] := by have := hcs.1; simpa using this.symm
    subst this
    simp only [setAts, Option.some.injEq, Prod.mk.injEq] at hs
    obtain ⟨rfl, rfl, rfl⟩ := hs
    exact ⟨.inl rfl, by simpa using hx, fun _ _ => rfl, fun q hq => by cases hq⟩
  | c :: cs, vs, x, x', us, j, b, m, hs, hsub, hd, hcs, hl, hx => by
    match vs, hcs with
    | v :: vs, hcs =>
    have hc0 : CR P ρ w s.root c v := hcs.2 0 c v rfl rfl
    have hcs' : CsR P ρ w s.root cs vs := ⟨by have := hcs.1; simpa using this, fun k c' v' h1 h2 => hcs.2 (k + 1) c' v' (by simpa using h1) (by simpa using h2)⟩
    simp only [setAts] at hs
    split at hs
    · rename_i u y hcell
      split at hs
      · rename_i z b0 m0 hm
        split at hs
        · rename_i x1 b1 m1 hrest
          simp only [Option.some.injEq, Prod.mk.injEq] at hs
          obtain ⟨rfl, rfl, rfl⟩ := hs
          have hjs : j < us.length := by
            rw [hl]
            rcases Nat.lt_or_ge j e.size with h1 | h1
            · exact h1
            · exfalso
              have : cellAt e x j = none := cellAt_none e x j h1
              rw [this] at hcell
              cases hcell
          have hz := moved_rel hV hroot h hm (fun q hq => hsub q (List.mem_append_left _ hq)) (fun hdp => by have := hd hdp; simp only [Bool.and_eq_true] at this; exact this.1) hc0 (cellAt_agg e x j u y hcell)
          have hset := EL0.set hx hcell hz
          obtain ⟨g1, g2, g3, g4⟩ := setAts_rel hV hroot h cs vs (setAt e x j u z) x1 (us.set j v) (j + 1) b1 m1 hrest (fun q hq => hsub q (List.mem_append_right _ hq)) (fun hdp => by have := hd hdp; simp only [Bool.and_eq_true] at this; exact this.2) hcs' (by simpa using hl) hset
          have hlen : j + (vs.length + 1) ≤ us.length := by
            rcases g1 with rfl | g1
            · simp only [List.length_nil]; omega
            · simp only [List.length_set] at g1; omega
          refine ⟨.inr (by simpa using hlen), ?_, fun k hk => ?_, fun q hq => ?_⟩
          · rw [list_seg_step us j v vs hlen] at g2
            simpa using g2
          · rw [g3 k (by omega), cellAt_setAt e x j u y z hcell k, if_neg (by omega)]
          · rcases List.mem_append.1 hq with hq | hq
            · obtain ⟨p1, p2, p3, p4⟩ := moved_mv hV hroot hm hc0 q hq
              refine ⟨p1, by omega, ?_, ?_⟩
              · rw [g3 q.j (by omega), cellAt_setAt e x j u y z hcell, if_pos p2, p3]
              · rw [p2, Nat.sub_self]; simp [p4]
            · obtain ⟨p1, p2, p3, p4⟩ := g4 q hq
              refine ⟨p1, by omega, p3, ?_⟩
              rw [show q.j - j = (q.j - (j + 1)) + 1 by omega, List.getElem?_cons_succ]
              exact p4
        · cases hs
      · cases hs
    · cases hs
where
  cellAt_none : (t : Ty) → (x : t.D) → (j : Nat) → t.size ≤ j → cellAt t x j = none
    | .one h, x, j, hj => cellAt_none h x j hj
    | .cons h t, x, j, hj => by
      have := Ty.size_pos t
      simp only [Ty.size] at hj
      simp only [cellAt]
      rw [if_neg (by omega)]
      exact cellAt_none t x.2 _ (by omega)
    | .int _, x, 0, hj | .bool, x, 0, hj | .str, x, 0, hj | .sl _, x, 0, hj => by simp [Ty.size] at hj
    | .int _, x, _ + 1, hj | .bool, x, _ + 1, hj | .str, x, _ + 1, hj | .sl _, x, _ + 1, hj => rfl

end Go.Proofs.YtgjneigkkgaaiaaGreatDoor.Vd

/- VdU -/
namespace Go.Proofs.YtgjneigkkgaaiaaGreatDoor.Vd

variable {P : Program} {E : Env} {ρ ρ' : Map} {w w' : World} {s : S} {a : Act} {K : Ctx} {H H' : Nat → Option Root}

/-- The sweep of an array's change. -/
def putK (l : Nat) (all deep : Bool) (ms : List Mv) : Sweep := if deep then ⟨[(l, all)], mvTo l ms⟩ else ⟨(l, all) :: allDie (mvLocs ms), []⟩

theorem lookup_mv {l l2 : Nat} {c : C} : ∀ {ms : List Mv}, lookupN l2 (mvTo l ms) = some c → ∃ q ∈ ms, q.l = l2 ∧ c = .ref1 l q.i q.j q.u q.ys
  | [], h => by cases h
  | q :: ms, h => by
    simp only [mvTo, List.map_cons, lookupN] at h
    split at h
    · rename_i he
      cases h
      exact ⟨q, List.mem_cons_self .., he.symm, rfl⟩
    · obtain ⟨q', h1, h2⟩ := lookup_mv h
      exact ⟨q', List.mem_cons_of_mem _ h1, h2⟩

theorem lookup_mv_none {l l2 : Nat} : ∀ {ms : List Mv}, l2 ∉ mvLocs ms → lookupN l2 (mvTo l ms) = none
  | [], _ => rfl
  | q :: ms, h => by
    simp only [mvLocs, List.map_cons, List.mem_cons, not_or] at h
    simp only [mvTo, List.map_cons, lookupN, if_neg h.1]
    exact lookup_mv_none h.2

theorem lookup_mv_mem {l l2 : Nat} : ∀ {ms : List Mv}, l2 ∈ mvLocs ms → (lookupN l2 (mvTo l ms)).isSome = true
  | q :: ms, h => by
    simp only [mvLocs, List.map_cons, List.mem_cons] at h
    simp only [mvTo, List.map_cons, lookupN]
    split
    · rfl
    · rename_i hne
      exact lookup_mv_mem (h.resolve_left hne)
  | [], h => by cases h

theorem find_none {l2 : Nat} : ∀ {ms : List Mv}, l2 ∉ mvLocs ms → ms.find? (fun q => q.l == l2) = none
  | [], _ => rfl
  | q :: ms, h => by
    simp only [mvLocs, List.map_cons, List.mem_cons, not_or] at h
    rw [List.find?_cons_of_neg (by simpa using Ne.symm h.1)]
    exact find_none h.2

theorem find_some {l2 : Nat} {ms : List Mv} (h : l2 ∈ mvLocs ms) : ∃ q, ms.find? (fun q => q.l == l2) = some q := by
  cases hf : ms.find? (fun q => q.l == l2) with
  | some q => exact ⟨q, rfl⟩
  | none =>
    obtain ⟨q, hq, rfl⟩ := List.mem_map.1 h
    have := List.find?_eq_none.1 hf q hq
    simp at this

theorem take_other {l l2 b : Nat} {deep : Bool} {ms : List Mv} (ho : (ρ.own b).loc = some l2) (h1 : l2 ≠ l) (h2 : l2 ∉ mvLocs ms) : (ρ.take l deep ms).own b = ρ.own b := by
  simp only [Map.take]
  cases hb : ρ.own b with
  | free => rfl
  | off => rfl
  | main l' =>
    rw [hb] at ho
    simp only [Own.loc, Option.some.injEq] at ho
    subst ho
    simp [find_none h2]
  | inner l' i j =>
    rw [hb] at ho
    simp only [Own.loc, Option.some.injEq] at ho
    subst ho
    simp [find_none h2, h1]

theorem take_moved {l l2 b : Nat} {deep : Bool} {ms : List Mv} (ho : (ρ.own b).loc = some l2) (h2 : l2 ∈ mvLocs ms) : ∃ i j, (ρ.take l deep ms).own b = if deep then .inner l i j else .free := by
  obtain ⟨q, hq⟩ := find_some h2
  simp only [Map.take]
  cases hb : ρ.own b with
  | free => rw [hb] at ho; cases ho
  | off => rw [hb] at ho; cases ho
  | main l' =>
    rw [hb] at ho
    simp only [Own.loc, Option.some.injEq] at ho
    subst ho
    exact ⟨q.i, q.j, by simp [hq]⟩
  | inner l' i j =>
    rw [hb] at ho
    simp only [Own.loc, Option.some.injEq] at ho
    subst ho
    exact ⟨q.i, q.j, by simp [hq]⟩

theorem take_off {l b : Nat} {deep : Bool} {ms : List Mv} (h : (ρ.take l deep ms).own b = .off) : ρ.own b = .off := by
  simp only [Map.take] at h
  cases hb : ρ.own b with
  | free => rw [hb] at h; cases h
  | off => rfl
  | main l' =>
    rw [hb] at h
    simp only at h
    split at h
    · split at h <;> cases h
    · cases h
  | inner l' i j =>
    rw [hb] at h
    simp only at h
    split at h
    · split at h <;> cases h
    · split at h
      · split at h <;> cases h
      · cases h

theorem take_loc {l b l' : Nat} {deep : Bool} {ms : List Mv} (h : ((ρ.take l deep ms).own b).loc = some l') : l' = l ∨ (ρ.own b).loc = some l' := by
  simp only [Map.take] at h
  cases hb : ρ.own b with
  | free => rw [hb] at h; cases h
  | off => rw [hb] at h; cases h
  | main l2 =>
    rw [hb] at h
    simp only at h
    split at h
    · split at h
      · simp only [Own.loc, Option.some.injEq] at h; exact .inl h.symm
      · cases h
    · exact .inr h
  | inner l2 i j =>
    rw [hb] at h
    simp only at h
    split at h
    · split at h
      · simp only [Own.loc, Option.some.injEq] at h; exact .inl h.symm
      · cases h
    · split at h
      · split at h
        · exact .inr h
        · cases h
      · exact .inr h

theorem Chg.put {l : Nat} {deep all : Bool} {ms : List Mv} (hK : Kept ρ w w' l ρ'.own deep ms) (hlater : Later w w') (hmain : ∀ b, b < w.heap.size → ρ.own b = .main l → ρ'.own b = .main l ∨ ρ'.own b = .free)
    (hnew : ∀ b, w.heap.size ≤ b → ρ'.own b = .free ∨ ρ'.own b = .main l) (hhdr : ∀ l', l' ≠ l → ρ'.hdr l' = ρ.hdr l') (hhl : all = false → ρ'.hdr l = ρ.hdr l)
    (harr : ∀ l' e xs d, l' ≠ l → l' ∉ mvLocs ms → H l' = some (.arr e xs d) → H' l' = some (.arr e xs d))
    (hmv : deep = true → ∀ q ∈ ms, CR P ρ' w' H' (.ref1 l q.i q.j q.u q.ys) (ρ.hdr q.l)) : Chg P ρ ρ' w w' H H' (putK l all deep ms) := by
  have hkl : ∀ l', ¬ Killed (putK l all deep ms) l' → l' ≠ l := by
    rintro l' hk rfl
    apply hk
    unfold putK
    cases deep <;> exact killed_in.2 (by simp)
  have hkm : ∀ l', ¬ Killed (putK l all deep ms) l' → ¬ Moved (putK l all deep ms) l' → l' ∉ mvLocs ms := by
    intro l' hk hm hin
    cases deep with
    | true => exact hm (lookup_mv_mem hin)
    | false => exact hk (killed_in.2 (by simp [putK, allDie, hin]))
  have hall : ∀ l', ¬ KilledAll (putK l all deep ms) l' → ρ'.hdr l' = ρ.hdr l' := by
    intro l' hk
    by_cases hl : l' = l
    · subst hl
      apply hhl
      cases all with
      | false => rfl
      | true => exact absurd (by unfold putK KilledAll; cases deep <;> simp) hk
    · exact hhdr l' hl
  refine ⟨hlater, fun b hb ho => hK.free hb ho, fun b hb ho => ?_, fun b ho => ?_, fun b l' hb ho hk => ?_, fun l' hk _ => hall l' hk, fun l' b hk _ => hall l' hk, fun l' e xs d hk hm h => harr l' e xs d (hkl l' hk) (hkm l' hk hm) h, fun l' c hc => ?_, fun b l' hk hm hno hb => ?_, fun b l' hb ho hm => ?_⟩
  · refine ⟨?_, hK.heap b hb (by rw [ho]; simp)⟩
    rw [hK.own b hb (by rw [ho]; simp)]
    simp [Map.take, ho]
  · rcases Nat.lt_or_ge b w.heap.size with hb | hb
    · by_cases hm : ρ.own b = .main l
      · rcases hmain b hb hm with h | h <;> rw [h] at ho <;> cases ho
      · rw [hK.own b hb hm] at ho
        exact take_off ho
    · rcases hnew b hb with h | h <;> rw [h] at ho <;> cases ho
  · have hne := hkl l' hk
    have hm : ρ.own b ≠ .main l := by
      intro h
      rw [h] at ho
      simp only [Own.loc, Option.some.injEq] at ho
      exact hne ho.symm
    refine ⟨hK.heap b hb hm, fun hmv' => ?_⟩
    rw [hK.own b hb hm]
    exact take_other ho hne (hkm l' hk hmv')
  · cases deep with
    | false => cases hc
    | true =>
      obtain ⟨q, hq, rfl, rfl⟩ := lookup_mv (ms := ms) hc
      have hin : q.l ∈ mvLocs ms := List.mem_map.2 ⟨q, hq, rfl⟩
      refine ⟨fun hk => ?_, ⟨l, q.i, q.j, q.u, q.ys, rfl, ?_⟩, hmv rfl q hq⟩
      · have := killed_in.1 hk
        simp at this
        exact hK.apart (this ▸ hin)
      · simp [Moved, putK, lookup_mv_none hK.apart]
  · have hne := hkl l' hk
    rcases Nat.lt_or_ge b w.heap.size with h1 | h1
    · by_cases h2 : ρ.own b = .main l
      · rcases hmain b h1 h2 with h3 | h3 <;> rw [h3] at hb <;> cases hb
        exact hne rfl
      · rw [hK.own b h1 h2] at hb
        exact (take_loc hb).elim hne (hno b)
    · rcases hnew b h1 with h3 | h3 <;> rw [h3] at hb <;> cases hb
      exact hne rfl
  · cases deep with
    | false => exact absurd hm not_moved_nil
    | true =>
      have hin : l' ∈ mvLocs ms := by
        by_cases h : l' ∈ mvLocs ms
        · exact h
        · simp [Moved, putK, lookup_mv_none h] at hm
      obtain ⟨c, hc⟩ := Option.isSome_iff_exists.1 (lookup_mv_mem (l := l) hin)
      obtain ⟨q, hq, rfl, rfl⟩ := lookup_mv hc
      have hne : q.l ≠ l := fun h => hK.apart (h ▸ hin)
      have hm' : ρ.own b ≠ .main l := by
        intro h
        rw [h] at ho
        simp only [Own.loc, Option.some.injEq] at ho
        exact hne ho.symm
      obtain ⟨i, j, hij⟩ := take_moved (deep := true) (l := l) ho hin
      rw [hK.own b hb hm', hij]
      simp only [putK, if_true, newLoc, hc, Own.loc]

/-- Read as data, element by element. -/
theorem DR.rd2 {own : Nat → Own} {l i : Nat} : (t : Ty) → (j : Nat) → (x : t.D) → (us : List Value) → DR w own l i t j x us → Rd w (fun b => own b = .free ∨ ∃ j, own b = .inner l i j) t x us
  | .sl u, j, ys, us, h => by
    obtain ⟨v, rfl, hu, ha⟩ := h
    exact ha.rd (fun b hb => .inr ⟨j, hb⟩) fun i x us _ hr => Rd.flat u x us hu hr
  | .one h, j, x, us, hh => DR.rd2 h j x us hh
  | .cons h t, j, x, us, hh => by
    obtain ⟨v1, v2, rfl, h1, h2⟩ := hh
    exact ⟨v1, v2, rfl, DR.rd2 h j _ _ h1, DR.rd2 t _ _ _ h2⟩
  | .int _, _, _, _, h => h
  | .bool, _, _, _, h => h
  | .str, _, _, _, h => h

/-- An element that stays. -/
theorem Kept.el {own' : Nat → Own} {l i : Nat} {deep d : Bool} {ms : List Mv} (h : Kept ρ w w' l own' deep ms) {e : Ty} {x : e.D} {us : List Value} (hd : deep = true → d = true) (hx : EL w ρ.own l d e i x us) : EL w' own' l deep e i x us := by
  have inner : ∀ b k j, b < w.heap.size → ρ.own b = .inner l k j → own' b = (if deep then .inner l k j else .free) ∧ w'.heap[b]? = w.heap[b]? := by
    intro b k j hb ho
    refine ⟨?_, h.heap b hb (by rw [ho]; simp)⟩
    rw [h.own b hb (by rw [ho]; simp)]
    simp [Map.take, ho, find_none h.apart]
  unfold EL at hx ⊢
  cases deep with
  | true =>
    rw [hd rfl] at hx
    simp only [if_true] at hx ⊢
    exact DR.step (fun b hb ho => h.free hb ho) (fun b j hb ho => by have := inner b i j hb ho; simpa using this) e 0 x us hx
  | false =>
    cases d with
    | false => exact h.rdFree (by simpa using hx)
    | true =>
      simp only [if_true] at hx
      refine Rd.mono (fun b hb ho => ?_) _ _ _ (DR.rd2 e 0 x us hx)
      rcases ho with ho | ⟨j, ho⟩
      · exact h.free hb ho
      · have := inner b i j hb ho
        simpa [Free] using this

end Go.Proofs.YtgjneigkkgaaiaaGreatDoor.Vd

/- VdV -/
namespace Go.Proofs.YtgjneigkkgaaiaaGreatDoor.Vd

variable {P : Program} {E : Env} {ρ ρ' : Map} {w w' : World} {s : S} {a : Act} {K : Ctx} {H H' : Nat → Option Root}

def putD (x : A) (l : Nat) (r : Root) (all deep : Bool) (ms : List Mv) : Delta :=
  { dst := x, set := (l, some r) :: noRoots (mvLocs ms), kill := (putK l all deep ms).kill, mov := (putK l all deep ms).mov }

theorem noRoots_mem {l : Nat} {r : Option Root} {m : List Nat} (h : (l, r) ∈ noRoots m) : l ∈ m ∧ r = none := by
  simp only [noRoots, List.mem_map, Prod.mk.injEq] at h
  obtain ⟨l', h1, rfl, rfl⟩ := h
  exact ⟨h1, rfl⟩

theorem noRoots_fst (m : List Nat) : (noRoots m).map Prod.fst = m := by simp [noRoots, Function.comp_def]

theorem putD_root {dst : Option Nat} {x : A} {l : Nat} {r : Root} {all deep : Bool} {ms : List Mv} (h : l ∉ mvLocs ms) : (s.apply dst (putD x l r all deep ms)).root l = some r := by
  rcases apply_root s dst (putD x l r all deep ms) l with ⟨_, h1⟩ | h1
  · exact absurd (by simp [putD]) h1
  · rcases List.mem_cons.1 h1 with h2 | h2
    · simp only [Prod.mk.injEq, true_and] at h2; exact h2
    · exact absurd (noRoots_mem h2).1 h

theorem putD_other {dst : Option Nat} {x : A} {l l' : Nat} {r : Root} {all deep : Bool} {ms : List Mv} (h : l' ≠ l) (h' : l' ∉ mvLocs ms) :
    (s.apply dst (putD x l r all deep ms)).root l' = (s.root l').map (Root.left (putK l all deep ms)) :=
  root_other (d := putD x l r all deep ms) (by simp only [putD, List.map_cons, noRoots_fst, List.mem_cons, not_or]; exact ⟨h, h'⟩)

theorem Sound.put (hR : Rel P K ρ s a w) {o : Oper} {l : Nat} {deep all : Bool} {ms : List Mv} {x : A} {v : Value} {r : Root} (hK : Kept ρ w w' l ρ'.own deep ms) (hlater : Later w w')
    (hmain : ∀ b, b < w.heap.size → ρ.own b = .main l → ρ'.own b = .main l ∨ ρ'.own b = .free) (hnew : ∀ b, w.heap.size ≤ b → ρ'.own b = .free ∨ (ρ'.own b = .main l ∧ b < w'.heap.size))
    (hhdr : ∀ l', l' ≠ l → ρ'.hdr l' = ρ.hdr l') (hhl : all = false → ρ'.hdr l = ρ.hdr l) (hfix : ∀ u, (l, u) ∈ K.fix → ρ'.hdr l = ρ.hdr l)
    (run : (execOp a.eval o).run P w = .ok (.value v) w' ∨ ((execOp a.eval o).run P w = .ok .skip w' ∧ v = undef))
    (hr : ∀ H', H' l = some r → RR P ρ' w' H' l r ∧ AR P ρ' w' H' x v ∧ (deep = true → ∀ q ∈ ms, CR P ρ' w' H' (.ref1 l q.i q.j q.u q.ys) (ρ.hdr q.l))) :
    Sound P K s a w o (.ret (putD x l r all deep ms)) := by
  intro _ next Q hnext
  obtain ⟨h1, h2, h3⟩ := hr _ (putD_root (s := s) (dst := o.dst) (x := x) (r := r) (all := all) (deep := deep) hK.apart)
  have hc : Chg P ρ ρ' w w' s.root (s.apply o.dst (putD x l r all deep ms)).root (putK l all deep ms) :=
    Chg.put hK hlater hmain (fun b hb => (hnew b hb).imp id fun h => h.1) hhdr hhl (fun l' e xs d hl hm hh => by rw [putD_other hl hm, hh]; rfl) h3
  have hrel : Rel P K ρ' (s.apply o.dst (putD x l r all deep ms)) (a.put o.dst v) w' := by
    have hlen : l < (s.apply o.dst (putD x l r all deep ms)).H.length := by
      rw [apply_H]
      exact (setAll_length_ge _ _).2 l (some r) (by simp [putD])
    have hold : s.H.length ≤ (s.apply o.dst (putD x l r all deep ms)).H.length := by
      rw [apply_H]
      exact Nat.le_trans (by rw [swept_H]; simp) (setAll_length_ge _ _).1
    refine hR.apply o.dst _ v hc ?_ ?_ (fun _ => h2) ?_ ?_ ?_
    · intro l2 r2 hm
      rcases List.mem_cons.1 hm with h | h
      · simp only [Prod.mk.injEq, Option.some.injEq] at h
        obtain ⟨rfl, rfl⟩ := h
        exact h1
      · cases (noRoots_mem h).2
    · intro l2 hkm
      simp only [putD, List.map_cons, noRoots_fst]
      cases deep with
      | true =>
        rcases hkm with hk | hm
        · have := killed_in.1 hk
          simp [putD, putK] at this
          simp [this]
        · by_cases h : l2 ∈ mvLocs ms
          · exact List.mem_cons_of_mem _ h
          · simp [Moved, putD, putK, lookup_mv_none h] at hm
      | false =>
        rcases hkm with hk | hm
        · have := killed_in.1 hk
          simp only [putD, putK, Bool.false_eq_true, if_false, List.map_cons, allDie, List.map_map, Function.comp_def, List.map_id'] at this
          exact this
        · exact absurd hm not_moved_nil
    · intro b l' hl
      rcases Nat.lt_or_ge b w.heap.size with hb | hb
      · by_cases hm : ρ.own b = .main l
        · rcases hmain b hb hm with h | h
          · rw [h] at hl; simp only [Own.loc, Option.some.injEq] at hl; rw [← hl]; exact hlen
          · rw [h] at hl; cases hl
        · rw [hK.own b hb hm] at hl
          rcases take_loc hl with rfl | h
          · exact hlen
          · exact Nat.lt_of_lt_of_le (hR.live b l' h) hold
      · rcases hnew b hb with h | ⟨h, _⟩
        · rw [h] at hl; cases hl
        · rw [h] at hl; simp only [Own.loc, Option.some.injEq] at hl; rw [← hl]; exact hlen
    · intro b hb
      rcases hnew b (Nat.le_trans hlater.size hb) with h | ⟨_, h⟩
      · exact h
      · omega
    · intro l' u hl
      by_cases h : l' = l
      · subst h; exact hfix u hl
      · exact hhdr l' h
  rcases run with run | ⟨run, rfl⟩
  · exact wp_value run (hnext _ _ _ _ rfl hrel)
  · exact wp_skip' run (hnext _ _ _ _ rfl hrel)

theorem sz_pos {T : TypeId} {n : Nat} (h : E.sz T = some n) : 0 < n := by
  unfold Env.sz at h
  split at h
  · simp only [Option.some.injEq] at h; subst h; exact Ty.size_pos _
  · split at h
    · simp only [Option.some.injEq] at h; omega
    · cases h

theorem storeAp_sound (hR : Rel P K ρ s a w) (hT : TyOK P E) {V : View} (hV : Seen V s) {o : Oper} {T : TypeId} {x z : Operand} (ho : o.op = .store T x z) {l i j : Nat} {e : Ty} {y : e.D} {vs : List C} {Z : A} {xs : List e.D} {d : Bool}
    (hl : V.root l = some (.arr e xs d)) (hvs : vsOf E T Z = some vs) {y' : e.D} {b : Bool} {m : List Mv} (hset : setAts V i e y j vs = some (y', b, m)) (hap : l ∉ mvLocs m) (hnd : (mvLocs m).Nodup)
    (hx : AR P ρ w s.root (.val false [.ap l i j e y]) (a.eval x)) (hz : AR P ρ w s.root Z (a.eval z)) {deep : Bool} (hdeep : deep = true → d = true ∧ b = true) :
    Sound P K s a w o (.ret (putD .none l (.arr e (xs.set i y') deep) false deep m)) := by
  obtain ⟨xs', d', g, n, c, h1, h2, h3, hv⟩ := VR.cell hx
  have hs := hV l _ hl
  rw [hs] at h1
  cases h1
  rcases hR.root l _ hs with ⟨q, _, rfl⟩ | ⟨g', cap, cur, TT, hh, hcap, hmx, hown, hheap, hsz, hel⟩
  · simp at h2
  rw [h3] at hh
  simp only [Value.slice.injEq, Option.some.injEq, Addr.mk.injEq, and_true] at hh
  obtain ⟨rfl, rfl, rfl⟩ := hh
  obtain ⟨us, g1, g2, g3⟩ := hel i y h2
  obtain ⟨hsize, us2, hus, hcells⟩ := vsOf_spec hvs hz
  have hgb : g < w.heap.size := (Array.getElem?_eq_some_iff.1 hheap).1
  generalize hW : w.setRow g (cur.toList.take (i * e.size + j) ++ us2 ++ cur.toList.drop (i * e.size + j + us2.length)).toArray = w'
  have hK : Kept ρ w w' l (ρ.take l deep m).own deep m := by
    refine ⟨fun b hb ho => ?_, fun _ _ _ => rfl, hnd, hap⟩
    rw [← hW]
    exact setRow_other w g b _ (by rintro rfl; exact ho hown)
  have hel0 : EL0 w' (ρ.take l deep m).own l i deep e 0 y us := hK.el (fun h => (hdeep h).1) g3
  obtain ⟨q1, q2, q3, q4⟩ := setAts_rel hV hR.root hK vs us2 y y' us j b m hset (fun q hq => hq) (fun h => (hdeep h).2) hus g1 hel0
  have hne : us2 ≠ [] := by
    rintro rfl
    have := sz_pos hsize
    have h5 := hus.1
    rw [List.length_nil] at h5
    omega
  have hj : j + us2.length ≤ e.size := by have := q1.resolve_left hne; omega
  have hi : i < c := Nat.lt_of_lt_of_le (List.getElem?_eq_some_iff.1 h2).1 hcap
  have hrow : (i + 1) * e.size ≤ c * e.size := Nat.mul_le_mul_right _ hi
  rw [Nat.add_mul, Nat.one_mul] at hrow
  have hfit : i * e.size + j + us2.length ≤ cur.size := by omega
  have run := run_storeAt_row hT hsize hus hcells hheap hfit
  rw [hW] at run
  have hcur' : w'.heap[g]? = some (.cells (cur.toList.take (i * e.size + j) ++ us2 ++ cur.toList.drop (i * e.size + j + us2.length)).toArray TT (0, 0)) := by
    rw [← hW]; exact setRow_heap w g _ _ TT (0, 0) hheap
  have hown' : (ρ.take l deep m).own g = .main l := by
    simp [Map.take, hown, find_none hap]
  have hseg := segment hfit
  -- the element that was written
  have hus' : ∀ (k : Nat) u, (us.take j ++ us2 ++ us.drop (j + us2.length))[k]? = some u → (cur.toList.take (i * e.size + j) ++ us2 ++ cur.toList.drop (i * e.size + j + us2.length)).toArray[i * e.size + k]? = some u := by
    intro k u hk
    have hsg := segment (cur := us.toArray) (o := j) (us := us2) (by simp; omega) k
    simp only [List.getElem?_toArray] at hsg
    rw [hsg] at hk
    rw [hseg]
    split at hk
    · rename_i hc
      rw [if_pos (by omega), show i * e.size + k - (i * e.size + j) = k - j by omega]
      exact hk
    · rename_i hc
      rw [if_neg (by omega)]
      exact g2 k u hk
  have hlen' : (us.take j ++ us2 ++ us.drop (j + us2.length)).length = e.size := by simp; omega
  have hRR : ∀ H', RR P (ρ.take l deep m) w' H' l (.arr e (xs.set i y') deep) := by
    intro H'
    refine .inr ⟨g, c, _, TT, by rw [List.length_set]; exact h3, by rw [List.length_set]; exact hcap, hmx, hown', hcur', (segment_size hfit).trans hsz, fun k x hk => ?_⟩
    by_cases hki : k = i
    · subst hki
      rw [List.getElem?_set_self (List.getElem?_eq_some_iff.1 h2).1] at hk
      cases hk
      exact ⟨_, hlen', hus', q2⟩
    · rw [List.getElem?_set_ne (Ne.symm hki)] at hk
      obtain ⟨us3, p1, p2, p3⟩ := hel k x hk
      refine ⟨us3, p1, fun j' u hj' => ?_, hK.el (fun h => (hdeep h).1) p3⟩
      have hjl := (List.getElem?_eq_some_iff.1 hj').1
      rw [hseg, if_neg ?_]
      · exact p2 j' u hj'
      · rintro ⟨r1, r2⟩
        rcases Nat.lt_or_gt_of_ne hki with hlt | hgt
        · have : (k + 1) * e.size ≤ i * e.size := Nat.mul_le_mul_right _ hlt
          rw [Nat.add_mul, Nat.one_mul] at this
          omega
        · have : (i + 1) * e.size ≤ k * e.size := Nat.mul_le_mul_right _ hgt
          rw [Nat.add_mul, Nat.one_mul] at this
          omega
  refine Sound.put hR (ρ' := ρ.take l deep m) (w' := w') (v := undef) hK (by rw [← hW]; exact Later.setRow _ _ _) (fun b hb hb2 => ?_) (fun b hb => ?_) (fun _ _ => rfl) (fun _ => rfl) (fun _ _ => rfl) (.inr ⟨?_, rfl⟩) fun H' hH => ⟨hRR H', rfl, fun hdp q hq => ?_⟩
  · left
    simp [Map.take, hb2, find_none hap]
  · left
    simp [Map.take, hR.fresh b hb]
  · simp only [execOp, ho, hv, Sem.run_bind]
    rw [run]
    rfl
  · subst hdp
    obtain ⟨p1, p2, p3, p4⟩ := q4 q hq
    have hqj : q.j - j < us2.length := (List.getElem?_eq_some_iff.1 p4).1
    refine ⟨e, xs.set i y', y', us.take j ++ us2 ++ us.drop (j + us2.length), hH, ?_, p3, ?_, ?_, g, _, c, h3, hown', fun k u hk => ?_⟩
    · rw [p1]; exact List.getElem?_set_self (List.getElem?_eq_some_iff.1 h2).1
    · have hsg := segment (cur := us.toArray) (o := j) (us := us2) (by simp; omega) q.j
      simp only [List.getElem?_toArray] at hsg
      rw [hsg, if_pos (by omega)]
      exact p4
    · have := q2
      unfold EL0 at this
      rw [p1]
      simpa using this
    · rw [cell_of_row w' g _ _ TT (0, 0) hcur', p1]
      exact hus' k u hk

end Go.Proofs.YtgjneigkkgaaiaaGreatDoor.Vd

/- VdW -/
namespace Go.Proofs.YtgjneigkkgaaiaaGreatDoor.Vd

variable {P : Program} {E : Env} {ρ ρ' : Map} {w w' : World} {s : S} {a : Act} {K : Ctx} {H H' : Nat → Option Root}

theorem DR.step2 {own : Nat → Own} {l i : Nat} (hf : ∀ b, b < w.heap.size → own b = .free → w'.heap[b]? = w.heap[b]?) :
    (t : Ty) → (j : Nat) → (x : t.D) → (vs : List Value) → (∀ b j', j ≤ j' → j' < j + t.size → b < w.heap.size → own b = .inner l i j' → w'.heap[b]? = w.heap[b]?) → DR w own l i t j x vs → DR w' own l i t j x vs
  | .sl u, j, ys, vs, hb, h => by
    obtain ⟨v, rfl, hu, ha⟩ := h
    exact ⟨v, rfl, hu, ha.step (fun b hs hk => ⟨hk, hb b j (Nat.le_refl _) (by simp [Ty.size]) hs hk⟩) fun i x us _ hr => Rd.flat u x us hu hr⟩
  | .one h, j, x, vs, hb, hh => DR.step2 hf h j x vs hb hh
  | .cons h t, j, x, vs, hb, hh => by
    obtain ⟨v1, v2, rfl, h1, h2⟩ := hh
    exact ⟨v1, v2, rfl, DR.step2 hf h j _ _ (fun b j' p1 p2 => hb b j' p1 (by simp only [Ty.size]; omega)) h1, DR.step2 hf t _ _ _ (fun b j' p1 p2 => hb b j' (by omega) (by simp only [Ty.size]; omega)) h2⟩
  | .int _, _, _, _, _, h => h
  | .bool, _, _, _, _, h => h
  | .str, _, _, _, _, h => h

theorem DR.set2 {own : Nat → Own} {l i : Nat} (hf : ∀ b, b < w.heap.size → own b = .free → w'.heap[b]? = w.heap[b]?) :
    (t : Ty) → (j0 : Nat) → (x : t.D) → (us : List Value) → ∀ (j : Nat) (u : Ty) (y z : List u.D) (v : Value), (∀ b j', j' ≠ j0 + j → b < w.heap.size → own b = .inner l i j' → w'.heap[b]? = w.heap[b]?) → DR w own l i t j0 x us →
      cellAt t x j = some ⟨.sl u, y⟩ → us[j]? = some v → DR w' own l i (.sl u) (j0 + j) z [v] → DR w' own l i t j0 (setAt t x j (.sl u) z) us
  | .one h, j0, x, us, j, u, y, z, v, hb, hr, hc, hv, hz => DR.set2 hf h j0 x us j u y z v hb hr hc hv hz
  | .cons h t, j0, x, us, j, u, y, z, v, hb, hr, hc, hv, hz => by
    obtain ⟨v1, v2, rfl, h1, h2⟩ := hr
    have hl := DR.length h _ _ _ h1
    simp only [cellAt] at hc
    simp only [setAt]
    by_cases hj : j < h.size
    · rw [if_pos hj] at hc ⊢
      rw [List.getElem?_append_left (by omega)] at hv
      exact ⟨v1, v2, rfl, DR.set2 hf h j0 x.1 v1 j u y z v hb h1 hc hv hz, DR.step2 hf t _ _ _ (fun b j' p1 p2 p3 p4 => hb b j' (by omega) p3 p4) h2⟩
    · rw [if_neg hj] at hc ⊢
      rw [List.getElem?_append_right (by omega), hl] at hv
      refine ⟨v1, v2, rfl, DR.step2 hf h _ _ _ (fun b j' p1 p2 p3 p4 => hb b j' (by omega) p3 p4) h1, DR.set2 hf t (j0 + h.size) x.2 v2 (j - h.size) u y z v (fun b j' p1 p2 p3 => hb b j' (by omega) p2 p3) h2 hc hv ?_⟩
      rwa [show j0 + h.size + (j - h.size) = j0 + j by omega]
  | .int k, j0, x, us, j, u, y, z, v, hb, hr, hc, hv, hz => by cases j <;> simp [cellAt] at hc
  | .bool, j0, x, us, j, u, y, z, v, hb, hr, hc, hv, hz => by cases j <;> simp [cellAt] at hc
  | .str, j0, x, us, j, u, y, z, v, hb, hr, hc, hv, hz => by cases j <;> simp [cellAt] at hc
  | .sl e, j0, x, us, j, u, y, z, v, hb, hr, hc, hv, hz => by
    cases j with
    | succ j => simp [cellAt] at hc
    | zero =>
      simp only [cellAt, Option.some.injEq] at hc
      cases hc
      obtain ⟨v0, rfl, _⟩ := hr
      simp only [List.getElem?_cons_zero, Option.some.injEq] at hv
      subst hv
      simpa [setAt, castD] using hz

theorem storeAp1_sound (hR : Rel P K ρ s a w) (hT : TyOK P E) {V : View} (hV : Seen V s) {o : Oper} {T : TypeId} {x z : Operand} (ho : o.op = .store T x z) {l i j i' j' : Nat} {e u : Ty} {ys : List u.D} {y : u.D} {vs : List C} {Z : A} {xs : List e.D}
    (hl : V.root l = some (.arr e xs true)) (hvs : vsOf E T Z = some vs) {y' : u.D} {b : Bool} (hset : setAts V 0 u y j' vs = some (y', b, [])) (hfl : u.flat = true)
    (hx : AR P ρ w s.root (.val false [.ap1 l i j i' j' u ys y]) (a.eval x)) (hz : AR P ρ w s.root Z (a.eval z)) :
    Sound P K s a w o (.ret { dst := .none, set := [(l, some (.arr e (xs.modify i fun x => setAt e x j (.sl u) (ys.set i' y')) true))], kill := [(l, false)] }) := by
  obtain ⟨e', xs', x', us, g, n, c, h1, h2, h3, h4, h5, h6, hv, gm, nm, cm, h7, h8, h9⟩ := VR.cell hx
  have hs := hV l _ hl
  rw [hs] at h1
  cases h1
  obtain ⟨⟨v', hv', _, harr⟩, _⟩ := DR.at e 0 x' us h6 j (.sl u) ys _ h3 h5
  simp only [List.cons.injEq, and_true] at hv'
  subst hv'
  rcases harr with ⟨q, _, rfl⟩ | ⟨g', cap, cur, TT, hh, hcap, hmx, hown, hheap, hsz, hel⟩
  · simp at h4
  simp only [Value.slice.injEq, Option.some.injEq, Addr.mk.injEq, and_true] at hh
  obtain ⟨rfl, rfl, rfl⟩ := hh
  obtain ⟨us1, g1, g2, g3⟩ := hel i' y h4
  obtain ⟨hsize, us2, hus, hcells⟩ := vsOf_spec hvs hz
  have hK : Kept ρ w w l (ρ.take l false []).own false [] := ⟨fun _ _ _ => rfl, fun _ _ _ => rfl, by simp [mvLocs], by simp [mvLocs]⟩
  have hel0 : EL0 w (ρ.take l false []).own l 0 false u 0 y us1 := Rd.flat u y us1 hfl g3
  obtain ⟨q1, q2, _, _⟩ := setAts_rel hV hR.root hK vs us2 y y' us1 j' b [] hset (fun q hq => hq) (fun h => by cases h) hus g1 hel0
  have hne : us2 ≠ [] := by
    rintro rfl
    have := sz_pos hsize
    have h5 := hus.1
    rw [List.length_nil] at h5
    omega
  have hj : j' + us2.length ≤ u.size := by have := q1.resolve_left hne; omega
  have hi : i' < c := Nat.lt_of_lt_of_le (List.getElem?_eq_some_iff.1 h4).1 hcap
  have hrow : (i' + 1) * u.size ≤ c * u.size := Nat.mul_le_mul_right _ hi
  rw [Nat.add_mul, Nat.one_mul] at hrow
  have hfit : i' * u.size + j' + us2.length ≤ cur.size := by omega
  have run := run_storeAt_row hT hsize hus hcells hheap hfit
  have hseg := segment hfit
  have hmain : gm ≠ g := by rintro rfl; rw [hown] at h8; cases h8
  refine Sound.write hR (cs := (cur.toList.take (i' * u.size + j') ++ us2 ++ cur.toList.drop (i' * u.size + j' + us2.length)).toArray) (g := g) (v := undef) (by rw [hown]; simp [Own.loc]) (.inr ⟨?_, rfl⟩) fun H' hc hH => ⟨?_, rfl⟩
  · simp only [execOp, ho, hv, Sem.run_bind]
    rw [run]
    rfl
  · rcases hR.root l _ hs with ⟨q, _, rfl⟩ | ⟨gm', capm, curm, TTm, hhm, hcapm, hmxm, hownm, hheapm, hszm, helm⟩
    · simp at h2
    rw [h7] at hhm
    simp only [Value.slice.injEq, Option.some.injEq, Addr.mk.injEq, and_true] at hhm
    obtain ⟨rfl, rfl, rfl⟩ := hhm
    have hother : ∀ k, k ≠ g → (w.setRow g (cur.toList.take (i' * u.size + j') ++ us2 ++ cur.toList.drop (i' * u.size + j' + us2.length)).toArray).heap[k]? = w.heap[k]? := fun k hk => setRow_other w g k _ hk
    refine .inr ⟨gm, cm, curm, TTm, by rw [List.length_modify]; exact h7, by rw [List.length_modify]; exact hcapm, hmxm, hownm, (hother gm hmain).trans hheapm, hszm, fun k x hk => ?_⟩
    rw [List.getElem?_modify] at hk
    cases hxk : xs[k]? with
    | none => rw [hxk] at hk; simp at hk
    | some xk =>
      rw [hxk] at hk
      simp only [Option.map_eq_map, Option.map_some, Option.some.injEq] at hk
      obtain ⟨us3, p1, p2, p3⟩ := helm k xk hxk
      simp only [EL, if_true] at p3
      by_cases hki : i = k
      · subst hki
        rw [h2] at hxk
        cases hxk
        simp only [if_true] at hk
        subst hk
        have hus3 : us = us3 := by
          refine List.ext_getElem? fun m => ?_
          have hl1 := DR.length e 0 x' us h6
          by_cases hm : m < e.size
          · have a1 := h9 m us[m] (List.getElem?_eq_getElem (by omega))
            rw [cell_of_row w gm _ curm TTm (0, 0) hheapm] at a1
            have a2 := p2 m us3[m] (List.getElem?_eq_getElem (by omega))
            rw [a1] at a2
            rw [List.getElem?_eq_getElem (by omega), List.getElem?_eq_getElem (by omega), a2]
          · rw [List.getElem?_eq_none (by omega), List.getElem?_eq_none (by omega)]
        subst hus3
        refine ⟨us, p1, p2, ?_⟩
        simp only [EL, if_true]
        refine DR.set2 (w := w) (fun b hb hob => hother b (by rintro rfl; rw [hown] at hob; cases hob)) e 0 x' us j u ys (ys.set i' y') _ (fun b j2 hj2 hb hob => hother b (by
          rintro rfl
          rw [hown] at hob
          simp only [Own.inner.injEq, true_and] at hob
          exact hj2 hob.symm)) h6 h3 h5 ⟨_, rfl, hfl, .inr ⟨g, c, _, TT, by rw [List.length_set], by rw [List.length_set]; exact hcap, hmx, hown, setRow_heap w g _ _ TT (0, 0) hheap, (segment_size hfit).trans hsz, fun k x hk => ?_⟩⟩
        by_cases hki : k = i'
        · subst hki
          rw [List.getElem?_set_self (List.getElem?_eq_some_iff.1 h4).1] at hk
          cases hk
          refine ⟨us1.take j' ++ us2 ++ us1.drop (j' + us2.length), by simp; omega, fun k2 v2 hk2 => ?_, ?_⟩
          · have hsg := segment (cur := us1.toArray) (o := j') (us := us2) (by simp; omega) k2
            simp only [List.getElem?_toArray] at hsg
            rw [hsg] at hk2
            rw [hseg]
            split at hk2
            · rename_i hc2
              rw [if_pos (by omega), show k * u.size + k2 - (k * u.size + j') = k2 - j' by omega]
              exact hk2
            · rename_i hc2
              rw [if_neg (by omega)]
              exact g2 k2 v2 hk2
          · exact Rd.flat u y' _ hfl (by simpa [EL0] using q2)
        · rw [List.getElem?_set_ne (Ne.symm hki)] at hk
          obtain ⟨us4, r1, r2, r3⟩ := hel k x hk
          refine ⟨us4, r1, fun j2 v2 hj2 => ?_, Rd.flat u x us4 hfl r3⟩
          have hjl := (List.getElem?_eq_some_iff.1 hj2).1
          rw [hseg, if_neg ?_]
          · exact r2 j2 v2 hj2
          · rintro ⟨t1, t2⟩
            rcases Nat.lt_or_gt_of_ne hki with hlt | hgt
            · have : (k + 1) * u.size ≤ i' * u.size := Nat.mul_le_mul_right _ hlt
              rw [Nat.add_mul, Nat.one_mul] at this
              omega
            · have : (i' + 1) * u.size ≤ k * u.size := Nat.mul_le_mul_right _ hgt
              rw [Nat.add_mul, Nat.one_mul] at this
              omega
      · rw [if_neg hki] at hk
        subst hk
        refine ⟨us3, p1, p2, ?_⟩
        simp only [EL, if_true]
        exact DR.step2 (fun b hb hob => hother b (by rintro rfl; rw [hown] at hob; cases hob)) e 0 xk us3 (fun b j2 _ _ hb hob => hother b (by
          rintro rfl
          rw [hown] at hob
          simp only [Own.inner.injEq, true_and] at hob
          exact hki hob.1)) p3

end Go.Proofs.YtgjneigkkgaaiaaGreatDoor.Vd

/- VdX -/
namespace Go.Proofs.YtgjneigkkgaaiaaGreatDoor.Vd

variable {P : Program} {E : Env} {ρ ρ' : Map} {w w' : World} {s : S} {a : Act} {K : Ctx} {H H' : Nat → Option Root}

theorem EL0.cons {own : Nat → Own} {l i : Nat} {d : Bool} {h t : Ty} {j : Nat} {x : h.D} {y : t.D} {v1 v2 : List Value} (h1 : EL0 w own l i d h j x v1) (h2 : EL0 w own l i d t (j + h.size) y v2) :
    EL0 w own l i d (.cons h t) j (x, y) (v1 ++ v2) := by
  unfold EL0 at h1 h2 ⊢
  cases d with
  | true => exact ⟨v1, v2, rfl, by simpa using h1, by simpa using h2⟩
  | false => exact ⟨v1, v2, rfl, by simpa using h1, by simpa using h2⟩

theorem EL0.length {own : Nat → Own} {l i : Nat} {d : Bool} {t : Ty} {j : Nat} {x : t.D} {us : List Value} (h : EL0 w own l i d t j x us) : us.length = t.size := by
  unfold EL0 at h
  cases d with
  | true => exact DR.length t j x us (by simpa using h)
  | false => exact Rd.length (by simpa using h)

/-- What is known of an element that roots moved into, from its cell j on. -/
def MvAt (ρ : Map) (i j : Nat) (t : Ty) (x : t.D) (us : List Value) (m : List Mv) : Prop :=
  ∀ q ∈ m, q.i = i ∧ j ≤ q.j ∧ q.j < j + t.size ∧ cellAt t x (q.j - j) = some ⟨.sl q.u, q.ys⟩ ∧ us[q.j - j]? = some (ρ.hdr q.l)

theorem movedAll_rel {V : View} (hV : Seen V s) (hroot : ∀ l r, s.root l = some r → RR P ρ w s.root l r) {own' : Nat → Own} {l i : Nat} {deep : Bool} {ms : List Mv} (h : Kept ρ w w' l own' deep ms) :
    ∀ (t : Ty) (j : Nat) (cs : List C) (vs : List Value) (x : t.D) (b : Bool) (m : List Mv) (r : List C), V.movedAll i j t cs = some (x, b, m, r) → (∀ q ∈ m, q ∈ ms) → (deep = true → b = true) → CsR P ρ w s.root cs vs →
      ∃ v1 v2, vs = v1 ++ v2 ∧ CsR P ρ w s.root r v2 ∧ EL0 w' own' l i deep t j x v1 ∧ MvAt ρ i j t x v1 m := by
  have leaf : ∀ (t : Ty) (j : Nat) (c : C) (cs : List C) (vs : List Value) (x : t.D) (b : Bool) (m : List Mv), t.agg = false → cellAt t x 0 = some ⟨t, x⟩ → V.moved i j c t = some (x, b, m) → (∀ q ∈ m, q ∈ ms) → (deep = true → b = true) →
      CsR P ρ w s.root (c :: cs) vs → ∃ v1 v2, vs = v1 ++ v2 ∧ CsR P ρ w s.root cs v2 ∧ EL0 w' own' l i deep t j x v1 ∧ MvAt ρ i j t x v1 m := by
    intro t j c cs vs x b m hagg hcell hm hsub hd hcs
    match vs, hcs with
    | v :: vs, hcs =>
      have hc0 : CR P ρ w s.root c v := hcs.2 0 c v rfl rfl
      refine ⟨[v], vs, rfl, ⟨by have := hcs.1; simpa using this, fun k c' v' h1 h2 => hcs.2 (k + 1) c' v' (by simpa using h1) (by simpa using h2)⟩, moved_rel hV hroot h hm hsub hd hc0 hagg, fun q hq => ?_⟩
      obtain ⟨p1, p2, p3, p4⟩ := moved_mv hV hroot hm hc0 q hq
      refine ⟨p1, by omega, by rw [Ty.size_one hagg]; omega, ?_, ?_⟩
      · rw [p2, Nat.sub_self, hcell, p3]
      · rw [p2, Nat.sub_self]; simp [p4]
  intro t
  induction t with
  | one t ih =>
    intro j cs vs x b m r hm hsub hd hcs
    exact ih j cs vs x b m r (by simpa only [View.movedAll] using hm) hsub hd hcs
  | cons t1 t2 ih1 ih2 =>
    intro j cs vs x b m r hm hsub hd hcs
    simp only [View.movedAll] at hm
    split at hm
    · rename_i x1 b1 m1 r1 hm1
      split at hm
      · rename_i x2 b2 m2 r2 hm2
        simp only [Option.some.injEq, Prod.mk.injEq] at hm
        obtain ⟨rfl, rfl, rfl, rfl⟩ := hm
        have hd1 : deep = true → b1 = true := fun hdp => by have := hd hdp; simp only [Bool.and_eq_true] at this; exact this.1
        have hd2 : deep = true → b2 = true := fun hdp => by have := hd hdp; simp only [Bool.and_eq_true] at this; exact this.2
        obtain ⟨v1, v2, rfl, g1, g2, g3⟩ := ih1 j cs vs x1 b1 m1 r1 hm1 (fun q hq => hsub q (List.mem_append_left _ hq)) hd1 hcs
        obtain ⟨v3, v4, rfl, k1, k2, k3⟩ := ih2 (j + t1.size) r1 v2 x2 b2 m2 r2 hm2 (fun q hq => hsub q (List.mem_append_right _ hq)) hd2 g1
        refine ⟨v1 ++ v3, v4, by simp, k1, g2.cons k2, fun q hq => ?_⟩
        have hl1 := g2.length
        simp only [cellAt, Ty.size]
        rcases List.mem_append.1 hq with hq | hq
        · obtain ⟨p1, p2, p3, p4, p5⟩ := g3 q hq
          refine ⟨p1, p2, by omega, ?_, ?_⟩
          · rw [if_pos (by omega)]; exact p4
          · rw [List.getElem?_append_left (by omega)]; exact p5
        · obtain ⟨p1, p2, p3, p4, p5⟩ := k3 q hq
          refine ⟨p1, by omega, by omega, ?_, ?_⟩
          · rw [if_neg (by omega), show q.j - j - t1.size = q.j - (j + t1.size) by omega]; exact p4
          · rw [List.getElem?_append_right (by omega), hl1, show q.j - j - t1.size = q.j - (j + t1.size) by omega]; exact p5
      · cases hm
    · cases hm
  | int k =>
    intro j cs vs x b m r hm hsub hd hcs
    cases cs with
    | nil => simp [View.movedAll] at hm
    | cons c cs =>
      simp only [View.movedAll] at hm
      split at hm
      · rename_i hm1
        simp only [Option.some.injEq, Prod.mk.injEq] at hm
        obtain ⟨rfl, rfl, rfl, rfl⟩ := hm
        exact leaf (.int k) j c cs vs _ _ _ rfl rfl hm1 hsub hd hcs
      · cases hm
  | bool =>
    intro j cs vs x b m r hm hsub hd hcs
    cases cs with
    | nil => simp [View.movedAll] at hm
    | cons c cs =>
      simp only [View.movedAll] at hm
      split at hm
      · rename_i hm1
        simp only [Option.some.injEq, Prod.mk.injEq] at hm
        obtain ⟨rfl, rfl, rfl, rfl⟩ := hm
        exact leaf .bool j c cs vs _ _ _ rfl rfl hm1 hsub hd hcs
      · cases hm
  | str =>
    intro j cs vs x b m r hm hsub hd hcs
    cases cs with
    | nil => simp [View.movedAll] at hm
    | cons c cs =>
      simp only [View.movedAll] at hm
      split at hm
      · rename_i hm1
        simp only [Option.some.injEq, Prod.mk.injEq] at hm
        obtain ⟨rfl, rfl, rfl, rfl⟩ := hm
        exact leaf .str j c cs vs _ _ _ rfl rfl hm1 hsub hd hcs
      · cases hm
  | sl e _ =>
    intro j cs vs x b m r hm hsub hd hcs
    cases cs with
    | nil => simp [View.movedAll] at hm
    | cons c cs =>
      simp only [View.movedAll] at hm
      split at hm
      · rename_i hm1
        simp only [Option.some.injEq, Prod.mk.injEq] at hm
        obtain ⟨rfl, rfl, rfl, rfl⟩ := hm
        exact leaf (.sl e) j c cs vs _ _ _ rfl rfl hm1 hsub hd hcs
      · cases hm

/-- What a slice brings into an array from element n on. -/
structure Brings (P : Program) (ρ : Map) (w w' : World) (own' : Nat → Own) (l n : Nat) (deep : Bool) (e : Ty) (ys : List e.D) (m : List Mv) (v : Value) : Prop where
  ex : ∃ (q : Option Addr) (c : Nat) (news : List Value), v = .slice q ys.length c ∧ news.length = ys.length * e.size ∧ (∀ u ∈ news, Value.oneCell' u = true) ∧ (ys ≠ [] → ∃ ad, q = some ad ∧ ∀ (j : Nat) u, news[j]? = some u → w.cell? (ad.add j) = some u) ∧
    ∀ (k : Nat) y, ys[k]? = some y → ∃ us, us.length = e.size ∧ (∀ (j : Nat) u, us[j]? = some u → news[k * e.size + j]? = some u) ∧ EL0 w' own' l (n + k) deep e 0 y us ∧ MvAt ρ (n + k) 0 e y us (m.filter fun q => q.i == n + k)
  at' : ∀ q ∈ m, n ≤ q.i ∧ q.i < n + ys.length

/-- A row of cells in a block. -/
theorem row_cells {b o N : Nat} (h : ∀ j, j < N → ∃ u, w.cell? ⟨b, o + j, none⟩ = some u) : ∃ news : List Value, news.length = N ∧ ∀ (j : Nat), j < N → news[j]? = w.cell? ⟨b, o + j, none⟩ := by
  refine ⟨(List.range N).map fun j => (w.cell? ⟨b, o + j, none⟩).getD undef, by simp, fun j hj => ?_⟩
  obtain ⟨u, hu⟩ := h j hj
  simp [hj, hu]

theorem Rd.oneCell {A : Nat → Prop} : {t : Ty} → {x : t.D} → {us : List Value} → Rd w A t x us → ∀ u ∈ us, u.oneCell' = true
  | .int _, _, _, h, u, hu => by simp only [Rd] at h; subst h; simp at hu; subst hu; rfl
  | .bool, _, _, h, u, hu => by simp only [Rd] at h; subst h; simp at hu; subst hu; rfl
  | .str, _, _, h, u, hu => by simp only [Rd] at h; subst h; simp at hu; subst hu; rfl
  | .sl _, _, _, h, u, hu => by obtain ⟨a, cap, rfl, _⟩ := h; simp at hu; subst hu; rfl
  | .one h, _, _, hh, u, hu => Rd.oneCell (t := h) hh u hu
  | .cons h t, _, _, hh, u, hu => by
    obtain ⟨v1, v2, rfl, h1, h2⟩ := hh
    rcases List.mem_append.1 hu with hu | hu
    · exact h1.oneCell u hu
    · exact h2.oneCell u hu

theorem split_index {n sz j : Nat} (hz : 0 < sz) (hj : j < n * sz) : ∃ k r, k < n ∧ r < sz ∧ j = k * sz + r :=
  ⟨j / sz, j % sz, (Nat.div_lt_iff_lt_mul hz).2 hj, Nat.mod_lt _ hz, by rw [Nat.mul_comm]; exact (Nat.div_add_mod j sz).symm⟩

/-- A slice that reads as data, into an array. -/
theorem Brings.ofRd {own' : Nat → Own} {l n : Nat} {deep : Bool} {e : Ty} {ys : List e.D} {v : Value} {A : Nat → Prop} (hr : Rd w A (.sl e) ys [v]) (hel : ∀ k y us, ys[k]? = some y → Rd w A e y us → EL0 w' own' l (n + k) deep e 0 y us) :
    Brings P ρ w w' own' l n deep e ys [] v := by
  obtain ⟨q, c, hv, hle, hb⟩ := hr
  simp only [List.cons.injEq, and_true] at hv
  refine ⟨?_, fun q hq => by cases hq⟩
  by_cases hys : ys = []
  · subst hys
    exact ⟨q, c, [], hv, by simp, by simp, fun h => absurd rfl h, fun k y hk => by simp at hk⟩
  · obtain ⟨b, o, rfl, _, hi⟩ := hb hys
    have hpos := Ty.size_pos e
    have hcell : ∀ j, j < ys.length * e.size → ∃ u, w.cell? ⟨b, o + j, none⟩ = some u ∧ u.oneCell' = true := by
      intro j hj
      obtain ⟨k, r, hk, hr, rfl⟩ := split_index hpos hj
      obtain ⟨us, h1, h2⟩ := hi k ys[k] (List.getElem?_eq_getElem hk)
      have hru : r < us.length := by rw [h1.length]; exact hr
      exact ⟨us[r], by rw [← Nat.add_assoc]; exact h2 r _ (List.getElem?_eq_getElem hru), h1.oneCell _ (List.getElem_mem hru)⟩
    obtain ⟨news, h1, h2⟩ := row_cells (w := w) (b := b) (o := o) (N := ys.length * e.size) fun j hj => by obtain ⟨u, hu, _⟩ := hcell j hj; exact ⟨u, hu⟩
    refine ⟨some ⟨b, o, none⟩, c, news, hv, h1, fun u hu => ?_, fun _ => ⟨_, rfl, fun j u hj => ?_⟩, fun k y hk => ?_⟩
    · obtain ⟨j, hj⟩ := List.mem_iff_getElem?.1 hu
      have hjl := (List.getElem?_eq_some_iff.1 hj).1
      obtain ⟨u', p1, p2⟩ := hcell j (by omega)
      rw [h2 j (by omega), p1] at hj
      cases hj
      exact p2
    · have hjl := (List.getElem?_eq_some_iff.1 hj).1
      rw [Addr.add_lit, ← h2 j (by omega)]
      exact hj
    · obtain ⟨us, p1, p2⟩ := hi k y hk
      refine ⟨us, p1.length, fun j u hj => ?_, hel k y us hk p1, fun q hq => by simp at hq⟩
      have hjl := (List.getElem?_eq_some_iff.1 hj).1
      have hk' := (List.getElem?_eq_some_iff.1 hk).1
      have := row_index (i := k) (n := ys.length) (sz := e.size) (j := j) hk' (by rw [← p1.length]; exact hjl)
      rw [h2 _ this.1, ← Nat.add_assoc]
      exact p2 j u hj

end Go.Proofs.YtgjneigkkgaaiaaGreatDoor.Vd

/- VdY -/
namespace Go.Proofs.YtgjneigkkgaaiaaGreatDoor.Vd

variable {P : Program} {E : Env} {ρ ρ' : Map} {w w' : World} {s : S} {a : Act} {K : Ctx} {H H' : Nat → Option Root}

theorem movedEls_rel {V : View} (hV : Seen V s) (hroot : ∀ l r, s.root l = some r → RR P ρ w s.root l r) {own' : Nat → Own} {l : Nat} {deep : Bool} {ms : List Mv} (h : Kept ρ w w' l own' deep ms) {e : Ty} :
    ∀ (els : List (List C)) (i : Nat) (xs : List e.D) (b : Bool) (m : List Mv), V.movedEls e i els = some (xs, b, m) → (∀ q ∈ m, q ∈ ms) → (deep = true → b = true) →
      xs.length = els.length ∧ (∀ q ∈ m, i ≤ q.i ∧ q.i < i + els.length) ∧
        ∀ (k : Nat) y cs us, xs[k]? = some y → els[k]? = some cs → CsR P ρ w s.root cs us → EL0 w' own' l (i + k) deep e 0 y us ∧ MvAt ρ (i + k) 0 e y us (m.filter fun q => q.i == i + k)
  | [], i, xs, b, m, hm, _, _ => by
    simp only [View.movedEls, Option.some.injEq, Prod.mk.injEq] at hm
    obtain ⟨rfl, rfl, rfl⟩ := hm
    exact ⟨rfl, (fun q hq => by cases hq), fun k y cs us hk => by simp at hk⟩
  | cs0 :: els, i, xs, b, m, hm, hsub, hd => by
    simp only [View.movedEls] at hm
    split at hm
    · rename_i x0 b0 m0 h0
      split at hm
      · rename_i xs1 b1 m1 h1
        simp only [Option.some.injEq, Prod.mk.injEq] at hm
        obtain ⟨rfl, rfl, rfl⟩ := hm
        have hd0 : deep = true → b0 = true := fun hdp => by have := hd hdp; simp only [Bool.and_eq_true] at this; exact this.1
        have hd1 : deep = true → b1 = true := fun hdp => by have := hd hdp; simp only [Bool.and_eq_true] at this; exact this.2
        obtain ⟨g1, g2, g3⟩ := movedEls_rel hV hroot h els (i + 1) xs1 b1 m1 h1 (fun q hq => hsub q (List.mem_append_right _ hq)) hd1
        -- the roots of the first element all bear its number
        have hm0 : ∀ q ∈ m0, q.i = i := movedAll_i e 0 cs0 x0 b0 m0 [] h0
        refine ⟨by simp [g1], fun q hq => ?_, fun k y cs us hk hcs hc => ?_⟩
        · rcases List.mem_append.1 hq with hq | hq
          · have := hm0 q hq; simp only [List.length_cons]; omega
          · have := g2 q hq; simp only [List.length_cons]; omega
        · cases k with
          | zero =>
            simp at hk hcs
            subst hk
            subst hcs
            obtain ⟨v1, v2, rfl, p1, p2, p3⟩ := movedAll_rel hV hroot h e 0 cs0 us x0 b0 m0 [] h0 (fun q hq => hsub q (List.mem_append_left _ hq)) hd0 hc
            have : v2 = [] := by have := p1.1; simpa using this.symm
            subst this
            rw [List.append_nil]
            refine ⟨p2, fun q hq => ?_⟩
            obtain ⟨q1, q2⟩ := List.mem_filter.1 hq
            simp only [Nat.add_zero, beq_iff_eq] at q2
            rcases List.mem_append.1 q1 with q1 | q1
            · exact p3 q q1
            · have := g2 q q1; omega
          | succ k =>
            obtain ⟨p1, p2⟩ := g3 k y cs us (by simpa using hk) (by simpa using hcs) hc
            rw [show i + (k + 1) = i + 1 + k by omega]
            refine ⟨p1, fun q hq => ?_⟩
            obtain ⟨q1, q2⟩ := List.mem_filter.1 hq
            rcases List.mem_append.1 q1 with q1 | q1
            · have := hm0 q q1
              simp only [beq_iff_eq] at q2
              omega
            · exact p2 q (List.mem_filter.2 ⟨q1, q2⟩)
      · cases hm
    · cases hm
where
  movedAll_i {V : View} {i : Nat} : (t : Ty) → (j : Nat) → (cs : List C) → (x : t.D) → (b : Bool) → (m : List Mv) → (r : List C) → V.movedAll i j t cs = some (x, b, m, r) → ∀ q ∈ m, q.i = i
    | .one t, j, cs, x, b, m, r, hm, q, hq => movedAll_i t j cs x b m r (by simpa only [View.movedAll] using hm) q hq
    | .cons t1 t2, j, cs, x, b, m, r, hm, q, hq => by
      simp only [View.movedAll] at hm
      split at hm
      · rename_i x1 b1 m1 r1 hm1
        split at hm
        · rename_i x2 b2 m2 r2 hm2
          simp only [Option.some.injEq, Prod.mk.injEq] at hm
          obtain ⟨rfl, rfl, rfl, rfl⟩ := hm
          rcases List.mem_append.1 hq with hq | hq
          · exact movedAll_i t1 j cs x1 b1 m1 r1 hm1 q hq
          · exact movedAll_i t2 _ r1 x2 b2 m2 r2 hm2 q hq
        · cases hm
      · cases hm
    | .int k, j, [], x, b, m, r, hm, q, hq | .bool, j, [], x, b, m, r, hm, q, hq | .str, j, [], x, b, m, r, hm, q, hq | .sl e, j, [], x, b, m, r, hm, q, hq => by simp [View.movedAll] at hm
    | .int k, j, c :: cs, x, b, m, r, hm, q, hq => by
      simp only [View.movedAll] at hm
      split at hm
      · rename_i hm1
        simp only [Option.some.injEq, Prod.mk.injEq] at hm
        obtain ⟨rfl, rfl, rfl, rfl⟩ := hm
        exact moved_i _ _ _ _ _ _ hm1 q hq
      · cases hm
    | .bool, j, c :: cs, x, b, m, r, hm, q, hq => by
      simp only [View.movedAll] at hm
      split at hm
      · rename_i hm1
        simp only [Option.some.injEq, Prod.mk.injEq] at hm
        obtain ⟨rfl, rfl, rfl, rfl⟩ := hm
        exact moved_i _ _ _ _ _ _ hm1 q hq
      · cases hm
    | .str, j, c :: cs, x, b, m, r, hm, q, hq => by
      simp only [View.movedAll] at hm
      split at hm
      · rename_i hm1
        simp only [Option.some.injEq, Prod.mk.injEq] at hm
        obtain ⟨rfl, rfl, rfl, rfl⟩ := hm
        exact moved_i _ _ _ _ _ _ hm1 q hq
      · cases hm
    | .sl e, j, c :: cs, x, b, m, r, hm, q, hq => by
      simp only [View.movedAll] at hm
      split at hm
      · rename_i hm1
        simp only [Option.some.injEq, Prod.mk.injEq] at hm
        obtain ⟨rfl, rfl, rfl, rfl⟩ := hm
        exact moved_i _ _ _ _ _ _ hm1 q hq
      · cases hm
  moved_i {V : View} {i : Nat} (j : Nat) (c : C) (t : Ty) (x : t.D) (b : Bool) (m : List Mv) (hm : V.moved i j c t = some (x, b, m)) : ∀ q ∈ m, q.i = i := by
    intro q hq
    unfold View.moved at hm
    split at hm
    · split at hm
      · simp only [Option.some.injEq, Prod.mk.injEq] at hm
        obtain ⟨_, _, rfl⟩ := hm
        cases hq
      · split at hm
        · split at hm
          · split at hm
            · simp only [Option.some.injEq, Prod.mk.injEq] at hm
              obtain ⟨_, _, rfl⟩ := hm
              rw [List.mem_singleton] at hq
              subst hq
              rfl
            · cases hm
          · cases hm
        · cases hm
      · split at hm
        · simp only [Option.some.injEq, Prod.mk.injEq] at hm
          obtain ⟨_, _, rfl⟩ := hm
          cases hq
        · cases hm
      · cases hm
    · split at hm
      · split at hm
        · simp only [Option.some.injEq, Prod.mk.injEq] at hm
          obtain ⟨_, _, rfl⟩ := hm
          cases hq
        · cases hm
      · cases hm

theorem Brings.flat {own' : Nat → Own} {l n : Nat} {deep : Bool} {e : Ty} {ys : List e.D} {v : Value} {A : Nat → Prop} (hf : e.flat = true) (hr : Rd w A (.sl e) ys [v]) : Brings P ρ w w' own' l n deep e ys [] v :=
  Brings.ofRd hr fun k y us _ hu => by
    unfold EL0
    cases deep with
    | true => exact DR.ofFlat (A := A) e 0 y us hf (Rd.flat e y us hf hu)
    | false => exact Rd.flat e y us hf hu

theorem into_rel {V : View} (hV : Seen V s) (hroot : ∀ l r, s.root l = some r → RR P ρ w s.root l r) {own' : Nat → Own} {l n : Nat} {deep : Bool} {e : Ty} {ms : List Mv} (h : Kept ρ w w' l own' deep ms) {X : A} {ys : List e.D} {b : Bool} {v : Value}
    (hi : V.into n e X = some (ys, b, ms)) (hd : deep = true → b = true) (hx : AR P ρ w s.root X v) : Brings P ρ w w' own' l n deep e ys ms v := by
  unfold View.into at hi
  split at hi
  · simp only [Option.some.injEq, Prod.mk.injEq] at hi
    obtain ⟨rfl, rfl, rfl⟩ := hi
    obtain ⟨q, rfl⟩ := VR.cell hx
    exact Brings.ofRd (A := fun _ => True) Rd.empty fun k y us hk => by simp at hk
  · rename_i l2
    split at hi
    · rename_i e' xs d hl
      split at hi
      · rename_i he
        subst he
        split at hi
        · rename_i hf
          simp only [Option.some.injEq, Prod.mk.injEq] at hi
          obtain ⟨rfl, rfl, rfl⟩ := hi
          obtain ⟨rfl, _⟩ := VR.cell hx
          exact Brings.flat hf (RR.rd (A := Al ρ.own [l2]) (fun _ hb => hb) (hroot l2 _ (hV l2 _ hl)))
        · cases hi
      · cases hi
    · rename_i e' els hl
      split at hi
      · rename_i he
        subst he
        obtain ⟨rfl, _⟩ := VR.cell hx
        obtain ⟨g1, g2, g3⟩ := movedEls_rel hV hroot h els n ys b ms hi (fun q hq => hq) hd
        obtain ⟨g, vs, T, k1, k2, k3, k4, k5, k6⟩ := hroot l2 _ (hV l2 _ hl)
        have hpos := Ty.size_pos e'
        -- row k of the block
        have hrow : ∀ k, k < els.length → ∃ us : List Value, us.length = e'.size ∧ CsR P ρ w s.root (els.getD k []) us ∧ ∀ (j : Nat) u, us[j]? = some u → vs[k * e'.size + j]? = some u := by
          intro k hk
          obtain ⟨p1, p2⟩ := k6 k els[k] (List.getElem?_eq_getElem hk)
          have hd' : els.getD k [] = els[k] := by simp [hk]
          refine ⟨(vs.toList.drop (k * e'.size)).take e'.size, ?_, ?_, fun j u hj => ?_⟩
          · have hr := (k + 1) * e'.size
            have : (k + 1) * e'.size ≤ els.length * e'.size := Nat.mul_le_mul_right _ hk
            rw [Nat.add_mul, Nat.one_mul] at this
            simp only [List.length_take, List.length_drop, Array.length_toList]
            omega
          · rw [hd']
            have hlen : ((vs.toList.drop (k * e'.size)).take e'.size).length = e'.size := by
              have : (k + 1) * e'.size ≤ els.length * e'.size := Nat.mul_le_mul_right _ hk
              rw [Nat.add_mul, Nat.one_mul] at this
              simp only [List.length_take, List.length_drop, Array.length_toList]
              omega
            refine ⟨p1.trans hlen.symm, fun j c u hc hu => ?_⟩
            obtain ⟨u', q1, q2⟩ := p2 j c hc
            rw [List.getElem?_take] at hu
            split at hu
            · rw [List.getElem?_drop, Array.getElem?_toList, q1] at hu
              cases hu
              exact q2
            · cases hu
          · rw [List.getElem?_take] at hj
            split at hj
            · rw [List.getElem?_drop, Array.getElem?_toList] at hj
              exact hj
            · cases hj
        refine ⟨⟨some ⟨g, 0, none⟩, els.length, vs.toList, by rw [k1, g1], by rw [g1]; simpa using k5, fun u hu => ?_, fun _ => ⟨_, rfl, fun j u hj => ?_⟩, fun k y hk => ?_⟩, fun q hq => by rw [g1]; exact g2 q hq⟩
        · obtain ⟨j, hj⟩ := List.mem_iff_getElem?.1 hu
          have hjl := (List.getElem?_eq_some_iff.1 hj).1
          simp only [Array.length_toList] at hjl
          obtain ⟨k, r, hk, hr, rfl⟩ := split_index (n := els.length) (sz := e'.size) (j := j) hpos (by omega)
          obtain ⟨us, q1, q2, q3⟩ := hrow k hk
          have hru : r < us.length := by omega
          have := q3 r _ (List.getElem?_eq_getElem hru)
          rw [Array.getElem?_toList, this] at hj
          cases hj
          exact q2.oneCell _ (List.getElem_mem hru)
        · rw [Addr.add_lit, cell_of_row w g _ vs T (0, 0) k4, Nat.zero_add]
          simpa using hj
        · have hkl : k < els.length := by rw [← g1]; exact (List.getElem?_eq_some_iff.1 hk).1
          obtain ⟨us, q1, q2, q3⟩ := hrow k hkl
          have hek : els[k]? = some (els.getD k []) := by simp [hkl]
          obtain ⟨r1, r2⟩ := g3 k y _ us hk hek q2
          exact ⟨us, q1, fun j u hj => by rw [Array.getElem?_toList]; exact q3 j u hj, r1, r2⟩
      · cases hi
    · cases hi
  · rename_i e' x d
    split at hi
    · rename_i he
      subst he
      split at hi
      · rename_i hf
        simp only [Option.some.injEq, Prod.mk.injEq] at hi
        obtain ⟨rfl, rfl, rfl⟩ := hi
        exact Brings.flat hf (VR.cell hx).2
      · split at hi
        · rename_i hd0
          simp only [Option.some.injEq, Prod.mk.injEq] at hi
          obtain ⟨rfl, rfl, rfl⟩ := hi
          have hdf : deep = false := by cases deep <;> simp_all
          subst hdf
          subst hd0
          have h2 : Rd w (Free ρ.own) (.sl e') x [v] := Rd.mono (fun b _ hb => ⟨hb.elim id (fun ⟨l, hl, _⟩ => by cases hl), rfl⟩) _ _ _ (VR.cell hx).2
          refine Brings.ofRd h2 fun k y us hk hu => ?_
          unfold EL0
          simp only [Bool.false_eq_true, if_false]
          exact h.rdFree hu
        · cases hi
    · cases hi
  · rename_i l2 n2
    split at hi
    · rename_i e' xs d hl
      split at hi
      · rename_i he
        subst he
        split at hi
        · rename_i hf
          simp only [Option.some.injEq, Prod.mk.injEq] at hi
          obtain ⟨rfl, rfl, rfl⟩ := hi
          have hsl : V.slData (.val false [.pre l2 n2]) = some ⟨e', xs.take n2, [l2]⟩ := by simp [View.slData, hl]
          exact Brings.flat hf (slData_rd hV hroot hsl hx)
        · cases hi
      · cases hi
    · cases hi
  · split at hi
    · rename_i x d hdx
      split at hi
      · rename_i hf
        simp only [Option.some.injEq, Prod.mk.injEq] at hi
        obtain ⟨rfl, rfl, rfl⟩ := hi
        obtain ⟨us, h1, h2⟩ := asData_vd hV hroot hdx hx
        simp only [Ty.agg, Bool.false_eq_true, if_false] at h2
        subst h2
        exact Brings.flat hf h1
      · cases hi
    · cases hi

end Go.Proofs.YtgjneigkkgaaiaaGreatDoor.Vd

/- VdZ -/
namespace Go.Proofs.YtgjneigkkgaaiaaGreatDoor.Vd

variable {P : Program} {E : Env} {ρ ρ' : Map} {w w' : World} {s : S} {a : Act} {K : Ctx} {H H' : Nat → Option Root}

theorem base_rel {V : View} (hV : Seen V s) (hroot : ∀ l r, s.root l = some r → RR P ρ w s.root l r) {e : Ty} {X : A} {ol : Option Nat} {xs : List e.D} {d : Bool} (h : V.base e X = some (ol, xs, d)) {v : Value} (hx : AR P ρ w s.root X v) :
    ArrR w ρ.own (.main (ol.getD V.nx)) e xs (EL w ρ.own (ol.getD V.nx) d e) v ∧ ∀ l, ol = some l → ∃ e' ys d', s.root l = some (.arr e' ys d') := by
  unfold View.base at h
  split at h
  · simp only [Option.some.injEq, Prod.mk.injEq] at h
    obtain ⟨rfl, rfl, rfl⟩ := h
    obtain ⟨q, rfl⟩ := VR.cell hx
    exact ⟨.inl ⟨q, rfl, rfl⟩, fun l hl => by cases hl⟩
  · rename_i l
    split at h
    · rename_i e' ys d' hl
      split at h
      · rename_i he
        subst he
        simp only [Option.some.injEq, Prod.mk.injEq] at h
        obtain ⟨rfl, rfl, rfl⟩ := h
        obtain ⟨rfl, _⟩ := VR.cell hx
        exact ⟨hroot l _ (hV l _ hl), fun l' hl' => by cases hl'; exact ⟨_, _, _, hV l _ hl⟩⟩
      · cases h
    · cases h
  · rename_i l n
    split at h
    · rename_i e' ys d' hl
      split at h
      · rename_i he
        subst he
        split at h
        · rename_i hf
          simp only [Option.some.injEq, Prod.mk.injEq] at h
          obtain ⟨rfl, rfl, rfl⟩ := h
          obtain ⟨q, m, c, hh, rfl, hle⟩ := VR.cell hx
          refine ⟨?_, fun l' hl' => by cases hl'; exact ⟨_, _, _, hV l _ hl⟩⟩
          rcases hroot l _ (hV l _ hl) with ⟨q', h1, h2⟩ | ⟨b, cap, cur, T, h1, h2, h3, h4, h5, h6, h7⟩
          · rw [hh] at h1
            simp only [Value.slice.injEq] at h1
            obtain ⟨rfl, rfl, rfl⟩ := h1
            have : n = 0 := by omega
            subst this
            exact .inl ⟨q, rfl, by simp [castD, h2]⟩
          · rw [hh] at h1
            simp only [Value.slice.injEq] at h1
            obtain ⟨rfl, rfl, rfl⟩ := h1
            have hln : (ys.take n).length = n := by simp; omega
            refine .inr ⟨b, c, cur, T, by show Value.slice _ n c = .slice _ (ys.take n).length c; rw [hln], by show (ys.take n).length ≤ c; omega, h3, h4, h5, h6, fun i x hi => ?_⟩
            have hi' : (ys.take n)[i]? = some x := hi
            rw [List.getElem?_take] at hi'
            split at hi'
            · exact h7 i x hi'
            · cases hi'
        · cases h
      · cases h
    · cases h
  · cases h

/-- Behind an append: the array in its block. -/
theorem append_finish {own' : Nat → Own} {l : Nat} {d deep : Bool} {ms : List Mv} {e : Ty} {xs ys : List e.D} (hK : Kept ρ w w' l own' deep ms) (hdd : deep = true → d = true) {b cap : Nat} {cur : Array Value} {T : TypeId}
    (hown : own' b = .main l) (hb : w'.heap[b]? = some (.cells cur T (0, 0))) (hsz : cur.size = cap * e.size) (hle : xs.length + ys.length ≤ cap) (hmx : cap ≤ maxLen)
    (hold : ∀ (i : Nat) x, xs[i]? = some x → ∃ us : List Value, us.length = e.size ∧ (∀ (j : Nat) u, us[j]? = some u → cur[i * e.size + j]? = some u) ∧ EL w ρ.own l d e i x us) {news : List Value}
    (hnews : ∀ (j : Nat) u, news[j]? = some u → cur[xs.length * e.size + j]? = some u)
    (hex : ∀ (k : Nat) y, ys[k]? = some y → ∃ us : List Value, us.length = e.size ∧ (∀ (j : Nat) u, us[j]? = some u → news[k * e.size + j]? = some u) ∧ EL0 w' own' l (xs.length + k) deep e 0 y us ∧ MvAt ρ (xs.length + k) 0 e y us (ms.filter fun q => q.i == xs.length + k))
    (hat : ∀ q ∈ ms, xs.length ≤ q.i ∧ q.i < xs.length + ys.length) :
    ArrR w' own' (.main l) e (xs ++ ys) (EL w' own' l deep e) (.slice (some ⟨b, 0, none⟩) (xs.length + ys.length) cap) ∧
      ∀ (hdr' : Nat → Value) (H' : Nat → Option Root), hdr' l = .slice (some ⟨b, 0, none⟩) (xs.length + ys.length) cap → H' l = some (.arr e (xs ++ ys) deep) → deep = true → ∀ q ∈ ms, CR P ⟨own', hdr'⟩ w' H' (.ref1 l q.i q.j q.u q.ys) (ρ.hdr q.l) := by
  have hcell : ∀ (k : Nat) (us : List Value), us.length = e.size → (∀ (j : Nat) u, us[j]? = some u → news[k * e.size + j]? = some u) → ∀ (j : Nat) u, us[j]? = some u → cur[(xs.length + k) * e.size + j]? = some u := by
    intro k us _ h2 j u hj
    rw [Nat.add_mul, Nat.add_assoc]
    exact hnews _ u (h2 j u hj)
  constructor
  · refine .inr ⟨b, cap, cur, T, by rw [List.length_append], by rw [List.length_append]; exact hle, hmx, hown, hb, hsz, fun i x hi => ?_⟩
    by_cases hin : i < xs.length
    · rw [List.getElem?_append_left hin] at hi
      obtain ⟨us, h1, h2, h3⟩ := hold i x hi
      exact ⟨us, h1, h2, hK.el hdd h3⟩
    · rw [List.getElem?_append_right (by omega)] at hi
      obtain ⟨us, h1, h2, h3, _⟩ := hex (i - xs.length) x hi
      have hii : xs.length + (i - xs.length) = i := by omega
      have h4 := hcell (i - xs.length) us h1 h2
      rw [hii] at h3 h4
      exact ⟨us, h1, h4, h3⟩
  · intro hdr' H' hh hH hdp q hq
    subst hdp
    obtain ⟨p1, p2⟩ := hat q hq
    have hk : q.i - xs.length < ys.length := by omega
    obtain ⟨us, h1, h2, h3, h4⟩ := hex (q.i - xs.length) _ (List.getElem?_eq_getElem hk)
    have hii : xs.length + (q.i - xs.length) = q.i := by omega
    have h5 := hcell (q.i - xs.length) us h1 h2
    rw [hii] at h3 h4 h5
    obtain ⟨_, _, _, g1, g2⟩ := h4 q (List.mem_filter.2 ⟨hq, by simp⟩)
    rw [Nat.sub_zero] at g1 g2
    refine ⟨e, xs ++ ys, ys[q.i - xs.length], us, hH, ?_, g1, g2, by simpa [EL0] using h3, b, _, cap, hh, hown, fun j u hj => ?_⟩
    · rw [List.getElem?_append_right (by omega)]
      exact List.getElem?_eq_getElem hk
    · rw [cell_of_row w' b _ cur T (0, 0) hb]
      exact h5 j u hj

end Go.Proofs.YtgjneigkkgaaiaaGreatDoor.Vd

/- VdZa -/
namespace Go.Proofs.YtgjneigkkgaaiaaGreatDoor.Vd

variable {P : Program} {E : Env} {ρ ρ' : Map} {w w' : World} {s : S} {a : Act} {K : Ctx} {H H' : Nat → Option Root}

theorem news_same {news news' : List Value} {ad : Addr} {n : Nat} (h1 : news.length = n) (h2 : news'.length = n) (g1 : ∀ (j : Nat) u, news[j]? = some u → w.cell? (ad.add j) = some u) (g2 : ∀ (j : Nat) u, news'[j]? = some u → w.cell? (ad.add j) = some u) : news' = news := by
  refine List.ext_getElem? fun j => ?_
  by_cases hj : j < n
  · have a1 := g1 j news[j] (List.getElem?_eq_getElem (by omega))
    have a2 := g2 j news'[j] (List.getElem?_eq_getElem (by omega))
    rw [a1] at a2
    rw [List.getElem?_eq_getElem (by omega), List.getElem?_eq_getElem (by omega)]
    exact a2.symm
  · rw [List.getElem?_eq_none (by omega), List.getElem?_eq_none (by omega)]

theorem run_append_zero {T T' : TypeId} {i : TypeInfo} (hu : P.underlying T = some (.slice T')) (hi : P.info? T' = some i) (ty : TypeId) (q0 q : Option Addr) (n cap c : Nat) (hle : n ≤ cap) :
    (Builtin.append_ #[T, T] ty #[.slice q0 n cap, .slice q 0 c]).run P w = .ok (.slice q0 n cap) w := by
  cases q0 <;> cases q <;> simp [Builtin.append_, run_underlying hu, sizeOf, typeInfo, hi, Builtin.lenOf, hle, Builtin.firstCells, loadCells, loadCellsFrom, storeCells]

theorem run_append_room' {T T' : TypeId} {i : TypeInfo} (hu : P.underlying T = some (.slice T')) (hi : P.info? T' = some i) (ty TT : TypeId) (g n cap : Nat) (cur : Array Value) (hg : w.heap[g]? = some (.cells cur TT (0, 0)))
    (ad : Addr) (m c : Nat) (news : List Value) (hl : news.length = m * i.size) (hnews : ∀ j u, news[j]? = some u → w.cell? (ad.add j) = some u) (h1 : ∀ u ∈ news, u.oneCell' = true) (hroom : n + m ≤ cap) (hfit : n * i.size + news.length ≤ cur.size) :
    (Builtin.append_ #[T, T] ty #[.slice (some ⟨g, 0, none⟩) n cap, .slice (some ad) m c]).run P w =
      .ok (.slice (some ⟨g, 0, none⟩) (n + m) cap) (w.setRow g (cur.toList.take (n * i.size) ++ news ++ cur.toList.drop (n * i.size + news.length)).toArray) := by
  have hf := run_firstCells_some (P := P) w i.size m ad m c news hl hnews
  have hst := run_storeCells_at P g (n * i.size) TT news 0 cur w hg (by simpa using hfit) h1
  simp only [Nat.add_zero] at hst
  simp [Builtin.append_, run_underlying hu, sizeOf, typeInfo, hi, Builtin.lenOf, hroom, hf, Addr.add_lit, hst]

def Map.hdrAt (ρ : Map) (own : Nat → Own) (l : Nat) (v : Value) : Map := ⟨own, fun l' => if l' = l then v else ρ.hdr l'⟩

/-- An append that ends in a block of the root's own. -/
theorem append_put (hR : Rel P K ρ s a w) {V : View} (hV : Seen V s) {o : Oper} {l : Nat} {d d' deep : Bool} {ms : List Mv} {e : Ty} {xs ys : List e.D} {Y : A} {y : Value} (hinto : V.into xs.length e Y = some (ys, d', ms)) (hy : AR P ρ w s.root Y y)
    (hdd : deep = true → d = true ∧ d' = true) (hnd : (mvLocs ms).Nodup) (hap : l ∉ mvLocs ms) (hfix : ∀ u, (l, u) ∉ K.fix) {own' : Nat → Own} (hK : Kept ρ w w' l own' deep ms) (hlater : Later w w')
    (hmain : ∀ b, b < w.heap.size → ρ.own b = .main l → own' b = .main l ∨ own' b = .free) (hnew : ∀ b, w.heap.size ≤ b → own' b = .free ∨ (own' b = .main l ∧ b < w'.heap.size))
    {b cap : Nat} {cur : Array Value} {T : TypeId} (hown : own' b = .main l) (hb : w'.heap[b]? = some (.cells cur T (0, 0))) (hsz : cur.size = cap * e.size) (hle : xs.length + ys.length ≤ cap) (hmx : cap ≤ maxLen)
    (hold : ∀ (i : Nat) x, xs[i]? = some x → ∃ us : List Value, us.length = e.size ∧ (∀ (j : Nat) u, us[j]? = some u → cur[i * e.size + j]? = some u) ∧ EL w ρ.own l d e i x us) {news : List Value} {q : Option Addr} {c : Nat}
    (hyv : y = .slice q ys.length c) (hnl : news.length = ys.length * e.size) (hnc : ys ≠ [] → ∃ ad, q = some ad ∧ ∀ (j : Nat) u, news[j]? = some u → w.cell? (ad.add j) = some u)
    (hnews : ∀ (j : Nat) u, news[j]? = some u → cur[xs.length * e.size + j]? = some u)
    (run : (execOp a.eval o).run P w = .ok (.value (.slice (some ⟨b, 0, none⟩) (xs.length + ys.length) cap)) w') :
    Sound P K s a w o (.ret (putD (.c (.ref l)) l (.arr e (xs ++ ys) deep) true deep ms)) := by
  obtain ⟨⟨q', c', news', h1, h2, h3, h4, h5⟩, h6⟩ := into_rel hV hR.root hK hinto (fun h => (hdd h).2) hy
  have hnn : news' = news := by
    by_cases hys : ys = []
    · subst hys
      have a1 : news = [] := List.eq_nil_of_length_eq_zero (by simpa using hnl)
      have a2 : news' = [] := List.eq_nil_of_length_eq_zero (by simpa using h2)
      rw [a1, a2]
    · obtain ⟨ad, e1, g1⟩ := hnc hys
      obtain ⟨ad', e2, g2⟩ := h4 hys
      rw [hyv] at h1
      simp only [Value.slice.injEq] at h1
      rw [e1, e2] at h1
      simp only [Option.some.injEq] at h1
      rw [← h1.1] at g2
      exact news_same hnl h2 g1 g2
  subst hnn
  obtain ⟨f1, f2⟩ := append_finish hK (fun h => (hdd h).1) hown hb hsz hle hmx hold hnews h5 h6
  refine Sound.put hR (ρ' := ρ.hdrAt own' l (.slice (some ⟨b, 0, none⟩) (xs.length + ys.length) cap)) (w' := w') hK hlater hmain hnew (fun l' hl' => by simp [Map.hdrAt, hl']) (fun h => by cases h) (fun u hu => absurd hu (hfix u)) (.inl run) fun H' hH => ⟨?_, ?_, ?_⟩
  · show ArrR _ _ _ _ _ _ _
    simpa [Map.hdrAt] using f1
  · exact AR.one.2 ⟨by simp [Map.hdrAt], _, _, _, rfl⟩
  · exact f2 (ρ.hdrAt own' l (.slice (some ⟨b, 0, none⟩) (xs.length + ys.length) cap)).hdr H' (by simp [Map.hdrAt]) hH

theorem append_core (hR : Rel P K ρ s a w) (hT : TyOK P E) {V : View} (hV : Seen V s) {o : Oper} {T : TypeId} {x y : Operand} (ho : o.op = .call { callee := .builtin .append, args := #[x, y], argTypes := #[T, T] }) {l : Nat} {d d' deep : Bool} {ms : List Mv} {e : Ty} {xs ys : List e.D} {Y : A}
    (hTe : E.T T = some (.sl e)) (hbase : ArrR w ρ.own (.main l) e xs (EL w ρ.own l d e) (a.eval x)) (hinto : V.into xs.length e Y = some (ys, d', ms)) (hy : AR P ρ w s.root Y (a.eval y))
    (hdd : deep = true → d = true ∧ d' = true) (hnd : (mvLocs ms).Nodup) (hap : l ∉ mvLocs ms) (hfix : ∀ u, (l, u) ∉ K.fix) (hlen : xs.length + ys.length ≤ lim) :
    Sound P K s a w o (.ret (putD (.c (.ref l)) l (.arr e (xs ++ ys) deep) true deep ms)) := by
  obtain ⟨T', hu, hT'⟩ := shp.slice (hT.ty T _ hTe)
  obtain ⟨i, z, hi, hsz, hby, hz, hzo⟩ := infoOK.spec (shp.info hT')
  have hzl : z.cells.size = i.size := by have := zeroOK.length e _ hzo; rw [Array.length_toList] at this; rw [this, hsz]
  have hpos := Ty.size_pos e
  have hlen' : xs.length + ys.length ≤ 68719476736 := hlen
  have hbytes : (xs.length + ys.length) * i.bytes ≤ 140737488355328 := by
    have : (xs.length + ys.length) * i.bytes ≤ 68719476736 * 2048 := Nat.mul_le_mul hlen' hby
    omega
  -- the owners and the world as they are
  have hK0 : Kept ρ w w l (ρ.take l deep ms).own deep ms := ⟨fun _ _ _ => rfl, fun _ _ _ => rfl, hnd, hap⟩
  obtain ⟨⟨q, c, news, h1, h2, h3, h4, h5⟩, h6⟩ := into_rel hV hR.root hK0 hinto (fun h => (hdd h).2) hy
  have hmain0 : ∀ b, b < w.heap.size → ρ.own b = .main l → (ρ.take l deep ms).own b = .main l ∨ (ρ.take l deep ms).own b = .free := fun b _ h => .inl (by simp [Map.take, h, find_none hap])
  have hnew0 : ∀ b, w.heap.size ≤ b → (ρ.take l deep ms).own b = .free ∨ ((ρ.take l deep ms).own b = .main l ∧ b < w.heap.size) := fun b h => .inl (by simp [Map.take, hR.fresh b h])
  have hrun : ∀ v' w', (Builtin.append_ #[T, T] o.type #[a.eval x, a.eval y]).run P w = .ok v' w' → (execOp a.eval o).run P w = .ok (.value v') w' := by
    intro v' w' h
    simp only [execOp, ho, resolve, invoke, builtin, Sem.run_bind, Sem.run_pure, Result.andThen_ok, List.map_toArray, List.map_cons, List.map_nil, h]
  -- into a new block
  have grow : ∀ (olds : List Value) (old : Nat), olds.length = xs.length * e.size → old < xs.length + ys.length →
      (∀ (k : Nat) x, xs[k]? = some x → ∃ us : List Value, us.length = e.size ∧ (∀ (j : Nat) u, us[j]? = some u → olds[k * e.size + j]? = some u) ∧ EL w ρ.own l d e k x us) →
      (Builtin.append_ #[T, T] o.type #[a.eval x, a.eval y]).run P w = .ok (.slice (some ⟨w.heap.size, 0, none⟩) (xs.length + ys.length) (grownCap w (xs.length + ys.length) old T'))
        (w.drew.alloc (.cells (olds.toArray ++ news.toArray ++ Builtin.zeroCells z.cells (grownCap w (xs.length + ys.length) old T' - (xs.length + ys.length))) T')) →
      Sound P K s a w o (.ret (putD (.c (.ref l)) l (.arr e (xs ++ ys) deep) true deep ms)) := by
    intro olds old hol hlt hold hr
    have hge := grownCap_ge w (xs.length + ys.length) old T'
    have hcm : grownCap w (xs.length + ys.length) old T' ≤ maxLen := grownCap_le_maxLen w _ old T' (maxLen_ge hlen)
    generalize grownCap w (xs.length + ys.length) old T' = cap at hr hge hcm
    have hcur : ∀ (j : Nat) u, (olds ++ news)[j]? = some u → (olds.toArray ++ news.toArray ++ Builtin.zeroCells z.cells (cap - (xs.length + ys.length)))[j]? = some u := by
      intro j u hj
      have hjl := (List.getElem?_eq_some_iff.1 hj).1
      rw [Array.getElem?_append_left (by simpa using hjl)]
      simpa using hj
    refine append_put (w' := w.drew.alloc _) (own' := fun b => if b = w.heap.size then .main l else (ρ.take l deep ms).own b) hR hV hinto hy hdd hnd hap hfix ⟨fun b hb _ => heap_alloc_old w.drew _ b hb, fun b hb _ => by simp [Nat.ne_of_lt hb], hnd, hap⟩
      ⟨by show _ ≤ (w.heap.push _).size; simp, rfl, rfl, rfl⟩ (fun b hb h => by simp [Nat.ne_of_lt hb]; exact hmain0 b hb h) (fun b hb => ?_) (b := w.heap.size) (cap := cap) (by simp) (heap_alloc_new w.drew _) ?_ hge hcm (fun k x hk => ?_) h1 h2 h4 (fun j u hj => ?_) (hrun _ _ hr)
    · by_cases hbe : b = w.heap.size
      · right
        refine ⟨by simp [hbe], ?_⟩
        show b < (w.heap.push _).size
        simp [hbe]
      · left
        simp only [if_neg hbe]
        rcases hnew0 b hb with h | ⟨_, h⟩
        · exact h
        · omega
    · simp only [Array.size_append, List.size_toArray, size_zeroCells, hzl, hol, h2, hsz, ← Nat.add_mul]
      congr 1
      omega
    · obtain ⟨us, g1, g2, g3⟩ := hold k x hk
      refine ⟨us, g1, fun j u hj => hcur _ u ?_, g3⟩
      have := g2 j u hj
      rw [List.getElem?_append_left (List.getElem?_eq_some_iff.1 this).1]
      exact this
    · refine hcur _ u ?_
      rw [List.getElem?_append_right (by omega), hol, Nat.add_sub_cancel_left]
      exact hj
  by_cases hys : ys = []
  · -- nothing is added
    subst hys
    have hms : ms = [] := by
      cases ms with
      | nil => rfl
      | cons q ms => have := h6 q (List.mem_cons_self ..); simp at this; omega
    subst hms
    rcases hbase with ⟨q0, hv, rfl⟩ | ⟨g, cap, cur, TT, hv, hle, hmx, hown, hheap, hsize, hel⟩
    · have hr := run_append_zero (w := w) hu hi o.type q0 q 0 0 c (Nat.le_refl _)
      refine Sound.put hR (ρ' := ρ.hdrAt (ρ.take l deep []).own l (.slice q0 0 0)) (w' := w) (v := .slice q0 0 0) hK0 (Later.refl w) hmain0 hnew0 (fun l' hl' => by simp [Map.hdrAt, hl']) (fun h => by cases h) (fun u hu => absurd hu (hfix u)) (.inl (hrun _ _ (by rw [hv, h1]; exact hr))) fun H' hH => ⟨?_, ?_, fun _ q hq => by cases hq⟩
      · exact .inl ⟨q0, by simp [Map.hdrAt], rfl⟩
      · exact AR.one.2 ⟨by simp [Map.hdrAt], _, _, _, rfl⟩
    · have hr := run_append_zero (w := w) hu hi o.type (some ⟨g, 0, none⟩) q xs.length cap c hle
      refine append_put (w' := w) (own' := (ρ.take l deep []).own) hR hV hinto hy hdd hnd hap hfix hK0 (Later.refl w) hmain0 hnew0 (b := g) (cap := cap) (by simp [Map.take, hown, find_none hap]) hheap hsize hle hmx hel h1 h2 h4 (fun j u hj => ?_) (hrun _ _ (by rw [hv, h1]; exact hr))
      have : news = [] := List.eq_nil_of_length_eq_zero (by simpa using h2)
      subst this
      simp at hj
  · obtain ⟨ad, rfl, hcells⟩ := h4 hys
    have hyl : 0 < ys.length := List.length_pos_iff.2 hys
    have hnl : news.length = ys.length * i.size := by rw [h2, hsz]
    rcases hbase with ⟨q0, hv, rfl⟩ | ⟨g, cap, cur, TT, hv, hle, hmx, hown, hheap, hsize, hel⟩
    · cases q0 with
      | none =>
        have hr := run_append_nil (P := P) w T o.type T' i z hu hi hz ad ys.length c news hnl hcells hyl (by simp only [List.length_nil, Nat.zero_add] at hlen'; omega) (by simp only [List.length_nil, Nat.zero_add] at hbytes; omega)
        refine grow [] 0 (by simp) (by simpa using hyl) (fun k x hk => by simp at hk) ?_
        rw [hv, h1]
        simpa using hr
      | some q0 =>
        have hr := run_append_grow (P := P) w T o.type T' i z hu hi hz q0 0 0 [] (by simp) (fun j v hj => by simp at hj) ad ys.length c news hnl hcells (by omega) (by simp only [List.length_nil, Nat.zero_add] at hlen' ⊢; omega) (growslice_fits (by omega) (by simpa using hbytes))
        refine grow [] 0 (by simp) (by simpa using hyl) (fun k x hk => by simp at hk) ?_
        rw [hv, h1]
        simpa using hr
    · by_cases hroom : xs.length + ys.length ≤ cap
      · have hx0 : xs.length * e.size + news.length ≤ cur.size := by
          rw [hsize, h2, ← Nat.add_mul]; exact Nat.mul_le_mul_right _ hroom
        have hr := run_append_room' (w := w) hu hi o.type TT g xs.length cap cur hheap ad ys.length c news hnl hcells h3 hroom (by rw [hsz]; exact hx0)
        rw [hsz] at hr
        have hseg := segment hx0
        refine append_put (w' := w.setRow g _) (own' := (ρ.take l deep ms).own) hR hV hinto hy hdd hnd hap hfix ⟨fun b hb hne => setRow_other w g b _ (by rintro rfl; exact hne hown), fun _ _ _ => rfl, hnd, hap⟩ (Later.setRow _ _ _) hmain0
          (fun b hb => by simpa using hnew0 b hb) (b := g) (cap := cap) (by simp [Map.take, hown, find_none hap]) (setRow_heap w g _ _ TT (0, 0) hheap) ((segment_size hx0).trans hsize) hroom hmx (fun k x hk => ?_) h1 h2 h4 (fun j u hj => ?_) (hrun _ _ (by rw [hv, h1]; exact hr))
        · obtain ⟨us, g1, g2, g3⟩ := hel k x hk
          refine ⟨us, g1, fun j u hj => ?_, g3⟩
          have hjl := (List.getElem?_eq_some_iff.1 hj).1
          have hri := row_index (i := k) (n := xs.length) (sz := e.size) (j := j) (List.getElem?_eq_some_iff.1 hk).1 (by omega)
          rw [hseg, if_neg (by omega)]
          exact g2 j u hj
        · have hjl := (List.getElem?_eq_some_iff.1 hj).1
          rw [hseg, if_pos (by omega), Nat.add_sub_cancel_left]
          exact hj
      · have hx0 : xs.length * e.size ≤ cur.size := by rw [hsize]; exact Nat.mul_le_mul_right _ hle
        have holds : ∀ (j : Nat) u, (cur.toList.take (xs.length * e.size))[j]? = some u → w.cell? ((⟨g, 0, none⟩ : Addr).add j) = some u := by
          intro j u hj
          rw [List.getElem?_take] at hj
          split at hj
          · rw [Addr.add_lit, cell_of_row w g _ cur TT (0, 0) hheap, Nat.zero_add]
            simpa using hj
          · cases hj
        have hr := run_append_grow (P := P) w T o.type T' i z hu hi hz ⟨g, 0, none⟩ xs.length cap (cur.toList.take (xs.length * e.size)) (by simp [hsz]; omega) holds ad ys.length c news hnl hcells (by omega) (by omega) (growslice_fits (by omega) hbytes)
        refine grow (cur.toList.take (xs.length * e.size)) cap (by simp; omega) (by omega) (fun k x hk => ?_) ?_
        · obtain ⟨us, g1, g2, g3⟩ := hel k x hk
          refine ⟨us, g1, fun j u hj => ?_, g3⟩
          have hjl := (List.getElem?_eq_some_iff.1 hj).1
          have hri := row_index (i := k) (n := xs.length) (sz := e.size) (j := j) (List.getElem?_eq_some_iff.1 hk).1 (by omega)
          rw [List.getElem?_take, if_pos hri.1, Array.getElem?_toList]
          exact g2 j u hj
        · rw [hv, h1]; exact hr

end Go.Proofs.YtgjneigkkgaaiaaGreatDoor.Vd

/- VdZab -/
namespace Go.Proofs.YtgjneigkkgaaiaaGreatDoor.Vd

variable {P : Program} {E : Env} {ρ ρ' : Map} {w w' : World} {s : S} {a : Act} {K : Ctx} {H H' : Nat → Option Root}

/-- The fixed headers are those that the environment names. -/
def FixOK (K : Ctx) (E : Env) : Prop := ∀ l u, (l, u) ∈ K.fix → l ∈ E.fix

/-! ### Cut -/

theorem cutR_sound (hR : Rel P K ρ s a w) (hT : TyOK P E) (hF : FixOK K E) {V : View} (hV : Seen V s) {o : Oper} {T : TypeId} {x : Operand} {lo hi : Option Operand} (ho : o.op = .slice T x lo hi none)
    {ρA : Operand → A} (hρ : ∀ o, AR P ρ w s.root (ρA o) (a.eval o)) : Sound P K s a w o (cutR E T (ρA x) (lo.map ρA) (hi.map ρA) V) := by
  have hx := hρ x
  unfold cutR
  split
  · rename_i e0 l hTe hX hlo
    split
    · rename_i e xs d hl
      split
      · rename_i he
        subst he
        split
        · exact Sound.fail
        · rename_i hfx
          have hfx' : l ∉ E.fix := by simpa using hfx
          obtain ⟨T', hu, hT'⟩ := shp.slice (hT.ty T _ hTe)
          rw [hX] at hx
          obtain ⟨hv, q, n, c, hqc⟩ := VR.cell hx
          have hs := hV l _ hl
          have hro := hR.root l _ hs
          have hn : n = xs.length ∧ n ≤ c := by
            rcases hro with ⟨q', h1, h2⟩ | ⟨b, cap, vs, TT, h1, h2, _⟩
            · rw [← hv, hqc] at h1
              simp only [Value.slice.injEq] at h1
              exact ⟨by rw [h1.2.1, h2]; rfl, by omega⟩
            · rw [← hv, hqc] at h1
              simp only [Value.slice.injEq] at h1
              exact ⟨h1.2.1, by omega⟩
          obtain ⟨rfl, hle⟩ := hn
          cases lo with
          | some y => cases hlo
          | none =>
          refine Sound.bnd fun p hp => ?_
          have hp' : sliceB ((none : Option Operand).map ρA) (hi.map ρA) xs.length = some (p.1, p.2) := hp
          obtain ⟨h1, h2, h3⟩ := sliceB_run hρ hle hp' true
          have hp1 : p.1 = 0 := by
            unfold sliceB at hp
            simp only [Option.map_none] at hp
            split at hp
            · simp only [Option.some.injEq] at hp; rw [← hp]
            · rename_i g1 g2; cases g1
            · split at hp
              · simp only [Option.some.injEq] at hp; rw [← hp]
              · cases hp
            · rename_i g1 g2; cases g1
            · cases hp
          rw [hp1] at h1
          have hq : (if c = 0 then q else q.map (·.add (0 * e.size))) = q := by
            split
            · rfl
            · cases q <;> simp [Addr.add]
          have run : (execOp a.eval o).run P w = .ok (.value (.slice q p.2 c)) w := by
            have h1' := h1
            simp only [Option.map_none] at h1'
            have : (execOp a.eval o).run P w = .ok (.value (.slice (if c = 0 then q else q.map (·.add (0 * e.size))) (p.2 - 0) (c - 0))) w := by
              simp [execOp, ho, hqc, Instr.sliceAt, Instr.slice, run_underlying hu, h1', shp.size hT']
            rw [hq, Nat.sub_zero, Nat.sub_zero] at this
            exact this
          have hlen : (xs.take p.2).length = p.2 := by simp; omega
          have hK : Kept ρ w w l (ρ.take l d []).own d [] := ⟨fun _ _ _ => rfl, fun _ _ _ => rfl, by simp [mvLocs], by simp [mvLocs]⟩
          have hD : putD (.c (.ref l)) l (.arr e (xs.take p.2) d) true d [] = { dst := .c (.ref l), set := [(l, some (.arr e (xs.take p.2) d))], kill := [(l, true)] } := by cases d <;> rfl
          rw [← hD]
          refine Sound.put hR (ρ' := ρ.hdrAt (ρ.take l d []).own l (.slice q p.2 c)) (w' := w) (v := .slice q p.2 c) hK (Later.refl w) (fun b _ h => .inl (by simp [Map.hdrAt, Map.take, h])) (fun b h => .inl (by simp [Map.hdrAt, Map.take, hR.fresh b h]))
            (fun l' hl' => by simp [Map.hdrAt, hl']) (fun h => by cases h) (fun u hu => absurd (hF _ _ hu) hfx') (.inl run) fun H' hH => ⟨?_, ?_, fun _ q hq => by cases hq⟩
          · show ArrR _ _ _ _ _ _ _
            have hh : (ρ.hdrAt (ρ.take l d []).own l (.slice q p.2 c)).hdr l = .slice q p.2 c := by simp [Map.hdrAt]
            rw [hh]
            rcases hro with ⟨q', g1, g2⟩ | ⟨b, cap, vs, TT, g1, g2, g3, g4, g5, g6, g7⟩
            · rw [← hv, hqc] at g1
              simp only [Value.slice.injEq] at g1
              refine .inl ⟨q, ?_, by rw [g2]; simp⟩
              have : p.2 = 0 := by omega
              rw [this, g1.2.2]
            · rw [← hv, hqc] at g1
              simp only [Value.slice.injEq] at g1
              obtain ⟨rfl, _, rfl⟩ := g1
              refine .inr ⟨b, c, vs, TT, by rw [hlen], by omega, g3, by simp [Map.hdrAt, Map.take, g4], g5, g6, fun i y hi => ?_⟩
              rw [List.getElem?_take] at hi
              split at hi
              · obtain ⟨us, k1, k2, k3⟩ := g7 i y hi
                exact ⟨us, k1, k2, hK.el (fun h => h) k3⟩
              · cases hi
          · exact AR.one.2 ⟨by simp [Map.hdrAt], _, _, _, rfl⟩
      · exact Sound.fail
    · exact Sound.fail
  · exact Sound.fail

/-! ### Append inside an element -/

theorem DR.step3 {own own' : Nat → Own} {l i : Nat} (hf : ∀ b, b < w.heap.size → own b = .free → own' b = .free ∧ w'.heap[b]? = w.heap[b]?) :
    (t : Ty) → (j : Nat) → (x : t.D) → (vs : List Value) → (∀ b j', j ≤ j' → j' < j + t.size → b < w.heap.size → own b = .inner l i j' → own' b = .inner l i j' ∧ w'.heap[b]? = w.heap[b]?) → DR w own l i t j x vs → DR w' own' l i t j x vs
  | .sl u, j, ys, vs, hb, h => by
    obtain ⟨v, rfl, hu, ha⟩ := h
    exact ⟨v, rfl, hu, ha.step (fun b hs hk => hb b j (Nat.le_refl _) (by simp [Ty.size]) hs hk) fun i x us _ hr => Rd.flat u x us hu hr⟩
  | .one h, j, x, vs, hb, hh => DR.step3 hf h j x vs hb hh
  | .cons h t, j, x, vs, hb, hh => by
    obtain ⟨v1, v2, rfl, h1, h2⟩ := hh
    exact ⟨v1, v2, rfl, DR.step3 hf h j _ _ (fun b j' p1 p2 => hb b j' p1 (by simp only [Ty.size]; omega)) h1, DR.step3 hf t _ _ _ (fun b j' p1 p2 => hb b j' (by omega) (by simp only [Ty.size]; omega)) h2⟩
  | .int _, _, _, _, _, h => h
  | .bool, _, _, _, _, h => h
  | .str, _, _, _, _, h => h

/-- All slices of an element stay but one, which reads as it did. -/
theorem DR.keep3 {own own' : Nat → Own} {l i : Nat} (hf : ∀ b, b < w.heap.size → own b = .free → own' b = .free ∧ w'.heap[b]? = w.heap[b]?) :
    (t : Ty) → (j0 : Nat) → (x : t.D) → (us : List Value) → ∀ (j : Nat) (u : Ty) (y : List u.D) (v : Value), (∀ b j', j' ≠ j0 + j → b < w.heap.size → own b = .inner l i j' → own' b = .inner l i j' ∧ w'.heap[b]? = w.heap[b]?) → DR w own l i t j0 x us →
      cellAt t x j = some ⟨.sl u, y⟩ → us[j]? = some v → DR w' own' l i (.sl u) (j0 + j) y [v] → DR w' own' l i t j0 x us
  | .one h, j0, x, us, j, u, y, v, hb, hr, hc, hv, hz => DR.keep3 hf h j0 x us j u y v hb hr hc hv hz
  | .cons h t, j0, x, us, j, u, y, v, hb, hr, hc, hv, hz => by
    obtain ⟨v1, v2, rfl, h1, h2⟩ := hr
    have hl := DR.length h _ _ _ h1
    simp only [cellAt] at hc
    by_cases hj : j < h.size
    · rw [if_pos hj] at hc
      rw [List.getElem?_append_left (by omega)] at hv
      exact ⟨v1, v2, rfl, DR.keep3 hf h j0 x.1 v1 j u y v hb h1 hc hv hz, DR.step3 hf t _ _ _ (fun b j' p1 p2 p3 p4 => hb b j' (by omega) p3 p4) h2⟩
    · rw [if_neg hj] at hc
      rw [List.getElem?_append_right (by omega), hl] at hv
      refine ⟨v1, v2, rfl, DR.step3 hf h j0 _ _ (fun b j' p1 p2 p3 p4 => hb b j' (by omega) p3 p4) h1, DR.keep3 hf t (j0 + h.size) x.2 v2 (j - h.size) u y v (fun b j' p1 p2 p3 => hb b j' (by omega) p2 p3) h2 hc hv ?_⟩
      rwa [show j0 + h.size + (j - h.size) = j0 + j by omega]
  | .int k, j0, x, us, j, u, y, v, hb, hr, hc, hv, hz => by cases j <;> simp [cellAt] at hc
  | .bool, j0, x, us, j, u, y, v, hb, hr, hc, hv, hz => by cases j <;> simp [cellAt] at hc
  | .str, j0, x, us, j, u, y, v, hb, hr, hc, hv, hz => by cases j <;> simp [cellAt] at hc
  | .sl e, j0, x, us, j, u, y, v, hb, hr, hc, hv, hz => by
    cases j with
    | succ j => simp [cellAt] at hc
    | zero =>
      simp only [cellAt, Option.some.injEq] at hc
      cases hc
      obtain ⟨v0, rfl, _⟩ := hr
      simp only [List.getElem?_cons_zero, Option.some.injEq] at hv
      subst hv
      simpa using hz

/-- What such a step keeps. -/
structure Inner (ρ : Map) (w w' : World) (l i j : Nat) (own' : Nat → Own) : Prop where
  later : Later w w'
  heap : ∀ b, b < w.heap.size → ρ.own b ≠ .inner l i j → w'.heap[b]? = w.heap[b]?
  own : ∀ b, b < w.heap.size → own' b = ρ.own b
  new : ∀ b, w.heap.size ≤ b → own' b = .free ∨ (own' b = .inner l i j ∧ b < w'.heap.size)

theorem Inner.chg {l i j : Nat} {own' : Nat → Own} (h : Inner ρ w w' l i j own') (hf : ∀ b, w.heap.size ≤ b → ρ.own b = .free) (hH : ∀ l', l' ≠ l → ∀ e xs d, H l' = some (.arr e xs d) → H' l' = some (.arr e xs d)) : Chg P ρ ⟨own', ρ.hdr⟩ w w' H H' ⟨[(l, false)], []⟩ where
  later := h.later
  free := fun b hb ho => ⟨(h.own b hb).trans ho, h.heap b hb (by rw [ho]; simp)⟩
  off := fun b hb ho => ⟨(h.own b hb).trans ho, h.heap b hb (by rw [ho]; simp)⟩
  noOff := fun b ho => by
    rcases Nat.lt_or_ge b w.heap.size with hb | hb
    · rw [← h.own b hb]; exact ho
    · rcases h.new b hb with h1 | ⟨h1, _⟩
      · have ho' : own' b = .off := ho
        rw [h1] at ho'; cases ho'
      · have ho' : own' b = .off := ho
        rw [h1] at ho'; cases ho'
  block := fun b l' hb ho hk => ⟨h.heap b hb (by
    intro h1
    rw [h1] at ho
    simp only [Own.loc, Option.some.injEq] at ho
    exact hk (killed_in.2 (by simp [ho]))), fun _ => h.own b hb⟩
  hdr := fun _ _ _ => rfl
  hdrP := fun _ _ _ _ => rfl
  arr := fun l' e xs d hk _ h => hH l' (by rintro rfl; exact hk (killed_in.2 (by simp))) e xs d h
  mov := fun _ _ h => by cases h
  got := fun b l' hk _ hno hb => by
    rcases Nat.lt_or_ge b w.heap.size with h1 | h1
    · have hb' : (own' b).loc = some l' := hb
      rw [h.own b h1] at hb'
      exact hno b hb'
    · have hb' : (own' b).loc = some l' := hb
      rcases h.new b h1 with h2 | ⟨h2, _⟩
      · rw [h2] at hb'; cases hb'
      · rw [h2] at hb'
        simp only [Own.loc, Option.some.injEq] at hb'
        exact hk (killed_in.2 (by simp [hb']))
  movB := fun _ _ _ _ h => absurd h not_moved_nil

theorem Sound.inner (hR : Rel P K ρ s a w) {o : Oper} {l i j : Nat} {own' : Nat → Own} (hI : Inner ρ w w' l i j own') (hl : l < s.H.length) {r : Root} {x : A} {v : Value} (run : (execOp a.eval o).run P w = .ok (.value v) w')
    (hr : ∀ H', H' l = some r → RR P ⟨own', ρ.hdr⟩ w' H' l r ∧ AR P ⟨own', ρ.hdr⟩ w' H' x v) :
    Sound P K s a w o (.ret { dst := x, set := [(l, some r)], kill := [(l, false)] }) := by
  intro _ next Q hnext
  have hc : Chg P ρ ⟨own', ρ.hdr⟩ w w' s.root (s.apply o.dst { dst := x, set := [(l, some r)], kill := [(l, false)] }).root ⟨[(l, false)], []⟩ :=
    hI.chg hR.fresh fun l' hl' e xs d h => by rw [root_other (by simpa using hl'), h]; rfl
  obtain ⟨h1, h2⟩ := hr _ (root_set (s := s) (dst := o.dst) (x := x) (n := l) (r := some r) (k := [(l, false)]))
  have hlen : s.H.length ≤ (s.apply o.dst { dst := x, set := [(l, some r)], kill := [(l, false)] }).H.length := by
    rw [apply_H]
    exact Nat.le_trans (by rw [swept_H]; simp) (setAll_length_ge _ _).1
  have hrel : Rel P K ⟨own', ρ.hdr⟩ (s.apply o.dst { dst := x, set := [(l, some r)], kill := [(l, false)] }) (a.put o.dst v) w' := by
    refine hR.apply o.dst _ v hc ?_ ?_ (fun _ => h2) ?_ ?_ ?_
    · intro l2 r2 hm
      simp only [List.mem_singleton, Prod.mk.injEq, Option.some.injEq] at hm
      obtain ⟨rfl, rfl⟩ := hm
      exact h1
    · rintro l2 (hk | hm)
      · have := killed_in.1 hk; simpa using this
      · exact absurd hm not_moved_nil
    · intro b l2 hb
      have hb' : (own' b).loc = some l2 := hb
      rcases Nat.lt_or_ge b w.heap.size with h3 | h3
      · rw [hI.own b h3] at hb'
        exact Nat.lt_of_lt_of_le (hR.live b l2 hb') hlen
      · rcases hI.new b h3 with h4 | ⟨h4, _⟩
        · rw [h4] at hb'; cases hb'
        · rw [h4] at hb'
          simp only [Own.loc, Option.some.injEq] at hb'
          rw [← hb']
          exact Nat.lt_of_lt_of_le hl hlen
    · intro b hb
      rcases hI.new b (Nat.le_trans hI.later.size hb) with h | ⟨_, h⟩
      · exact h
      · omega
    · intro _ _ _; rfl
  exact wp_value run (hnext _ _ _ _ rfl hrel)

/-- The root behind such a step; `ok`: the slice that is appended to reads as it did. -/
theorem Inner.root {l i j : Nat} {own' : Nat → Own} (h : Inner ρ w w' l i j own') {e u : Ty} {xs : List e.D} {x : e.D} {us : List Value} {ys : List u.D} {v : Value} (hroot : RR P ρ w H l (.arr e xs true)) (hx : xs[i]? = some x) (hc : cellAt e x j = some ⟨.sl u, ys⟩) (hv : us[j]? = some v)
    {b : Nat} {n c : Nat} (hh : ρ.hdr l = .slice (some ⟨b, 0, none⟩) n c) (hcells : ∀ j u, us[j]? = some u → w.cell? ⟨b, i * e.size + j, none⟩ = some u) (hd : DR w ρ.own l i e 0 x us)
    (hok : DR w' own' l i (.sl u) j ys [v]) : ∀ H', RR P ⟨own', ρ.hdr⟩ w' H' l (.arr e xs true) := by
  intro H'
  rcases hroot with ⟨q, _, rfl⟩ | ⟨g, cap, cur, T, h1, h2, h3, h4, h5, h6, h7⟩
  · simp at hx
  rw [hh] at h1
  simp only [Value.slice.injEq, Option.some.injEq, Addr.mk.injEq, and_true] at h1
  obtain ⟨rfl, rfl, rfl⟩ := h1
  have hb : b < w.heap.size := (Array.getElem?_eq_some_iff.1 h5).1
  have hfree : ∀ b, b < w.heap.size → ρ.own b = .free → own' b = .free ∧ w'.heap[b]? = w.heap[b]? := fun b hb ho => ⟨(h.own b hb).trans ho, h.heap b hb (by rw [ho]; simp)⟩
  refine .inr ⟨b, c, cur, T, hh, h2, h3, (h.own b hb).trans h4, (h.heap b hb (by rw [h4]; simp)).trans h5, h6, fun k y hk => ?_⟩
  obtain ⟨us3, p1, p2, p3⟩ := h7 k y hk
  simp only [EL, if_true] at p3
  refine ⟨us3, p1, p2, ?_⟩
  simp only [EL, if_true]
  by_cases hki : i = k
  · subst hki
    rw [hx] at hk
    cases hk
    have hus3 : us = us3 := by
      refine List.ext_getElem? fun m => ?_
      have hl1 := DR.length e 0 x us hd
      by_cases hm : m < e.size
      · have a1 := hcells m us[m] (List.getElem?_eq_getElem (by omega))
        rw [cell_of_row w b _ cur T (0, 0) h5] at a1
        have a2 := p2 m us3[m] (List.getElem?_eq_getElem (by omega))
        rw [a1] at a2
        rw [List.getElem?_eq_getElem (by omega), List.getElem?_eq_getElem (by omega), a2]
      · rw [List.getElem?_eq_none (by omega), List.getElem?_eq_none (by omega)]
    subst hus3
    refine DR.keep3 hfree e 0 x us j u ys v (fun b2 j2 hj2 hb2 ho => ⟨(h.own b2 hb2).trans ho, h.heap b2 hb2 (by rw [ho]; simp only [ne_eq, Own.inner.injEq, true_and]; omega)⟩) p3 hc hv ?_
    rwa [Nat.zero_add]
  · exact DR.step3 hfree e 0 y us3 (fun b2 j2 _ _ hb2 ho => ⟨(h.own b2 hb2).trans ho, h.heap b2 hb2 (by rw [ho]; simp only [ne_eq, Own.inner.injEq, true_and]; omega)⟩) p3

theorem appInR_sound (hR : Rel P K ρ s a w) (hT : TyOK P E) {V : View} (hV : Seen V s) {o : Oper} {T : TypeId} {x y : Operand} (ho : o.op = .call { callee := .builtin .append, args := #[x, y], argTypes := #[T, T] }) {e : Ty} (hTe : E.T T = some (.sl e)) {X Y : A}
    (hx : AR P ρ w s.root X (a.eval x)) (hy : AR P ρ w s.root Y (a.eval y)) : Sound P K s a w o (appInR e X Y V) := by
  unfold appInR
  split
  · rename_i l i j u ys
    split
    · rename_i e' xs hl
      split
      · rename_i hue
        subst hue
        split
        · rename_i hfl
          split
          · rename_i zs d' hinto
            refine Sound.guard fun hlen => ?_
            have hlen' : ys.length + zs.length ≤ 68719476736 := by
              have : ys.length + zs.length ≤ lim := by simpa [lenOk] using hlen
              exact this
            obtain ⟨e2, xs2, x', us, h1, h2, h3, h4, h5, bm, nm, cm, h6, h8, h7⟩ := VR.cell hx
            have hs := hV l _ hl
            rw [hs] at h1
            cases h1
            obtain ⟨⟨v0, hv0, _, harr⟩, _⟩ := DR.at e' 0 x' us h5 j (.sl u) ys _ h3 h4
            simp only [List.cons.injEq, and_true] at hv0
            subst hv0
            rw [Nat.zero_add] at harr
            obtain ⟨T', hu, hT'⟩ := shp.slice (hT.ty T _ hTe)
            obtain ⟨it, z, hi, hsz, hby, hz, hzo⟩ := infoOK.spec (shp.info hT')
            have hzl : z.cells.size = it.size := by have := zeroOK.length u _ hzo; rw [Array.length_toList] at this; rw [this, hsz]
            have hpos := Ty.size_pos u
            have hbytes : (ys.length + zs.length) * it.bytes ≤ 140737488355328 := by
              have : (ys.length + zs.length) * it.bytes ≤ 68719476736 * 2048 := Nat.mul_le_mul hlen' hby
              omega
            have hK0 : Kept ρ w w l (ρ.take l false []).own false [] := ⟨fun _ _ _ => rfl, fun _ _ _ => rfl, by simp [mvLocs], by simp [mvLocs]⟩
            obtain ⟨⟨q, c, news, g1, g2, g3, g4, g5⟩, _⟩ := into_rel hV hR.root hK0 hinto (fun h => by cases h) hy
            have hllt : l < s.H.length := hR.live bm l (by rw [h8]; rfl)
            have hrun : ∀ v' w', (Builtin.append_ #[T, T] o.type #[a.eval x, a.eval y]).run P w = .ok v' w' → (execOp a.eval o).run P w = .ok (.value v') w' := by
              intro v' w' h
              simp only [execOp, ho, resolve, invoke, builtin, Sem.run_bind, Sem.run_pure, Result.andThen_ok, List.map_toArray, List.map_cons, List.map_nil, h]
            have fin : ∀ (w' : World) (own' : Nat → Own) (v' : Value), Inner ρ w w' l i j own' → DR w' own' l i (.sl u) j ys [a.eval x] → ArrR w' own' (.inner l i j) u (ys ++ zs) (fun _ y us => Rd w' (Free own') u y us) v' →
                (Builtin.append_ #[T, T] o.type #[a.eval x, a.eval y]).run P w = .ok v' w' → Sound P K s a w o (.ret { dst := .c (.app l i j u (ys ++ zs)), set := [(l, some (.arr e' xs true))], kill := [(l, false)] }) := by
              intro w' own' v' hI hok ha hr
              refine Sound.inner hR hI hllt (hrun _ _ hr) fun H' hH => ⟨hI.root (hR.root l _ hs) h2 h3 h4 h6 h7 h5 hok H', AR.one.2 ⟨hfl, ⟨e', xs, x', ys, hH, h2, h3⟩, ha⟩⟩
            have fin2 : ∀ (w' : World) (own' : Nat → Own) (g cap : Nat) (cur : Array Value) (TT : TypeId), Inner ρ w w' l i j own' → own' g = .inner l i j → w'.heap[g]? = some (.cells cur TT (0, 0)) → cur.size = cap * u.size → ys.length + zs.length ≤ cap → cap ≤ maxLen →
                (∀ (k : Nat) y, ys[k]? = some y → ∃ us : List Value, us.length = u.size ∧ (∀ (j : Nat) v, us[j]? = some v → cur[k * u.size + j]? = some v) ∧ Rd w (Free ρ.own) u y us) → (∀ (j : Nat) v, news[j]? = some v → cur[ys.length * u.size + j]? = some v) →
                DR w' own' l i (.sl u) j ys [a.eval x] → (Builtin.append_ #[T, T] o.type #[a.eval x, a.eval y]).run P w = .ok (.slice (some ⟨g, 0, none⟩) (ys.length + zs.length) cap) w' →
                Sound P K s a w o (.ret { dst := .c (.app l i j u (ys ++ zs)), set := [(l, some (.arr e' xs true))], kill := [(l, false)] }) := by
              intro w' own' g cap cur TT hI hog hhg hcs hle hmx hold hnew hok hr
              refine fin w' own' _ hI hok (.inr ⟨g, cap, cur, TT, by rw [List.length_append], by rw [List.length_append]; exact hle, hmx, hog, hhg, hcs, fun k y hk => ?_⟩) hr
              by_cases hin : k < ys.length
              · rw [List.getElem?_append_left hin] at hk
                obtain ⟨us', p1, p2, p3⟩ := hold k y hk
                exact ⟨us', p1, p2, Rd.flat u y us' hfl p3⟩
              · rw [List.getElem?_append_right (by omega)] at hk
                obtain ⟨us', p1, p2, p3, _⟩ := g5 (k - ys.length) y hk
                refine ⟨us', p1, fun j' v' hj' => ?_, Rd.flat u y us' hfl p3⟩
                have := hnew _ v' (p2 j' v' hj')
                rw [← Nat.add_assoc, ← Nat.add_mul, show ys.length + (k - ys.length) = k by omega] at this
                exact this
            have hI0 : Inner ρ w w l i j ρ.own := ⟨Later.refl w, fun _ _ _ => rfl, fun _ _ => rfl, fun b hb => .inl (hR.fresh b hb)⟩
            have hok0 : DR w ρ.own l i (.sl u) j ys [a.eval x] := ⟨_, rfl, hfl, harr⟩
            -- into a new block
            have grow : ∀ (olds : List Value) (old : Nat), olds.length = ys.length * u.size → old < ys.length + zs.length →
                (∀ (k : Nat) y, ys[k]? = some y → ∃ us : List Value, us.length = u.size ∧ (∀ (j : Nat) v, us[j]? = some v → olds[k * u.size + j]? = some v) ∧ Rd w (Free ρ.own) u y us) →
                (Builtin.append_ #[T, T] o.type #[a.eval x, a.eval y]).run P w = .ok (.slice (some ⟨w.heap.size, 0, none⟩) (ys.length + zs.length) (grownCap w (ys.length + zs.length) old T'))
                  (w.drew.alloc (.cells (olds.toArray ++ news.toArray ++ Builtin.zeroCells z.cells (grownCap w (ys.length + zs.length) old T' - (ys.length + zs.length))) T')) →
                Sound P K s a w o (.ret { dst := .c (.app l i j u (ys ++ zs)), set := [(l, some (.arr e' xs true))], kill := [(l, false)] }) := by
              intro olds old hol hlt hold hr
              have hge := grownCap_ge w (ys.length + zs.length) old T'
              have hcm : grownCap w (ys.length + zs.length) old T' ≤ maxLen := grownCap_le_maxLen w _ old T' (maxLen_ge hlen')
              generalize grownCap w (ys.length + zs.length) old T' = cap at hr hge hcm
              have hcur : ∀ (j : Nat) v, (olds ++ news)[j]? = some v → (olds.toArray ++ news.toArray ++ Builtin.zeroCells z.cells (cap - (ys.length + zs.length)))[j]? = some v := by
                intro j v hj
                have hjl := (List.getElem?_eq_some_iff.1 hj).1
                rw [Array.getElem?_append_left (by simpa using hjl)]
                simpa using hj
              have hI : Inner ρ w (w.drew.alloc (.cells (olds.toArray ++ news.toArray ++ Builtin.zeroCells z.cells (cap - (ys.length + zs.length))) T')) l i j (fun b => if b = w.heap.size then .inner l i j else ρ.own b) := by
                refine ⟨⟨by show _ ≤ (w.heap.push _).size; simp, rfl, rfl, rfl⟩, fun b hb _ => heap_alloc_old w.drew _ b hb, fun b hb => by simp [Nat.ne_of_lt hb], fun b hb => ?_⟩
                by_cases hbe : b = w.heap.size
                · right
                  refine ⟨by simp [hbe], ?_⟩
                  show b < (w.heap.push _).size
                  simp [hbe]
                · left
                  simp only [if_neg hbe]
                  exact hR.fresh b hb
              refine fin2 _ _ w.heap.size cap _ T' hI (by simp) (heap_alloc_new w.drew _) ?_ hge hcm (fun k y hk => ?_) (fun j v hj => ?_) ?_ hr
              · simp only [Array.size_append, List.size_toArray, size_zeroCells, hzl, hol, g2, hsz, ← Nat.add_mul]
                congr 1
                omega
              · obtain ⟨us', k1, k2, k3⟩ := hold k y hk
                refine ⟨us', k1, fun j v hj => hcur _ v ?_, k3⟩
                have := k2 j v hj
                rw [List.getElem?_append_left (List.getElem?_eq_some_iff.1 this).1]
                exact this
              · refine hcur _ v ?_
                rw [List.getElem?_append_right (by omega), hol, Nat.add_sub_cancel_left]
                exact hj
              · exact ⟨_, rfl, hfl, harr.step (fun b hb hob => ⟨(hI.own b hb).trans hob, heap_alloc_old w.drew _ b hb⟩) fun _ y us' _ hr' => Rd.flat u y us' hfl hr'⟩
            by_cases hzs : zs = []
            · subst hzs
              have hn0 : news = [] := List.eq_nil_of_length_eq_zero (by simpa using g2)
              subst hn0
              rcases harr with ⟨q0, hv, rfl⟩ | ⟨g, cap, cur, TT, hv, hle, hmx, hown, hheap, hsize, hel⟩
              · have hr := run_append_zero (w := w) hu hi o.type q0 q 0 0 c (Nat.le_refl _)
                refine fin w ρ.own (.slice q0 0 0) hI0 hok0 (.inl ⟨q0, rfl, rfl⟩) ?_
                rw [hv, g1]; exact hr
              · have hr := run_append_zero (w := w) hu hi o.type (some ⟨g, 0, none⟩) q ys.length cap c hle
                refine fin2 w ρ.own g cap cur TT hI0 hown hheap hsize hle hmx hel (fun j v hj => by simp at hj) hok0 ?_
                rw [hv, g1]; exact hr
            · obtain ⟨ad, rfl, hcells⟩ := g4 hzs
              have hyl : 0 < zs.length := List.length_pos_iff.2 hzs
              have hnl : news.length = zs.length * it.size := by rw [g2, hsz]
              rcases harr with ⟨q0, hv, rfl⟩ | ⟨g, cap, cur, TT, hv, hle, hmx, hown, hheap, hsize, hel⟩
              · cases q0 with
                | none =>
                  have hr := run_append_nil (P := P) w T o.type T' it z hu hi hz ad zs.length c news hnl hcells hyl (by simp only [List.length_nil, Nat.zero_add] at hlen'; omega) (by simp only [List.length_nil, Nat.zero_add] at hbytes; omega)
                  refine grow [] 0 (by simp) (by simpa using hyl) (fun k x hk => by simp at hk) ?_
                  rw [hv, g1]
                  simpa using hr
                | some q0 =>
                  have hr := run_append_grow (P := P) w T o.type T' it z hu hi hz q0 0 0 [] (by simp) (fun j v hj => by simp at hj) ad zs.length c news hnl hcells (by omega) (by simp only [List.length_nil, Nat.zero_add] at hlen' ⊢; omega) (growslice_fits (by omega) (by simpa using hbytes))
                  refine grow [] 0 (by simp) (by simpa using hyl) (fun k x hk => by simp at hk) ?_
                  rw [hv, g1]
                  simpa using hr
              · by_cases hroom : ys.length + zs.length ≤ cap
                · have hx0 : ys.length * u.size + news.length ≤ cur.size := by
                    rw [hsize, g2, ← Nat.add_mul]; exact Nat.mul_le_mul_right _ hroom
                  have hr := run_append_room' (w := w) hu hi o.type TT g ys.length cap cur hheap ad zs.length c news hnl hcells g3 hroom (by rw [hsz]; exact hx0)
                  rw [hsz] at hr
                  have hseg := segment hx0
                  have hI : Inner ρ w (w.setRow g (cur.toList.take (ys.length * u.size) ++ news ++ cur.toList.drop (ys.length * u.size + news.length)).toArray) l i j ρ.own :=
                    ⟨Later.setRow _ _ _, fun b hb hne => setRow_other w g b _ (by rintro rfl; exact hne hown), fun _ _ => rfl, fun b hb => .inl (hR.fresh b hb)⟩
                  have hold : ∀ (k : Nat) y, ys[k]? = some y → ∃ us : List Value, us.length = u.size ∧ (∀ (j : Nat) v, us[j]? = some v → (cur.toList.take (ys.length * u.size) ++ news ++ cur.toList.drop (ys.length * u.size + news.length)).toArray[k * u.size + j]? = some v) ∧ Rd w (Free ρ.own) u y us := by
                    intro k y hk
                    obtain ⟨us', k1, k2, k3⟩ := hel k y hk
                    refine ⟨us', k1, fun j v hj => ?_, k3⟩
                    have hjl := (List.getElem?_eq_some_iff.1 hj).1
                    have hri := row_index (i := k) (n := ys.length) (sz := u.size) (j := j) (List.getElem?_eq_some_iff.1 hk).1 (by omega)
                    rw [hseg, if_neg (by omega)]
                    exact k2 j v hj
                  refine fin2 _ ρ.own g cap _ TT hI hown (setRow_heap w g _ _ TT (0, 0) hheap) ((segment_size hx0).trans hsize) hroom hmx hold (fun j v hj => ?_) ⟨_, rfl, hfl, .inr ⟨g, cap, _, TT, hv, hle, hmx, hown, setRow_heap w g _ _ TT (0, 0) hheap, (segment_size hx0).trans hsize, fun k y hk => ?_⟩⟩ ?_
                  · have hjl := (List.getElem?_eq_some_iff.1 hj).1
                    rw [hseg, if_pos (by omega), Nat.add_sub_cancel_left]
                    exact hj
                  · obtain ⟨us', k1, k2, k3⟩ := hold k y hk
                    exact ⟨us', k1, k2, Rd.flat u y us' hfl k3⟩
                  · rw [hv, g1]; exact hr
                · have hx0 : ys.length * u.size ≤ cur.size := by rw [hsize]; exact Nat.mul_le_mul_right _ hle
                  have holds : ∀ (j : Nat) v, (cur.toList.take (ys.length * u.size))[j]? = some v → w.cell? ((⟨g, 0, none⟩ : Addr).add j) = some v := by
                    intro j v hj
                    rw [List.getElem?_take] at hj
                    split at hj
                    · rw [Addr.add_lit, cell_of_row w g _ cur TT (0, 0) hheap, Nat.zero_add]
                      simpa using hj
                    · cases hj
                  have hr := run_append_grow (P := P) w T o.type T' it z hu hi hz ⟨g, 0, none⟩ ys.length cap (cur.toList.take (ys.length * u.size)) (by simp [hsz]; omega) holds ad zs.length c news hnl hcells (by omega) (by omega) (growslice_fits (by omega) hbytes)
                  refine grow (cur.toList.take (ys.length * u.size)) cap (by simp; omega) (by omega) (fun k y hk => ?_) ?_
                  · obtain ⟨us', k1, k2, k3⟩ := hel k y hk
                    refine ⟨us', k1, fun j v hj => ?_, k3⟩
                    have hjl := (List.getElem?_eq_some_iff.1 hj).1
                    have hri := row_index (i := k) (n := ys.length) (sz := u.size) (j := j) (List.getElem?_eq_some_iff.1 hk).1 (by omega)
                    rw [List.getElem?_take, if_pos hri.1, Array.getElem?_toList]
                    exact k2 j v hj
                  · rw [hv, g1]; exact hr
          · exact Sound.fail
        · exact Sound.fail
      · exact Sound.fail
    · exact Sound.fail
  · exact Sound.fail

/-! ### Back to its place -/

theorem cellAt_none3 : (t : Ty) → (x : t.D) → (j : Nat) → t.size ≤ j → cellAt t x j = none
  | .one h, x, j, hj => cellAt_none3 h x j hj
  | .cons h t, x, j, hj => by
    have := Ty.size_pos t
    simp only [Ty.size] at hj
    simp only [cellAt]
    rw [if_neg (by omega)]
    exact cellAt_none3 t x.2 _ (by omega)
  | .int _, x, 0, hj | .bool, x, 0, hj | .str, x, 0, hj | .sl _, x, 0, hj => by simp [Ty.size] at hj
  | .int _, x, _ + 1, hj | .bool, x, _ + 1, hj | .str, x, _ + 1, hj | .sl _, x, _ + 1, hj => rfl

theorem storeAppR_sound (hR : Rel P K ρ s a w) (hT : TyOK P E) {V : View} (hV : Seen V s) {o : Oper} {T : TypeId} {x z : Operand} (ho : o.op = .store T x z) {l i j : Nat} {e e' : Ty} {y : e.D} {vs : List C} {Z : A} {xs : List e'.D} {d : Bool}
    (hl : V.root l = some (.arr e' xs d)) (hvs : vsOf E T Z = some vs) (hx : AR P ρ w s.root (.val false [.ap l i j e y]) (a.eval x)) (hz : AR P ρ w s.root Z (a.eval z)) :
    Sound P K s a w o (storeAppR l i j e y e' xs d vs) := by
  unfold storeAppR
  split
  · rename_i l' i' j' u zs
    split
    · rename_i hc
      simp only [Bool.and_eq_true, beq_iff_eq] at hc
      obtain ⟨⟨⟨rfl, rfl⟩, rfl⟩, rfl⟩ := hc
      split
      · rename_i he
        subst he
        obtain ⟨xs', d', g, n, c, h1, h2, h3, hv⟩ := VR.cell hx
        have hs := hV l' _ hl
        rw [hs] at h1
        cases h1
        obtain ⟨hsize, us2, hus, hcells⟩ := vsOf_spec hvs hz
        obtain ⟨v, rfl⟩ : ∃ v, us2 = [v] := by
          have := hus.1
          match us2, this with
          | [v], _ => exact ⟨v, rfl⟩
        obtain ⟨hfl, ⟨e2, xs2, x2, ys, k1, k2, k3⟩, harr⟩ := hus.2 0 _ v rfl rfl
        rw [hs] at k1
        cases k1
        rw [h2] at k2
        cases k2
        rcases hR.root l' _ hs with ⟨q, _, rfl⟩ | ⟨g', cap, cur, TT, hh, hcap, hmx, hown, hheap, hsz, hel⟩
        · simp at h2
        rw [h3] at hh
        simp only [Value.slice.injEq, Option.some.injEq, Addr.mk.injEq, and_true] at hh
        obtain ⟨rfl, rfl, rfl⟩ := hh
        obtain ⟨us, g1, g2, g3⟩ := hel i' y h2
        simp only [EL, if_true] at g3
        have hgb : g < w.heap.size := (Array.getElem?_eq_some_iff.1 hheap).1
        have hj : j' < e'.size := by
          rcases Nat.lt_or_ge j' e'.size with h | h
          · exact h
          · have := cellAt_none3 e' y j' h
            rw [k3] at this
            cases this
        have hi : i' < c := Nat.lt_of_lt_of_le (List.getElem?_eq_some_iff.1 h2).1 hcap
        have hrow : (i' + 1) * e'.size ≤ c * e'.size := Nat.mul_le_mul_right _ hi
        rw [Nat.add_mul, Nat.one_mul] at hrow
        have hfit : i' * e'.size + j' + [v].length ≤ cur.size := by simp only [List.length_cons, List.length_nil]; omega
        have run := run_storeAt_row hT hsize hus hcells hheap hfit
        generalize hW : w.setRow g (cur.toList.take (i' * e'.size + j') ++ [v] ++ cur.toList.drop (i' * e'.size + j' + [v].length)).toArray = w' at run
        have hK : Kept ρ w w' l' (ρ.take l' true []).own true [] := by
          refine ⟨fun b hb hob => ?_, fun _ _ _ => rfl, by simp [mvLocs], by simp [mvLocs]⟩
          rw [← hW]
          exact setRow_other w g b _ (by rintro rfl; exact hob hown)
        have hin : ∀ b, (ρ.take l' true []).own b = ρ.own b := by
          intro b
          simp only [Map.take, List.find?_nil]
          cases hb : ρ.own b with
          | inner l2 i2 j2 =>
            dsimp only
            split
            · rename_i h; simp [h]
            · rfl
          | _ => rfl
        have hel0 : EL0 w' (ρ.take l' true []).own l' i' true e' 0 y us := hK.el (fun h => h) (by simpa [EL] using g3)
        have hz' : EL0 w' (ρ.take l' true []).own l' i' true (.sl u) j' zs [v] := by
          refine ⟨v, rfl, hfl, harr.step (fun b hb hob => ⟨(hin b).trans hob, hK.heap b hb (by rw [hob]; simp)⟩) fun _ y2 us' _ hr' => Rd.flat u y2 us' hfl hr'⟩
        have q2 : EL0 w' (ρ.take l' true []).own l' i' true e' 0 (setAt e' y j' (.sl u) zs) (us.set j' v) := EL0.set hel0 k3 hz'
        have hcur' : w'.heap[g]? = some (.cells (cur.toList.take (i' * e'.size + j') ++ [v] ++ cur.toList.drop (i' * e'.size + j' + [v].length)).toArray TT (0, 0)) := by
          rw [← hW]; exact setRow_heap w g _ _ TT (0, 0) hheap
        have hseg := segment hfit
        have hus' : ∀ (k : Nat) u, (us.set j' v)[k]? = some u → (cur.toList.take (i' * e'.size + j') ++ [v] ++ cur.toList.drop (i' * e'.size + j' + [v].length)).toArray[i' * e'.size + k]? = some u := by
          intro k u hk
          rw [hseg]
          by_cases hkj : k = j'
          · subst hkj
            rw [List.getElem?_set_self (by omega)] at hk
            rw [if_pos (by simp)]
            rw [Nat.sub_self]
            exact hk
          · rw [List.getElem?_set_ne (Ne.symm hkj)] at hk
            rw [if_neg (by simp only [List.length_cons, List.length_nil]; omega)]
            exact g2 k u hk
        have hD : putD .none l' (.arr e' (xs.set i' (setAt e' y j' (.sl u) zs)) true) false true [] = { dst := .none, set := [(l', some (.arr e' (xs.set i' (setAt e' y j' (.sl u) zs)) true))], kill := [(l', false)] } := rfl
        refine Sound.put (x := .none) hR (ρ' := ρ.take l' true []) (w' := w') (v := undef) (deep := true) (all := false) (ms := []) (r := .arr e' (xs.set i' (setAt e' y j' (.sl u) zs)) true) hK (by rw [← hW]; exact Later.setRow _ _ _) (fun b hb hb2 => .inl ((hin b).trans hb2)) (fun b hb => .inl ((hin b).trans (hR.fresh b hb)))
          (fun _ _ => rfl) (fun _ => rfl) (fun _ _ => rfl) (.inr ⟨?_, rfl⟩) fun H' hH => ⟨?_, rfl, fun _ q hq => by cases hq⟩
        · simp only [execOp, ho, hv, Sem.run_bind]
          rw [run]
          rfl
        · refine .inr ⟨g, c, _, TT, by rw [List.length_set]; exact h3, by rw [List.length_set]; exact hcap, hmx, (hin g).trans hown, hcur', (segment_size hfit).trans hsz, fun k x hk => ?_⟩
          by_cases hki : k = i'
          · subst hki
            rw [List.getElem?_set_self (List.getElem?_eq_some_iff.1 h2).1] at hk
            cases hk
            exact ⟨_, by rw [List.length_set]; exact g1, hus', q2⟩
          · rw [List.getElem?_set_ne (Ne.symm hki)] at hk
            obtain ⟨us3, p1, p2, p3⟩ := hel k x hk
            refine ⟨us3, p1, fun j2 v2 hj2 => ?_, hK.el (fun h => h) p3⟩
            have hjl := (List.getElem?_eq_some_iff.1 hj2).1
            rw [hseg, if_neg ?_]
            · exact p2 j2 v2 hj2
            · simp only [List.length_cons, List.length_nil]
              rintro ⟨r1, r2⟩
              rcases Nat.lt_or_gt_of_ne hki with hlt | hgt
              · have : (k + 1) * e'.size ≤ i' * e'.size := Nat.mul_le_mul_right _ hlt
                rw [Nat.add_mul, Nat.one_mul] at this
                omega
              · have : (i' + 1) * e'.size ≤ k * e'.size := Nat.mul_le_mul_right _ hgt
                rw [Nat.add_mul, Nat.one_mul] at this
                omega
      · exact Sound.fail
    · exact Sound.fail
  · exact Sound.fail

end Go.Proofs.YtgjneigkkgaaiaaGreatDoor.Vd

/- VdZb -/
namespace Go.Proofs.YtgjneigkkgaaiaaGreatDoor.Vd

variable {P : Program} {E : Env} {ρ ρ' : Map} {w w' : World} {s : S} {a : Act} {K : Ctx} {H H' : Nat → Option Root}

theorem storeR_sound (hR : Rel P K ρ s a w) (hT : TyOK P E) {V : View} (hV : Seen V s) {o : Oper} {T : TypeId} {x z : Operand} (ho : o.op = .store T x z) {X Z : A}
    (hx : AR P ρ w s.root X (a.eval x)) (hz : AR P ρ w s.root Z (a.eval z)) : Sound P K s a w o (storeR E T X Z V) := by
  unfold storeR
  split
  · exact Sound.fail
  · rename_i vs hvs
    split
    · rename_i l off
      split
      · rename_i cs hl
        split
        · rename_i hle
          exact storeBox_sound hR hT ho (hV l _ hl) hvs hle hx hz
        · exact Sound.fail
      · exact Sound.fail
    · rename_i l i j e y
      split
      · rename_i e' xs d hl
        split
        · rename_i he
          subst he
          split
          · rename_i y' b m hset
            split
            · exact Sound.fail
            · rename_i hc
              simp only [Bool.or_eq_true, List.contains_eq_mem, decide_eq_true_eq, Bool.not_eq_true', decide_eq_false_iff_not, not_or, Classical.not_not] at hc
              split
              · rename_i hdb
                simp only [Bool.and_eq_true] at hdb
                exact storeAp_sound (deep := true) hR hT hV ho hl hvs hset hc.1 hc.2 hx hz fun _ => hdb
              · exact storeAp_sound (deep := false) hR hT hV ho hl hvs hset hc.1 hc.2 hx hz fun h => by cases h
          · exact storeAppR_sound hR hT hV ho hl hvs hx hz
        · exact Sound.fail
      · exact Sound.fail
    · rename_i l i j i' j' u ys y
      split
      · rename_i e xs hl
        split
        · rename_i hf
          split
          · rename_i y' b hset
            exact storeAp1_sound hR hT hV ho hl hvs hset hf hx hz
          · exact Sound.fail
        · exact Sound.fail
      · exact Sound.fail
    · exact Sound.fail

theorem appendR_sound (hR : Rel P K ρ s a w) (hT : TyOK P E) (hF : FixOK K E) {V : View} (hV : Seen V s) {o : Oper} {T : TypeId} {x y : Operand} (ho : o.op = .call { callee := .builtin .append, args := #[x, y], argTypes := #[T, T] }) {X Y : A}
    (hx : AR P ρ w s.root X (a.eval x)) (hy : AR P ρ w s.root Y (a.eval y)) : Sound P K s a w o (appendR E T X Y V) := by
  unfold appendR
  split
  · rename_i e hTe
    split
    · rename_i ol xs d hb
      split
      · rename_i ys d' m hi
        split
        · exact Sound.fail
        · rename_i hnd
          simp only [Bool.not_eq_true', decide_eq_false_iff_not, Classical.not_not] at hnd
          refine Sound.guard fun hlen => ?_
          have hlen' : xs.length + ys.length ≤ lim := by simpa [lenOk] using hlen
          dsimp only
          split
          · exact Sound.fail
          · rename_i hc
            simp only [Bool.or_eq_true, List.contains_eq_mem, decide_eq_true_eq, not_or] at hc
            have hbr := (base_rel hV hR.root hb hx).1
            have hfix : ∀ u, (ol.getD V.nx, u) ∉ K.fix := fun u hu => hc.2 (hF _ u hu)
            split
            · rename_i hdd
              simp only [Bool.and_eq_true] at hdd
              exact append_core (deep := true) hR hT hV ho hTe hbr hi hy (fun _ => hdd) hnd hc.1 hfix hlen'
            · exact append_core (deep := false) hR hT hV ho hTe hbr hi hy (fun h => by cases h) hnd hc.1 hfix hlen'
      · exact Sound.fail
    · exact appInR_sound hR hT hV ho hTe hx hy
  · exact Sound.fail

end Go.Proofs.YtgjneigkkgaaiaaGreatDoor.Vd

/- VdZc -/
namespace Go.Proofs.YtgjneigkkgaaiaaGreatDoor.Vd

variable {P : Program} {E : Env} {ρ ρ' : Map} {w w' : World} {s : S} {a : Act} {K : Ctx} {H H' : Nat → Option Root}

theorem min_eq (m n : Nat) : Nat.min m n = min m n := rfl

theorem run_copy' {T T' ST : TypeId} {n0 : Nat} (hu : P.underlying T = some (.slice T')) (hs : (sizeOf T').run P w = .ok n0 w) (ty TT : TypeId) (g dLen dCap : Nat) (cur : Array Value) (hg : w.heap[g]? = some (.cells cur TT (0, 0)))
    (q : Option Addr) (sLen sCap : Nat) (news : List Value) (hl : news.length = min sLen dLen * n0) (hq : (q = none ∧ news = []) ∨ ∃ ad, q = some ad ∧ ∀ j u, news[j]? = some u → w.cell? (ad.add j) = some u) (h1 : ∀ u ∈ news, u.oneCell' = true) (hfit : news.length ≤ cur.size) :
    (Builtin.copy_ #[T, ST] ty #[.slice (some ⟨g, 0, none⟩) dLen dCap, .slice q sLen sCap]).run P w = .ok (goInt (min sLen dLen : Nat)) (w.setRow g (cur.toList.take 0 ++ news ++ cur.toList.drop (0 + news.length)).toArray) := by
  have hst := run_storeCells_at P g 0 TT news 0 cur w hg (by simpa using hfit) h1
  simp only [Nat.add_zero] at hst
  have hf : (Builtin.firstCells n0 (min sLen dLen) (.slice q sLen sCap)).run P w = .ok news.toArray w := by
    rcases hq with ⟨rfl, rfl⟩ | ⟨ad, rfl, hc⟩
    · rfl
    · exact run_firstCells_some (P := P) w n0 (min sLen dLen) ad sLen sCap news hl hc
  simp [Builtin.copy_, run_underlying hu, Builtin.lenOf, min_eq, hs, hf, hst]

theorem run_copyAt {T T' ST : TypeId} {n0 : Nat} (hu : P.underlying T = some (.slice T')) (hs : (sizeOf T').run P w = .ok n0 w) (ty TT : TypeId) (g off dLen dCap : Nat) (cur : Array Value) (hg : w.heap[g]? = some (.cells cur TT (0, 0)))
    (q : Option Addr) (sLen sCap : Nat) (news : List Value) (hl : news.length = min sLen dLen * n0) (hq : (q = none ∧ news = []) ∨ ∃ ad, q = some ad ∧ ∀ j u, news[j]? = some u → w.cell? (ad.add j) = some u) (h1 : ∀ u ∈ news, u.oneCell' = true) (hfit : off + news.length ≤ cur.size) :
    (Builtin.copy_ #[T, ST] ty #[.slice (some ⟨g, off, none⟩) dLen dCap, .slice q sLen sCap]).run P w = .ok (goInt (min sLen dLen : Nat)) (w.setRow g (cur.toList.take off ++ news ++ cur.toList.drop (off + news.length)).toArray) := by
  have hst := run_storeCells_at P g off TT news 0 cur w hg (by simpa using hfit) h1
  simp only [Nat.add_zero] at hst
  have hf : (Builtin.firstCells n0 (min sLen dLen) (.slice q sLen sCap)).run P w = .ok news.toArray w := by
    rcases hq with ⟨rfl, rfl⟩ | ⟨ad, rfl, hc⟩
    · rfl
    · exact run_firstCells_some (P := P) w n0 (min sLen dLen) ad sLen sCap news hl hc
  simp [Builtin.copy_, run_underlying hu, Builtin.lenOf, min_eq, hs, hf, hst]

theorem copySuf_sound (hR : Rel P K ρ s a w) {V : View} (hV : Seen V s) {o : Oper} {T T' ST : TypeId} {x y : Operand} (ho : o.op = .call { callee := .builtin .copy, args := #[x, y], argTypes := #[T, ST] }) {Y : A} {e : Ty}
    (hu : P.underlying T = some (.slice T')) (hT' : shp P e (.inl T')) {l n : Nat} {zs : List e.D} (hx : CR P ρ w s.root (.suf l n e zs) (a.eval x)) (hy : AR P ρ w s.root Y (a.eval y)) (hf : e.flat = true) {ys : List e.D} {dy : List Nat} (hd : V.slData Y = some ⟨e, ys, dy⟩)
    {xs : List e.D} {d : Bool} (hs : s.root l = some (.arr e xs d)) :
    Sound P K s a w o (.ret { dst := .c (.v (.int .i64) ((min ys.length zs.length : Nat) : Int) []), set := [(l, some (.arr e (xs.take n ++ (ys.take zs.length ++ xs.drop (n + min ys.length zs.length))) d))], kill := [(l, false)] }) := by
  obtain ⟨xs', d', h1, h2, h3, h4⟩ := hx
  rw [hs] at h1
  simp only [Option.some.injEq, Root.arr.injEq, heq_eq_eq, true_and] at h1
  obtain ⟨rfl, rfl⟩ := h1
  have hry := slData_rd hV hR.root hd hy
  obtain ⟨q, c, hyv, hyc⟩ := hry.slice
  rw [hyv] at hry
  obtain ⟨q1, c1, hxv, hxc⟩ := h3.slice
  have hrun : ∀ v' w', (Builtin.copy_ #[T, ST] o.type #[a.eval x, a.eval y]).run P w = .ok v' w' → (execOp a.eval o).run P w = .ok (.value v') w' := by
    intro v' w' h
    simp only [execOp, ho, resolve, invoke, builtin, Sem.run_bind, Sem.run_pure, Result.andThen_ok, List.map_toArray, List.map_cons, List.map_nil, h]
  have hD : ∀ w' : World, Later w w' → (∀ b, b < w.heap.size → ρ.own b ≠ .main l → w'.heap[b]? = w.heap[b]?) → (execOp a.eval o).run P w = .ok (.value (goInt (min ys.length zs.length : Nat))) w' → w'.heap.size = w.heap.size →
      ArrR w' (ρ.take l d []).own (.main l) e (xs.take n ++ (ys.take zs.length ++ xs.drop (n + min ys.length zs.length))) (EL w' (ρ.take l d []).own l d e) (ρ.hdr l) →
      Sound P K s a w o (.ret (putD (.c (.v (.int .i64) ((min ys.length zs.length : Nat) : Int) [])) l (.arr e (xs.take n ++ (ys.take zs.length ++ xs.drop (n + min ys.length zs.length))) d) false d [])) := by
    intro w' hla hhp run hsz harr
    refine Sound.put hR (ρ' := ρ.take l d []) (w' := w') (v := goInt (min ys.length zs.length : Nat)) ⟨hhp, fun _ _ _ => rfl, by simp [mvLocs], by simp [mvLocs]⟩ hla (fun b _ hb => .inl (by simp [Map.take, hb])) (fun b hb => .inl (by simp [Map.take, hR.fresh b hb])) (fun _ _ => rfl) (fun _ => rfl) (fun _ _ => rfl) (.inl run)
      fun H' hH => ⟨harr, AR.ofInt _ _ _, fun _ q hq => by cases hq⟩
  have hput : (R.ret (putD (.c (.v (.int .i64) ((min ys.length zs.length : Nat) : Int) [])) l (.arr e (xs.take n ++ (ys.take zs.length ++ xs.drop (n + min ys.length zs.length))) d) false d [])) =
      .ret { dst := .c (.v (.int .i64) ((min ys.length zs.length : Nat) : Int) []), set := [(l, some (.arr e (xs.take n ++ (ys.take zs.length ++ xs.drop (n + min ys.length zs.length))) d))], kill := [(l, false)] } := by
    cases d <;> rfl
  rw [← hput]
  by_cases hz : zs = []
  · -- nothing to be written
    subst hz
    have hid : xs.take n ++ (ys.take ([] : List e.D).length ++ xs.drop (n + min ys.length ([] : List e.D).length)) = xs := by simp
    refine hD w (Later.refl w) (fun _ _ _ => rfl) (hrun _ _ ?_) rfl ?_
    · rw [hxv, hyv]
      have hs0 : (sizeOf T').run P w = .ok e.size w := shp.size hT' w
      have h0 : ∀ q, (Builtin.firstCells e.size 0 (.slice q ys.length c)).run P w = .ok #[] w := fun q => by
        cases q with
        | none => rfl
        | some ad => exact run_firstCells_some (P := P) w e.size 0 ad ys.length c [] (by simp) (by simp)
      cases q1 <;> simp [Builtin.copy_, run_underlying hu, Builtin.lenOf, hs0, h0, storeCells]
    · rw [hid]
      have hr : ArrR w ρ.own (.main l) e xs (EL w ρ.own l d e) (ρ.hdr l) := hR.root l _ hs
      refine ArrR.step hr (fun b _ hb => ⟨by simp [Map.take, hb], rfl⟩) fun i x us _ he => ?_
      have hK : Kept ρ w w l (ρ.take l d []).own d [] := ⟨fun b hb hne => rfl, fun _ _ _ => rfl, by simp [mvLocs], by simp [mvLocs]⟩
      exact hK.el (fun h => h) he
  · obtain ⟨g, m, c2, c3, hh, hx2⟩ := h4 hz
    rcases hR.root l _ hs with ⟨q0, hv0, rfl⟩ | ⟨g', cap, cur, TT, hh', hcap, hmx, hown, hheap, hsize, hel⟩
    · exact absurd (List.eq_nil_of_length_eq_zero (by rw [List.length_nil] at h2; omega)) hz
    · rw [hh] at hh'
      simp only [Value.slice.injEq, Option.some.injEq, Addr.mk.injEq, and_true] at hh'
      obtain ⟨rfl, rfl, rfl⟩ := hh'
      have hpos := Ty.size_pos e
      have hrt : Rd w (Al ρ.own dy) (.sl e) (ys.take zs.length) [.slice q (min zs.length ys.length) c] := by
        rw [List.take_eq_take_min]
        exact Rd.take hry (Nat.min_le_right _ _) (by omega)
      obtain ⟨⟨q', c', news, k1, k2, k3, k4, k5⟩, _⟩ := Brings.flat (P := P) (ρ := ρ) (w' := w) (own' := ρ.own) (l := l) (n := 0) (deep := true) hf hrt
      simp only [Value.slice.injEq] at k1
      obtain ⟨rfl, k1, rfl⟩ := k1
      have hnl : news.length = min ys.length zs.length * e.size := by rw [k2]; congr 1; omega
      have hmul : n * e.size + min ys.length zs.length * e.size ≤ cur.size := by
        rw [hsize, ← Nat.add_mul]
        exact Nat.mul_le_mul_right _ (by omega)
      have hfit : n * e.size + news.length ≤ cur.size := by rw [hnl]; exact hmul
      have hq : (q = none ∧ news = []) ∨ ∃ ad, q = some ad ∧ ∀ j u, news[j]? = some u → w.cell? (ad.add j) = some u := by
        by_cases hne : ys.take zs.length = []
        · cases q with
          | none =>
            refine .inl ⟨rfl, List.eq_nil_of_length_eq_zero ?_⟩
            rw [k2, hne]; simp
          | some ad =>
            refine .inr ⟨ad, rfl, fun j u hj => ?_⟩
            have : news = [] := List.eq_nil_of_length_eq_zero (by rw [k2, hne]; simp)
            subst this
            simp at hj
        · exact .inr (k4 hne)
      have run := run_copyAt (ST := ST) hu (shp.size hT' w) o.type TT g (n * e.size) zs.length c3 cur hheap q ys.length c news hnl hq k3 hfit
      have hseg := segment (cur := cur) (o := n * e.size) (us := news) hfit
      refine hD (w.setRow g _) (Later.setRow _ _ _) (fun b hb hne => setRow_other w g b _ (by rintro rfl; exact hne hown)) (hrun _ _ (by rw [hx2, hyv]; exact run)) (by simp) ?_
      have hlen : (xs.take n ++ (ys.take zs.length ++ xs.drop (n + min ys.length zs.length))).length = xs.length := by simp; omega
      refine .inr ⟨g, _, _, TT, by rw [hlen]; exact hh, by rw [hlen]; exact hcap, hmx, by simp [Map.take, hown], setRow_heap w g _ _ TT (0, 0) hheap, (segment_size hfit).trans hsize, fun i z hi => ?_⟩
      have hK : Kept ρ w (w.setRow g (cur.toList.take (n * e.size) ++ news ++ cur.toList.drop (n * e.size + news.length)).toArray) l (ρ.take l d []).own d [] :=
        ⟨fun b hb hne => setRow_other w g b _ (by rintro rfl; exact hne hown), fun _ _ _ => rfl, by simp [mvLocs], by simp [mvLocs]⟩
      have htl : (xs.take n).length = n := by simp; omega
      have hyl : (ys.take zs.length).length = min ys.length zs.length := by simp; omega
      -- an element that was there before
      have old : ∀ i z, xs[i]? = some z → (i < n ∨ n + min ys.length zs.length ≤ i) → ∃ us, us.length = e.size ∧ (∀ (j : Nat) u, us[j]? = some u → (cur.toList.take (n * e.size) ++ news ++ cur.toList.drop (n * e.size + news.length)).toArray[i * e.size + j]? = some u) ∧ EL (w.setRow g (cur.toList.take (n * e.size) ++ news ++ cur.toList.drop (n * e.size + news.length)).toArray) (ρ.take l d []).own l d e i z us := by
        intro i z hi hor
        obtain ⟨us, g1, g2, g3⟩ := hel i z hi
        refine ⟨us, g1, fun j u hj => ?_, hK.el (fun h => h) g3⟩
        have hjl := (List.getElem?_eq_some_iff.1 hj).1
        rw [hseg, if_neg ?_]
        · exact g2 j u hj
        · rintro ⟨ha, hb⟩
          rcases hor with h | h
          · have : (i + 1) * e.size ≤ n * e.size := Nat.mul_le_mul_right _ h
            rw [Nat.add_mul, Nat.one_mul] at this
            omega
          · have : (n + min ys.length zs.length) * e.size ≤ i * e.size := Nat.mul_le_mul_right _ h
            rw [Nat.add_mul] at this
            rw [hnl] at hb
            omega
      by_cases hi0 : i < n
      · rw [List.getElem?_append_left (by omega), List.getElem?_take, if_pos hi0] at hi
        exact old i z hi (.inl hi0)
      · rw [List.getElem?_append_right (by omega), htl] at hi
        by_cases hi1 : i - n < (ys.take zs.length).length
        · rw [List.getElem?_append_left hi1] at hi
          obtain ⟨us, g1, g2, g3, _⟩ := k5 (i - n) z hi
          refine ⟨us, g1, fun j u hj => ?_, ?_⟩
          · have := g2 j u hj
            have hjl := (List.getElem?_eq_some_iff.1 this).1
            have hmul2 : i * e.size = n * e.size + (i - n) * e.size := by rw [← Nat.add_mul]; congr 1; omega
            rw [hseg, if_pos ⟨by omega, by omega⟩]
            rw [show i * e.size + j - n * e.size = (i - n) * e.size + j by omega]
            exact this
          · have hrf : Rd w (fun _ => True) e z us := DR.rd (A := fun _ => True) (fun _ _ => trivial) e 0 z us (by simpa [EL0] using g3)
            unfold EL
            cases d with
            | true => exact DR.ofFlat (A := fun _ => True) e 0 z us hf (Rd.flat e z us hf hrf)
            | false => exact Rd.flat e z us hf hrf
        · rw [List.getElem?_append_right (by omega), List.getElem?_drop, hyl] at hi
          rw [hyl] at hi1
          rw [show n + min ys.length zs.length + (i - n - min ys.length zs.length) = i by omega] at hi
          exact old i z hi (.inr (by omega))

theorem copyR_sound (hR : Rel P K ρ s a w) (hT : TyOK P E) {V : View} (hV : Seen V s) {o : Oper} {T ST : TypeId} {x y : Operand} (ho : o.op = .call { callee := .builtin .copy, args := #[x, y], argTypes := #[T, ST] }) {X Y : A}
    (hx : AR P ρ w s.root X (a.eval x)) (hy : AR P ρ w s.root Y (a.eval y)) : Sound P K s a w o (copyR E T X Y V) := by
  unfold copyR
  split
  · rename_i e0 hTe
    obtain ⟨T', hu, hT'⟩ := shp.slice (hT.ty T _ hTe)
    split
    rotate_left
    · rename_i l n e1 zs e' ys dy hd
      split
      · rename_i e xs d hl
        split
        · rename_i he
          subst he
          split
          · rename_i hf
            simp only [Bool.and_eq_true, beq_iff_eq] at hf
            obtain ⟨hf, rfl, rfl⟩ := hf
            exact copySuf_sound hR hV ho hu hT' (VR.cell hx) hy hf hd (hV l _ hl)
          · exact Sound.fail
        · exact Sound.fail
      · exact Sound.fail
    · exact Sound.fail
    · rename_i l e' ys dy hd
      split
      · rename_i e xs d hl
        split
        · rename_i he
          subst he
          split
          · rename_i hf
            simp only [Bool.and_eq_true, beq_iff_eq] at hf
            obtain ⟨hf, rfl⟩ := hf
            have hs := hV l _ hl
            obtain ⟨hv, _⟩ := VR.cell hx
            have hry := slData_rd hV hR.root hd hy
            obtain ⟨q, c, hyv, hyc⟩ := hry.slice
            rw [hyv] at hry
            have hrun : ∀ v' w', (Builtin.copy_ #[T, ST] o.type #[a.eval x, a.eval y]).run P w = .ok v' w' → (execOp a.eval o).run P w = .ok (.value v') w' := by
              intro v' w' h
              simp only [execOp, ho, resolve, invoke, builtin, Sem.run_bind, Sem.run_pure, Result.andThen_ok, List.map_toArray, List.map_cons, List.map_nil, h]
            have hD : ∀ w' : World, Later w w' → (∀ b, b < w.heap.size → ρ.own b ≠ .main l → w'.heap[b]? = w.heap[b]?) → (execOp a.eval o).run P w = .ok (.value (goInt (min ys.length xs.length : Nat))) w' → w'.heap.size = w.heap.size →
                ArrR w' (ρ.take l d []).own (.main l) e' (ys.take xs.length ++ xs.drop ys.length) (EL w' (ρ.take l d []).own l d e') (ρ.hdr l) →
                Sound P K s a w o (.ret (putD (.c (.v (.int .i64) ((min ys.length xs.length : Nat) : Int) [])) l (.arr e' (ys.take xs.length ++ xs.drop ys.length) d) false d [])) := by
              intro w' hla hhp run hsz harr
              refine Sound.put hR (ρ' := ρ.take l d []) (w' := w') (v := goInt (min ys.length xs.length : Nat)) ⟨hhp, fun _ _ _ => rfl, by simp [mvLocs], by simp [mvLocs]⟩ hla (fun b _ hb => .inl (by simp [Map.take, hb])) (fun b hb => .inl (by simp [Map.take, hR.fresh b hb])) (fun _ _ => rfl) (fun _ => rfl) (fun _ _ => rfl) (.inl run)
                fun H' hH => ⟨harr, AR.ofInt _ _ _, fun _ q hq => by cases hq⟩
            have hput : (R.ret (putD (.c (.v (.int .i64) ((min ys.length xs.length : Nat) : Int) [])) l (.arr e' (ys.take xs.length ++ xs.drop ys.length) d) false d [])) =
                .ret { dst := .c (.v (.int .i64) ((min ys.length xs.length : Nat) : Int) []), set := [(l, some (.arr e' (ys.take xs.length ++ xs.drop ys.length) d))], kill := [(l, false)] } := by
              cases d <;> rfl
            show Sound P K s a w o (.ret { dst := .c (.v (.int .i64) ((min ys.length xs.length : Nat) : Int) []), set := [(l, some (.arr e' (ys.take xs.length ++ xs.drop ys.length) d))], kill := [(l, false)] })
            rw [← hput]
            rcases hR.root l _ hs with ⟨q0, hv0, rfl⟩ | ⟨g, cap, cur, TT, hh, hcap, hmx, hown, hheap, hsize, hel⟩
            · refine hD w (Later.refl w) (fun _ _ _ => rfl) (hrun _ _ ?_) rfl (.inl ⟨q0, hv0, by simp⟩)
              rw [hv, hv0, hyv]
              have hs0 : (sizeOf T').run P w = .ok e'.size w := shp.size hT' w
              cases q0 <;> cases q <;> simp [Builtin.copy_, run_underlying hu, Builtin.lenOf, Builtin.firstCells, hs0, loadCells, loadCellsFrom, storeCells]
            · have hpos := Ty.size_pos e'
              have hrt : Rd w (Al ρ.own dy) (.sl e') (ys.take xs.length) [.slice q (min xs.length ys.length) c] := by
                rw [List.take_eq_take_min]
                exact Rd.take hry (Nat.min_le_right _ _) (by omega)
              obtain ⟨⟨q', c', news, h1, h2, h3, h4, h5⟩, _⟩ := Brings.flat (P := P) (ρ := ρ) (w' := w) (own' := ρ.own) (l := l) (n := 0) (deep := true) hf hrt
              simp only [Value.slice.injEq] at h1
              obtain ⟨rfl, h1, rfl⟩ := h1
              have hnl : news.length = min ys.length xs.length * e'.size := by rw [h2]; congr 1; omega
              have hfit : news.length ≤ cur.size := by
                rw [hnl, hsize]
                exact Nat.mul_le_mul_right _ (Nat.le_trans (Nat.min_le_right _ _) hcap)
              have hq : (q = none ∧ news = []) ∨ ∃ ad, q = some ad ∧ ∀ j u, news[j]? = some u → w.cell? (ad.add j) = some u := by
                by_cases hne : ys.take xs.length = []
                · cases q with
                  | none =>
                    refine .inl ⟨rfl, List.eq_nil_of_length_eq_zero ?_⟩
                    rw [h2, hne]; simp
                  | some ad =>
                    refine .inr ⟨ad, rfl, fun j u hj => ?_⟩
                    have : news = [] := List.eq_nil_of_length_eq_zero (by rw [h2, hne]; simp)
                    subst this
                    simp at hj
                · exact .inr (h4 hne)
              have run := run_copy' (ST := ST) hu (shp.size hT' w) o.type TT g xs.length cap cur hheap q ys.length c news hnl hq h3 hfit
              have hseg := segment (cur := cur) (o := 0) (us := news) (by omega)
              refine hD (w.setRow g _) (Later.setRow _ _ _) (fun b hb hne => setRow_other w g b _ (by rintro rfl; exact hne hown)) (hrun _ _ (by rw [hv, hh, hyv]; exact run)) (by simp) ?_
              have hlen : (ys.take xs.length ++ xs.drop ys.length).length = xs.length := by simp; omega
              refine .inr ⟨g, cap, _, TT, by rw [hlen]; exact hh, by rw [hlen]; exact hcap, hmx, by simp [Map.take, hown], setRow_heap w g _ _ TT (0, 0) hheap, (segment_size (by omega)).trans hsize, fun i z hi => ?_⟩
              have hK : Kept ρ w (w.setRow g (cur.toList.take 0 ++ news ++ cur.toList.drop (0 + news.length)).toArray) l (ρ.take l d []).own d [] :=
                ⟨fun b hb hne => setRow_other w g b _ (by rintro rfl; exact hne hown), fun _ _ _ => rfl, by simp [mvLocs], by simp [mvLocs]⟩
              by_cases hi1 : i < (ys.take xs.length).length
              · rw [List.getElem?_append_left hi1] at hi
                obtain ⟨us, g1, g2, g3, _⟩ := h5 i z hi
                refine ⟨us, g1, fun j u hj => ?_, ?_⟩
                · have := g2 j u hj
                  have hjl := (List.getElem?_eq_some_iff.1 this).1
                  rw [hseg, if_pos (by omega), Nat.sub_zero]
                  exact this
                · have hrf : Rd w (fun _ => True) e' z us := DR.rd (A := fun _ => True) (fun _ _ => trivial) e' 0 z us (by simpa [EL0] using g3)
                  unfold EL
                  cases d with
                  | true => exact DR.ofFlat (A := fun _ => True) e' 0 z us hf (Rd.flat e' z us hf hrf)
                  | false => exact Rd.flat e' z us hf hrf
              · rw [List.getElem?_append_right (by omega), List.getElem?_drop] at hi
                have hil : ys.length ≤ i := by
                  rcases Nat.lt_or_ge i ys.length with h | h
                  · exfalso
                    have h6 := (List.getElem?_eq_some_iff.1 hi).1
                    simp at hi1 h6
                    omega
                  · exact h
                have hidx : ys.length + (i - (ys.take xs.length).length) = i := by
                  simp at hi1 ⊢
                  have h6 := (List.getElem?_eq_some_iff.1 hi).1
                  simp at h6
                  omega
                rw [hidx] at hi
                obtain ⟨us, g1, g2, g3⟩ := hel i z hi
                refine ⟨us, g1, fun j u hj => ?_, hK.el (fun h => h) g3⟩
                have hjl := (List.getElem?_eq_some_iff.1 hj).1
                have hle : min ys.length xs.length * e'.size ≤ i * e'.size := Nat.mul_le_mul_right _ (Nat.le_trans (Nat.min_le_left _ _) hil)
                rw [hseg, if_neg (by omega)]
                exact g2 j u hj
          · exact Sound.fail
        · exact Sound.fail
      · exact Sound.fail
  · exact Sound.fail

end Go.Proofs.YtgjneigkkgaaiaaGreatDoor.Vd

/- VdZd -/
namespace Go.Proofs.YtgjneigkkgaaiaaGreatDoor.Vd

variable {P : Program} {E : Env} {ρ ρ' : Map} {w w' : World} {s : S} {a : Act} {K : Ctx} {H H' : Nat → Option Root}

theorem capsOf_rel {ρA : Operand → A} {f : Operand → Value} (hρ : ∀ o, AR P ρ w H (ρA o) (f o)) : ∀ (l : List Operand) (caps : List Nat), capsOf (l.map ρA) = some caps → l.map f = caps.map ρ.hdr ∧ ∀ c ∈ caps, ∃ b, ρ.hdr c = .pointer (some ⟨b, 0, none⟩)
  | [], caps, h => by
    simp only [List.map_nil, capsOf, Option.some.injEq] at h
    subst h
    exact ⟨rfl, fun c hc => by cases hc⟩
  | o :: l, caps, h => by
    simp only [List.map_cons] at h
    have ho := hρ o
    unfold capsOf at h
    split at h
    · rename_i h1; cases h1
    · rename_i l0 r heq
      simp only [List.cons.injEq] at heq
      obtain ⟨h1, rfl⟩ := heq
      rw [h1] at ho
      obtain ⟨b, hb, hv⟩ := VR.cell ho
      cases hr : capsOf (l.map ρA) with
      | none => rw [hr] at h; cases h
      | some cs =>
        rw [hr] at h
        simp only [Option.map_some, Option.some.injEq] at h
        subst h
        obtain ⟨g1, g2⟩ := capsOf_rel hρ l cs hr
        refine ⟨by simp [g1, hb, hv], fun c hc => ?_⟩
        rcases List.mem_cons.1 hc with rfl | hc
        · exact ⟨b, hb⟩
        · exact g2 c hc
    · cases h

theorem makeFuncR_sound (hR : Rel P K ρ s a w) {V : View} (hV : Seen V s) {o : Oper} {fn : Fn} {first caps : Array Operand} (ho : o.op = .makeFunc fn first caps) {ρA : Operand → A} (hρ : ∀ o, AR P ρ w s.root (ρA o) (a.eval o)) :
    Sound P K s a w o (makeFuncR E fn (first.toList.map ρA) (caps.toList.map ρA) V) := by
  unfold makeFuncR
  split
  · rename_i f cs hcs
    obtain ⟨h1, h2⟩ := capsOf_rel hρ caps.toList cs hcs
    have hcap : caps.map a.eval = (cs.map ρ.hdr).toArray := by rw [← h1, ← Array.toList_map]
    split
    · rename_i hf
      have hf' : first = #[] := by simpa using hf
      subst hf'
      refine Sound.value hR (v := .func (.func f) #[] (cs.map ρ.hdr).toArray) (by simp [execOp, ho, Instr.makeFunc, hcap]) (AR.one.2 ⟨[], rfl, rfl, h2⟩)
    · rename_i x hf
      have hf' : ∃ y, first = #[y] ∧ ρA y = x := by
        obtain ⟨l⟩ := first
        match l, hf with
        | [y], hf => exact ⟨y, rfl, by simpa using hf⟩
      obtain ⟨y, rfl, rfl⟩ := hf'
      split
      · rename_i t _ _ _ _
        split
        · rename_i hfl
          split
          · rename_i z d hz
            obtain ⟨us, g1, g2⟩ := asData_vd hV hR.root hz (hρ y)
            refine Sound.value hR (v := .func (.func f) #[a.eval y] (cs.map ρ.hdr).toArray) (by simp [execOp, ho, Instr.makeFunc, hcap]) (AR.one.2 ⟨[a.eval y], rfl, ⟨_, _, rfl, hfl, ⟨us, Rd.flat t z us hfl g1, g2⟩, rfl⟩, h2⟩)
          · exact Sound.fail
        · exact Sound.fail
      · exact Sound.fail
    · exact Sound.fail
  · exact Sound.fail

theorem map_one {α β : Type} {f : α → β} {l : Array α} {x : β} (h : l.toList.map f = [x]) : ∃ y, l = #[y] ∧ f y = x := by
  obtain ⟨l⟩ := l
  match l, h with
  | [y], h => exact ⟨y, rfl, by simpa using h⟩

theorem map_two {α β : Type} {f : α → β} {l : Array α} {x x' : β} (h : l.toList.map f = [x, x']) : ∃ y y', l = #[y, y'] ∧ f y = x ∧ f y' = x' := by
  obtain ⟨l⟩ := l
  match l, h with
  | [y, y'], h => exact ⟨y, y', rfl, by simpa using h⟩

theorem minmax_any (hR : Rel P K ρ s a w) {o : Oper} {mx : Bool} {args : Array Operand} {ts : Array TypeId} (ho : o.op = .call { callee := .builtin (if mx then .max else .min), args := args, argTypes := ts }) {ρA : Operand → A} (hρ : ∀ o, AR P ρ w s.root (ρA o) (a.eval o)) :
    Sound P K s a w o (minmaxR mx (args.toList.map ρA)) := by
  cases hl : args.toList.map ρA with
  | nil => unfold minmaxR; split <;> first | exact Sound.fail | (rename_i heq; simp at heq)
  | cons X l => cases l with
    | nil => unfold minmaxR; split <;> first | exact Sound.fail | (rename_i heq; simp at heq)
    | cons Y l => cases l with
      | nil =>
        obtain ⟨x, y, rfl, rfl, rfl⟩ := map_two hl
        exact minmaxR_sound hR ho (hρ x) (hρ y)
      | cons Z l => unfold minmaxR; split <;> first | exact Sound.fail | (rename_i heq; simp at heq)

theorem size_one {α : Type} {l : Array α} (h : (l.size == 1) = true) : ∃ x, l = #[x] := by
  obtain ⟨l⟩ := l
  match l, h with
  | [x], _ => exact ⟨x, rfl⟩
  | [], h => simp at h
  | _ :: _ :: _, h => simp at h

theorem size_two {α : Type} {l : Array α} (h : (l.size == 2) = true) : ∃ x y, l = #[x, y] := by
  obtain ⟨l⟩ := l
  match l, h with
  | [x, y], _ => exact ⟨x, y, rfl⟩
  | [], h => simp at h
  | [_], h => simp at h
  | _ :: _ :: _ :: _, h => simp at h

theorem opR_sound (hR : Rel P K ρ s a w) (hT : TyOK P E) (hF : FixOK K E) {V : View} (hV : Seen V s) (hn : Unused K ρ s V.nx) {o : Oper} (hok : opOK P o = true) {ρA : Operand → A} (hρ : ∀ o, AR P ρ w s.root (ρA o) (a.eval o))
    (hcall : ∀ c f, o.op = .call c → c.callee = .value (.func f) → Sound P K s a w o (callR E f (c.args.toList.map ρA) V))
    (hdyn : ∀ c x, o.op = .call c → c.callee = .value x → (∀ f, x ≠ .func f) → Sound P K s a w o (dynR E (ρA x) (c.args.toList.map ρA) V)) :
    Sound P K s a w o (opR E o ρA V) := by
  unfold opR
  split
  · rename_i x ho; exact move_sound hR (.inl ho) (hρ x)
  · rename_i x ho; exact move_sound hR (.inr ho) (hρ x)
  · rename_i c x y ho
    split
    · rename_i b d hc
      have := hρ c
      rw [hc] at this
      exact pick_sound hR ho this (hρ x) (hρ y)
    · exact Sound.fail
  · rename_i t ho
    split
    · exact Sound.fail
    · rename_i hz
      exact alloc_sound hR hT hn ho (by simpa using hz)
  · rename_i t x ho
    split
    · rename_i g cs hx
      have := hρ x
      rw [hx] at this
      exact box_sound hR hn ho this
    · exact Sound.fail
  · rename_i t ps ho; exact buildR_sound hR hT ho hρ
  · rename_i t n ps ho; exact buildSliceR_sound hR hT hV hn ho hρ
  · rename_i t x ho; exact loadR_sound hR hT hV ho (hρ x)
  · rename_i t x z ho; exact storeR_sound hR hT hV ho (hρ x) (hρ z)
  · rename_i x ho
    have hx := hρ x
    split
    · rename_i h1; rw [h1] at hx; exact nilCheck_sound hR ho trivial hx
    · rename_i h1; rw [h1] at hx; exact nilCheck_sound hR ho trivial hx
    · rename_i h1; rw [h1] at hx; exact nilCheck_sound hR ho trivial hx
    · rename_i h1; rw [h1] at hx; exact nilCheck_sound hR ho trivial hx
    · rename_i h1; rw [h1] at hx; exact nilCheck_sound hR ho trivial hx
    · exact Sound.fail
  · rename_i op t x yT ho; exact nilT_sound hR hT hV ho (hρ x)
  · rename_i op t x y yT _ ho; exact binR_sound hR hT hV ho (hρ x) (hρ y)
  · rename_i op t x ho; exact unR_sound hR ho (hρ x)
  · rename_i u t x ho; exact convR_sound hR hT hV ho (hρ x)
  · rename_i t x ho
    simp only [opOK, ho] at hok
    cases hd : P.underlying t with
    | none => simp [hd] at hok
    | some d => exact iface_sound hR ho hd (fun m hm => by subst hm; simp [hd] at hok)
  · rename_i fn first caps ho; exact makeFuncR_sound hR hV ho hρ
  · rename_i t n c ho; exact makeSliceR_sound hR hT hn ho (hρ n) (hρ c)
  · rename_i t x lo hi ho
    split
    · exact cutR_sound hR hT hF hV ho hρ
    · exact sliceR_sound hR hT hV ho hρ
  · rename_i t x k k' ho
    split
    · rename_i e r hTe hd
      obtain ⟨T', hu, hT'⟩ := shp.slice (hT.ty t _ hTe)
      obtain ⟨e', xs, d⟩ := r
      obtain ⟨q, c, hv, _⟩ := (slData_rd hV hR.root hd (hρ x)).slice
      refine Sound.value hR (v := .slice q 0 0) ?_ (AR.one.2 ⟨q, rfl⟩)
      have h0 : ∀ (k : IntKind) (y : Nat) (cd : BoundsCode), (Instr.sliceBound (.int k 0) y cd).run P w = .ok 0 w := fun k y cd => run_sliceBound_in (i := 0) (Int.le_refl 0) (by omega)
      have ec : ∀ k : IntKind, a.eval (.const (.int k 0)) = .int k 0 := fun _ => rfl
      simp only [execOp, ho, hv, ec, Option.map_none, Option.map_some, Sem.run_bind, Instr.sliceAt, Instr.slice, run_underlying hu, Result.andThen_ok, Instr.sliceBounds, h0, Sem.run_pure, shp.size hT']
      simp
    · exact Sound.fail
  · rename_i t x f ho; exact fieldAddrR_sound hR hT ho hok (hρ x)
  · rename_i t x i ho; exact indexAddrR_sound hR hT hV ho hok (hρ x) (hρ i)
  · rename_i t x i ho; exact indexR_sound hR hT ho (hρ x) (hρ i)
  · rename_i x i ho
    have hx := hρ x
    split
    · rename_i vs h1
      rw [h1] at hx
      split
      · rename_i g cs hi
        exact extract_sound hR ho hi hx
      · exact Sound.fail
    · exact Sound.fail
  · rename_i c ho
    split
    · rename_i b hb
      obtain ⟨callee, args, ts⟩ := c
      dsimp only at hb ⊢
      subst hb
      simp only [opOK, ho] at hok
      split
      · rename_i X heq
        obtain ⟨x, rfl, rfl⟩ := map_one heq
        obtain ⟨T, rfl⟩ := size_one hok
        exact lenR_sound hR hT hV ho (hρ x)
      · rename_i X Y heq
        obtain ⟨x, y, rfl, rfl, rfl⟩ := map_two heq
        simp only [Bool.and_eq_true] at hok
        obtain ⟨T, T2, rfl⟩ := size_two hok.2
        have hTT : T = T2 := by simpa using hok.1
        subst hTT
        exact appendR_sound hR hT hF hV ho (hρ x) (hρ y)
      · rename_i X Y heq
        obtain ⟨x, y, rfl, rfl, rfl⟩ := map_two heq
        obtain ⟨T, T2, rfl⟩ := size_two hok
        exact copyR_sound hR hT hV ho (hρ x) (hρ y)
      · exact minmax_any (mx := false) hR ho hρ
      · exact minmax_any (mx := true) hR ho hρ
      · exact Sound.fail
    · rename_i f hf
      exact hcall c f ho hf
    · rename_i x hnf hx
      exact hdyn c x ho hx fun f hf => hnf f hf
    · exact Sound.fail
  · exact Sound.fail

end Go.Proofs.YtgjneigkkgaaiaaGreatDoor.Vd

/- VdZg -/
namespace Go.Proofs.YtgjneigkkgaaiaaGreatDoor.Vd

structure Same (s0 s : S) : Prop where
  len : s.fr.length = s0.fr.length
  more : s0.H.length ≤ s.H.length
  fr : ∀ i : Nat, i ∉ s.dF → s.fr[i]? = s0.fr[i]?
  root : ∀ l : Nat, l < s0.H.length → l ∉ s.dH → s.root l = s0.root l

theorem Same.refl (s : S) : Same s s := ⟨rfl, Nat.le_refl _, fun _ _ => rfl, fun _ _ _ => rfl⟩

theorem C.left_of_not_hit {k : Sweep} {c : C} (h : c.hit k = false) : c.left k = c := by
  unfold C.hit at h
  simp only [Bool.or_eq_false_iff] at h
  obtain ⟨h1, h2⟩ := h
  unfold C.left
  rw [if_neg (by simp [h1])]
  cases c with
  | v t x deps =>
    have : deps.map (newLoc k.mov) = deps := by
      simp only [List.any_eq_false, Option.not_isSome_iff_eq_none] at h2
      conv => rhs; rw [← List.map_id deps]
      exact List.map_congr_left fun l hl => by simp [newLoc, h2 l hl]
    simp [this]
  | sp t x deps =>
    have : deps.map (newLoc k.mov) = deps := by
      simp only [List.any_eq_false, Option.not_isSome_iff_eq_none] at h2
      conv => rhs; rw [← List.map_id deps]
      exact List.map_congr_left fun l hl => by simp [newLoc, h2 l hl]
    simp [this]
  | ref l => 
    simp only [Option.isSome_eq_false_iff, Option.isNone_iff_eq_none] at h2
    simp [h2]
  | _ => simp_all

theorem map_left {k : Sweep} {cs : List C} (h : cs.any (C.hit k) = false) : cs.map (C.left k) = cs := by
  simp only [List.any_eq_false, Bool.not_eq_true] at h
  conv => rhs; rw [← List.map_id cs]
  exact List.map_congr_left fun c hc => C.left_of_not_hit (h c hc)

theorem A.left_of_not_hit {k : Sweep} {x : A} (h : x.hit k = false) : x.left k = x := by
  cases x with
  | none => rfl
  | any => rfl
  | val g cs => simp only [A.hit] at h; simp [A.left, map_left h]
  | tup vs =>
    simp only [A.hit, List.any_eq_false, Bool.not_eq_true] at h
    simp only [A.left]
    congr 1
    conv => rhs; rw [← List.map_id vs]
    exact List.map_congr_left fun v hv => by
      have := map_left (k := k) (cs := v.2) (by simpa using h v hv)
      simp [this]

theorem Root.left_of_not_hit {k : Sweep} {r : Root} (h : r.hit k = false) : r.left k = r := by
  cases r with
  | box cs => simp only [Root.hit] at h; simp [Root.left, map_left h]
  | arr e xs d => rfl
  | gap => rfl
  | lit e els =>
    simp only [Root.hit, List.any_eq_false, Bool.not_eq_true] at h
    simp only [Root.left]
    congr 1
    conv => rhs; rw [← List.map_id els]
    exact List.map_congr_left fun cs hcs => by
      have := map_left (k := k) (cs := cs) (by simpa using h cs hcs)
      simpa using this

theorem hits_spec {α : Type} (p : α → Bool) : ∀ (l : List α) (n i : Nat) (x : α), l[i]? = some x → n + i ∉ hits p n l → p x = false
  | [], n, i, x, hi, _ => by simp at hi
  | y :: l, n, i, x, hi, hn => by
    unfold hits at hn
    cases i with
    | zero =>
      simp at hi
      subst hi
      cases hp : p y with
      | false => rfl
      | true => rw [if_pos hp] at hn; exact absurd (List.mem_cons_self ..) hn
    | succ i =>
      refine hits_spec p l (n + 1) i x (by simpa using hi) ?_
      rw [show n + 1 + i = n + (i + 1) by omega]
      intro hm
      apply hn
      split
      · exact List.mem_cons_of_mem _ hm
      · exact hm

theorem Same.swept {s0 s : S} (h : Same s0 s) (k : Sweep) : Same s0 (s.swept k) := by
  unfold S.swept
  split
  · exact h
  · refine ⟨by simp [h.len], by simpa using h.more, fun i hi => ?_, fun l hl hn => ?_⟩
    · simp only [List.mem_append, not_or] at hi
      rw [← h.fr i hi.2, List.getElem?_map]
      cases hx : s.fr[i]? with
      | none => rfl
      | some x =>
        have := hits_spec (A.hit k) s.fr 0 i x hx (by simpa using hi.1)
        simp [A.left_of_not_hit this]
    · simp only [List.mem_append, not_or] at hn
      rw [← h.root l hl hn.2]
      simp only [S.root, List.getD_eq_getElem?_getD, List.getElem?_map]
      cases hx : s.H[l]? with
      | none => rfl
      | some o =>
        have := hits_spec (fun o : Option Root => (o.map (Root.hit k)).getD false) s.H 0 l o hx (by simpa using hn.1)
        cases o with
        | none => rfl
        | some r =>
          simp only [Option.map_some, Option.getD_some] at this
          simp [Root.left_of_not_hit this]

theorem Same.put {s0 s : S} (h : Same s0 s) (dst : Option Nat) (x : A) : Same s0 (s.put dst x) := by
  cases dst with
  | none => exact h
  | some d =>
    refine ⟨by simp [S.put, h.len], h.more, fun i hi => ?_, h.root⟩
    simp only [S.put, List.mem_cons, not_or] at hi
    simp only [S.put]
    rw [List.getElem?_set_ne (Ne.symm hi.1)]
    exact h.fr i hi.2

theorem Same.apply {s0 s : S} (h : Same s0 s) (dst : Option Nat) (d : Delta) : Same s0 (s.apply dst d) := by
  unfold S.apply
  have h1 := h.swept ⟨d.kill, d.mov⟩
  generalize s.swept ⟨d.kill, d.mov⟩ = s1 at h1
  refine Same.put (s := { s1 with H := setAll s1.H d.set, dH := d.set.map Prod.fst ++ s1.dH }) ⟨h1.len, Nat.le_trans h1.more (setAll_length_ge d.set s1.H).1, h1.fr, fun l hl hn => ?_⟩ dst d.dst
  simp only [List.mem_append, not_or] at hn
  rw [← h1.root l hl hn.2]
  rcases setAll_get d.set s1.H l with ⟨h2, _⟩ | h2
  · exact h2
  · exact absurd (List.mem_map.2 ⟨_, h2, rfl⟩) hn.1

end Go.Proofs.YtgjneigkkgaaiaaGreatDoor.Vd

/- VdZe -/
namespace Go.Proofs.YtgjneigkkgaaiaaGreatDoor.Vd

variable {P : Program} {E : Env} {ρ ρ' : Map} {w w' : World} {s : S} {a : Act} {K : Ctx} {H H' : Nat → Option Root}

theorem apply_put (s : S) (dst : Option Nat) (x : A) : s.apply dst { dst := x } = s.put dst x := by
  simp [S.apply, S.swept, setAll]

theorem Rel.put (h : Rel P K ρ s a w) (dst : Option Nat) {x : A} {v : Value} (hx : AR P ρ w s.root x v) : Rel P K ρ (s.put dst x) (a.put dst v) w := by
  rw [← apply_put]
  exact h.pure dst hx

theorem Rel.relit (h : Rel P K ρ s a w) {g : Nat} {b : Bool} {d : List Nat} (hg : s.fr.getD g .none = .val false [.v .bool b d]) : Rel P K ρ (s.put (some g) (litB b)) a w ∧ a.tmps[g]? = some (.bool b) := by
  have hlt : g < s.fr.length := by
    rcases Nat.lt_or_ge g s.fr.length with h1 | h1
    · exact h1
    · rw [List.getD_eq_getElem?_getD, List.getElem?_eq_none h1] at hg
      cases hg
  have hfr : s.fr[g]? = some (.val false [.v .bool b d]) := by
    rw [List.getD_eq_getElem?_getD, List.getElem?_eq_getElem hlt] at hg
    rw [List.getElem?_eq_getElem hlt]
    exact congrArg some hg
  obtain ⟨v, h1, h2⟩ := h.slot g _ hfr
  have hv := h2.bool
  subst hv
  have := h.put (some g) (x := litB b) (v := .bool b) (AR.ofBool _ _)
  refine ⟨?_, h1⟩
  have he : a.put (some g) (.bool b) = a := by
    have hlt' : g < a.tmps.size := by rw [h.size]; exact hlt
    cases a with
    | mk tmps defers =>
      simp only [Act.put]
      congr 1
      refine Array.ext_getElem? fun i => ?_
      by_cases hi : g = i
      · subst hi
        rw [Array.getElem?_setIfInBounds_self_of_lt hlt', h1]
      · rw [Array.getElem?_setIfInBounds_ne hi]
  rwa [he] at this

theorem Rel.unusedGe (h : Rel P K ρ s a w) {n : Nat} (hn : s.H.length ≤ n) : Unused K ρ s n where
  root := .inl (by simp only [S.root, List.getD_eq_getElem?_getD, List.getElem?_eq_none hn, Option.getD_none])
  own := fun b hb => Nat.lt_irrefl _ (Nat.lt_of_lt_of_le (h.live b _ hb) hn)
  fix := fun v hv => Nat.lt_irrefl _ (Nat.lt_of_lt_of_le (h.fix _ v hv).2 hn)

/-- Calls are sound (from the contracts). -/
def CallsOK (P : Program) (E : Env) (K : Ctx) : Prop :=
  ∀ ρ s a w (V : View) (o : Oper) (ρA : Operand → A), Rel P K ρ s a w → Seen V s → (∀ o, AR P ρ w s.root (ρA o) (a.eval o)) →
    (∀ c f, o.op = .call c → c.callee = .value (.func f) → (∀ con, lookupN f E.con = some con → ∀ i, i < conNames con → Unused K ρ s (V.nx + i)) → Sound P K s a w o (callR E f (c.args.toList.map ρA) V)) ∧
    (∀ c x, o.op = .call c → c.callee = .value x → (∀ n, V.nx ≤ n → Unused K ρ s n) → Sound P K s a w o (dynR E (ρA x) (c.args.toList.map ρA) V))

theorem op_sound (hT : TyOK P E) (hF : FixOK K E) (hC : CallsOK P E K) (hR : Rel P K ρ s a w) {o : Oper} (hok : opOK P o = true) : Sound P K s a w o (opR E o s.eval s.view) := by
  obtain ⟨h1, h2⟩ := hC ρ s a w s.view o s.eval hR (Seen.self s) hR.eval
  exact opR_sound hR hT hF (Seen.self s) hR.unused hok hR.eval (fun c f ho hc => h1 c f ho hc fun con _ i _ => hR.unusedGe (Nat.le_add_right _ _)) (fun c x ho hc _ => h2 c x ho hc fun n hn => hR.unusedGe hn)

theorem ops_sound {β : Type} (hT : TyOK P E) (hF : FixOK K E) (hC : CallsOK P E K) {ops : Array Oper} {y : β} {k : S → Option β} {Q : Exit → Act → World → Prop}
    {s0 : S} (hk : ∀ ρ' s' a' w', Rel P K ρ' s' a' w' → Same s0 s' → k s' = some y → Q .normal a' w') : ∀ (rest : List Oper) (ρ : Map) (s : S) (a : Act) (w : World), Rel P K ρ s a w → Same s0 s → (∀ o ∈ rest, opOK P o = true) → opsR E ops rest s k = some y → wpList P ops Q rest a w
  | [], ρ, s, a, w, hR, hS, _, h => hk ρ s a w hR hS h
  | o :: rest, ρ, s, a, w, hR, hS, hok, h => by
    have hok' : ∀ o ∈ rest, opOK P o = true := fun o ho => hok o (List.mem_cons_of_mem _ ho)
    have run : ∀ s', Rel P K ρ s' a w → Same s0 s' → ((opR E o s'.eval s'.view).run fun d => opsR E ops rest (s'.apply o.dst d) k) = some y → ∀ KK : Act → World → Prop, (∀ a w, wpList P ops Q rest a w → KK a w) → o.wp P a w KK Q := by
      intro s' hR' hS' h' KK hKK
      obtain ⟨g1, g2⟩ := R.run_ok h'
      exact op_sound hT hF hC hR' (hok o (List.mem_cons_self ..)) g1 KK Q fun d ρ' a' w' hd hrel => hKK a' w' (ops_sound hT hF hC hk rest ρ' _ a' w' hrel (hS'.apply o.dst d) hok' (g2 d hd))
    have skip : ∀ s', Rel P K ρ s' a w → Same s0 s' → opsR E ops rest (s'.put o.dst .none) k = some y → wpList P ops Q rest (a.put o.dst undef) w := fun s' hR' hS' h' =>
      ops_sound hT hF hC hk rest ρ _ _ w (hR'.put o.dst (x := .none) rfl) (hS'.put o.dst .none) hok' h'
    refine wpList_step fun KK hKK => ?_
    unfold opsR at h
    simp only [Delta.share_eq, S.force_eq] at h
    split at h
    · rename_i hg
      rw [if_pos (by simp [Region.wanted, hg])]
      exact run s hR hS h KK hKK
    · rename_i j want hg
      split at h
      · cases h
      · rename_i g hj
        have hyd : yielded ops a.tmps j = match a.tmps[g]? with | some (.bool b) => some b | _ => none := by
          cases ho : ops[j]? with
          | none => rw [ho] at hj; cases hj
          | some oj =>
            rw [ho] at hj
            have hd : oj.dst = some g := hj
            simp only [yielded, ho, Option.bind_some, hd]
            cases a.tmps[g]? with
            | none => rfl
            | some v => cases v <;> rfl
        split at h
        · rename_i hnone
          -- the guard was not run
          have : yielded ops a.tmps j = none := by
            rw [hyd]
            cases hs : s.fr[g]? with
            | none =>
              have : a.tmps[g]? = none := by
                rw [Array.getElem?_eq_none_iff, hR.size]
                simpa using hs
              rw [this]
            | some x =>
              rw [List.getD_eq_getElem?_getD, hs] at hnone
              obtain ⟨v, h1, h2⟩ := hR.slot g x hs
              have hx : x = .none := hnone
              subst hx
              have hv : v = undef := h2
              rw [h1, hv]
              rfl
          rw [if_neg (by simp [Region.wanted, hg, this])]
          exact hKK _ _ (skip s hR hS h)
        · rename_i b d hb
          obtain ⟨hR', ht⟩ := hR.relit hb
          have hy : yielded ops a.tmps j = some b := by rw [hyd, ht]
          cases b with
          | true =>
            simp only [cond_true] at h
            cases want with
            | true =>
              rw [if_pos (by simp [Region.wanted, hg, hy])]
              exact run _ hR' (hS.put _ _) (by simpa using h) KK hKK
            | false =>
              rw [if_neg (by simp [Region.wanted, hg, hy])]
              exact hKK _ _ (skip _ hR' (hS.put _ _) (by simpa using h))
          | false =>
            simp only [cond_false] at h
            cases want with
            | true =>
              rw [if_neg (by simp [Region.wanted, hg, hy])]
              exact hKK _ _ (skip _ hR' (hS.put _ _) (by simpa using h))
            | false =>
              rw [if_pos (by simp [Region.wanted, hg, hy])]
              exact run _ hR' (hS.put _ _) (by simpa using h) KK hKK
        · cases h

end Go.Proofs.YtgjneigkkgaaiaaGreatDoor.Vd

/- VdZea -/
namespace Go.Proofs.YtgjneigkkgaaiaaGreatDoor.Vd

variable {P : Program} {E : Env} {ρ ρ' : Map} {w w' : World} {s : S} {a : Act} {K : Ctx}

/-! ### Frames and roots behind a step -/

def Did.k (D : Did) : Sweep := ⟨D.d.kill, D.d.mov⟩

def frA (fr : List A) (D : Did) : List A := match D.dst with
  | some i => (fr.map (A.left D.k)).set i D.d.dst
  | none => fr.map (A.left D.k)

def HA (H : List (Option Root)) (D : Did) : List (Option Root) := setAll (H.map fun o => o.map (Root.left D.k)) D.d.set

theorem apply_frA (s : S) (D : Did) : (s.apply D.dst D.d).fr = frA s.fr D := apply_fr ..
theorem apply_HA (s : S) (D : Did) : (s.apply D.dst D.d).H = HA s.H D := by rw [apply_H, swept_H]; rfl

theorem frA_len (fr : List A) (D : Did) : (frA fr D).length = fr.length := by
  unfold frA
  split <;> simp

theorem map_getD {α : Type} (f : α → α) (l : List α) (i : Nat) (d : α) (hd : f d = d) : (l.map f).getD i d = f (l.getD i d) := by
  rw [List.getD_eq_getElem?_getD, List.getElem?_map, List.getD_eq_getElem?_getD]
  cases l[i]? <;> simp [hd]

theorem set_getD {α : Type} (l : List α) (i j : Nat) (x d : α) : (l.set i x).getD j d = if i = j ∧ j < l.length then x else l.getD j d := by
  rw [List.getD_eq_getElem?_getD, List.getElem?_set, List.getD_eq_getElem?_getD]
  by_cases h : i = j
  · subst h
    by_cases h2 : i < l.length <;> simp [h2]
  · simp [h]

theorem frA_get (fr : List A) (D : Did) (x : Nat) : (frA fr D).getD x .none = if D.dst = some x ∧ x < fr.length then D.d.dst else (fr.getD x .none).left D.k := by
  unfold frA
  split
  · rename_i i hi
    rw [set_getD, map_getD _ _ _ _ rfl, List.length_map]
    simp only [hi, Option.some.injEq]
  · rename_i hi
    rw [map_getD _ _ _ _ rfl]
    simp [hi]

theorem frA_congr {fr fr' : List A} (D : Did) {x : Nat} (hl : fr.length = fr'.length) (h : fr.getD x .none = fr'.getD x .none) : (frA fr D).getD x .none = (frA fr' D).getD x .none := by
  rw [frA_get, frA_get, hl, h]

theorem frA_same {fr : List A} {D : Did} {x : Nat} (h1 : D.dst ≠ some x) (h2 : (fr.getD x .none).hit D.k = false) : (frA fr D).getD x .none = fr.getD x .none := by
  rw [frA_get, if_neg (fun h => h1 h.1), A.left_of_not_hit h2]

theorem setAll_congr {l : Nat} : ∀ (u : List (Nat × Option Root)) (H H' : List (Option Root)), H.getD l none = H'.getD l none → (setAll H u).getD l none = (setAll H' u).getD l none
  | [], _, _, h => h
  | (m, r) :: u, H, H', h => setAll_congr u _ _ (by rw [putR_getD, putR_getD, h])

theorem HA_congr {H H' : List (Option Root)} (D : Did) {l : Nat} (h : H.getD l none = H'.getD l none) : (HA H D).getD l none = (HA H' D).getD l none :=
  setAll_congr _ _ _ (by rw [map_getD _ _ _ _ rfl, map_getD _ _ _ _ rfl, h])

theorem HA_other {H : List (Option Root)} {D : Did} {l : Nat} (h1 : sets D.d l = false) : (HA H D).getD l none = (H.getD l none).map (Root.left D.k) := by
  rcases setAll_get D.d.set (H.map fun o => o.map (Root.left D.k)) l with ⟨h, _⟩ | h
  · exact h.trans (map_getD _ _ _ _ rfl)
  · simp only [sets, List.any_eq_false] at h1
    exact absurd (by simp) (h1 _ h)

theorem HA_same {H : List (Option Root)} {D : Did} {l : Nat} (h1 : sets D.d l = false) (h2 : ∀ r, H.getD l none = some r → r.hit D.k = false) : (HA H D).getD l none = H.getD l none := by
  rw [HA_other h1]
  cases h : H.getD l none with
  | none => rfl
  | some r => simp [Root.left_of_not_hit (h2 r h)]

theorem HA_len (H : List (Option Root)) (D : Did) : H.length ≤ (HA H D).length := by
  have := (setAll_length_ge D.d.set (H.map fun o => o.map (Root.left D.k))).1
  simpa [HA] using this

/-! ### Steps that commute -/

theorem C.left_kill (k : List (Nat × Bool)) (c : C) : c.left ⟨k, []⟩ = if k.any c.dies then .undef else c := by
  have hm : ∀ deps : List Nat, deps.map (newLoc []) = deps := fun deps => by
    have : newLoc [] = id := funext newLoc_nil
    rw [this, List.map_id]
  cases c <;> simp [C.left, lookupN, hm]

theorem C.left_comm (k k' : List (Nat × Bool)) (c : C) : (c.left ⟨k, []⟩).left ⟨k', []⟩ = (c.left ⟨k', []⟩).left ⟨k, []⟩ := by
  have hu : ∀ k : List (Nat × Bool), C.left ⟨k, []⟩ .undef = .undef := fun k => by rw [C.left_kill]; simp
  rw [C.left_kill k c, C.left_kill k' c]
  by_cases h1 : k.any c.dies = true <;> by_cases h2 : k'.any c.dies = true <;> simp [h1, h2, hu, C.left_kill]

theorem A.left_comm (k k' : List (Nat × Bool)) (x : A) : (x.left ⟨k, []⟩).left ⟨k', []⟩ = (x.left ⟨k', []⟩).left ⟨k, []⟩ := by
  cases x with
  | none => rfl
  | any => rfl
  | val g cs => simp [A.left, C.left_comm k k']
  | tup vs => simp [A.left, C.left_comm k k']

theorem Root.left_comm (k k' : List (Nat × Bool)) (x : Root) : (x.left ⟨k, []⟩).left ⟨k', []⟩ = (x.left ⟨k', []⟩).left ⟨k, []⟩ := by
  cases x with
  | box cs => simp [Root.left, C.left_comm k k']
  | arr e xs d => rfl
  | lit e els => simp [Root.left, C.left_comm k k']
  | gap => rfl

theorem putR_comm : ∀ (H : List (Option Root)) (n m : Nat) (r r' : Option Root), n ≠ m → putR (putR H n r) m r' = putR (putR H m r') n r
  | [], 0, 0, _, _, h => absurd rfl h
  | [], 0, m + 1, r, r', _ => by simp [putR]
  | [], n + 1, 0, r, r', _ => by simp [putR]
  | [], n + 1, m + 1, r, r', h => by simp [putR, putR_comm [] n m r r' (by omega)]
  | _ :: _, 0, 0, _, _, h => absurd rfl h
  | _ :: t, 0, m + 1, r, r', _ => by simp [putR]
  | _ :: t, n + 1, 0, r, r', _ => by simp [putR]
  | _ :: t, n + 1, m + 1, r, r', h => by simp [putR, putR_comm t n m r r' (by omega)]

theorem setAll_putR : ∀ (u : List (Nat × Option Root)) (H : List (Option Root)) (n : Nat) (r : Option Root), (∀ q ∈ u, q.1 ≠ n) → setAll (putR H n r) u = putR (setAll H u) n r
  | [], _, _, _, _ => rfl
  | (m, r') :: u, H, n, r, h => by
    simp only [setAll]
    rw [putR_comm H n m r r' (Ne.symm (h _ (List.mem_cons_self ..))), setAll_putR u _ n r fun q hq => h q (List.mem_cons_of_mem _ hq)]

theorem setAll_comm : ∀ (u v : List (Nat × Option Root)) (H : List (Option Root)), (∀ q ∈ u, ∀ p ∈ v, q.1 ≠ p.1) → setAll (setAll H u) v = setAll (setAll H v) u
  | [], _, _, _ => rfl
  | (m, r) :: u, v, H, h => by
    simp only [setAll]
    rw [setAll_comm u v _ fun q hq => h q (List.mem_cons_of_mem _ hq), setAll_putR v H m r fun p hp => (Ne.symm (h _ (List.mem_cons_self ..) p hp))]

theorem putR_map (f : Option Root → Option Root) (hf : f none = none) : ∀ (H : List (Option Root)) (n : Nat) (r : Option Root), (putR H n r).map f = putR (H.map f) n (f r)
  | [], 0, r => rfl
  | [], n + 1, r => by simp [putR, hf, putR_map f hf [] n r]
  | _ :: t, 0, r => rfl
  | h :: t, n + 1, r => by simp [putR, putR_map f hf t n r]

theorem setAll_map (f : Option Root → Option Root) (hf : f none = none) : ∀ (u : List (Nat × Option Root)) (H : List (Option Root)), (∀ q ∈ u, f q.2 = q.2) → (setAll H u).map f = setAll (H.map f) u
  | [], _, _ => rfl
  | (m, r) :: u, H, h => by
    simp only [setAll]
    rw [setAll_map f hf u _ fun q hq => h q (List.mem_cons_of_mem _ hq), putR_map f hf, h (m, r) (List.mem_cons_self ..)]

/-- What is known of two steps whose order is open. -/
structure Comm (p q : Did) : Prop where
  mp : p.d.mov = []
  mq : q.d.mov = []
  dst : ∀ x, p.dst = some x → q.dst ≠ some x
  pd : p.d.dst.left q.k = p.d.dst
  qd : q.d.dst.left p.k = q.d.dst
  ps : ∀ u ∈ p.d.set, u.2.map (Root.left q.k) = u.2
  qs : ∀ u ∈ q.d.set, u.2.map (Root.left p.k) = u.2
  ne : ∀ u ∈ p.d.set, ∀ v ∈ q.d.set, u.1 ≠ v.1

theorem Did.spares_spec {p q : Did} (hq : q.d.mov = []) (h : p.spares q = true) : p.d.dst.left q.k = p.d.dst ∧ (∀ u ∈ p.d.set, u.2.map (Root.left q.k) = u.2) ∧ ∀ u ∈ p.d.set, ∀ v ∈ q.d.set, u.1 ≠ v.1 := by
  have hk : q.k = ⟨q.d.kill, []⟩ := by simp [Did.k, hq]
  simp only [Did.spares, Bool.and_eq_true, Bool.not_eq_true', List.all_eq_true] at h
  obtain ⟨h1, h2⟩ := h
  refine ⟨by rw [hk]; exact A.left_of_not_hit h1, fun u hu => ?_, fun u hu v hv he => ?_⟩
  · have := (h2 u hu).2
    cases hr : u.2 with
    | none => rfl
    | some r =>
      rw [hr] at this
      simp only [Bool.not_eq_true'] at this
      simp [hk, Root.left_of_not_hit this]
  · have := (h2 u hu).1
    simp only [sets, List.any_eq_false] at this
    exact this v hv (by simp [he])

theorem Did.free_comm {p q : Did} (h : p.free q = true) : Comm p q := by
  simp only [Did.free, Bool.and_eq_true, List.isEmpty_iff] at h
  obtain ⟨⟨⟨⟨⟨⟨⟨h1, h2⟩, h3⟩, h4⟩, h5⟩, h6⟩, h7⟩, h8⟩ := h
  obtain ⟨a1, a2, a3⟩ := Did.spares_spec h2 h6
  obtain ⟨b1, b2, b3⟩ := Did.spares_spec h1 h7
  refine ⟨h1, h2, fun x hx => ?_, a1, b1, a2, b2, a3⟩
  rw [hx] at h3
  simpa using h3

theorem Comm.symm {p q : Did} (h : Comm p q) : Comm q p :=
  ⟨h.mq, h.mp, fun x hx hy => h.dst x hy hx, h.qd, h.pd, h.qs, h.ps, fun u hu v hv he => h.ne v hv u hu he.symm⟩

theorem Comm.fr {p q : Did} (h : Comm p q) (fr : List A) : frA (frA fr p) q = frA (frA fr q) p := by
  have kp : p.k = ⟨p.d.kill, []⟩ := by simp [Did.k, h.mp]
  have kq : q.k = ⟨q.d.kill, []⟩ := by simp [Did.k, h.mq]
  have hc : A.left q.k ∘ A.left p.k = A.left p.k ∘ A.left q.k := by
    funext x
    rw [kp, kq]
    exact A.left_comm _ _ x
  unfold frA
  cases hp : p.dst with
  | none => cases hq : q.dst with
    | none => simp [List.map_map, hc]
    | some j => simp [List.map_map, hc, List.map_set, h.qd]
  | some i => cases hq : q.dst with
    | none => simp [List.map_map, hc, List.map_set, h.pd]
    | some j =>
      have hij : i ≠ j := fun he => h.dst i hp (by rw [hq, he])
      simp only [List.map_set, List.map_map, hc, h.pd, h.qd]
      exact List.set_comm _ _ hij

theorem Comm.heap {p q : Did} (h : Comm p q) (H : List (Option Root)) : HA (HA H p) q = HA (HA H q) p := by
  have kp : p.k = ⟨p.d.kill, []⟩ := by simp [Did.k, h.mp]
  have kq : q.k = ⟨q.d.kill, []⟩ := by simp [Did.k, h.mq]
  unfold HA
  rw [setAll_map (fun o : Option Root => o.map (Root.left q.k)) rfl _ _ h.ps, setAll_map (fun o : Option Root => o.map (Root.left p.k)) rfl _ _ h.qs, List.map_map, List.map_map]
  have hc : ((fun o : Option Root => o.map (Root.left q.k)) ∘ fun o : Option Root => o.map (Root.left p.k)) = ((fun o : Option Root => o.map (Root.left p.k)) ∘ fun o : Option Root => o.map (Root.left q.k)) := by
    funext o
    cases o with
    | none => rfl
    | some r =>
      simp only [Function.comp_apply, Option.map_some, kp, kq]
      rw [Root.left_comm]
  rw [hc]
  exact setAll_comm _ _ _ h.ne

end Go.Proofs.YtgjneigkkgaaiaaGreatDoor.Vd

/- VdZeb -/
namespace Go.Proofs.YtgjneigkkgaaiaaGreatDoor.Vd

variable {P : Program} {E : Env} {ρ ρ' : Map} {w w' : World} {s : S} {a : Act} {K : Ctx} {ops : Array Oper} {top : Nat}

theorem R.runS_ok {β : Type} {k : Delta → Option β} {y : β} : {r : R} → r.runS k = some y → ∃ d, r.Ok ∧ (∀ d', r.Yields d' → d' = d) ∧ k d = some y
  | .ret d, h => ⟨d, trivial, fun _ hd => hd, h⟩
  | .fail, h => by cases h
  | .bnd m f, h => by
    cases hm : m with
    | none => simp [R.runS, bindO, hm] at h
    | some a =>
      obtain ⟨d, h1, h2, h3⟩ := R.runS_ok (r := f a) (by simpa [R.runS, bindO, hm] using h)
      refine ⟨d, ⟨a, rfl, h1⟩, ?_, h3⟩
      rintro d' ⟨a', ha, hd⟩
      cases ha
      exact h2 d' hd
  | .ite c r1 r2, h => by
    cases c
    · obtain ⟨d, h1, h2, h3⟩ := R.runS_ok (r := r2) h
      exact ⟨d, by simpa [R.Ok] using h1, fun d' hd => h2 d' (by simpa [R.Yields] using hd), h3⟩
    · obtain ⟨d, h1, h2, h3⟩ := R.runS_ok (r := r1) h
      exact ⟨d, by simpa [R.Ok] using h1, fun d' hd => h2 d' (by simpa [R.Yields] using hd), h3⟩
  | .amb r1 r2, h => by cases h

/-- Is the operation to be run in this state? -/
def Wants (ops : Array Oper) (o : Oper) (m : Nat) (s : S) (yes : Bool) : Prop :=
  match o.guard with
  | none => yes = true
  | some (j, want) => m.testBit j = true ∧ ∃ oj g, ops[j]? = some oj ∧ oj.dst = some g ∧ ((s.fr.getD g .none = A.none ∧ yes = false) ∨ ∃ b, s.fr.getD g .none = litB b ∧ yes = (b == want))

/-- What an operation sees. -/
def Did.view (D : Did) (top : Nat) : View := ⟨fun l => lookupN l D.look, if D.n == 0 then top else D.nx⟩

/-- A step of the textual pass. -/
structure Step (E : Env) (ops : Array Oper) (top : Nat) (o : Oper) (D : Did) : Prop where
  slots : D.slots = Oper.slots ops o
  dst : D.dst = o.dst
  n : D.n = opNames E o
  set : ∀ u ∈ D.d.set, u.1 < D.nx + D.n
  look : ∀ l r, lookupN l D.look = some r → D.pre.root l = some r
  run : ∃ yes, Wants ops o D.mask D.pre yes ∧ if yes then (opR E o D.pre.eval (D.view top)).Ok ∧ ∀ d, (opR E o D.pre.eval (D.view top)).Yields d → d = D.d else D.d = { dst := .none }

def Chain (E : Env) (ops : Array Oper) (top : Nat) : List Oper → List Did → (i nx : Nat) → (masks : List Nat) → (s s' : S) → Prop
  | [], [], _, _, _, s, s' => s' = s
  | o :: rest, D :: ds, i, nx, masks, s, s' => D.i = i ∧ D.nx = nx ∧ D.mask = maskOf masks o ∧ D.pre = s ∧ Step E ops top o D ∧ Chain E ops top rest ds (i + 1) (nx + opNames E o) (masks ++ [D.mask]) (s.apply D.dst D.d) s'
  | _, _, _, _, _, _, _ => False

theorem look_spec {slots : List Nat} {l : Nat} {r : Root} (h : lookupN l (s.look slots) = some r) : s.root l = some r := by
  have := lookupN_mem h
  unfold S.look at this
  obtain ⟨m, _, hm⟩ := List.mem_filterMap.1 this
  split at hm
  · rename_i r' hr
    simp only [Option.some.injEq, Prod.mk.injEq] at hm
    obtain ⟨rfl, rfl⟩ := hm
    exact hr
  · cases hm

theorem set_self {fr : List A} {g : Nat} {x : A} (h : fr.getD g .none = x) : fr.set g x = fr := by
  refine List.ext_getElem? fun i => ?_
  rw [List.getElem?_set]
  split
  · rename_i hi
    subst hi
    split
    · rename_i hlt
      rw [List.getD_eq_getElem?_getD, List.getElem?_eq_getElem hlt] at h
      rw [List.getElem?_eq_getElem hlt]
      exact congrArg some h.symm
    · rename_i hlt
      rw [List.getElem?_eq_none (by omega)]
  · rfl

theorem drawR_chain {β : Type} {y : β} {k : List Did → S → Option β} : ∀ (rest : List Oper) (i nx : Nat) (masks : List Nat) (acc : List Did) (s : S), drawR E ops top rest i nx masks acc s k = some y →
    ∃ ds s', Chain E ops top rest ds i nx masks s s' ∧ k (ds.reverse ++ acc) s' = some y
  | [], i, nx, masks, acc, s, h => ⟨[], s, rfl, h⟩
  | o :: rest, i, nx, masks, acc, s, h => by
    have skip : Wants ops o (maskOf masks o) s false → drawR E ops top rest (i + 1) (nx + opNames E o) (masks ++ [maskOf masks o]) (⟨i, maskOf masks o, Oper.slots ops o, [], nx, opNames E o, s, o.dst, { dst := .none }⟩ :: acc) (s.put o.dst .none) k = some y →
        ∃ ds s', Chain E ops top (o :: rest) ds i nx masks s s' ∧ k (ds.reverse ++ acc) s' = some y := by
      intro hw h'
      obtain ⟨ds, s', h1, h2⟩ := drawR_chain rest _ _ _ _ _ h'
      refine ⟨⟨i, maskOf masks o, Oper.slots ops o, [], nx, opNames E o, s, o.dst, { dst := .none }⟩ :: ds, s', ⟨rfl, rfl, rfl, rfl, ⟨rfl, rfl, rfl, fun u hu => (by cases hu), fun l r hl => (by cases hl), false, hw, by simp⟩, ?_⟩, by simpa using h2⟩
      rw [apply_put]
      exact h1
    have run : Wants ops o (maskOf masks o) s true → ((opR E o s.eval ⟨fun l => lookupN l (if looks o then s.look (Oper.slots ops o) else []), if opNames E o == 0 then top else nx⟩).runS fun d => if d.set.all fun u => decide (u.1 < nx + opNames E o) then
          drawR E ops top rest (i + 1) (nx + opNames E o) (masks ++ [maskOf masks o]) (⟨i, maskOf masks o, Oper.slots ops o, if looks o then s.look (Oper.slots ops o) else [], nx, opNames E o, s, o.dst, d⟩ :: acc) (s.apply o.dst d) k else none) = some y →
        ∃ ds s', Chain E ops top (o :: rest) ds i nx masks s s' ∧ k (ds.reverse ++ acc) s' = some y := by
      intro hw h'
      obtain ⟨d, g1, g2, g3⟩ := R.runS_ok h'
      split at g3
      · rename_i hset
        obtain ⟨ds, s', h1, h2⟩ := drawR_chain rest _ _ _ _ _ g3
        refine ⟨⟨i, maskOf masks o, Oper.slots ops o, if looks o then s.look (Oper.slots ops o) else [], nx, opNames E o, s, o.dst, d⟩ :: ds, s', ⟨rfl, rfl, rfl, rfl, ⟨rfl, rfl, rfl, fun u hu => by simpa using List.all_eq_true.1 hset u hu, fun l r hl => ?_, true, hw, ?_⟩, h1⟩, by simpa using h2⟩
        · dsimp only at hl ⊢
          split at hl
          · exact look_spec hl
          · cases hl
        · rw [if_pos rfl]
          exact ⟨g1, g2⟩
      · cases g3
    unfold drawR at h
    simp only [Delta.share_eq, S.force_eq] at h
    split at h
    · rename_i hg
      exact run (by simp [Wants, hg]) h
    · rename_i j want hg
      split at h
      · cases h
      · rename_i hbit
        have hbit : (maskOf masks o).testBit j = true := by simpa using hbit
        split at h
        · cases h
        · rename_i g hj
          obtain ⟨oj, hoj, hdst⟩ : ∃ oj, ops[j]? = some oj ∧ oj.dst = some g := by
            cases ho : ops[j]? with
            | none => rw [ho] at hj; cases hj
            | some oj => rw [ho] at hj; exact ⟨oj, rfl, hj⟩
          split at h
          · rename_i hnone
            exact skip (by unfold Wants; rw [hg]; exact ⟨hbit, oj, g, hoj, hdst, .inl ⟨hnone, rfl⟩⟩) h
          · rename_i b hb
            have hW : Wants ops o (maskOf masks o) s (b == want) := by
              simp only [Wants, hg]
              exact ⟨hbit, oj, g, hoj, hdst, .inr ⟨b, hb, rfl⟩⟩
            cases b with
            | true =>
              have hs : ({ s with fr := s.fr.set g (litB true) } : S) = s := by
                have hb' : s.fr.getD g .none = litB true := hb
                rw [set_self hb']
              simp only [cond_true, hs] at h
              cases want with
              | true => exact run hW (by simpa using h)
              | false => exact skip hW (by simpa using h)
            | false =>
              have hs : ({ s with fr := s.fr.set g (litB false) } : S) = s := by
                have hb' : s.fr.getD g .none = litB false := hb
                rw [set_self hb']
              simp only [cond_false, hs] at h
              cases want with
              | true => exact skip hW (by simpa using h)
              | false => exact run hW (by simpa using h)
          · cases h

/-! ### Parts of the pass -/

theorem Chain.split : ∀ (l1 : List Oper) (o : Oper) (l2 : List Oper) (ds : List Did) (i nx : Nat) (masks : List Nat) (s s' : S), Chain E ops top (l1 ++ o :: l2) ds i nx masks s s' →
    ∃ d1 D d2 nx', ds = d1 ++ D :: d2 ∧ d1.length = l1.length ∧ Chain E ops top l1 d1 i nx masks s D.pre ∧ D.i = i + l1.length ∧ D.nx = nx' ∧ nx' = nx + (l1.map (opNames E)).sum ∧ D.mask = maskOf (masks ++ d1.map Did.mask) o ∧ Step E ops top o D ∧
      Chain E ops top l2 d2 (i + l1.length + 1) (nx' + opNames E o) (masks ++ d1.map Did.mask ++ [D.mask]) (D.pre.apply D.dst D.d) s'
  | [], o, l2, ds, i, nx, masks, s, s', h => by
    match ds, h with
    | D :: ds, ⟨h1, h2, h3, h4, h5, h6⟩ =>
      subst h4
      exact ⟨[], D, ds, nx, rfl, rfl, rfl, by simpa using h1, h2, by simp, by simpa using h3, h5, by simpa using h6⟩
  | o1 :: l1, o, l2, ds, i, nx, masks, s, s', h => by
    match ds, h with
    | D1 :: ds, ⟨h1, h2, h3, h4, h5, h6⟩ =>
      obtain ⟨d1, D, d2, nx', g1, g2, g3, g4, g5, g6, g7, g8, g9⟩ := Chain.split l1 o l2 ds _ _ _ _ _ h6
      refine ⟨D1 :: d1, D, d2, nx', by rw [g1]; rfl, by simp [g2], ⟨h1, h2, h3, h4, h5, g3⟩, by rw [g4]; simp; omega, g5, by rw [g6]; simp; omega, by simpa using g7, g8, ?_⟩
      have e1 : i + 1 + l1.length + 1 = i + (o1 :: l1).length + 1 := by simp; omega
      rw [e1] at g9
      simpa using g9

theorem Chain.ids : ∀ (l : List Oper) (ds : List Did) (i nx : Nat) (masks : List Nat) (s s' : S), Chain E ops top l ds i nx masks s s' → ds.length = l.length ∧ ∀ (k : Nat) D, ds[k]? = some D → D.i = i + k
  | [], [], _, _, _, _, _, _ => ⟨rfl, fun k D h => by simp at h⟩
  | [], _ :: _, _, _, _, _, _, h => h.elim
  | _ :: _, [], _, _, _, _, _, h => h.elim
  | o :: l, D :: ds, i, nx, masks, s, s', ⟨h1, _, _, _, _, h6⟩ => by
    obtain ⟨g1, g2⟩ := Chain.ids l ds _ _ _ _ _ h6
    refine ⟨by simp [g1], fun k D' hk => ?_⟩
    cases k with
    | zero => simp at hk; subst hk; simpa using h1
    | succ k => rw [g2 k D' (by simpa using hk)]; omega

/-- The names that the steps take. -/
theorem Chain.names : ∀ (l : List Oper) (ds : List Did) (i nx : Nat) (masks : List Nat) (s s' : S), Chain E ops top l ds i nx masks s s' → ∀ D ∈ ds, ∀ u ∈ D.d.set, u.1 < nx + (l.map (opNames E)).sum
  | [], [], _, _, _, _, _, _ => fun D h => by simp at h
  | [], _ :: _, _, _, _, _, _, h => h.elim
  | _ :: _, [], _, _, _, _, _, h => h.elim
  | o :: l, D :: ds, i, nx, masks, s, s', ⟨h1, h2, _, _, h5, h6⟩ => by
    intro D' hD u hu
    simp only [List.map_cons, List.sum_cons]
    rcases List.mem_cons.1 hD with rfl | hD
    · have := h5.set u hu
      rw [h5.n, h2] at this
      omega
    · have := Chain.names l ds _ _ _ _ _ h6 D' hD u hu
      omega

/-! ### Some of the steps -/

/-- The frame behind those steps of `L`. -/
def canF (L : Nat → Bool) : List Did → List A → List A
  | [], fr => fr
  | D :: ds, fr => canF L ds (if L D.i then frA fr D else fr)

def canH (L : Nat → Bool) : List Did → List (Option Root) → List (Option Root)
  | [], H => H
  | D :: ds, H => canH L ds (if L D.i then HA H D else H)

theorem canF_append (L : Nat → Bool) : ∀ (d1 d2 : List Did) (fr : List A), canF L (d1 ++ d2) fr = canF L d2 (canF L d1 fr)
  | [], _, _ => rfl
  | _ :: d1, d2, fr => canF_append L d1 d2 _

theorem canH_append (L : Nat → Bool) : ∀ (d1 d2 : List Did) (H : List (Option Root)), canH L (d1 ++ d2) H = canH L d2 (canH L d1 H)
  | [], _, _ => rfl
  | _ :: d1, d2, H => canH_append L d1 d2 _

theorem canF_len (L : Nat → Bool) : ∀ (ds : List Did) (fr : List A), (canF L ds fr).length = fr.length
  | [], _ => rfl
  | D :: ds, fr => by
    rw [canF, canF_len L ds]
    split
    · exact frA_len ..
    · rfl

theorem canH_len (L : Nat → Bool) : ∀ (ds : List Did) (H : List (Option Root)), H.length ≤ (canH L ds H).length
  | [], _ => Nat.le_refl _
  | D :: ds, H => by
    rw [canH]
    refine Nat.le_trans ?_ (canH_len L ds _)
    split
    · exact HA_len ..
    · exact Nat.le_refl _

theorem canF_eq {L L' : Nat → Bool} : ∀ (ds : List Did) (fr : List A), (∀ D ∈ ds, L D.i = L' D.i) → canF L ds fr = canF L' ds fr
  | [], _, _ => rfl
  | D :: ds, fr, h => by
    rw [canF, canF, h D (List.mem_cons_self ..)]
    exact canF_eq ds _ fun q hq => h q (List.mem_cons_of_mem _ hq)

theorem canH_eq {L L' : Nat → Bool} : ∀ (ds : List Did) (H : List (Option Root)), (∀ D ∈ ds, L D.i = L' D.i) → canH L ds H = canH L' ds H
  | [], _, _ => rfl
  | D :: ds, fr, h => by
    rw [canH, canH, h D (List.mem_cons_self ..)]
    exact canH_eq ds _ fun q hq => h q (List.mem_cons_of_mem _ hq)

/-- All of them: the textual state. -/
theorem Chain.all {L : Nat → Bool} : ∀ (l : List Oper) (ds : List Did) (i nx : Nat) (masks : List Nat) (s s' : S), Chain E ops top l ds i nx masks s s' → (∀ D ∈ ds, L D.i = true) → canF L ds s.fr = s'.fr ∧ canH L ds s.H = s'.H
  | [], [], _, _, _, s, s', h, _ => by cases h; exact ⟨rfl, rfl⟩
  | [], _ :: _, _, _, _, _, _, h, _ => h.elim
  | _ :: _, [], _, _, _, _, _, h, _ => h.elim
  | o :: l, D :: ds, i, nx, masks, s, s', ⟨_, _, _, _, _, h6⟩, hL => by
    have := Chain.all (L := L) l ds _ _ _ _ _ h6 fun q hq => hL q (List.mem_cons_of_mem _ hq)
    rw [apply_frA, apply_HA] at this
    rw [canF, canH, if_pos (hL D (List.mem_cons_self ..)), if_pos (hL D (List.mem_cons_self ..))]
    exact this

/-- A slot that the steps left out do not touch. -/
theorem Chain.slot {L : Nat → Bool} {x : Nat} : ∀ (l : List Oper) (ds : List Did) (i nx : Nat) (masks : List Nat) (s s' : S) (fr : List A), Chain E ops top l ds i nx masks s s' → fr.length = s.fr.length → fr.getD x .none = s.fr.getD x .none →
    (∀ D ∈ ds, L D.i = false → D.dst ≠ some x ∧ (D.pre.fr.getD x .none).hit D.k = false) → (canF L ds fr).getD x .none = s'.fr.getD x .none
  | [], [], _, _, _, s, s', fr, h, _, he, _ => by cases h; exact he
  | [], _ :: _, _, _, _, _, _, _, h, _, _, _ => h.elim
  | _ :: _, [], _, _, _, _, _, _, h, _, _, _ => h.elim
  | o :: l, D :: ds, i, nx, masks, s, s', fr, ⟨_, _, _, h4, _, h6⟩, hlen, he, hL => by
    have hL' : ∀ D ∈ ds, L D.i = false → D.dst ≠ some x ∧ (D.pre.fr.getD x .none).hit D.k = false := fun q hq => hL q (List.mem_cons_of_mem _ hq)
    rw [canF]
    refine Chain.slot (L := L) l ds _ _ _ _ s' _ h6 ?_ ?_ hL'
    · rw [apply_frA, frA_len]
      split
      · rw [frA_len, hlen]
      · exact hlen
    · rw [apply_frA]
      cases hD : L D.i with
      | true => exact frA_congr D hlen he
      | false =>
        obtain ⟨g1, g2⟩ := hL D (List.mem_cons_self ..) hD
        rw [h4] at g2
        rw [frA_same g1 g2]
        exact he

/-- A root that the steps left out do not touch. -/
theorem Chain.root {L : Nat → Bool} {x : Nat} : ∀ (l : List Oper) (ds : List Did) (i nx : Nat) (masks : List Nat) (s s' : S) (H : List (Option Root)), Chain E ops top l ds i nx masks s s' → H.getD x none = s.H.getD x none →
    (∀ D ∈ ds, L D.i = false → sets D.d x = false ∧ ∀ r, D.pre.H.getD x none = some r → r.hit D.k = false) → (canH L ds H).getD x none = s'.H.getD x none
  | [], [], _, _, _, s, s', fr, h, he, _ => by cases h; exact he
  | [], _ :: _, _, _, _, _, _, _, h, _, _ => h.elim
  | _ :: _, [], _, _, _, _, _, _, h, _, _ => h.elim
  | o :: l, D :: ds, i, nx, masks, s, s', fr, ⟨_, _, _, h4, _, h6⟩, he, hL => by
    have hL' := fun q hq => hL q (List.mem_cons_of_mem D hq)
    rw [canH]
    refine Chain.root (L := L) l ds _ _ _ _ s' _ h6 ?_ hL'
    rw [apply_HA]
    cases hD : L D.i with
    | true => exact HA_congr D he
    | false =>
      obtain ⟨g1, g2⟩ := hL D (List.mem_cons_self ..) hD
      rw [h4] at g2
      rw [HA_same g1 g2]
      exact he

/-- A slot that the steps do not touch. -/
theorem canF_slot {L : Nat → Bool} {x : Nat} : ∀ (ds : List Did) (fr : List A), (∀ D ∈ ds, L D.i = true → D.dst ≠ some x ∧ (fr.getD x .none).hit D.k = false) → (canF L ds fr).getD x .none = fr.getD x .none
  | [], _, _ => rfl
  | D :: ds, fr, h => by
    have hs : (if L D.i = true then frA fr D else fr).getD x .none = fr.getD x .none := by
      split
      · rename_i hD
        obtain ⟨g1, g2⟩ := h D (List.mem_cons_self ..) hD
        exact frA_same g1 g2
      · rfl
    rw [canF, canF_slot ds _ fun q hq hL => by rw [hs]; exact h q (List.mem_cons_of_mem _ hq) hL, hs]

theorem canH_root {L : Nat → Bool} {x : Nat} : ∀ (ds : List Did) (H : List (Option Root)), (∀ D ∈ ds, L D.i = true → sets D.d x = false ∧ ∀ r, H.getD x none = some r → r.hit D.k = false) → (canH L ds H).getD x none = H.getD x none
  | [], _, _ => rfl
  | D :: ds, H, h => by
    have hs : (if L D.i = true then HA H D else H).getD x none = H.getD x none := by
      split
      · rename_i hD
        obtain ⟨g1, g2⟩ := h D (List.mem_cons_self ..) hD
        exact HA_same g1 g2
      · rfl
    rw [canH, canH_root ds _ fun q hq hL => by rw [hs]; exact h q (List.mem_cons_of_mem _ hq) hL, hs]

/-- A step done behind those that commute with it. -/
theorem canF_comm {L : Nat → Bool} {D : Did} : ∀ (ds : List Did) (fr : List A), (∀ q ∈ ds, L q.i = true → Comm D q) → frA (canF L ds fr) D = canF L ds (frA fr D)
  | [], _, _ => rfl
  | q :: ds, fr, h => by
    rw [canF, canF, canF_comm ds _ fun p hp => h p (List.mem_cons_of_mem _ hp)]
    split
    · rename_i hq
      rw [(h q (List.mem_cons_self ..) hq).fr]
    · rfl

theorem canH_comm {L : Nat → Bool} {D : Did} : ∀ (ds : List Did) (H : List (Option Root)), (∀ q ∈ ds, L q.i = true → Comm D q) → HA (canH L ds H) D = canH L ds (HA H D)
  | [], _, _ => rfl
  | q :: ds, H, h => by
    rw [canH, canH, canH_comm ds _ fun p hp => h p (List.mem_cons_of_mem _ hp)]
    split
    · rename_i hq
      rw [(h q (List.mem_cons_self ..) hq).heap]
    · rfl

end Go.Proofs.YtgjneigkkgaaiaaGreatDoor.Vd

/- VdZec -/
namespace Go.Proofs.YtgjneigkkgaaiaaGreatDoor.Vd

variable {P : Program} {E : Env} {ρ ρ' : Map} {w w' : World} {s : S} {a : Act} {K : Ctx} {ops : Array Oper} {top : Nat}

/-! ### An operation looks at its operands alone -/

theorem map_congr_arr {α β : Type} {f g : α → β} {l : Array α} (h : ∀ x ∈ l, f x = g x) : l.toList.map f = l.toList.map g :=
  List.map_congr_left fun x hx => h x (by simpa using hx)

theorem opR_congr {ρA ρB : Operand → A} (o : Oper) (V : View) (h : ∀ x ∈ o.op.operands, ρA x = ρB x) : opR E o ρA V = opR E o ρB V := by
  obtain ⟨dst, op, type, pos, after, guard⟩ := o
  have pairs : ∀ ps : Array (Nat × Operand), (∀ x ∈ (ps.toList.map (·.2)).toArray, ρA x = ρB x) →
      (ps.toList.map fun p => (p.1, ρA p.2)) = (ps.toList.map fun p => (p.1, ρB p.2)) := fun ps hp =>
    List.map_congr_left fun p hm => by
      rw [hp p.2 (by simpa using ⟨p.1, by simpa using hm⟩)]
  cases op <;> simp only [Op.operands] at h <;> try (unfold opR; rfl)
  case move x => simp [opR, h x]
  case assign x => simp [opR, h x]
  case pick c x y => simp [opR, h c, h x, h y]
  case box t x => simp [opR, h x]
  case build t ps => unfold opR; dsimp only; rw [pairs ps h]
  case buildSlice t n ps => unfold opR; dsimp only; rw [pairs ps h]
  case load t x => simp [opR, h x]
  case store t x y => simp [opR, h x, h y]
  case nilCheck x => simp [opR, h x]
  case binOp op t x y ty =>
    have hx := h x (by simp)
    have hy := h y (by simp)
    unfold opR
    dsimp only
    split <;> simp_all
  case unOp op t x => simp [opR, h x]
  case convert u t x => simp [opR, h x]
  case makeFunc fn first caps =>
    unfold opR
    dsimp only
    rw [map_congr_arr (l := first) fun x hx => h x (by simp [hx]), map_congr_arr (l := caps) fun x hx => h x (by simp [hx])]
  case makeSlice t n c => simp [opR, h n, h c]
  case slice t x lo hi mx =>
    have hx := h x (by simp)
    cases mx with
    | none => cases lo <;> cases hi <;> simp_all [opR]
    | some m =>
      unfold opR
      dsimp only
      split <;> first | rfl | (rename_i heq; cases heq; done) | (rename_i heq; cases heq; rw [hx])
  case fieldAddr t x f => simp [opR, h x]
  case indexAddr t x i => simp [opR, h x, h i]
  case index t x i => simp [opR, h x, h i]
  case extract x i => simp [opR, h x]
  case call c =>
    have hargs : c.args.toList.map ρA = c.args.toList.map ρB := map_congr_arr fun x hx => h x (by simp [Call.operands, hx])
    unfold opR
    dsimp only
    rw [hargs]
    cases hc : c.callee with
    | value f =>
      have hf := h f (by simp [Call.operands, hc])
      cases f <;> first | rfl | (dsimp only; rw [hf])
    | invoke r m => rfl
    | builtin b => rfl

/-! ### The beginning -/

theorem Rel.congr {s' : S} (h : Rel P K ρ s a w) (h1 : s'.fr = s.fr) (h2 : s'.H = s.H) : Rel P K ρ s' a w := by
  obtain ⟨fr, H, dF, dH⟩ := s
  obtain ⟨fr', H', dF', dH'⟩ := s'
  dsimp only at h1 h2
  subst h1
  subst h2
  exact ⟨h.size, h.defers, h.slot, h.root, h.live, h.fresh, h.later, h.keep, h.old, h.fix⟩

theorem gaps_root (s : S) (n l : Nat) : ({ s with H := s.H ++ List.replicate n (some .gap) } : S).root l = if l < s.H.length then s.root l else if l < s.H.length + n then some .gap else none := by
  simp only [S.root, List.getD_eq_getElem?_getD]
  by_cases h : l < s.H.length
  · rw [if_pos h, List.getElem?_append_left h]
  · rw [if_neg h, List.getElem?_append_right (by omega), List.getElem?_replicate]
    by_cases h2 : l < s.H.length + n
    · rw [if_pos h2, if_pos (by omega)]
      rfl
    · rw [if_neg h2, if_neg (by omega)]
      rfl

/-- Names kept free; a draw more. -/
theorem Rel.gaps (h : Rel P K ρ s a w) (n d : Nat) : Rel P K ρ { s with H := s.H ++ List.replicate n (some .gap) } a { w with drawn := d } := by
  have hsome : ∀ l r, s.root l = some r → l < s.H.length := fun l r hr => by
    rcases Nat.lt_or_ge l s.H.length with h1 | h1
    · exact h1
    · simp [S.root, List.getElem?_eq_none h1] at hr
  have hl : Later w { w with drawn := d } := ⟨Nat.le_refl _, rfl, rfl, rfl⟩
  have hc : Chg P ρ ρ w { w with drawn := d } s.root ({ s with H := s.H ++ List.replicate n (some .gap) } : S).root ⟨[], []⟩ :=
    { later := hl, free := fun _ _ h => ⟨h, rfl⟩, off := fun _ _ h => ⟨h, rfl⟩, noOff := fun _ h => h, block := fun _ _ _ _ _ => ⟨rfl, fun _ => rfl⟩, hdr := fun _ _ _ => rfl, hdrP := fun _ _ _ _ => rfl
      arr := fun l e xs d _ _ hr => by rw [gaps_root, if_pos (hsome _ _ hr)]; exact hr
      mov := fun _ _ h => by cases h
      got := fun _ _ _ _ h => h _
      movB := fun _ _ _ _ h => by cases h }
  refine ⟨h.size, h.defers, fun i x hx => ?_, fun l r hr => ?_, fun b l hb => ?_, h.fresh, h.later.trans hl, h.keep, h.old, fun l v hv => ?_⟩
  · obtain ⟨v, h1, h2⟩ := h.slot i x hx
    have := AR.left hc h2
    rw [A.left_nil] at this
    exact ⟨v, h1, this⟩
  · rw [gaps_root] at hr
    split at hr
    · have := RR.left hc (fun ⟨b, hb⟩ => by cases hb) (fun hm => by cases hm) (h.root l r hr)
      rw [Root.left_nil] at this
      exact this
    · rename_i hlt
      split at hr
      · cases hr
        exact fun b hb => hlt (h.live b l hb)
      · cases hr
  · have := h.live b l hb
    simp
    omega
  · obtain ⟨h1, h2⟩ := h.fix l v hv
    exact ⟨h1, by simp; omega⟩

/-! ### One step among the open ones -/

theorem list_split {α : Type} {o : α} : ∀ (l : List α) (j : Nat), l[j]? = some o → ∃ l1 l2, l = l1 ++ o :: l2 ∧ l1.length = j
  | [], _, h => by simp at h
  | x :: l, 0, h => by simp at h; subst h; exact ⟨[], l, rfl, rfl⟩
  | x :: l, j + 1, h => by
    obtain ⟨l1, l2, h1, h2⟩ := list_split l j (by simpa using h)
    exact ⟨x :: l1, l2, by rw [h1]; rfl, by simp [h2]⟩

theorem maskOf_spec {acc : List Nat} {o : Oper} {b : Nat} (h : (maskOf acc o).testBit b = true) : ∃ e ∈ o.after, Region.binds .any e = true ∧ (b = e.on ∨ (acc.getD e.on 0).testBit b = true) := by
  have H : ∀ (l : List Edge) (m : Nat), (l.foldl (fun m e => if Region.binds .any e then m ||| 2 ^ e.on ||| acc.getD e.on 0 else m) m).testBit b = true →
      m.testBit b = true ∨ ∃ e ∈ l, Region.binds .any e = true ∧ (b = e.on ∨ (acc.getD e.on 0).testBit b = true) := by
    intro l
    induction l with
    | nil => intro m hm; exact .inl hm
    | cons e l ih =>
      intro m hm
      rcases ih _ hm with h1 | ⟨e', he', h1⟩
      · dsimp only at h1
        split at h1
        · rename_i hb
          simp only [Nat.testBit_or, Nat.testBit_two_pow, Bool.or_eq_true, decide_eq_true_eq] at h1
          rcases h1 with (h1 | h1) | h1
          · exact .inl h1
          · exact .inr ⟨e, List.mem_cons_self .., hb, .inl h1.symm⟩
          · exact .inr ⟨e, List.mem_cons_self .., hb, .inr h1⟩
        · exact .inl h1
      · exact .inr ⟨e', List.mem_cons_of_mem _ he', h1⟩
  rcases H _ _ h with h1 | ⟨e, he, h1⟩
  · simp at h1
  · exact ⟨e, by simpa using he, h1⟩

theorem didsOk_spec : ∀ (acc : List Did), didsOk acc = true → acc.Pairwise fun q p => q.mask.testBit p.i = true ∨ p.free q = true
  | [], _ => .nil
  | q :: r, h => by
    simp only [didsOk, Bool.and_eq_true, List.all_eq_true, Bool.or_eq_true] at h
    exact .cons h.1 (didsOk_spec r h.2)

def Closed (L : Nat → Bool) (ds : List Did) : Prop := ∀ D ∈ ds, L D.i = true → ∀ b, D.mask.testBit b = true → L b = true

theorem Did.clear_slot {p q : Did} {x : Nat} (h : Did.clear s p q = true) (hq : q.d.mov = []) (hx : x ∈ p.slots) : q.dst ≠ some x ∧ (s.fr.getD x .none).hit q.k = false := by
  simp only [Did.clear, Bool.and_eq_true, List.all_eq_true] at h
  have := h.1 x hx
  simp only [bne_iff_ne, ne_eq, Bool.not_eq_true'] at this
  refine ⟨this.1, ?_⟩
  have hk : q.k = ⟨q.d.kill, []⟩ := by simp [Did.k, hq]
  rw [hk]
  exact this.2

theorem Did.clear_look {p q : Did} {l : Nat} {r : Root} (h : Did.clear s p q = true) (hq : q.d.mov = []) (hx : (l, r) ∈ p.look) : sets q.d l = false ∧ ∀ r, s.H.getD l none = some r → r.hit q.k = false := by
  simp only [Did.clear, Bool.and_eq_true, List.all_eq_true] at h
  have := h.2 _ hx
  simp only [Bool.not_eq_true'] at this
  refine ⟨this.1, fun r' hr => ?_⟩
  have h2 := this.2
  rw [show s.root l = some r' from hr] at h2
  have hk : q.k = ⟨q.d.kill, []⟩ := by simp [Did.k, hq]
  rw [hk]
  simpa using h2

theorem Did.free_parts {p q : Did} (h : p.free q = true) : p.clear p.pre q = true ∧ q.clear p.pre p = true ∧ p.apart q = true := by
  simp only [Did.free, Bool.and_eq_true] at h
  exact ⟨h.1.1.1.1.2, h.1.1.1.2, h.2⟩

theorem canH_gap {L : Nat → Bool} {n : Nat} : ∀ (ds : List Did) (H : List (Option Root)), H.getD n none = some .gap → (∀ D ∈ ds, L D.i = true → sets D.d n = false) → (canH L ds H).getD n none = some .gap
  | [], _, h, _ => h
  | D :: ds, H, h, hs => by
    rw [canH]
    refine canH_gap ds _ ?_ fun q hq => hs q (List.mem_cons_of_mem _ hq)
    split
    · rename_i hD
      rw [HA_other (hs D (List.mem_cons_self ..) hD), h]
      rfl
    · exact h

theorem sets_false {d : Delta} {n : Nat} (h : ∀ u ∈ d.set, u.1 ≠ n) : sets d n = false := by
  simp only [sets, List.any_eq_false, beq_iff_eq]
  exact h

theorem draw_step {ds : List Did} {nx0 : Nat} {s0 s' : S} (hch : Chain E ops top ops.toList ds 0 nx0 [] s0 s') (hpair : ds.Pairwise fun p q => q.mask.testBit p.i = true ∨ p.free q = true)
    {L : Nat → Bool} (hcl : Closed L ds) {j : Nat} {o : Oper} (hj : ops[j]? = some o) (hLj : L j = false) (hready : ∀ e ∈ o.after, Region.binds .any e = true → L e.on = true) :
    ∃ D L', (∀ i, L' i = if i = j then true else L i) ∧ D.i = j ∧ Step E ops top o D ∧ (∀ b, D.mask.testBit b = true → L b = true) ∧ Closed L' ds ∧
      (∀ x ∈ D.slots, (canF L ds s0.fr).getD x .none = D.pre.fr.getD x .none) ∧ (∀ l r, lookupN l D.look = some r → (canH L ds s0.H).getD l none = some r) ∧
      (∀ n, D.nx ≤ n → n < D.nx + D.n → s0.H.getD n none = some .gap → (canH L ds s0.H).getD n none = some .gap) ∧ nx0 ≤ D.nx ∧ D.nx + D.n ≤ nx0 + (ops.toList.map (opNames E)).sum ∧
      frA (canF L ds s0.fr) D = canF L' ds s0.fr ∧ HA (canH L ds s0.H) D = canH L' ds s0.H := by
  obtain ⟨l1, l2, hl, hlen⟩ := list_split ops.toList j (by simpa using hj)
  rw [hl] at hch
  obtain ⟨d1, D, d2, nx', rfl, h2, h3, h4, h5, h6, h7, h8, h9⟩ := Chain.split l1 o l2 ds 0 nx0 [] s0 s' hch
  have hi : D.i = j := by rw [h4, hlen, Nat.zero_add]
  have ids1 := Chain.ids _ _ _ _ _ _ _ h3
  have ids2 := Chain.ids _ _ _ _ _ _ _ h9
  have id1 : ∀ p ∈ d1, p.i < j := fun p hp => by
    obtain ⟨k, hk, hkp⟩ := List.mem_iff_getElem?.1 hp |>.imp fun k hk => (⟨(List.getElem?_eq_some_iff.1 hk).1, hk⟩ : _ ∧ _)
    rw [ids1.2 k p hkp]
    omega
  have id2 : ∀ q ∈ d2, j < q.i := fun q hq => by
    obtain ⟨k, hk⟩ := List.mem_iff_getElem?.1 hq
    rw [ids2.2 k q hk]
    omega
  have hmask : ∀ b, D.mask.testBit b = true → L b = true := fun b hb => by
    rw [h7, List.nil_append] at hb
    obtain ⟨e, he, hbd, hor⟩ := maskOf_spec hb
    have hLe := hready e he hbd
    rcases hor with rfl | hor
    · exact hLe
    · rw [List.getD_eq_getElem?_getD, List.getElem?_map] at hor
      cases hp : d1[e.on]? with
      | none => rw [hp] at hor; simp at hor
      | some p =>
        rw [hp] at hor
        refine hcl p (by simp [List.mem_of_getElem? hp]) ?_ b (by simpa using hor)
        rw [ids1.2 _ _ hp, Nat.zero_add]
        exact hLe
  rw [List.pairwise_append] at hpair
  obtain ⟨hp1, hp2, hp3⟩ := hpair
  have free1 : ∀ p ∈ d1, L p.i = false → p.free D = true := fun p hp hLp =>
    (hp3 p hp D (List.mem_cons_self ..)).resolve_left fun hb => by
      rw [hmask _ hb] at hLp
      cases hLp
  have free2 : ∀ q ∈ d2, L q.i = true → D.free q = true := fun q hq hLq =>
    ((List.pairwise_cons.1 hp2).1 q hq).resolve_left fun hb => by
      have := hcl q (by simp [hq]) hLq _ hb
      rw [hi, hLj] at this
      cases this
  have hLD : L D.i = false := by rw [hi]; exact hLj
  let L' : Nat → Bool := fun i => if i = j then true else L i
  have e1 : ∀ q ∈ d1, L q.i = L' q.i := fun q hq => by
    have := id1 q hq
    simp only [L']
    rw [if_neg (by omega)]
  have e2 : ∀ q ∈ d2, L q.i = L' q.i := fun q hq => by
    have := id2 q hq
    simp only [L']
    rw [if_neg (by omega)]
  have hL'D : L' D.i = true := by simp [L', hi]
  refine ⟨D, L', fun _ => rfl, hi, h8, hmask, ?_, fun x hx => ?_, fun l r hlr => ?_, fun n hn1 hn2 hg => ?_, ?_, ?_, ?_, ?_⟩
  · intro q hq hLq b hb
    have hcases : L b = true := by
      rcases List.mem_append.1 hq with hq | hq
      · exact hcl q (by simp [hq]) (by rw [e1 q hq]; exact hLq) b hb
      · rcases List.mem_cons.1 hq with rfl | hq
        · exact hmask b hb
        · exact hcl q (by simp [hq]) (by rw [e2 q hq]; exact hLq) b hb
    simp only [L']
    split
    · rfl
    · exact hcases
  · -- slots
    have hA : (canF L d1 s0.fr).getD x .none = D.pre.fr.getD x .none := Chain.slot _ _ _ _ _ _ _ _ h3 rfl rfl fun p hp hLp => by
      have hf := free1 p hp hLp
      exact Did.clear_slot (Did.free_parts hf).2.1 (Did.free_comm hf).mp hx
    rw [canF_append, canF, hLD]
    refine Eq.trans (canF_slot d2 _ fun q hq hLq => ?_) hA
    have hf := free2 q hq hLq
    have := Did.clear_slot (Did.free_parts hf).1 (Did.free_comm hf).mq hx
    refine ⟨this.1, ?_⟩
    rw [if_neg (by simp), hA]
    exact this.2
  · have hmem := lookupN_mem hlr
    have hA : (canH L d1 s0.H).getD l none = D.pre.H.getD l none := Chain.root _ _ _ _ _ _ _ _ h3 rfl fun p hp hLp => by
      have hf := free1 p hp hLp
      exact Did.clear_look (Did.free_parts hf).2.1 (Did.free_comm hf).mp hmem
    rw [canH_append, canH, hLD]
    refine Eq.trans (canH_root d2 _ fun q hq hLq => ?_) (hA.trans (h8.look l r hlr))
    have hf := free2 q hq hLq
    have := Did.clear_look (Did.free_parts hf).1 (Did.free_comm hf).mq hmem
    refine ⟨this.1, ?_⟩
    rw [if_neg (by simp), hA]
    exact this.2
  · rw [canH_append, canH, hLD, if_neg (by simp)]
    refine canH_gap _ _ (canH_gap _ _ hg fun p hp _ => sets_false fun u hu => ?_) fun q hq hLq => sets_false fun u hu => ?_
    · have := Chain.names _ _ _ _ _ _ _ h3 p hp u hu
      omega
    · have hf := free2 q hq hLq
      have := (Did.free_parts hf).2.2
      simp only [Did.apart, List.all_eq_true] at this
      have := this u hu
      simp only [Bool.not_eq_true', Bool.and_eq_false_iff, decide_eq_false_iff_not] at this
      omega
  · omega
  · rw [hl, h8.n]
    simp only [List.map_append, List.map_cons, List.sum_append, List.sum_cons]
    omega
  · rw [canF_append, canF_append, canF, canF, hLD, hL'D, if_neg (by simp), if_pos rfl, canF_comm d2 _ fun q hq hLq => Did.free_comm (free2 q hq hLq), canF_eq d1 _ e1, canF_eq d2 _ e2]
  · rw [canH_append, canH_append, canH, canH, hLD, hL'D, if_neg (by simp), if_pos rfl, canH_comm d2 _ fun q hq hLq => Did.free_comm (free2 q hq hLq), canH_eq d1 _ e1, canH_eq d2 _ e2]

end Go.Proofs.YtgjneigkkgaaiaaGreatDoor.Vd

/- VdZed -/
namespace Go.Proofs.YtgjneigkkgaaiaaGreatDoor.Vd

variable {P : Program} {E : Env} {ρ ρ' : Map} {w w' : World} {s : S} {a : Act} {K : Ctx} {ops : Array Oper} {top : Nat}

/-- What comes before lies before. -/
def backOK (ops : Array Oper) : Bool := (List.range ops.size).all fun i => match ops[i]? with
  | some o => o.after.all fun e => !Region.binds .any e || decide (e.on < i)
  | none => true

theorem backOK_spec (h : backOK ops = true) {i : Nat} {o : Oper} (hi : ops[i]? = some o) {e : Edge} (he : e ∈ o.after) (hb : Region.binds .any e = true) : e.on < i := by
  have hlt : i < ops.size := (Array.getElem?_eq_some_iff.1 hi).1
  have := List.all_eq_true.1 h i (by simpa using hlt)
  rw [hi] at this
  have := Array.all_eq_true_iff_forall_mem.1 this e he
  simpa [hb] using this

theorem all_listed (hb : backOK ops = true) {listed : Array Bool} (hsz : listed.size = ops.size) (h : Region.ready .any ops listed = []) : ∀ i, i < ops.size → listed.getD i false = true := by
  intro i
  induction i using Nat.strongRecOn with
  | ind i ih =>
    intro hi
    cases hl : listed.getD i false with
    | true => rfl
    | false =>
      have hmem : i ∈ Region.ready .any ops listed := by
        rw [mem_ready]
        refine ⟨?_, ops[i], Array.getElem?_eq_getElem hi, fun e he hbd => ?_⟩
        · rw [Array.getD_eq_getD_getElem?, Array.getElem?_eq_getElem (by omega)] at hl ⊢
          exact hl
        · have := backOK_spec hb (Array.getElem?_eq_getElem hi) he hbd
          exact ih _ this (by omega)
      rw [h] at hmem
      cases hmem

theorem countP_lt {p q : Nat → Bool} {j : Nat} : ∀ (l : List Nat), (∀ x, p x = true → q x = true) → j ∈ l → p j = false → q j = true → l.countP p < l.countP q
  | [], _, hj, _, _ => by cases hj
  | x :: l, h, hj, hp, hq => by
    have hle : l.countP p ≤ l.countP q := List.countP_mono_left fun x _ => h x
    rw [List.countP_cons, List.countP_cons]
    by_cases hx : x = j
    · subst hx
      simp [hp, hq]
      omega
    · have hj' : j ∈ l := by
        rcases List.mem_cons.1 hj with h' | h'
        · exact absurd h'.symm hx
        · exact h'
      have := countP_lt l h hj' hp hq
      cases hpx : p x with
      | true => simp [h x hpx]; omega
      | false => simp; omega

theorem putR_length : ∀ (H : List (Option Root)) (n : Nat) (r : Option Root), n < H.length → (putR H n r).length = H.length
  | [], _, _, h => by simp at h
  | _ :: _, 0, _, _ => rfl
  | _ :: t, n + 1, r, h => by simp [putR, putR_length t n r (by simpa using h)]

theorem setAll_length : ∀ (u : List (Nat × Option Root)) (H : List (Option Root)), (∀ q ∈ u, q.1 < H.length) → (setAll H u).length = H.length
  | [], _, _ => rfl
  | (m, r) :: u, H, h => by
    have h1 := putR_length H m r (h _ (List.mem_cons_self ..))
    rw [setAll, setAll_length u _ fun q hq => by rw [h1]; exact h q (List.mem_cons_of_mem _ hq), h1]

theorem canH_length (L : Nat → Bool) : ∀ (ds : List Did) (H : List (Option Root)), (∀ D ∈ ds, ∀ u ∈ D.d.set, u.1 < H.length) → (canH L ds H).length = H.length
  | [], _, _ => rfl
  | D :: ds, H, h => by
    have h1 : (HA H D).length = H.length := by
      rw [HA, setAll_length _ _ (by simpa using h D (List.mem_cons_self ..))]
      simp
    rw [canH]
    split
    · rw [canH_length L ds _ fun q hq u hu => by rw [h1]; exact h q (List.mem_cons_of_mem _ hq) u hu, h1]
    · exact canH_length L ds _ fun q hq => h q (List.mem_cons_of_mem _ hq)

theorem Chain.same {sh : S} : ∀ (l : List Oper) (ds : List Did) (i nx : Nat) (masks : List Nat) (s s' : S), Chain E ops top l ds i nx masks s s' → Same sh s → Same sh s'
  | [], [], _, _, _, _, _, h, hs => by cases h; exact hs
  | [], _ :: _, _, _, _, _, _, h, _ => h.elim
  | _ :: _, [], _, _, _, _, _, h, _ => h.elim
  | _ :: l, D :: ds, i, nx, masks, s, s', ⟨_, _, _, _, _, h6⟩, hs => Chain.same l ds _ _ _ _ _ h6 (hs.apply D.dst D.d)

theorem wants_spec (hR : Rel P K ρ s a w) {o : Oper} {D : Did} (hsl : D.slots = Oper.slots ops o) {yes : Bool} (hW : Wants ops o D.mask D.pre yes) (hs : ∀ x ∈ D.slots, s.fr.getD x .none = D.pre.fr.getD x .none) :
    Region.wanted o (yielded ops a.tmps) = yes := by
  unfold Wants at hW
  cases hg : o.guard with
  | none =>
    rw [hg] at hW
    simp [Region.wanted, hg, show yes = true from hW]
  | some jw =>
    obtain ⟨j, want⟩ := jw
    rw [hg] at hW
    obtain ⟨_, oj, g, hoj, hd, hor⟩ := hW
    have hmem : g ∈ D.slots := by
      rw [hsl]
      simp [Oper.slots, hg, hoj, hd]
    have hfr := hs g hmem
    have hyd : yielded ops a.tmps j = match a.tmps[g]? with | some (.bool b) => some b | _ => none := by
      simp only [yielded, hoj, Option.bind_some, hd]
      cases a.tmps[g]? with
      | none => rfl
      | some v => cases v <;> rfl
    rcases hor with ⟨hn, rfl⟩ | ⟨b, hb, rfl⟩
    · rw [hn] at hfr
      have : yielded ops a.tmps j = none := by
        rw [hyd]
        cases hs : s.fr[g]? with
        | none =>
          have : a.tmps[g]? = none := by
            rw [Array.getElem?_eq_none_iff, hR.size]
            simpa using hs
          rw [this]
        | some x =>
          rw [List.getD_eq_getElem?_getD, hs] at hfr
          obtain ⟨v, h1, h2⟩ := hR.slot g x hs
          have hx : x = .none := hfr
          subst hx
          have hv : v = undef := h2
          rw [h1, hv]
          rfl
      simp [Region.wanted, hg, this]
    · rw [hb] at hfr
      obtain ⟨_, ht⟩ := hR.relit hfr
      simp [Region.wanted, hg, hyd, ht]

theorem op_sound_at (hT : TyOK P E) (hF : FixOK K E) (hC : CallsOK P E K) (hR : Rel P K ρ s a w) {o : Oper} (hok : opOK P o = true) {V : View} (hV : Seen V s)
    (h0 : opNames E o = 0 → s.H.length ≤ V.nx) (h1 : ∀ i, i < opNames E o → Unused K ρ s (V.nx + i)) : Sound P K s a w o (opR E o s.eval V) := by
  obtain ⟨g1, g2⟩ := hC ρ s a w V o s.eval hR hV hR.eval
  have hn : Unused K ρ s V.nx := by
    rcases Nat.eq_zero_or_pos (opNames E o) with h | h
    · exact hR.unusedGe (h0 h)
    · exact h1 0 h
  refine opR_sound hR hT hF hV hn hok hR.eval (fun c f ho hc => g1 c f ho hc fun con hl i hi => h1 i ?_) (fun c x ho hc hx => g2 c x ho hc fun n hn => hR.unusedGe (Nat.le_trans (h0 ?_) hn))
  · simp only [opNames, ho, hc, hl]
    exact hi
  · cases x with
    | func f => exact absurd rfl (hx f)
    | _ => simp [opNames, ho, hc]

/-- A draw more. -/
theorem Rel.drawn (h : Rel P K ρ s a w) (d : Nat) : Rel P K ρ s a { w with drawn := d } := by
  have := h.gaps 0 d
  rwa [show ({ s with H := s.H ++ List.replicate 0 (some .gap) } : S) = s from by simp] at this

theorem ambL_some {β : Type} {y : β} : ∀ {l : List (Option β)}, ambL l = some y → ∀ x ∈ l, x = some y
  | [], h => by cases h
  | [x], h => fun z hz => by
    rw [List.mem_singleton] at hz
    subst hz
    exact h
  | x :: x' :: l, h => fun z hz => by
    have h' : ambO x (ambL (x' :: l)) = some y := h
    unfold ambO at h'
    split at h'
    · rename_i he
      rcases List.mem_cons.1 hz with rfl | hz
      · exact h'
      · exact ambL_some (l := x' :: l) (he ▸ h') z hz
    · cases h'

theorem mem_readyX {ops : Array Oper} {m : Nat} {listed : Array Bool} (hsz : listed.size = ops.size) (hm : ∀ i, listed.getD i false = m.testBit i) {i : Nat} : i ∈ readyX ops m ↔ i ∈ Region.ready .any ops listed := by
  rw [mem_ready]
  simp only [readyX, List.mem_filter, List.mem_range, Bool.and_eq_true, Bool.not_eq_true']
  have hg : ∀ i, i < ops.size → listed.getD i true = m.testBit i := fun i hi => by
    rw [← hm i, Array.getD_eq_getD_getElem?, Array.getD_eq_getD_getElem?, Array.getElem?_eq_getElem (by omega)]
    rfl
  constructor
  · rintro ⟨h1, h2, h3⟩
    rw [Array.getElem?_eq_getElem h1] at h3
    refine ⟨(hg i h1).trans h2, ops[i], Array.getElem?_eq_getElem h1, fun e he hb => ?_⟩
    have := List.all_eq_true.1 h3 e (by simpa using he)
    rw [hb] at this
    exact (hm e.on).trans (by simpa using this)
  · rintro ⟨h1, o, ho, h2⟩
    have hi : i < ops.size := (Array.getElem?_eq_some_iff.1 ho).1
    refine ⟨hi, (hg i hi).symm.trans h1, ?_⟩
    rw [ho]
    refine List.all_eq_true.2 fun e he => ?_
    cases hb : Region.binds .any e with
    | false => rfl
    | true => simpa using (hm e.on).symm.trans (h2 e (by simpa using he) hb)

theorem drawX_sound {Q : Exit → Act → World → Prop} (hT : TyOK P E) (hF : FixOK K E) (hC : CallsOK P E K) (hops : ∀ o ∈ ops, opOK P o = true)
    {β : Type} {y : β} {k : S → Option β} {sh : S} (hk : ∀ ρ' s' a' w', Rel P K ρ' s' a' w' → Same sh s' → k s' = some y → Q .normal a' w') :
    ∀ (n m : Nat) (s : S) (ρ : Map) (a : Act) (w : World) (listed : Array Bool) (fuel : Nat), listed.size = ops.size → (∀ i, listed.getD i false = m.testBit i) → (List.range ops.size).countP (fun i => !listed.getD i true) ≤ fuel →
      Rel P K ρ s a w → Same sh s → drawX E ops k n m s = some y → wpAny P .any ops Q fuel listed a w := by
  intro n
  induction n with
  | zero => intro m s ρ a w listed fuel _ _ _ _ _ h; cases h
  | succ n ih =>
    intro m s ρ a w listed fuel hsz hm hc hR hS h
    have fin : Region.ready .any ops listed = [] → Q .normal a w := fun hr => by
      unfold drawX at h
      split at h
      · exact hk ρ s a w hR hS h
      · rename_i i r hl
        have : i ∈ Region.ready .any ops listed := (mem_readyX hsz hm).1 (by rw [hl]; exact List.mem_cons_self ..)
        rw [hr] at this
        cases this
    cases fuel with
    | zero =>
      have hr : Region.ready .any ops listed = [] := by
        rw [List.eq_nil_iff_forall_not_mem]
        intro i hi
        obtain ⟨h1, o, ho, _⟩ := mem_ready.1 hi
        have := List.countP_eq_zero.1 (Nat.le_zero.1 hc) i (by simpa using (Array.getElem?_eq_some_iff.1 ho).1)
        rw [h1] at this
        simp at this
      exact ⟨hr, fin hr⟩
    | succ fuel =>
      refine ⟨fin, fun i hi => ?_⟩
      obtain ⟨h1, o, ho, hready⟩ := mem_ready.1 hi
      have hlt : i < ops.size := (Array.getElem?_eq_some_iff.1 ho).1
      have hiX := (mem_readyX hsz hm).2 hi
      have hone : (match o.guard with
          | none => (opR E o s.eval s.view).run fun d => d.share (shares o) fun d => (s.apply o.dst d).force fun s' => drawX E ops k n (m ||| 2 ^ i) s'
          | some _ => none) = some y := by
        unfold drawX at h
        split at h
        · rename_i hl
          rw [hl] at hiX
          cases hiX
        · rename_i j r hl
          have := ambL_some h _ (List.mem_map.2 ⟨i, by rw [← hl]; exact hiX, rfl⟩)
          rw [ho] at this
          exact this
      simp only [Delta.share_eq, S.force_eq] at hone
      split at hone
      · rename_i hg
        unfold wpOp
        simp only [ho]
        rw [if_pos (by simp [Region.wanted, hg])]
        left
        obtain ⟨g1, g2⟩ := R.run_ok hone
        refine op_sound hT hF hC hR (hops o (Array.mem_of_getElem? ho)) g1 _ _ fun d ρ' a' w' hd hrel => ?_
        refine ih _ _ ρ' a' w' _ fuel (by simpa using hsz) (fun j => ?_) ?_ hrel (hS.apply o.dst d) (g2 d hd)
        · rw [Nat.testBit_or, Nat.testBit_two_pow]
          by_cases hj : i = j
          · subst hj
            simp [hsz, hlt]
          · rw [getD_set_ne false hj, hm j]
            simp [hj]
        · have : (List.range ops.size).countP (fun j => !(listed.setIfInBounds i true).getD j true) < (List.range ops.size).countP fun j => !listed.getD j true := by
            refine countP_lt (j := i) _ (fun x hx => ?_) (by simpa using hlt) ?_ ?_
            · by_cases hxi : i = x
              · subst hxi
                simp [hsz, hlt] at hx
              · rw [getD_set_ne true hxi] at hx
                exact hx
            · simp [hsz, hlt]
            · rw [h1]
              rfl
          omega
      · cases hone

theorem draws_sound {id : Nat} {Q : Exit → Act → World → Prop} (hT : TyOK P E) (hF : FixOK K E) (hC : CallsOK P E K) (hm : P.follows .mixedOrders = true) (hops : ∀ o ∈ ops, opOK P o = true) (hb : backOK ops = true)
    {β : Type} {y : β} {k : S → Option β} {sh : S} (hk : ∀ ρ' s' a' w', Rel P K ρ' s' a' w' → Same sh s' → k s' = some y → Q .normal a' w')
    (hR : Rel P K ρ s a w) (hS : Same sh s) (h : drawS E ops s k = some y) : (Code.region id ops true).wp P Q a w := by
  unfold drawS at h
  obtain ⟨ds, s', hch, h2⟩ := drawR_chain _ _ _ _ _ _ h
  rw [List.append_nil] at h2
  split at h2
  case isFalse =>
    refine wp_region_any hm ?_
    have h0 : ∀ i, (Array.replicate ops.size false).getD i false = (0 : Nat).testBit i := fun i => by
      simp [Array.getElem?_replicate]
      split <;> simp
    exact drawX_sound hT hF hC hops hk _ _ s ρ a _ _ _ (by simp) h0 (Nat.le_trans (List.countP_le_length) (by simp)) (hR.drawn (w.drawn + 1)) hS h2
  rename_i hd
  have hpair : ds.Pairwise fun p q => q.mask.testBit p.i = true ∨ p.free q = true := by
    have := didsOk_spec _ hd
    rwa [List.pairwise_reverse] at this
  generalize hn : (ops.toList.map (opNames E)).sum = n at hch
  have hR0 := hR.gaps n (w.drawn + 1)
  have hS' : Same sh s' := Chain.same _ _ _ _ _ _ _ hch ⟨hS.len, Nat.le_trans hS.more (by simp), hS.fr, fun l hl hnd => by
    rw [← hS.root l hl hnd, gaps_root, if_pos (Nat.lt_of_lt_of_le hl hS.more)]⟩
  have hgap : ∀ m, s.H.length ≤ m → m < s.H.length + n → ({ s with H := s.H ++ List.replicate n (some .gap) } : S).H.getD m none = some .gap := fun m h1 h2 => by
    have := gaps_root s n m
    rw [if_neg (by omega), if_pos h2] at this
    exact this
  have hnames := Chain.names _ _ _ _ _ _ _ hch
  rw [hn] at hnames
  have ids := Chain.ids _ _ _ _ _ _ _ hch
  have hfix : ∀ l v, (l, v) ∈ K.fix → l < s.H.length := fun l v hl => (hR.fix l v hl).2
  generalize hs0 : ({ s with H := s.H ++ List.replicate n (some .gap) } : S) = s0 at hch hR0 hgap
  have hs0len : s0.H.length = s.H.length + n := by rw [← hs0]; simp
  have hid : ∀ D ∈ ds, D.i < ops.size := fun D hD => by
    obtain ⟨k, hk⟩ := List.mem_iff_getElem?.1 hD
    have hlt := (List.getElem?_eq_some_iff.1 hk).1
    rw [ids.2 k D hk]
    have := ids.1
    simp at this
    omega
  clear hR hs0
  refine wp_region_any hm ?_
  have H : ∀ (fuel : Nat) (listed : Array Bool) (ρ : Map) (a : Act) (w : World), listed.size = ops.size → Closed (fun i => listed.getD i false) ds → (List.range ops.size).countP (fun i => !listed.getD i true) ≤ fuel →
      Rel P K ρ ⟨canF (fun i => listed.getD i false) ds s0.fr, canH (fun i => listed.getD i false) ds s0.H, [], []⟩ a w → wpAny P .any ops Q fuel listed a w := by
    intro fuel
    have fin : ∀ (listed : Array Bool) (ρ : Map) (a : Act) (w : World), listed.size = ops.size → Rel P K ρ ⟨canF (fun i => listed.getD i false) ds s0.fr, canH (fun i => listed.getD i false) ds s0.H, [], []⟩ a w → Region.ready .any ops listed = [] → Q .normal a w := by
      intro listed ρ a w hsz hrel hr
      have hall := all_listed hb hsz hr
      obtain ⟨e1, e2⟩ := Chain.all (L := fun i => listed.getD i false) _ _ _ _ _ _ _ hch fun D hD => hall _ (hid D hD)
      exact hk ρ s' a w (hrel.congr e1.symm e2.symm) hS' h2
    induction fuel with
    | zero =>
      intro listed ρ a w hsz _ hc hrel
      have hr : Region.ready .any ops listed = [] := by
        rw [List.eq_nil_iff_forall_not_mem]
        intro i hi
        obtain ⟨h1, o, ho, _⟩ := mem_ready.1 hi
        have := List.countP_eq_zero.1 (Nat.le_zero.1 hc) i (by simpa using (Array.getElem?_eq_some_iff.1 ho).1)
        rw [h1] at this
        simp at this
      exact ⟨hr, fin listed ρ a w hsz hrel hr⟩
    | succ fuel ih =>
      intro listed ρ a w hsz hcl hc hrel
      refine ⟨fin listed ρ a w hsz hrel, fun i hi => ?_⟩
      obtain ⟨h1, o, ho, hready⟩ := mem_ready.1 hi
      have hlt : i < ops.size := (Array.getElem?_eq_some_iff.1 ho).1
      have hLi : listed.getD i false = false := by
        rw [Array.getD_eq_getD_getElem?, Array.getElem?_eq_getElem (by omega)] at h1 ⊢
        exact h1
      obtain ⟨D, L', hL', hDi, hst, hmask, hcl', hslots, hlook, hgaps, hnx, hnx2, hfr, hH⟩ := draw_step hch hpair hcl ho hLi hready
      have hLL : L' = fun j => (listed.setIfInBounds i true).getD j false := by
        funext j
        rw [hL' j]
        split
        · rename_i hj
          subst hj
          simp [hsz, hlt]
        · rename_i hj
          exact (getD_set_ne false (Ne.symm hj)).symm
      subst hLL
      have next : ∀ ρ' a' w', Rel P K ρ' (S.apply ⟨canF (fun i => listed.getD i false) ds s0.fr, canH (fun i => listed.getD i false) ds s0.H, [], []⟩ D.dst D.d) a' w' → wpAny P .any ops Q fuel (listed.setIfInBounds i true) a' w' := by
        intro ρ' a' w' hrel'
        refine ih _ ρ' a' w' (by simpa using hsz) hcl' ?_ (hrel'.congr ?_ ?_)
        · have : (List.range ops.size).countP (fun j => !(listed.setIfInBounds i true).getD j true) < (List.range ops.size).countP fun j => !listed.getD j true := by
            refine countP_lt (j := i) _ (fun x hx => ?_) (by simpa using hlt) ?_ ?_
            · by_cases hxi : i = x
              · subst hxi
                simp [hsz, hlt] at hx
              · rw [getD_set_ne true hxi] at hx
                exact hx
            · simp [hsz, hlt]
            · rw [h1]
              rfl
          omega
        · rw [apply_frA]
          exact hfr.symm
        · rw [apply_HA]
          exact hH.symm
      obtain ⟨yes, hW, hrun⟩ := hst.run
      have hwant := wants_spec hrel hst.slots hW hslots
      unfold wpOp
      simp only [ho, hwant]
      cases yes with
      | false =>
        rw [if_neg (by simp)] at hrun ⊢
        refine next ρ _ w ?_
        rw [hrun, hst.dst, apply_put]
        exact hrel.put o.dst (x := .none) rfl
      | true =>
        rw [if_pos rfl] at hrun ⊢
        obtain ⟨hok, hyl⟩ := hrun
        have hev : opR E o (S.eval ⟨canF (fun i => listed.getD i false) ds s0.fr, canH (fun i => listed.getD i false) ds s0.H, [], []⟩) (D.view (s.H.length + n)) = opR E o D.pre.eval (D.view (s.H.length + n)) := by
          refine opR_congr o _ fun x hx => ?_
          cases x with
          | tmp t =>
            refine hslots t ?_
            rw [hst.slots]
            refine List.mem_append_left _ (List.mem_filterMap.2 ⟨.tmp t, by simpa using hx, rfl⟩)
          | _ => rfl
        left
        have hlen : (canH (fun i => listed.getD i false) ds s0.H).length = s.H.length + n := by
          rw [canH_length _ _ _ fun q hq u hu => by rw [hs0len]; exact hnames q hq u hu, hs0len]
        have hsound := op_sound_at (E := E) hT hF hC hrel (hops o (Array.mem_of_getElem? ho)) (V := D.view (s.H.length + n)) (fun l r hl => hlook l r hl) (fun h0 => by
            simp only [Did.view, hst.n, h0, beq_self_eq_true, if_true]
            exact Nat.le_of_eq hlen) (fun i hi => by
            have hne : D.n ≠ 0 := by rw [hst.n]; omega
            have hroot := hgaps (D.nx + i) (by omega) (by rw [hst.n]; omega) (hgap _ (by omega) (by rw [hst.n] at hnx2; omega))
            have hnxv : (D.view (s.H.length + n)).nx = D.nx := by simp [Did.view, hne]
            rw [hnxv]
            refine ⟨.inr hroot, hrel.root _ _ hroot, fun v hv => ?_⟩
            have := hfix _ v hv
            omega)
        rw [hev] at hsound
        refine hsound hok _ _ fun d ρ' a' w' hd' hrel' => next ρ' a' w' ?_
        rw [hyl d hd'] at hrel'
        rw [hst.dst]
        exact hrel'
  refine H _ _ ρ a _ (by simp) ?_ ?_ (hR0.congr ?_ ?_)
  · intro D _ hL
    simp [Array.getElem?_replicate] at hL
    split at hL <;> simp at hL
  · refine Nat.le_trans (List.countP_le_length) (by simp)
  · have : ∀ (ds : List Did) (fr : List A), canF (fun i => (Array.replicate ops.size false).getD i false) ds fr = fr := by
      intro ds
      induction ds with
      | nil => intro fr; rfl
      | cons D ds ih =>
        intro fr
        rw [canF, ih]
        simp [Array.getElem?_replicate]
        split <;> simp
    exact this _ _
  · have : ∀ (ds : List Did) (fr : List (Option Root)), canH (fun i => (Array.replicate ops.size false).getD i false) ds fr = fr := by
      intro ds
      induction ds with
      | nil => intro fr; rfl
      | cons D ds ih =>
        intro fr
        rw [canH, ih]
        simp [Array.getElem?_replicate]
        split <;> simp
    exact this _ _

end Go.Proofs.YtgjneigkkgaaiaaGreatDoor.Vd

/- VdZf -/
namespace Go.Proofs.YtgjneigkkgaaiaaGreatDoor.Vd

variable {P : Program} {E : Env} {ρ ρ' : Map} {w w' : World} {s : S} {a : Act} {K : Ctx} {H H' : Nat → Option Root}

def Out1.exit' : Out1 → Exit
  | .normal => .normal
  | .exit id => .exit id
  | .ret => .ret

/-- What is asked of code: its operations' types; what regions that draw their order go by. -/
def codeOK (P : Program) (h : Hints) : Code → Bool
  | .seq a b => codeOK P h a && codeOK P h b
  | .cond _ a b => codeOK P h a && codeOK P h b
  | .block _ b => codeOK P h b
  | .loop b => codeOK P h b
  | .region _ ops d => (!d || (P.follows .mixedOrders && backOK ops)) && ops.all (opOK P)
  | _ => true

/-- Code is sound. -/
def CodeSound (P : Program) (E : Env) (K : Ctx) (h : Hints) (c : Code) : Prop :=
  ∀ {β : Type} (s0 : S) (cur : Nat) (s : S) (ρ : Map) (a : Act) (w : World) (k : Out1 → S → Option β) (y : β) (Q : Exit → Act → World → Prop), semC E h cur c s k = some y → Rel P K ρ s a w → Same s0 s →
    (∀ e s' ρ' a' w', Rel P K ρ' s' a' w' → Same s0 s' → k e s' = some y → Q e.exit' a' w') → c.wp P Q a w

theorem semC_sound (hT : TyOK P E) (hF : FixOK K E) (hC : CallsOK P E K) (h : Hints) (hL : ∀ b, CodeSound P E K h b → CodeSound P E K h (.loop b)) : ∀ c, codeOK P h c = true → CodeSound P E K h c
  | .skip, _, _, s0, cur, s, ρ, a, w, k, y, Q, hs, hR, hS, hk => by
    simp only [semC] at hs
    exact wp_skip (hk .normal s ρ a w hR hS hs)
  | .exit id, _, _, s0, cur, s, ρ, a, w, k, y, Q, hs, hR, hS, hk => by
    simp only [semC] at hs
    exact wp_exit (hk (.exit id) s ρ a w hR hS hs)
  | .ret, _, _, s0, cur, s, ρ, a, w, k, y, Q, hs, hR, hS, hk => by
    simp only [semC] at hs
    exact wp_ret (hk .ret s ρ a w hR hS hs)
  | .seq c1 c2, hok, _, s0, cur, s, ρ, a, w, k, y, Q, hs, hR, hS, hk => by
    simp only [codeOK, Bool.and_eq_true] at hok
    simp only [semC] at hs
    refine wp_seq (semC_sound hT hF hC h hL c1 hok.1 s0 cur s ρ a w _ y _ hs hR hS fun e s' ρ' a' w' hR' hS' hk' => ?_)
    cases e with
    | normal => exact semC_sound hT hF hC h hL c2 hok.2 s0 cur s' ρ' a' w' k y Q hk' hR' hS' hk
    | exit id => exact hk (.exit id) s' ρ' a' w' hR' hS' hk'
    | ret => exact hk .ret s' ρ' a' w' hR' hS' hk'
  | .cond c c1 c2, hok, _, s0, cur, s, ρ, a, w, k, y, Q, hs, hR, hS, hk => by
    simp only [codeOK, Bool.and_eq_true] at hok
    simp only [semC] at hs
    split at hs
    · rename_i b d hc
      have he := hR.eval c
      rw [hc] at he
      have hb := he.bool
      refine wp_cond_split hb (fun ht => ?_) (fun hf => ?_)
      · subst ht
        exact semC_sound hT hF hC h hL c1 hok.1 s0 cur s ρ a w k y Q (by simpa using hs) hR hS hk
      · subst hf
        exact semC_sound hT hF hC h hL c2 hok.2 s0 cur s ρ a w k y Q (by simpa using hs) hR hS hk
    · cases hs
  | .block id b, hok, _, s0, cur, s, ρ, a, w, k, y, Q, hs, hR, hS, hk => by
    simp only [codeOK] at hok
    simp only [semC] at hs
    refine wp_block (semC_sound hT hF hC h hL b hok s0 id s ρ a w _ y _ hs hR hS fun e s' ρ' a' w' hR' hS' hk' => ?_)
    cases e with
    | normal => exact hk .normal s' ρ' a' w' hR' hS' hk'
    | exit i =>
      show Exit.inBlock id Q (.exit i) a' w'
      simp only [Exit.inBlock]
      dsimp only at hk'
      split
      · rename_i hi
        rw [if_pos hi] at hk'
        exact hk .normal s' ρ' a' w' hR' hS' hk'
      · rename_i hi
        rw [if_neg hi] at hk'
        exact hk (.exit i) s' ρ' a' w' hR' hS' hk'
    | ret => exact hk .ret s' ρ' a' w' hR' hS' hk'
  | .region id ops d, hok, _, s0, cur, s, ρ, a, w, k, y, Q, hs, hR, hS, hk => by
    simp only [codeOK, Bool.and_eq_true, Bool.or_eq_true, Bool.not_eq_true'] at hok
    obtain ⟨hd, hops⟩ := hok
    cases d with
    | false =>
      simp only [semC] at hs
      refine wp_region_list (ops_sound hT hF hC (k := k .normal) (fun ρ' s' a' w' hR' hS' hk' => hk .normal s' ρ' a' w' hR' hS' hk') ops.toList ρ s a w hR hS (fun o ho => ?_) hs)
      exact (Array.all_eq_true_iff_forall_mem.1 hops) o (by simpa using ho)
    | true =>
      simp only [semC] at hs
      obtain ⟨hm, hb⟩ := hd.resolve_left (by simp)
      exact draws_sound hT hF hC hm (Array.all_eq_true_iff_forall_mem.1 hops) hb (k := k .normal) (fun ρ' s' a' w' hR' hS' hk' => hk .normal s' ρ' a' w' hR' hS' hk') hR hS hs
  | .loop b, hok, _, s0, cur, s, ρ, a, w, k, y, Q, hs, hR, hS, hk => by
    simp only [codeOK] at hok
    exact hL b (semC_sound hT hF hC h hL b hok) s0 cur s ρ a w k y Q hs hR hS hk
  | .label l, _, _, s0, cur, s, ρ, a, w, k, y, Q, hs, hR, hS, hk => by simp [semC] at hs
  | .goto l, _, _, s0, cur, s, ρ, a, w, k, y, Q, hs, hR, hS, hk => by simp [semC] at hs

end Go.Proofs.YtgjneigkkgaaiaaGreatDoor.Vd

/- VdZh -/
namespace Go.Proofs.YtgjneigkkgaaiaaGreatDoor.Vd

variable {P : Program} {E : Env} {ρ ρ' : Map} {w w' : World} {s s' : S} {a : Act} {K : Ctx} {H H' : Nat → Option Root}

/-! ### Sweeps that kill whole roots -/

def allOf (D : List Nat) : Sweep := ⟨D.map fun l => (l, true), []⟩

theorem killed_allOf {D : List Nat} {l : Nat} : Killed (allOf D) l ↔ l ∈ D := by
  constructor
  · rintro ⟨b, hb⟩
    simp only [allOf, List.mem_map, Prod.mk.injEq] at hb
    obtain ⟨l', h, rfl, _⟩ := hb
    exact h
  · intro h
    exact ⟨true, List.mem_map.2 ⟨l, h, rfl⟩⟩

theorem killedAll_allOf {D : List Nat} {l : Nat} : KilledAll (allOf D) l ↔ l ∈ D := by
  simp [KilledAll, allOf]

theorem C.dies_names {c : C} {l : Nat} : c.dies (l, true) = true ↔ l ∈ c.names := by
  cases c <;> simp [C.dies, C.names] <;> exact eq_comm

theorem dies_allOf {D : List Nat} {c : C} : (allOf D).kill.any c.dies = true ↔ ∃ l ∈ D, l ∈ c.names := by
  simp only [allOf, List.any_map, List.any_eq_true, Function.comp]
  exact ⟨fun ⟨l, h1, h2⟩ => ⟨l, h1, C.dies_names.1 h2⟩, fun ⟨l, h1, h2⟩ => ⟨l, h1, C.dies_names.2 h2⟩⟩

theorem C.left_allOf {D : List Nat} {c : C} : c.left (allOf D) = if (allOf D).kill.any c.dies = true then .undef else c := by
  unfold C.left
  split
  · rfl
  · have hm : ∀ deps : List Nat, deps.map (newLoc (allOf D).mov) = deps := fun deps => by
      have : newLoc (allOf D).mov = id := funext newLoc_nil
      rw [this, List.map_id]
    cases c <;> simp [allOf, lookupN] at hm ⊢ <;> exact hm _

/-- A sweep that kills more than another, but nothing that is named below n beyond it. -/
structure Wider (n : Nat) (D D' : List Nat) : Prop where
  sub : ∀ l ∈ D, l ∈ D'
  out : ∀ l ∈ D', l ∈ D ∨ n ≤ l

theorem C.wider {n : Nat} {D D' : List Nat} (h : Wider n D D') {c : C} (hc : c.wf n = true) : c.left (allOf D') = c.left (allOf D) ∧ (c.left (allOf D)).left (allOf D') = c.left (allOf D) := by
  simp only [C.left_allOf]
  by_cases h1 : (allOf D).kill.any c.dies = true
  · have h2 : (allOf D').kill.any c.dies = true := by
      obtain ⟨l, h3, h4⟩ := dies_allOf.1 h1
      exact dies_allOf.2 ⟨l, h.sub l h3, h4⟩
    simp [h1, h2]
  · have h2 : ¬ (allOf D').kill.any c.dies = true := by
      intro h2
      obtain ⟨l, h3, h4⟩ := dies_allOf.1 h2
      rcases h.out l h3 with h5 | h5
      · exact h1 (dies_allOf.2 ⟨l, h5, h4⟩)
      · have := List.all_eq_true.1 hc l h4
        simp at this
        omega
    simp [h1, h2]

theorem cells_wider {n : Nat} {D D' : List Nat} (h : Wider n D D') {cs : List C} (hc : cs.all (C.wf n) = true) : cs.map (C.left (allOf D')) = cs.map (C.left (allOf D)) ∧ (cs.map (C.left (allOf D))).map (C.left (allOf D')) = cs.map (C.left (allOf D)) := by
  have hc' := List.all_eq_true.1 hc
  refine ⟨List.map_congr_left fun c h1 => (C.wider h (hc' c h1)).1, ?_⟩
  rw [List.map_map]
  exact List.map_congr_left fun c h1 => (C.wider h (hc' c h1)).2

theorem A.wider {n : Nat} {D D' : List Nat} (h : Wider n D D') {x : A} (hc : x.wf n = true) : x.left (allOf D') = x.left (allOf D) ∧ (x.left (allOf D)).left (allOf D') = x.left (allOf D) := by
  cases x with
  | none => exact ⟨rfl, rfl⟩
  | any => exact ⟨rfl, rfl⟩
  | val g cs =>
    simp only [A.wf] at hc
    obtain ⟨h1, h2⟩ := cells_wider h hc
    exact ⟨by simp only [A.left, h1], by simp only [A.left, h2]⟩
  | tup vs =>
    simp only [A.wf, List.all_eq_true] at hc
    simp only [A.left, A.tup.injEq, List.map_map]
    exact ⟨List.map_congr_left fun v hv => by
      have := cells_wider h (by simpa using hc v hv)
      simp [this.1], List.map_congr_left fun v hv => by
      have := cells_wider h (by simpa using hc v hv)
      simp only [Function.comp, this.2]⟩

theorem Root.wider {n : Nat} {D D' : List Nat} (h : Wider n D D') {x : Root} (hc : x.wf n = true) : x.left (allOf D') = x.left (allOf D) ∧ (x.left (allOf D)).left (allOf D') = x.left (allOf D) := by
  cases x with
  | box cs =>
    simp only [Root.wf] at hc
    obtain ⟨h1, h2⟩ := cells_wider h hc
    exact ⟨by simp only [Root.left, h1], by simp only [Root.left, h2]⟩
  | arr e xs d => exact ⟨rfl, rfl⟩
  | gap => exact ⟨rfl, rfl⟩
  | lit e els =>
    simp only [Root.wf, List.all_eq_true] at hc
    simp only [Root.left, Root.lit.injEq, true_and, List.map_map]
    exact ⟨List.map_congr_left fun v hv => (cells_wider h (by simpa using hc v hv)).1, List.map_congr_left fun v hv => (cells_wider h (by simpa using hc v hv)).2⟩

/-! ### Giving -/

theorem killSlots_get (fr : List A) : ∀ (r : List Nat) (i : Nat), (killSlots fr r)[i]? = if i ∈ r then (fr[i]?).map fun _ => .any else fr[i]?
  | [], i => by simp [killSlots]
  | j :: r, i => by
    unfold killSlots
    rw [killSlots_get (fr.set j .any) r i]
    by_cases hi : j = i
    · subst hi
      simp only [List.mem_cons, true_or, if_true]
      by_cases hl : j < fr.length
      · simp [hl]
      · simp [hl]
    · have : i ≠ j := Ne.symm hi
      simp [List.getElem?_set_ne hi, this]

theorem killSlots_length : ∀ (r : List Nat) (fr : List A), (killSlots fr r).length = fr.length
  | [], fr => rfl
  | j :: r, fr => by unfold killSlots; rw [killSlots_length r]; simp

theorem dropAll_length : ∀ (r : List Nat) (H : List (Option Root)), (dropAll H r).length = H.length
  | [], H => rfl
  | j :: r, H => by unfold dropAll; rw [dropAll_length r]; simp

theorem blankAll_length : ∀ (r : List Nat) (H : List (Option Root)), (blankAll H r).length = H.length
  | [], H => rfl
  | j :: r, H => by unfold blankAll; rw [blankAll_length r]; simp

theorem dropAll_get : ∀ (r : List Nat) (H : List (Option Root)) (l : Nat), (dropAll H r).getD l none = if l ∈ r then none else H.getD l none
  | [], H, l => by simp [dropAll]
  | j :: r, H, l => by
    unfold dropAll
    rw [dropAll_get r]
    by_cases hl : j = l
    · subst hl
      simp only [List.getD_eq_getElem?_getD, List.getElem?_set, List.mem_cons, true_or, if_true]
      by_cases h1 : j ∈ r <;> by_cases h2 : j < H.length <;> simp [h1, h2]
    · have : l ≠ j := Ne.symm hl
      simp [List.getD_eq_getElem?_getD, List.getElem?_set_ne hl, this]

theorem blank_blank (o : Option Root) : blank (blank o) = blank o := by
  cases o with
  | none => rfl
  | some r => cases r <;> simp [blank, Function.comp_def]

theorem blankAll_get : ∀ (r : List Nat) (H : List (Option Root)) (l : Nat), (blankAll H r).getD l none = if l ∈ r then blank (H.getD l none) else H.getD l none
  | [], H, l => by simp [blankAll]
  | j :: r, H, l => by
    unfold blankAll
    rw [blankAll_get r]
    have hg : (H.modify j blank).getD l none = if j = l then blank (H.getD l none) else H.getD l none := by
      simp only [List.getD_eq_getElem?_getD, List.getElem?_modify]
      split
      · cases H[l]? <;> simp [blank]
      · simp
    rw [hg]
    by_cases hl : j = l
    · subst hl
      simp [blank_blank]
    · have : l ≠ j := Ne.symm hl
      simp [hl, this]

def It.own : It → Bool
  | .slot _ (.own _ _) | .cell _ _ (.own _ _) => true
  | _ => false

theorem give_fr (s : S) (it : It) (x : it.D) (i : Nat) (hi : i ∉ it.slots) : (s.give it x).fr[i]? = s.fr[i]? := by
  cases it with
  | slot j k =>
    simp only [It.slots, List.mem_singleton] at hi
    simp only [S.give]
    rw [List.getElem?_set_ne (Ne.symm hi)]
    cases k <;> rfl
  | cell j off k =>
    simp only [S.give]
    split
    · split
      · cases k <;> rfl
      · rfl
    · rfl
  | arr j e deep =>
    simp only [S.give]
    split <;> rfl

theorem give_len (s : S) (it : It) (x : it.D) : (s.give it x).fr.length = s.fr.length := by
  cases it with
  | slot j k => simp only [S.give, List.length_set]; cases k <;> rfl
  | cell j off k =>
    simp only [S.give]
    split
    · split
      · cases k <;> rfl
      · rfl
    · rfl
  | arr j e deep => simp only [S.give]; split <;> rfl

theorem takes_cons {it : It} {r : List It} {z : Its (it :: r)} (h : s.takes (it :: r) = some z) : ∃ (x : it.D) (y : Its r), s.take it = some x ∧ s.takes r = some y ∧ ∀ s0 : S, s0.gives (it :: r) z = (s0.give it x).gives r y := by
  cases r with
  | nil => exact ⟨z, (), h, rfl, fun _ => rfl⟩
  | cons j is =>
    simp only [S.takes] at h
    split at h
    · rename_i x y hx hy
      simp only [Option.some.injEq] at h
      subst h
      exact ⟨x, y, hx, hy, fun _ => rfl⟩
    · cases h

theorem takes_mem : ∀ {r : List It} {z : Its r}, s.takes r = some z → ∀ it ∈ r, ∃ x, s.take it = some x
  | [], _, _, it, hm => by cases hm
  | it0 :: r, z, h, it, hm => by
    obtain ⟨x, y, h1, h2, _⟩ := takes_cons h
    rcases List.mem_cons.1 hm with rfl | hm
    · exact ⟨x, h1⟩
    · exact takes_mem h2 it hm

/-! ### Renaming roots -/

def Own.to (n : Nat) : Own → Own
  | .main _ => .main n
  | .inner _ i j => .inner n i j
  | o => o

def isRef (l : Nat) : C → Bool
  | .ref m => m == l
  | _ => false

def refsOf : C → List Nat
  | .ref l => [l]
  | _ => []

def Map.ren (ρ : Map) (base : Nat) (L : List Nat) (q : List (C × Value)) : Map where
  own b := match (ρ.own b).loc with
    | none => ρ.own b
    | some l => match q.findIdx? (fun p => isRef l p.1) with
      | some j => (ρ.own b).to (base + j)
      | none => if l < base ∧ l ∉ L then ρ.own b else .free
  hdr n := if base ≤ n then ((q[n - base]?).map (·.2)).getD (ρ.hdr n) else ρ.hdr n

theorem findIdx_ref : ∀ (q : List (C × Value)) (j : Nat) (l : Nat) (v : Value), (q.flatMap fun p => refsOf p.1).Nodup → q[j]? = some (.ref l, v) → q.findIdx? (fun p => isRef l p.1) = some j
  | [], j, l, v, _, h => by simp at h
  | (c, u) :: q, 0, l, v, _, h => by
    simp at h
    obtain ⟨rfl, rfl⟩ := h
    simp [List.findIdx?_cons, isRef]
  | (c, u) :: q, j + 1, l, v, hn, h => by
    simp only [List.getElem?_cons_succ] at h
    simp only [List.flatMap_cons, List.nodup_append] at hn
    have ih := findIdx_ref q j l v hn.2.1 h
    have hc : isRef l c = false := by
      cases c <;> try rfl
      rename_i m
      simp only [isRef, beq_eq_false_iff_ne]
      rintro rfl
      exact hn.2.2 m (by simp [refsOf]) m (List.mem_flatMap.2 ⟨_, List.mem_of_getElem? h, by simp [refsOf]⟩) rfl
    simp [List.findIdx?_cons, hc, ih]

theorem findIdx_none {q : List (C × Value)} {l : Nat} (h : l ∉ q.flatMap fun p => refsOf p.1) : q.findIdx? (fun p => isRef l p.1) = none := by
  rw [List.findIdx?_eq_none_iff]
  intro p hp
  cases hc : isRef l p.1 with
  | false => rfl
  | true =>
    exfalso
    apply h
    refine List.mem_flatMap.2 ⟨p, hp, ?_⟩
    cases hpc : p.1 <;> rw [hpc] at hc <;> simp [isRef] at hc
    subst hc
    simp [refsOf]

theorem findIdx_some {q : List (C × Value)} {l j : Nat} (h : q.findIdx? (fun p => isRef l p.1) = some j) : j < q.length ∧ l ∈ q.flatMap fun p => refsOf p.1 := by
  rw [List.findIdx?_eq_some_iff_getElem] at h
  obtain ⟨hj, hp, _⟩ := h
  refine ⟨hj, List.mem_flatMap.2 ⟨q[j], List.getElem_mem hj, ?_⟩⟩
  cases hpc : (q[j]).1 <;> rw [hpc] at hp <;> simp [isRef] at hp
  subst hp
  simp [refsOf]

/-- What a hole's cell is now, and the value there. -/
def HoleAt (s : S) (a : Act) (w : World) (ρ : Map) : It → C → Value → Prop
  | .slot i _, c, v => s.fr[i]? = some (.c c) ∧ a.tmps[i]? = some v
  | .cell i off _, c, v => ∃ l cs b vs T, s.fr[i]? = some (.c (.bp l 0)) ∧ s.root l = some (.box cs) ∧ cs[off]? = some c ∧ ρ.hdr l = .pointer (some ⟨b, 0, none⟩) ∧ w.heap[b]? = some (.cells (List.toArray vs) T (0, 0)) ∧ vs[off]? = some v
  | .arr _ _ _, _, _ => False

def It.k : It → HK
  | .slot _ k | .cell _ _ k => k
  | .arr _ _ _ => .data .bool []

theorem getD_some {l : List A} {i : Nat} {g : Bool} {cs : List C} (h : l.getD i .none = .val g cs) : l[i]? = some (.val g cs) := by
  rw [List.getD_eq_getElem?_getD] at h
  cases hi : l[i]? with
  | none => rw [hi] at h; cases h
  | some x => rw [hi] at h; exact congrArg some h

theorem getD_of {l : List A} {i : Nat} {x : A} (h : l[i]? = some x) : l.getD i .none = x := by rw [List.getD_eq_getElem?_getD, h]; rfl

theorem HoleAt.rel (hR : Rel P K ρ s a w) {it : It} {c : C} {v : Value} (h : HoleAt s a w ρ it c v) : CR P ρ w s.root c v := by
  cases it with
  | slot i k =>
    obtain ⟨h1, h2⟩ := h
    obtain ⟨v', h3, h4⟩ := hR.slot i _ h1
    rw [h2] at h3
    cases h3
    exact AR.one.1 h4
  | cell i off k =>
    obtain ⟨l, cs, b, vs, T, h1, h2, h3, h4, h5, h6⟩ := h
    obtain ⟨b', vs', T', g1, g2, g3, g4⟩ := hR.root l _ h2
    rw [h4] at g1
    simp only [Value.pointer.injEq, Option.some.injEq, Addr.mk.injEq, and_true] at g1
    subst g1
    rw [h5] at g3
    simp only [Option.some.injEq, Obj.cells.injEq, and_true] at g3
    have g3 : vs = vs' := by simpa using congrArg Array.toList g3.1
    subst g3
    exact g4.2 off c v h3 h6
  | arr i e d => exact h.elim

theorem take_slot {i : Nat} {k : HK} {x : k.D} (hR : Rel P K ρ s a w) (h : s.take (.slot i k) = some x) : ∃ c v, HoleAt s a w ρ (.slot i k) c v ∧ s.takeC c k = some x := by
  simp only [S.take] at h
  split at h
  · rename_i c hc
    have h1 := getD_some hc
    obtain ⟨v, h2, _⟩ := hR.slot i _ h1
    exact ⟨c, v, ⟨h1, h2⟩, h⟩
  · cases h

theorem take_cell {i off : Nat} {k : HK} {x : k.D} (hR : Rel P K ρ s a w) (h : s.take (.cell i off k) = some x) : ∃ c v, HoleAt s a w ρ (.cell i off k) c v ∧ s.takeC c k = some x := by
  simp only [S.take] at h
  split at h
  · rename_i l hc
    have h1 := getD_some hc
    split at h
    · rename_i cs hl
      split at h
      · rename_i c hco
        obtain ⟨b, vs, T, g1, g2, g3, g4⟩ := hR.root l _ hl
        have hlt : off < vs.length := by rw [← g4.1]; exact (List.getElem?_eq_some_iff.1 hco).1
        exact ⟨c, vs[off], ⟨l, cs, b, vs, T, h1, hl, hco, g1, g3, List.getElem?_eq_getElem hlt⟩, h⟩
      · cases h
    · cases h
  · cases h

theorem take_arr {i : Nat} {e : Ty} {d : Bool} {x : List e.D} (h : s.take (.arr i e d) = some x) : ∃ l, s.fr[i]? = some (.c (.ref l)) ∧ s.root l = some (.arr e x d) := by
  simp only [S.take] at h
  split at h
  · rename_i l hc
    have h1 := getD_some hc
    split at h
    · rename_i e' xs d' hl
      split at h
      · rename_i he
        subst he
        split at h
        · rename_i hd
          simp only [beq_iff_eq] at hd
          subst hd
          simp only [castD_rfl, Option.some.injEq] at h
          subst h
          exact ⟨l, h1, hl⟩
        · cases h
      · cases h
    · cases h
  · cases h

def Owns (s : S) (a : Act) (w : World) (ρ : Map) : List It → List (C × Value) → Prop
  | [], q => q = []
  | it :: r, q => if it.own = true then ∃ p q', q = p :: q' ∧ HoleAt s a w ρ it p.1 p.2 ∧ Owns s a w ρ r q' else Owns s a w ρ r q

theorem owns_exists (hR : Rel P K ρ s a w) : ∀ (r : List It) (z : Its r), s.takes r = some z → ∃ q, Owns s a w ρ r q
  | [], _, _ => ⟨[], rfl⟩
  | it :: r, z, h => by
    obtain ⟨x, y, h1, h2, _⟩ := takes_cons h
    obtain ⟨q, hq⟩ := owns_exists hR r y h2
    by_cases ho : it.own = true
    · cases it with
      | slot i k =>
        obtain ⟨c, v, g1, _⟩ := take_slot hR h1
        exact ⟨(c, v) :: q, by unfold Owns; rw [if_pos ho]; exact ⟨(c, v), q, rfl, g1, hq⟩⟩
      | cell i off k =>
        obtain ⟨c, v, g1, _⟩ := take_cell hR h1
        exact ⟨(c, v) :: q, by unfold Owns; rw [if_pos ho]; exact ⟨(c, v), q, rfl, g1, hq⟩⟩
      | arr i e d => cases ho
    · exact ⟨q, by unfold Owns; rw [if_neg ho]; exact hq⟩

theorem HoleAt.ownLoc {it : It} {c : C} {v : Value} (ho : it.own = true) (h : HoleAt s a w ρ it c v) : s.ownLoc it = refsOf c := by
  cases it with
  | slot i k =>
    cases k with
    | data t ds => cases ho
    | own e d =>
      simp only [S.ownLoc, getD_of h.1]
      cases c <;> rfl
  | cell i off k =>
    cases k with
    | data t ds => cases ho
    | own e d =>
      obtain ⟨l, cs, b, vs, T, h1, h2, h3, h4, h5, h6⟩ := h
      simp only [S.ownLoc, getD_of h1, h2, h3]
      cases c <;> rfl
  | arr i e d => cases ho

theorem not_own_loc {it : It} (h : ¬ it.own = true) (s : S) : s.ownLoc it = [] := by
  cases it with
  | slot i k => cases k with
    | data t ds => rfl
    | own e d => exact absurd rfl h
  | cell i off k => cases k with
    | data t ds => rfl
    | own e d => exact absurd rfl h
  | arr i e d => rfl

theorem owns_locs : ∀ (r : List It) (q : List (C × Value)), Owns s a w ρ r q → r.flatMap s.ownLoc = q.flatMap fun p => refsOf p.1
  | [], q, h => by
    have : q = [] := h
    subst this
    rfl
  | it :: r, q, h => by
    unfold Owns at h
    split at h
    · rename_i ho
      obtain ⟨p, q', rfl, h1, h2⟩ := h
      simp only [List.flatMap_cons, h1.ownLoc ho, owns_locs r q' h2]
    · rename_i ho
      simp only [List.flatMap_cons, not_own_loc ho, owns_locs r q h, List.nil_append]

end Go.Proofs.YtgjneigkkgaaiaaGreatDoor.Vd

