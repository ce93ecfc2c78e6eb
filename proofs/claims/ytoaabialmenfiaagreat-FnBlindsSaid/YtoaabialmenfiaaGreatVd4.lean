/- A typed abstract semantics of Go code and its soundness over the model: part 4. No conditions. -/
import Derived.Test.YtoaabialmenfiaaGreatVd3
set_option linter.unusedVariables false
set_option linter.unusedSimpArgs false
set_option linter.unusedSectionVars false
set_option linter.unnecessarySimpa false
/- VdIn -/
namespace Go.Proofs.YtoaabialmenfiaaGreat.Vd
open Go.ChangeShapes Go.WideShapes Go.ChangeAt Go.RowKit

/-- What every Go datum fulfils. -/
def WF : (t : Ty) → t.D → Prop
  | .int k, n => k.min ≤ n ∧ n ≤ k.max
  | .bool, _ => True
  | .str, x => x.size ≤ maxLen
  | .sl e, xs => xs.length ≤ maxLen ∧ ∀ x ∈ xs, WF e x
  | .one h, x => WF h x
  | .cons h t, x => WF h x.1 ∧ WF t x.2

theorem list_of {α : Type} {p : Nat → α → Prop} : ∀ (n : Nat), (∀ i, i < n → ∃ y, p i y) → ∃ l : List α, l.length = n ∧ ∀ i y, l[i]? = some y → p i y
  | 0, _ => ⟨[], rfl, fun i y h => by simp at h⟩
  | n + 1, h => by
    obtain ⟨l, h1, h2⟩ := list_of n fun i hi => h i (by omega)
    obtain ⟨y, hy⟩ := h n (by omega)
    refine ⟨l ++ [y], by simp [h1], fun i z hz => ?_⟩
    by_cases hi : i < l.length
    · rw [List.getElem?_append_left hi] at hz
      exact h2 i z hz
    · rw [List.getElem?_append_right (by omega)] at hz
      have hlt := (List.getElem?_eq_some_iff.1 hz).1
      simp at hlt
      have : i = n := by omega
      subst this
      rw [h1] at hz
      simp at hz
      subst hz
      exact hy

section
variable {H : Type} {enc : TypeId × Value → H} {P : Program} {w : World} {base : Nat} {sp : Nat → Bool} {held : Bool}

theorem shp.cellsOf {t : Ty} {T : TypeId} (h : shp P t (.inl T) = true) : P.cellsOf T = t.size := by
  obtain ⟨i, z, hi, h1, _⟩ := infoOK.spec (shp.info h)
  simp [Program.cellsOf, hi, h1]

theorem trod_array {n : Nat} {e t : TypeId} {fuel : Nat} {cs : List Value} {x : DataW H × List MemPlace} (ht : P.underlying t = some (.array n e)) (h : DataW.trod enc P w base sp held fuel t cs = some x) :
    ∃ m, fuel = m + 1 ∧ cs.length = P.cellsOf t ∧ ∀ i, i < n → ∃ y, DataW.trod enc P w base sp held m e ((cs.drop (i * P.cellsOf e)).take (P.cellsOf e)) = some y := by
  cases fuel with
  | zero => simp [DataW.trod] at h
  | succ m =>
    unfold DataW.trod at h
    rw [ht] at h
    split at h <;> simp_all
    obtain ⟨hl, xs, hp, hd⟩ := h
    intro i hi
    have := mapM_some_get hp i i (by simp [hi])
    have hlen := mapM_some_length hp
    rw [List.length_range] at hlen
    rw [this]
    exact ⟨xs[i].1, xs[i].2, by simp [List.getElem?_eq_getElem (show i < xs.length by omega)]⟩

theorem trod_fields {fuel : Nat} {T : TypeId} {cs : List Value} {x : DataW H × List MemPlace} {fs : List (TypeId × Nat)} (hf : fieldsOf P T = some fs) (h : DataW.trod enc P w base sp held fuel T cs = some x) :
    ∃ m, cs.length = P.cellsOf T ∧ ∀ (k : Nat) T' o, fs[k]? = some (T', o) → ∃ y, DataW.trod enc P w base sp held m T' ((cs.drop o).take (P.cellsOf T')) = some y := by
  unfold fieldsOf at hf
  split at hf
  · rename_i gs hg
    cases hf
    obtain ⟨xs, n, rfl, rfl, hl, hlen, he⟩ := DataW.trod_struct hg h
    refine ⟨n, hl, fun k T' o hk => ?_⟩
    rw [List.getElem?_map] at hk
    cases hgk : gs.toList[k]? with
    | none => rw [hgk] at hk; cases hk
    | some f =>
      rw [hgk] at hk
      simp only [Option.map_some, Option.some.injEq, Prod.mk.injEq] at hk
      obtain ⟨rfl, rfl⟩ := hk
      have hkf : gs[k]? = some f := by simpa using hgk
      have hlt := (Array.getElem?_eq_some_iff.1 hkf).1
      rw [he k f hkf]
      exact ⟨xs[k]'(by omega), List.getElem?_eq_getElem _⟩
  · rename_i n e hg
    split at hf
    · rename_i i hi
      cases hf
      obtain ⟨m, rfl, hl, he⟩ := trod_array hg h
      refine ⟨m, hl, fun k T' o hk => ?_⟩
      rw [List.getElem?_map] at hk
      cases hgk : (List.range n)[k]? with
      | none => rw [hgk] at hk; cases hk
      | some j =>
        have hlt := (List.getElem?_eq_some_iff.1 hgk).1
        simp at hlt
        have hj : j = k := by
          rw [List.getElem?_range hlt] at hgk
          cases hgk
          rfl
        subst hj
        rw [hgk] at hk
        simp only [Option.map_some, Option.some.injEq, Prod.mk.injEq] at hk
        obtain ⟨rfl, rfl⟩ := hk
        have hc : P.cellsOf e = i.size := by simp [Program.cellsOf, hi]
        have := he j hlt
        rw [hc] at this
        rw [hc]
        exact this
    · cases hf
  · cases hf

theorem cells?_get {a : Addr} {n : Nat} {cs : List Value} (h : w.cells? base a n = some cs) : ∀ j u, cs[j]? = some u → w.cell? (a.add j) = some u := by
  unfold World.cells? at h
  split at h
  · intro j u hu
    have hlen := mapM_some_length h
    have hlt := (List.getElem?_eq_some_iff.1 hu).1
    have := mapM_some_get h j j (by rw [List.length_range] at hlen; rw [List.getElem?_range (by omega)])
    rw [this]
    exact hu
  · cases h

theorem trod_rd {A : Nat → Prop} (hA : ∀ b, A b) : ∀ (t : Ty),
    (∀ T fuel cs x, shp P t (.inl T) = true → DataW.trod enc P w base sp held fuel T cs = some x → ∃ y : t.D, Rd w A t y cs ∧ WF t y) ∧
    (∀ (fs : List (TypeId × Nat)) (off : Nat) (cs : List Value) (fuel : Nat), shp P t (.inr (fs, off)) = true → (∀ (k : Nat) T' o, fs[k]? = some (T', o) → ∃ x, DataW.trod enc P w base sp held fuel T' ((cs.drop o).take (P.cellsOf T')) = some x) → off + t.size ≤ cs.length →
      ∃ y : t.D, Rd w A t y ((cs.drop off).take t.size) ∧ WF t y) := by
  intro t
  induction t with
  | int k =>
    refine ⟨fun T fuel cs x hs h => ?_, fun fs off cs fuel hs => by simp [shp] at hs⟩
    obtain ⟨n, rfl, _, hw⟩ := DataW.trod_int (shp.int hs) h
    simp only [Lit.wf, Bool.and_eq_true, decide_eq_true_eq] at hw
    exact ⟨n, rfl, hw⟩
  | bool =>
    refine ⟨fun T fuel cs x hs h => ?_, fun fs off cs fuel hs => by simp [shp] at hs⟩
    obtain ⟨b, rfl, _⟩ := DataW.trod_bool (shp.bool hs) h
    exact ⟨b, rfl, trivial⟩
  | str =>
    refine ⟨fun T fuel cs x hs h => ?_, fun fs off cs fuel hs => by simp [shp] at hs⟩
    obtain ⟨b, rfl, _, hz⟩ := DataW.trod_string (shp.str hs) h
    exact ⟨b, rfl, hz⟩
  | sl e ih =>
    refine ⟨fun T fuel cs x hs h => ?_, fun fs off cs fuel hs => by simp [shp] at hs⟩
    obtain ⟨T', hu, hs'⟩ := (shp.slice hs)
    rcases DataW.trod_slice hu h with ⟨rfl, _⟩ | ⟨a, len, cap, elems, rest, n, rfl, rfl, _, hb, hl, hc, hlen, he, _, _⟩
    · exact ⟨[], ⟨none, 0, rfl, Nat.le_refl _, fun h => absurd rfl h⟩, Nat.zero_le _, fun x hx => by cases hx⟩
    · have hce := (shp.cellsOf hs')
      have each : ∀ i, i < len → ∃ y : e.D, (∃ us, Rd w A e y us ∧ ∀ j u, us[j]? = some u → w.cell? ((a.add (i * e.size)).add j) = some u) ∧ WF e y := by
        intro i hi
        have h1 := he i hi
        rw [List.getElem?_eq_getElem (by omega), Option.bind_eq_some_iff] at h1
        obtain ⟨us, hus, htr⟩ := h1
        obtain ⟨y, hy, hwf⟩ := ih.1 T' n us _ hs' htr
        rw [hce] at hus
        exact ⟨y, ⟨us, hy, cells?_get hus⟩, hwf⟩
      obtain ⟨ys, hys, hget⟩ := list_of len each
      refine ⟨ys, ⟨some a, cap, by rw [hys], by omega, fun hne => ?_⟩, by omega, fun y hy => ?_⟩
      · have hspot : a.spot = none := by
          have h0 : 0 < ys.length := List.length_pos_iff.2 hne
          obtain ⟨⟨us, h1, h2⟩, _⟩ := hget 0 ys[0] (List.getElem?_eq_getElem h0)
          have hul := h1.length
          have := Ty.size_pos e
          have h3 := h2 0 us[0] (List.getElem?_eq_getElem (by omega))
          simp only [Nat.zero_mul, Addr.add, if_true] at h3
          unfold World.cell? at h3
          split at h3
          · split at h3
            · cases h3
            · rename_i hsp
              simpa using hsp
          · cases h3
        obtain ⟨b, o, s⟩ := a
        dsimp only at hspot
        subst hspot
        refine ⟨b, o, rfl, hA b, fun i y hy => ?_⟩
        obtain ⟨⟨us, h1, h2⟩, _⟩ := hget i y hy
        refine ⟨us, h1, fun j u hu => ?_⟩
        have := h2 j u hu
        have e1 : ((⟨b, o, none⟩ : Addr).add (i * e.size)).add j = ⟨b, o + i * e.size + j, none⟩ := by
          unfold Addr.add
          by_cases hi0 : i * e.size = 0
          · rw [if_pos hi0, hi0]
            by_cases hj0 : j = 0
            · rw [if_pos hj0, hj0]
              rfl
            · rw [if_neg hj0]
              rfl
          · rw [if_neg hi0]
            by_cases hj0 : j = 0
            · rw [if_pos hj0, hj0]
              rfl
            · rw [if_neg hj0]
        rwa [e1] at this
      · obtain ⟨i, hi⟩ := List.mem_iff_getElem?.1 hy
        exact (hget i y hi).2
  | one u ih =>
    refine ⟨fun T fuel cs x hs h => ?_, fun fs off cs fuel hs hf hlen => ?_⟩
    · have hcs := shp.cellsOf hs
      simp only [shp, Bool.and_eq_true] at hs
      obtain ⟨_, hs⟩ := hs
      split at hs
      · rename_i T' hfo
        obtain ⟨m, hl, he⟩ := trod_fields hfo h
        obtain ⟨y, hy⟩ := he 0 T' 0 rfl
        rw [List.drop_zero, List.take_of_length_le (by rw [hl, hcs, shp.cellsOf hs]; exact Nat.le_refl _)] at hy
        exact ih.1 T' m cs y hs hy
      · cases hs
    · match fs, hs with
      | [(T', o)], hs2 =>
        simp only [shp, Bool.and_eq_true, beq_iff_eq] at hs2
        obtain ⟨rfl, hs3⟩ := hs2
        obtain ⟨x, hx⟩ := hf 0 T' o rfl
        rw [shp.cellsOf hs3] at hx
        exact ih.1 T' fuel _ x hs3 hx
  | cons u v ih1 ih2 =>
    refine ⟨fun T fuel cs x hs h => ?_, fun fs off cs fuel hs hf hlen => ?_⟩
    · have hcs := shp.cellsOf hs
      simp only [shp, Bool.and_eq_true] at hs
      obtain ⟨_, hs⟩ := hs
      split at hs
      · rename_i T' fs hfo
        simp only [Bool.and_eq_true] at hs
        obtain ⟨m, hl, he⟩ := trod_fields hfo h
        rw [hcs] at hl
        simp only [Ty.size] at hl
        obtain ⟨y, hy⟩ := he 0 T' 0 rfl
        rw [List.drop_zero, shp.cellsOf hs.1] at hy
        obtain ⟨z1, r1, f1⟩ := ih1.1 T' m _ y hs.1 hy
        obtain ⟨z2, r2, f2⟩ := ih2.2 fs u.size cs m hs.2 (fun k T2 o hk => he (k + 1) T2 o (by simpa using hk)) (by omega)
        refine ⟨(z1, z2), ⟨_, _, ?_, r1, r2⟩, f1, f2⟩
        rw [List.take_of_length_le (l := cs.drop u.size) (by rw [List.length_drop]; omega), List.take_append_drop]
      · cases hs
    · match fs, hs with
      | (T', o) :: fs, hs =>
        simp only [shp, Bool.and_eq_true, beq_iff_eq] at hs
        obtain ⟨⟨rfl, hs1⟩, hs2⟩ := hs
        simp only [Ty.size] at hlen
        obtain ⟨x, hx⟩ := hf 0 T' o rfl
        rw [shp.cellsOf hs1] at hx
        obtain ⟨z1, r1, f1⟩ := ih1.1 T' fuel _ x hs1 hx
        obtain ⟨z2, r2, f2⟩ := ih2.2 fs (o + u.size) cs fuel hs2 (fun k T2 o hk => hf (k + 1) T2 o (by simpa using hk)) (by omega)
        refine ⟨(z1, z2), ⟨_, _, ?_, r1, r2⟩, f1, f2⟩
        rw [Ty.size, List.take_add, List.drop_drop]

theorem trod_vd {A : Nat → Prop} (hA : ∀ b, A b) {t : Ty} {T : TypeId} {v : Value} {d : DataW H} {ps : List MemPlace} {r : Reach} {b0 : Nat} {W : World} (hs : shp P t (.inl T) = true) (hval : Value.okWide P W r b0 T v)
    (h : DataW.Trod enc P w base sp held T v d ps) : ∃ y : t.D, VD w A t y v ∧ WF t y := by
  obtain ⟨fuel, h⟩ := h
  obtain ⟨y, hy, hwf⟩ := (trod_rd hA t).1 T fuel _ _ hs h
  refine ⟨y, ⟨_, hy, ?_⟩, hwf⟩
  have agg : ∀ fs, fieldsOf P T = some fs → v = .agg v.cells.toList.toArray := fun fs hf => by
    unfold fieldsOf at hf
    unfold Value.okWide at hval
    split at hf
    · rename_i g hg
      rw [hg] at hval
      obtain ⟨cs, rfl, _⟩ := hval
      simp [Value.cells]
    · rename_i n e hg
      rw [hg] at hval
      obtain ⟨cs, rfl, _⟩ := hval
      simp [Value.cells]
    · cases hf
  have flat : ∀ u, P.underlying T = some u → (∀ fs, u ≠ .struct fs) → (∀ n e, u ≠ .array n e) → v.cells.toList = [v] ∨ (∀ x, v.cells.toList ≠ [x]) ∨ (∃ x, v = .agg #[x] ∧ Cell.okWide P W r b0 T v) := fun u hu h1 h2 => by
    unfold Value.okWide at hval
    rw [hu] at hval
    cases v with
    | agg cs =>
      right
      by_cases hx : ∃ x, cs = #[x]
      · obtain ⟨x, rfl⟩ := hx
        right
        refine ⟨x, rfl, ?_⟩
        cases u <;> first | exact hval | exact absurd rfl (h1 _) | exact absurd rfl (h2 _ _)
      · left
        intro x hc
        exact hx ⟨x, by simpa [Value.cells] using congrArg List.toArray hc⟩
    | _ => left; rfl
  cases t with
  | int k =>
    rcases flat _ (shp.int hs) (fun _ => by simp) (fun _ _ => by simp) with h1 | h1 | ⟨x, rfl, h1⟩
    · simp [Ty.agg, h1]
    · exact absurd hy (h1 _)
    · simp [Cell.okWide, Cell.ok, (shp.int hs)] at h1
  | bool =>
    rcases flat _ (shp.bool hs) (fun _ => by simp) (fun _ _ => by simp) with h1 | h1 | ⟨x, rfl, h1⟩
    · simp [Ty.agg, h1]
    · exact absurd hy (h1 _)
    · simp [Cell.okWide, Cell.ok, (shp.bool hs)] at h1
  | str =>
    rcases flat _ (shp.str hs) (fun _ => by simp) (fun _ _ => by simp) with h1 | h1 | ⟨x, rfl, h1⟩
    · simp [Ty.agg, h1]
    · exact absurd hy (h1 _)
    · simp [Cell.okWide, Cell.ok, (shp.str hs)] at h1
  | sl e =>
    obtain ⟨T', hu, _⟩ := (shp.slice hs)
    rcases flat _ hu (fun _ => by simp) (fun _ _ => by simp) with h1 | h1 | ⟨x, rfl, h1⟩
    · simp [Ty.agg, h1]
    · obtain ⟨a, cap, h2, _⟩ := hy
      exact absurd h2 (h1 _)
    · simp [Cell.okWide, Cell.ok, hu] at h1
  | one u =>
    simp only [shp, Bool.and_eq_true] at hs
    obtain ⟨_, hs⟩ := hs
    split at hs
    · rename_i hfo
      exact agg _ hfo
    · cases hs
  | cons u v' =>
    simp only [shp, Bool.and_eq_true] at hs
    obtain ⟨_, hs⟩ := hs
    split at hs
    · rename_i hfo
      exact agg _ hfo
    · cases hs

/-- Parameters that are data, with their types. -/
def dataOK (P : Program) : List PK → List TypeId → Bool
  | [], [] => true
  | .data t :: pk, T :: Ts => shp P t (.inl T) && dataOK P pk Ts
  | _, _ => false

def WFI : (pk : List PK) → In pk → Prop
  | [], _ => True
  | [.data t], x => WF t x
  | .data t :: q :: ps, x => WF t x.1 ∧ WFI (q :: ps) x.2
  | _, _ => False

theorem args_in {A : Nat → Own} (hA : ∀ b, A b = .free) : ∀ (pk : List PK) (Ts : List TypeId) (vs : List Value) (ds : List (DataW H)) (ps : List MemPlace) {r : Reach} {b0 : Nat} {W : World}, dataOK P pk Ts = true →
    (∀ (j : Nat) t v, Ts[j]? = some t → vs[j]? = some v → Value.okWide P W r b0 t v) → DataW.TrodAll enc P w base sp held Ts vs ds ps →
    ∃ x : In pk, vs.length = (insL pk x).length ∧ (∀ (k : Nat) p z v, (insL pk x)[k]? = some ⟨p, z⟩ → vs[k]? = some v → ParR P A w p z v) ∧ WFI pk x
  | [], Ts, vs, ds, ps, r, b0, W, hd, hval, h => by
    match Ts, hd with
    | [], _ =>
      obtain ⟨rfl, _⟩ := trodAll_nil h
      exact ⟨(), rfl, fun k p z v hk => by simp [insL] at hk, trivial⟩
  | [.data t], Ts, vs, ds, ps, r, b0, W, hd, hval, h => by
    match Ts, hd with
    | _ :: _ :: _, hd => simp [dataOK] at hd
    | [T], hd =>
      simp only [dataOK, Bool.and_true] at hd
      obtain ⟨v, vs', d, ds', p1, p2, rfl, rfl, rfl, h1, h2⟩ := trodAll_cons h
      obtain ⟨rfl, rfl, rfl⟩ := trodAll_nil h2
      · obtain ⟨y, hy, hwf⟩ := trod_vd (A := Free A) (fun b => hA b) hd (hval 0 T v rfl rfl) h1
        refine ⟨y, rfl, fun k p z u hk hv => ?_, hwf⟩
        cases k with
        | zero =>
          simp only [insL, List.getElem?_cons_zero, Option.some.injEq] at hk hv
          cases hk
          cases hv
          exact hy
        | succ k => simp at hv
  | .data t :: q :: pk, Ts, vs, ds, ps, r, b0, W, hd, hval, h => by
    match Ts, hd with
    | T :: Ts, hd =>
      simp only [dataOK, Bool.and_eq_true] at hd
      obtain ⟨v, vs', d, ds', p1, p2, rfl, rfl, rfl, h1, h2⟩ := trodAll_cons h
      · obtain ⟨y, hy, hwf⟩ := trod_vd (A := Free A) (fun b => hA b) hd.1 (hval 0 T v rfl rfl) h1
        obtain ⟨x, g1, g2, g3⟩ := args_in hA (q :: pk) Ts vs' ds' p2 (by simpa [dataOK] using hd.2) (fun j t v hj hv => hval (j + 1) t v (by simpa using hj) (by simpa using hv)) h2
        refine ⟨(y, x), by simp [insL, g1], fun k p z u hk hv => ?_, hwf, g3⟩
        cases k with
        | zero =>
          simp only [insL, List.getElem?_cons_zero, Option.some.injEq] at hk hv
          cases hk
          cases hv
          exact hy
        | succ k =>
          simp only [insL, List.getElem?_cons_succ] at hk hv
          exact g2 k p z u hk hv
  | .ow _ :: _, _, _, _, _, _, _, _, hd, _, _ | .mv _ :: _, _, _, _, _, _, _, _, hd, _, _ | .rp _ :: _, _, _, _, _, _, _, _, hd, _, _ | .mp _ _ :: _, _, _, _, _, _, _, _, hd, _, _ | .fn _ _ :: _, _, _, _, _, _, _, _, hd, _, _ | .rfn _ _ :: _, _, _, _, _, _, _, _, hd, _, _ => by simp [dataOK] at hd

theorem trodAll_len : ∀ (Ts : List TypeId) (vs : List Value) (ds : List (DataW H)) (ps : List MemPlace), DataW.TrodAll enc P w base sp held Ts vs ds ps → ds.length = Ts.length
  | [], vs, ds, ps, h => by
    obtain ⟨rfl, rfl, rfl⟩ := trodAll_nil h
    rfl
  | T :: Ts, vs, ds, ps, h => by
    obtain ⟨v, vs', d, ds', p, q, rfl, rfl, rfl, g1, g2⟩ := trodAll_cons h
    simp [trodAll_len Ts vs' ds' q g2]

theorem trodAll_stays {sp' : Nat → Bool} {W W' : World} (hl : laidOutB P = true) (hb : Below W.heap.size W W') : ∀ (Ts : List TypeId) (vs : List Value) (ds : List (DataW H)) (ps : List MemPlace), (∀ T ∈ Ts, P.readableRec T = true ∧ T < P.types.size) →
    DataW.TrodAll enc P W base (fun _ => true) true Ts vs ds ps → (∀ p ∈ ps, p.block < W.heap.size) → (∀ p ∈ ps, sp' p.block = true) → DataW.TrodAll enc P W' base sp' true Ts vs ds ps
  | [], vs, ds, ps, _, h, _, _ => by
    obtain ⟨rfl, rfl, rfl⟩ := trodAll_nil h
    rfl
  | T :: Ts, vs, ds, ps, hT, h, h1, h2 => by
    obtain ⟨v, vs', d, ds', p, q, rfl, rfl, rfl, g1, g2⟩ := trodAll_cons h
    refine ⟨p, q, ?_, trodAll_stays hl hb Ts vs' ds' q (fun T hm => hT T (List.mem_cons_of_mem _ hm)) g2 (fun x hx => h1 x (List.mem_append_right _ hx)) (fun x hx => h2 x (List.mem_append_right _ hx)), rfl⟩
    obtain ⟨e1, e2⟩ := hT T (List.mem_cons_self ..)
    exact WideElems.Trod_stays hl e1 e2 g1 (fun x hx => hb.same (h1 x (List.mem_append_left _ hx))) (fun x hx => h2 x (List.mem_append_left _ hx))

/-- **From a model that is true of every datum to what a law's row asks of the call.** -/
theorem row_calls {C : Checked} {f : FuncId} {fn : Func} {s : ChangeSpec} {apart fresh handsOn again : Bool} {con : Con0} {tb : TypeId}
    (m : ConOK C.prog f con) (hrk : con.rk = [(.bool, false)]) (hpk : dataOK C.prog con.pk fn.params.toList = true) (hM : ∀ x, WFI con.pk x → ∃ y, con.F x = some y ∧ tupList _ y = [⟨.bool, true⟩])
    (hvars : s.vars = []) (hs : ∀ ds : List (DataW H), ds.length = fn.params.size → (s.fn H ds).results = [.lit (.bool true)] ∧ (s.fn H ds).args = ds ∧ (s.fn H ds).vars = [])
    (hres : fn.resultTypes = #[tb]) (hb : C.prog.underlying tb = some .bool) (hl : laidOutB C.prog = true) (hread : fn.params.toList.all (fun T => C.prog.readableRec T && decide (T < C.prog.types.size)) = true)
    (W : World) (b0 : Nat) (args : Array Value) (ds gs : List (DataW H)) (before : List MemPlace)
    (hval : ∀ (j : Nat) t v, fn.params[j]? = some t → args[j]? = some v → Value.okWide C.prog W .any b0 t v)
    (hW : DataW.Whole enc C.prog fn.params.toList s.vars apart W args.toList ds gs before) :
    Calls C.prog f args W fun e W' => ∃ v, e = .returned v ∧ s.post enc C.prog fn apart fresh handsOn again W args v W' := by
  have hW' := hW
  obtain ⟨p, q, hA, hV, rfl, hfz, hnd⟩ := hW
  rw [hvars] at hV
  obtain ⟨rfl, rfl⟩ := trodVars_none hV
  have hlen := trodAll_len _ _ _ _ hA
  obtain ⟨x, g1, g2, g3⟩ := args_in (A := fun _ => .free) (fun _ => rfl) con.pk _ _ _ _ hpk (fun j t v hj hv => hval j t v (by simpa using hj) (by simpa using hv)) hA
  obtain ⟨y, hy, ht⟩ := hM x g3
  have hc := law_calls m hy hrk ht g1 g2
  rw [Array.toArray_toList] at hc
  refine hc.mono fun e W' ⟨he, hlt, hbl⟩ => ?_
  obtain ⟨s1, s2, s3⟩ := hs ds (by simpa using hlen)
  refine ⟨_, he, post_of_kept (pa := p) (pv := []) hW' (fun b sp hd => ?_) (fun sp hsp => ?_) (fun sp hsp => ?_) rfl hlt hbl ?_⟩
  · rw [hres, List.append_nil, s1]
    exact trodAll_mk1 (shut_bool hb _)
  · rw [List.append_nil, s2]
    rw [List.append_nil] at hsp
    refine trodAll_stays hl ⟨hlt.os, hlt.tape, hlt.output, hlt.size, hbl⟩ _ _ _ _ (fun T hT => by simpa using List.all_eq_true.1 hread T hT) hA (fun x hx => hW'.lt x (by simpa using hx)) hsp
  · rw [List.append_nil, s3, hvars]
    rfl
  · exact ok_one hres rfl (okWide_bool_mk hb _)

end

end Go.Proofs.YtoaabialmenfiaaGreat.Vd

/- VdGrow -/
namespace Go.Proofs.YtoaabialmenfiaaGreat.Vd

variable {P : Program}

def growPk : List PK := [.ow (.sl (.int .i64)), .data (.int .i64)]
def growRk : List (Ty × Bool) := [(.sl (.int .i64), true)]
def growF (x : List Int × Int) : Option (List Int) := if 0 ≤ x.2 ∧ (x.1.length : Int) + x.2 ≤ 68719476736 then some x.1 else Option.none

/-- What the library's own text does: there is room; there is none. -/
def GrowRoom (P : Program) (f : Nat) : Prop := ∀ (base : Option Addr) (l c n : Nat) (w : World), l ≤ c → c ≤ 9223372036854775807 → n ≤ 9223372036854775807 → l + n ≤ c →
  Calls P f #[.slice base l c, .int .i64 n] w fun e w' => e = .returned (.slice base l c) ∧ w' = w

def GrowMore (P : Program) (f : Nat) : Prop := ∀ (base : Option Addr) (l c n : Nat) (cs : List Value) (w : World), l ≤ c → c < l + n → l + n ≤ 68719476736 → cs.length = c → (base = none → c = 0) →
  (∀ a, base = some a → ∀ j v, cs[j]? = some v → w.cell? (a.add j) = some v) →
  Calls P f #[.slice base l c, .int .i64 n] w fun e w' => ∃ (G : Nat) (T : TypeId) (zs : Array Value), l + n ≤ G ∧ G ≤ maxLen ∧ zs.size = G - c ∧
    e = .returned (.slice (some ⟨w.heap.size, 0, none⟩) l G) ∧ w' = w.drew.alloc (.cells (cs.toArray ++ zs) T)

def roomMap (ρ : Map) : Map := ⟨fun b => if ρ.own b = .main 0 then .main 1 else ρ.own b, fun _ => ρ.hdr 0⟩
def moreMap (ρ : Map) (w : World) (v : Value) : Map := ⟨fun b => if b = w.heap.size then .main 1 else ρ.own b, fun _ => v⟩

theorem grow_roots {xs : List Int} {l : Nat} {r : Root} (h : rt (exitRoots ⟨growPk, growRk, growF⟩ xs) l = some r) : l = 1 ∧ r = .arr (.int .i64) xs true := by
  have he : exitRoots ⟨growPk, growRk, growF⟩ xs = [Option.none, some (.arr (.int .i64) xs true)] := rfl
  rw [he] at h
  match l, h with
  | 0, h => cases h
  | 1, h => exact ⟨rfl, by cases h; rfl⟩
  | l + 2, h => simp [rt] at h

theorem grow_room_exit {w : World} {ρ : Map} {xs : List Int} (hfresh : ∀ b, w.heap.size ≤ b → ρ.own b = .free) (hlive : ∀ b l, (ρ.own b).loc = some l → l < 1)
    (hr : ArrR w ρ.own (.main 0) (.int .i64) xs (EL w ρ.own 0 true (.int .i64)) (ρ.hdr 0)) (hs : ∃ a n c, ρ.hdr 0 = .slice a n c) : Exit0 P ⟨growPk, growRk, growF⟩ xs w ρ w (roomMap ρ) (ρ.hdr 0) := by
  refine ⟨Later.refl w, fun b _ hb => ⟨?_, rfl⟩, fun b hb => ?_, fun b hb => ?_, fun b l hb => ?_, fun l hl => by simp [stays, growPk] at hl, ?_, fun l r hl => ?_⟩
  · rcases hb with hb | hb <;> simp [roomMap, hb]
  · simp only [roomMap] at hb
    split at hb
    · cases hb
    · exact hb
  · simp [roomMap, hfresh b hb]
  · show l < 2
    simp only [roomMap] at hb
    split at hb
    · cases hb; omega
    · have := hlive b l hb; omega
  · exact AR.one.2 ⟨rfl, hs⟩
  · obtain ⟨rfl, rfl⟩ := grow_roots hl
    show ArrR w (roomMap ρ).own (.main 1) (.int .i64) xs (EL w (roomMap ρ).own 1 true (.int .i64)) (ρ.hdr 0)
    rcases hr with ⟨a, h1, h2⟩ | ⟨b, cap, vs, T, h1, h2, h3, h4, h5, h6, h7⟩
    · exact .inl ⟨a, h1, h2⟩
    · exact .inr ⟨b, cap, vs, T, h1, h2, h3, by simp [roomMap, h4], h5, h6, h7⟩

theorem grow_more_exit {w : World} {ρ : Map} {xs : List Int} (hfresh : ∀ b, w.heap.size ≤ b → ρ.own b = .free) (hlive : ∀ b l, (ρ.own b).loc = some l → l < 1) {cs : List Value} {G : Nat} {T : TypeId} {zs : Array Value}
    (hG : G ≤ maxLen) (hlG : xs.length ≤ G) (hsz : cs.length + zs.size = G) (hcs : ∀ (i : Nat) (x : Int), xs[i]? = some x → cs[i]? = some (.int .i64 x)) :
    Exit0 P ⟨growPk, growRk, growF⟩ xs w ρ (w.drew.alloc (.cells (cs.toArray ++ zs) T)) (moreMap ρ w (.slice (some ⟨w.heap.size, 0, none⟩) xs.length G)) (.slice (some ⟨w.heap.size, 0, none⟩) xs.length G) := by
  refine ⟨⟨by show _ ≤ (w.heap.push _).size; simp, rfl, rfl, rfl⟩, fun b hb hbo => ⟨?_, heap_alloc_old w.drew _ b hb⟩, fun b hb => ?_, fun b hb => ?_, fun b l hb => ?_, fun l hl => by simp [stays, growPk] at hl, ?_, fun l r hl => ?_⟩
  · simp [moreMap, Nat.ne_of_lt hb]
  · simp only [moreMap] at hb
    split at hb
    · cases hb
    · exact hb
  · have hb' : w.heap.size + 1 ≤ b := by
      have : (w.heap.push _).size ≤ b := hb
      simpa using this
    simp only [moreMap]
    rw [if_neg (by omega), hfresh b (by omega)]
  · show l < 2
    simp only [moreMap] at hb
    split at hb
    · cases hb; omega
    · have := hlive b l hb; omega
  · exact AR.one.2 ⟨rfl, _, _, _, rfl⟩
  · obtain ⟨rfl, rfl⟩ := grow_roots hl
    show ArrR _ _ (.main 1) (.int .i64) xs _ _
    refine .inr ⟨w.heap.size, G, cs.toArray ++ zs, T, rfl, hlG, hG, by simp [moreMap], heap_alloc_new w.drew _, ?_, fun i x hx => ⟨[.int .i64 x], rfl, fun j u hj => ?_, rfl⟩⟩
    · simp only [Array.size_append, List.size_toArray, Ty.size]; omega
    · have h1 := hcs i x hx
      have hil := (List.getElem?_eq_some_iff.1 h1).1
      cases j with
      | zero =>
        simp only [List.getElem?_cons_zero, Option.some.injEq] at hj
        subst hj
        simp only [Ty.size, Nat.mul_one, Nat.add_zero]
        rw [Array.getElem?_append_left (by simpa using hil)]
        simpa using h1
      | succ j => simp at hj

theorem grow_ok {f : Nat} (hfn : ∃ fn, P.funcs[f]? = some fn ∧ fn.name ≠ "runtime.NumGoroutine" ∧ fn.body.isSome = true) (h1 : GrowRoom P f) (h2 : GrowMore P f) : ConOK P f ⟨growPk, growRk, growF⟩ where
  fn := hfn
  run := by
    rintro ⟨xs, n⟩ y hy w ρ args hfresh hlive hlen hargs hroots
    change growF (xs, n) = some y at hy
    have hlive : ∀ b l, (ρ.own b).loc = some l → l < 1 := hlive
    have hlen : 2 = args.length := hlen
    match args, hlen with
    | [v0, v1], _ =>
    have a0 : AR P ρ w _ (.c (.ref 0)) v0 := hargs 0 _ v0 rfl rfl
    have a1 : AR P ρ w _ (.c (.v (.int .i64) n [])) v1 := hargs 1 _ v1 rfl rfl
    have hr : ArrR w ρ.own (.main 0) (.int .i64) xs (EL w ρ.own 0 true (.int .i64)) (ρ.hdr 0) := hroots 0 _ rfl
    obtain ⟨g0, hs⟩ := AR.one.1 a0
    have g1 : [v1] = [.int .i64 n] := (AR.one.1 a1).2
    simp only [List.cons.injEq, and_true] at g1
    subst g1
    subst g0
    unfold growF at hy
    split at hy
    · rename_i hb
      dsimp only at hb
      cases hy
      obtain ⟨N, rfl⟩ : ∃ N : Nat, n = (N : Int) := ⟨n.toNat, (Int.toNat_of_nonneg hb.1).symm⟩
      have hml : maxLen = 9223372036854775807 := rfl
      obtain ⟨q, cap, hv, hxc, hcm, cs, hcl, hcs, hnil, hcell⟩ : ∃ (q : Option Addr) (cap : Nat), ρ.hdr 0 = .slice q xs.length cap ∧ xs.length ≤ cap ∧ cap ≤ maxLen ∧ ∃ cs : List Value, cs.length = cap ∧ (∀ (i : Nat) (x : Int), xs[i]? = some x → cs[i]? = some (.int .i64 x)) ∧
          (q = none → cap = 0) ∧ ∀ a, q = some a → ∀ j v, cs[j]? = some v → w.cell? (a.add j) = some v := by
        rcases hr with ⟨a, e1, e2⟩ | ⟨b, cap, vs, T, e1, e2, e3, e4, e5, e6, e7⟩
        · subst e2
          exact ⟨a, 0, e1, by simp, by omega, [], rfl, fun i x hx => by simp at hx, fun _ => rfl, fun a _ j v hj => by simp at hj⟩
        · refine ⟨_, cap, e1, e2, e3, vs.toList, by simpa [Ty.size] using e6, fun i x hx => ?_, fun h => (by cases h), fun a ha j v hj => ?_⟩
          · obtain ⟨us, u1, u2, u3⟩ := e7 i x hx
            have u3 : us = [.int .i64 x] := u3
            subst u3
            simpa [Ty.size] using u2 0 _ rfl
          · cases ha
            rw [Addr.add_lit]
            simp [World.cell?, e5] at hj ⊢
            exact hj
      show Calls P f #[ρ.hdr 0, .int .i64 N] w _
      rw [hv]
      have hb2 : xs.length + N ≤ 68719476736 := by have := hb.2; omega
      rcases Nat.lt_or_ge cap (xs.length + N) with hlt | hge
      · refine (h2 q xs.length cap N cs w hxc hlt hb2 hcl hnil hcell).mono ?_
        rintro e w' ⟨G, T, zs, k1, k2, k3, rfl, rfl⟩
        exact ⟨_, _, rfl, grow_more_exit hfresh hlive k2 (Nat.le_trans (Nat.le_add_right _ _) k1) (by rw [hcl, k3]; exact Nat.add_sub_cancel' (by omega)) hcs⟩
      · refine (h1 q xs.length cap N w hxc (by omega) (by omega) hge).mono ?_
        rintro e w' ⟨rfl, rfl⟩
        refine ⟨_, roomMap ρ, rfl, ?_⟩
        rw [← hv]
        exact grow_room_exit hfresh hlive hr hs
    · cases hy

end Go.Proofs.YtoaabialmenfiaaGreat.Vd

/- VdDel -/
namespace Go.Proofs.YtoaabialmenfiaaGreat.Vd

variable {P : Program}

def delPk : List PK := [.ow (.sl (.int .i64)), .data (.int .i64), .data (.int .i64)]
def delF (x : List Int × Int × Int) : Option (List Int) := if (0 ≤ x.2.1 ∧ x.2.1 ≤ x.2.2) ∧ x.2.2 ≤ (x.1.length : Int) ∧ 0 < x.1.length then some (x.1.take x.2.1.toNat ++ x.1.drop x.2.2.toNat) else Option.none

/-- What the library's own text does. -/
def DelLaw (P : Program) (f : Nat) : Prop := ∀ (b cap i j : Nat) (zs : List Int) (vs : Array Value) (T : TypeId) (w : World), w.heap[b]? = some (.cells vs T (0, 0)) → vs.size = cap → zs.length ≤ cap → cap ≤ maxLen →
  (∀ (k : Nat) (x : Int), zs[k]? = some x → vs[k]? = some (.int .i64 x)) → i ≤ j → j ≤ zs.length →
  Calls P f #[.slice (some ⟨b, 0, none⟩) zs.length cap, .int .i64 i, .int .i64 j] w fun e w' => e = .returned (.slice (some ⟨b, 0, none⟩) (zs.length - (j - i)) cap) ∧
    ∃ vs' : Array Value, w'.heap[b]? = some (.cells vs' T (0, 0)) ∧ vs'.size = cap ∧ (∀ (k : Nat) (x : Int), (zs.take i ++ zs.drop j)[k]? = some x → vs'[k]? = some (.int .i64 x)) ∧ Later w w' ∧ w'.heap.size = w.heap.size ∧ ∀ b', b' ≠ b → w'.heap[b']? = w.heap[b']?

theorem del_roots {xs : List Int} {l : Nat} {r : Root} (h : rt (exitRoots ⟨delPk, growRk, delF⟩ xs) l = some r) : l = 1 ∧ r = .arr (.int .i64) xs true := by
  have he : exitRoots ⟨delPk, growRk, delF⟩ xs = [Option.none, some (.arr (.int .i64) xs true)] := rfl
  rw [he] at h
  match l, h with
  | 0, h => cases h
  | 1, h => exact ⟨rfl, by cases h; rfl⟩
  | l + 2, h => simp [rt] at h

def delMap (ρ : Map) (v : Value) : Map := ⟨fun b => if ρ.own b = .main 0 then .main 1 else ρ.own b, fun _ => v⟩

theorem del_ok {f : Nat} (hfn : ∃ fn, P.funcs[f]? = some fn ∧ fn.name ≠ "runtime.NumGoroutine" ∧ fn.body.isSome = true) (h : DelLaw P f) : ConOK P f ⟨delPk, growRk, delF⟩ where
  fn := hfn
  run := by
    rintro ⟨xs, i, j⟩ y hy w ρ args hfresh hlive hlen hargs hroots
    change delF (xs, i, j) = some y at hy
    have hlive : ∀ b l, (ρ.own b).loc = some l → l < 1 := hlive
    have hlen : 3 = args.length := hlen
    match args, hlen with
    | [v0, v1, v2], _ =>
    have a0 : AR P ρ w _ (.c (.ref 0)) v0 := hargs 0 _ v0 rfl rfl
    have a1 : AR P ρ w _ (.c (.v (.int .i64) i [])) v1 := hargs 1 _ v1 rfl rfl
    have a2 : AR P ρ w _ (.c (.v (.int .i64) j [])) v2 := hargs 2 _ v2 rfl rfl
    have hr : ArrR w ρ.own (.main 0) (.int .i64) xs (EL w ρ.own 0 true (.int .i64)) (ρ.hdr 0) := hroots 0 _ rfl
    obtain ⟨g0, hs⟩ := AR.one.1 a0
    have g1 : [v1] = [.int .i64 i] := (AR.one.1 a1).2
    have g2 : [v2] = [.int .i64 j] := (AR.one.1 a2).2
    simp only [List.cons.injEq, and_true] at g1 g2
    subst g1
    subst g2
    subst g0
    unfold delF at hy
    split at hy
    · rename_i hb
      dsimp only at hb
      cases hy
      obtain ⟨⟨hb1, hb2⟩, hb3, hb4⟩ := hb
      obtain ⟨I, rfl⟩ : ∃ N : Nat, i = (N : Int) := ⟨i.toNat, (Int.toNat_of_nonneg hb1).symm⟩
      obtain ⟨J, rfl⟩ : ∃ N : Nat, j = (N : Int) := ⟨j.toNat, (Int.toNat_of_nonneg (by omega)).symm⟩
      rcases hr with ⟨a, e1, e2⟩ | ⟨b, cap, vs, T, e1, e2, e3, e4, e5, e6, e7⟩
      · rw [e2] at hb4
        simp at hb4
      · have hcells : ∀ (k : Nat) (x : Int), xs[k]? = some x → vs[k]? = some (.int .i64 x) := fun k x hx => by
          obtain ⟨us, u1, u2, u3⟩ := e7 k x hx
          have u3 : us = [.int .i64 x] := u3
          subst u3
          simpa [Ty.size] using u2 0 _ rfl
        show Calls P f #[ρ.hdr 0, .int .i64 I, .int .i64 J] w _
        rw [e1]
        refine (h b cap I J xs vs T w e5 (by simpa [Ty.size] using e6) e2 e3 hcells (by omega) (by omega)).mono ?_
        rintro e w' ⟨rfl, vs', k1, k2, k3, k4, k5, k6⟩
        have hlen' : (xs.take (I : Int).toNat ++ xs.drop (J : Int).toNat).length = xs.length - (J - I) := by
          simp only [Int.toNat_natCast, List.length_append, List.length_take, List.length_drop]
          omega
        refine ⟨_, delMap ρ (.slice (some ⟨b, 0, none⟩) (xs.length - (J - I)) cap), rfl, k4, fun b' hb' hbo => ⟨?_, ?_⟩, fun b' hb' => ?_, fun b' hb' => ?_, fun b' l hb' => ?_, fun l hl => by simp [stays, delPk] at hl, ?_, fun l r hl => ?_⟩
        · rcases hbo with hbo | hbo <;> simp [delMap, hbo]
        · refine k6 b' fun hbb => ?_
          rw [hbb, e4] at hbo
          rcases hbo with hbo | hbo <;> cases hbo
        · simp only [delMap] at hb'
          split at hb'
          · cases hb'
          · exact hb'
        · rw [k5] at hb'
          simp [delMap, hfresh b' hb']
        · show l < 2
          simp only [delMap] at hb'
          split at hb'
          · cases hb'; omega
          · have h0 : l < 1 := hlive b' l hb'
            omega
        · exact AR.one.2 ⟨rfl, _, _, _, rfl⟩
        · obtain ⟨rfl, rfl⟩ := del_roots hl
          show ArrR _ _ (.main 1) (.int .i64) _ _ _
          refine .inr ⟨b, cap, vs', T, by rw [hlen']; rfl, by rw [hlen']; omega, e3, by simp [delMap, e4], k1, by simpa [Ty.size] using k2, fun i x hx => ⟨[.int .i64 x], rfl, fun j u hj => ?_, rfl⟩⟩
          cases j with
          | zero =>
            simp only [List.getElem?_cons_zero, Option.some.injEq] at hj
            subst hj
            simp only [Int.toNat_natCast] at hx
            simpa [Ty.size] using k3 i x hx
          | succ j => simp at hj
    · cases hy

end Go.Proofs.YtoaabialmenfiaaGreat.Vd

/- PlA -/
namespace Go.Proofs.YtoaabialmenfiaaGreat.Vd

theorem iter_spec {σ β : Type} {body : (σ → Option β) → σ → Option β} (g : σ → Option β) (Inv : σ → Prop) (μ : σ → Nat)
    (step : ∀ (again : σ → Option β) s, Inv s → (∀ s', Inv s' → μ s' < μ s → again s' = g s') → body again s = g s) : ∀ (n : Nat) (s : σ), Inv s → μ s < n → iter body n s = g s
  | 0, _, _, h => absurd h (Nat.not_lt_zero _)
  | n + 1, s, hs, h => step _ s hs fun s' hs' h' => iter_spec g Inv μ step n s' hs' (by omega)

/-- A loop whose states go down. -/
theorem loopO_spec {σ β : Type} {body : (σ → Option β) → σ → Option β} (g : σ → Option β) (Inv : σ → Prop) (μ : σ → Nat)
    (step : ∀ (again : σ → Option β) s, Inv s → (∀ s', Inv s' → μ s' < μ s → again s' = g s') → body again s = g s) {s : σ} (h0 : Inv s) (hm : μ s < 2 ^ 64) : loopO body s = g s := by
  rw [loopO_eq]
  exact iter_spec g Inv μ step many s h0 hm

/-- A loop that counts up. -/
theorem loopO_for {σ τ β : Type} {body : (τ → Option β) → τ → Option β} (enc : Nat → σ → τ) (N : Nat) (g : Nat → σ → Option β) (Inv : Nat → σ → Prop)
    (hend : ∀ (again : τ → Option β) s, Inv N s → body again (enc N s) = g N s)
    (hin : ∀ (again : τ → Option β) i s, i < N → Inv i s → (∀ s', Inv (i + 1) s' → again (enc (i + 1) s') = g (i + 1) s') → body again (enc i s) = g i s)
    (hN : N < 2 ^ 64) {i : Nat} {s : σ} (hi : i ≤ N) (h0 : Inv i s) : loopO body (enc i s) = g i s := by
  rw [loopO_eq]
  have H : ∀ (n : Nat) i s, i ≤ N → Inv i s → N - i < n → iter body n (enc i s) = g i s := by
    intro n
    induction n with
    | zero => intro i s _ _ h; exact absurd h (Nat.not_lt_zero _)
    | succ n ih =>
      intro i s hi h0 hn
      show body (iter body n) (enc i s) = g i s
      rcases Nat.lt_or_ge i N with h | h
      · exact hin _ i s h h0 fun s' hs' => ih (i + 1) s' h hs' (by omega)
      · have : i = N := by omega
        subst this
        exact hend _ s h0
  exact H many i s hi h0 (by unfold many; omega)

/-- Two loops of the same steps. -/
theorem loopO_rel {σ τ β γ : Type} {b1 : (σ → Option β) → σ → Option β} {b2 : (τ → Option γ) → τ → Option γ} (R : σ → τ → Prop) (Q : Option β → Option γ → Prop) (hQ : Q none none)
    (step : ∀ (a1 : σ → Option β) (a2 : τ → Option γ) s t, R s t → (∀ s' t', R s' t' → Q (a1 s') (a2 t')) → Q (b1 a1 s) (b2 a2 t)) {s : σ} {t : τ} (h0 : R s t) : Q (loopO b1 s) (loopO b2 t) := by
  rw [loopO_eq, loopO_eq]
  have H : ∀ (n : Nat) s t, R s t → Q (iter b1 n s) (iter b2 n t) := by
    intro n
    induction n with
    | zero => intro _ _ _; exact hQ
    | succ n ih => intro s t h; exact step _ _ s t h ih
  exact H many s t h0

theorem loopO_congr {σ β : Type} {b1 b2 : (σ → Option β) → σ → Option β} (Inv : σ → Prop)
    (step : ∀ (a1 a2 : σ → Option β) s, Inv s → (∀ s', Inv s' → a1 s' = a2 s') → b1 a1 s = b2 a2 s) {s : σ} (h0 : Inv s) : loopO b1 s = loopO b2 s := by
  refine loopO_rel (fun s t => s = t ∧ Inv s) (fun x y => x = y) rfl ?_ (⟨rfl, h0⟩ : s = s ∧ Inv s)
  rintro a1 a2 s _ ⟨rfl, hs⟩ h
  exact step a1 a2 s hs fun s' hs' => h s' s' ⟨rfl, hs'⟩

/-! ### Small steps -/

@[simp] theorem bindO_some' {α β : Type} (v : α) (f : α → Option β) : bindO (some v) f = f v := rfl
@[simp] theorem bindO_none' {α β : Type} (f : α → Option β) : bindO (none : Option α) f = none := rfl
@[simp] theorem guardO_true : guardO true = some () := rfl
theorem guardO_of {b : Bool} (h : b = true) : guardO b = some () := by rw [h]; rfl
@[simp] theorem cond_dec {α : Type} (p : Prop) [Decidable p] (a b : α) : cond (decide p) a b = if p then a else b := by
  by_cases h : p <;> simp [h]
@[simp] theorem cond_not' {α : Type} (c : Bool) (a b : α) : cond (!c) a b = cond c b a := by cases c <;> rfl
@[simp] theorem cond_and' {α : Type} (c d : Bool) (a b : α) : cond (c && d) a b = cond c (cond d a b) b := by cases c <;> rfl
theorem bindO_ite {α β : Type} (p : Prop) [Decidable p] (a b : Option α) (f : α → Option β) : bindO (if p then a else b) f = if p then bindO a f else bindO b f := by
  by_cases h : p <;> simp [h]
theorem bindO_cond {α β : Type} (c : Bool) (a b : Option α) (f : α → Option β) : bindO (cond c a b) f = cond c (bindO a f) (bindO b f) := by
  cases c <;> rfl

theorem getI_nat {α : Type} (xs : List α) (n : Nat) : getI xs (n : Int) = xs[n]? := by
  simp [getI]

theorem getI_zero {α : Type} (xs : List α) : getI xs 0 = xs[0]? := by simp [getI]

theorem getI_some {α : Type} {xs : List α} {i : Int} {x : α} (h0 : 0 ≤ i) (h : xs[i.toNat]? = some x) : getI xs i = some x := by
  simp [getI, h0, h]

theorem lim_eq : lim = 68719476736 := rfl

theorem beq_dec (a b : Int) : (a == b) = decide (a = b) := rfl

theorem bne_dec (a b : Int) : (a != b) = decide (a ≠ b) := by
  by_cases h : a = b <;> simp [h]

/-- A quotient of what is not negative. -/
theorem tdiv_nn {x y : Int} (h : 0 ≤ x) : x.tdiv y = x / y := Int.tdiv_eq_ediv_of_nonneg h
theorem tmod_nn {x y : Int} (h : 0 ≤ x) : x.tmod y = x % y := Int.tmod_eq_emod_of_nonneg h

theorem fdiv_pos {x y : Int} (h : 0 < y) : x.fdiv y = x / y := Int.fdiv_eq_ediv_of_nonneg x (by omega)

end Go.Proofs.YtoaabialmenfiaaGreat.Vd

