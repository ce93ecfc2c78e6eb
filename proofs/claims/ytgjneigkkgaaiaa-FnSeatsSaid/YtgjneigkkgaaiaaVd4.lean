/- A typed abstract semantics of Go code and its soundness over the model: part 4. No conditions. -/
import Derived.Test.YtgjneigkkgaaiaaVd3
set_option linter.unusedVariables false
set_option linter.unusedSimpArgs false
set_option linter.unusedSectionVars false
set_option linter.unnecessarySimpa false
/- VdGrow -/
namespace Go.Proofs.Ytgjneigkkgaaiaa.Vd

variable {P : Program}

def growPk : List PK := [.ow (.sl (.int .i64)), .data (.int .i64)]
def growRk : List (Ty × Bool) := [(.sl (.int .i64), true)]
def growF (x : List Int × Int) : Option (List Int) := if 0 ≤ x.2 ∧ (x.1.length : Int) + x.2 ≤ 68719476736 then some x.1 else Option.none

/-- What the library's own text does: there is room; there is none. -/
def GrowRoom (P : Program) (f : Nat) : Prop := ∀ (base : Option Addr) (l c n : Nat) (w : World), l ≤ c → c ≤ 9223372036854775807 → n ≤ 9223372036854775807 → l + n ≤ c →
  Calls P f #[.slice base l c, .int .i64 n] w fun e w' => e = .returned (.slice base l c) ∧ w' = w

def GrowMore (P : Program) (f : Nat) : Prop := ∀ (base : Option Addr) (l c n : Nat) (cs : List Value) (w : World), l ≤ c → c < l + n → l + n ≤ 68719476736 → cs.length = c → (base = none → c = 0) →
  (∀ a, base = some a → ∀ j v, cs[j]? = some v → w.cell? (a.add j) = some v) →
  Calls P f #[.slice base l c, .int .i64 n] w fun e w' => ∃ (G : Nat) (T : TypeId) (zs : Array Value), l + n ≤ G ∧ G ≤ maxLen ∧ zs.size = G - c ∧
    e = .returned (.slice (some ⟨w.heap.size, 0, none⟩) l G) ∧ w' = w.drew.alloc (.cells (cs.toArray ++ zs) T)

def roomMap (ρ : Map) : Map := ⟨fun b => if ρ.own b = .main 0 then .main 1 else ρ.own b, fun _ => ρ.hdr 0⟩
def moreMap (ρ : Map) (w : World) (v : Value) : Map := ⟨fun b => if b = w.heap.size then .main 1 else ρ.own b, fun _ => v⟩

theorem grow_roots {xs : List Int} {l : Nat} {r : Root} (h : rt (exitRoots ⟨growPk, growRk, growF⟩ xs) l = some r) : l = 1 ∧ r = .arr (.int .i64) xs true := by
  have he : exitRoots ⟨growPk, growRk, growF⟩ xs = [Option.none, some (.arr (.int .i64) xs true)] := rfl
  rw [he] at h
  match l, h with
  | 0, h => cases h
  | 1, h => exact ⟨rfl, by cases h; rfl⟩
  | l + 2, h => simp [rt] at h

theorem grow_room_exit {w : World} {ρ : Map} {xs : List Int} (hfresh : ∀ b, w.heap.size ≤ b → ρ.own b = .free) (hlive : ∀ b l, (ρ.own b).loc = some l → l < 1)
    (hr : ArrR w ρ.own (.main 0) (.int .i64) xs (EL w ρ.own 0 true (.int .i64)) (ρ.hdr 0)) (hs : ∃ a n c, ρ.hdr 0 = .slice a n c) : Exit0 P ⟨growPk, growRk, growF⟩ xs w ρ w (roomMap ρ) (ρ.hdr 0) := by
  refine ⟨Later.refl w, fun b _ hb => ⟨?_, rfl⟩, fun b hb => ?_, fun b hb => ?_, fun b l hb => ?_, fun l hl => by simp [stays, growPk] at hl, ?_, fun l r hl => ?_⟩
  · rcases hb with hb | hb <;> simp [roomMap, hb]
  · simp only [roomMap] at hb
    split at hb
    · cases hb
    · exact hb
  · simp [roomMap, hfresh b hb]
  · show l < 2
    simp only [roomMap] at hb
    split at hb
    · cases hb; omega
    · have := hlive b l hb; omega
  · exact AR.one.2 ⟨rfl, hs⟩
  · obtain ⟨rfl, rfl⟩ := grow_roots hl
    show ArrR w (roomMap ρ).own (.main 1) (.int .i64) xs (EL w (roomMap ρ).own 1 true (.int .i64)) (ρ.hdr 0)
    rcases hr with ⟨a, h1, h2⟩ | ⟨b, cap, vs, T, h1, h2, h3, h4, h5, h6, h7⟩
    · exact .inl ⟨a, h1, h2⟩
    · exact .inr ⟨b, cap, vs, T, h1, h2, h3, by simp [roomMap, h4], h5, h6, h7⟩

theorem grow_more_exit {w : World} {ρ : Map} {xs : List Int} (hfresh : ∀ b, w.heap.size ≤ b → ρ.own b = .free) (hlive : ∀ b l, (ρ.own b).loc = some l → l < 1) {cs : List Value} {G : Nat} {T : TypeId} {zs : Array Value}
    (hG : G ≤ maxLen) (hlG : xs.length ≤ G) (hsz : cs.length + zs.size = G) (hcs : ∀ (i : Nat) (x : Int), xs[i]? = some x → cs[i]? = some (.int .i64 x)) :
    Exit0 P ⟨growPk, growRk, growF⟩ xs w ρ (w.drew.alloc (.cells (cs.toArray ++ zs) T)) (moreMap ρ w (.slice (some ⟨w.heap.size, 0, none⟩) xs.length G)) (.slice (some ⟨w.heap.size, 0, none⟩) xs.length G) := by
  refine ⟨⟨by show _ ≤ (w.heap.push _).size; simp, rfl, rfl, rfl⟩, fun b hb hbo => ⟨?_, heap_alloc_old w.drew _ b hb⟩, fun b hb => ?_, fun b hb => ?_, fun b l hb => ?_, fun l hl => by simp [stays, growPk] at hl, ?_, fun l r hl => ?_⟩
  · simp [moreMap, Nat.ne_of_lt hb]
  · simp only [moreMap] at hb
    split at hb
    · cases hb
    · exact hb
  · have hb' : w.heap.size + 1 ≤ b := by
      have : (w.heap.push _).size ≤ b := hb
      simpa using this
    simp only [moreMap]
    rw [if_neg (by omega), hfresh b (by omega)]
  · show l < 2
    simp only [moreMap] at hb
    split at hb
    · cases hb; omega
    · have := hlive b l hb; omega
  · exact AR.one.2 ⟨rfl, _, _, _, rfl⟩
  · obtain ⟨rfl, rfl⟩ := grow_roots hl
    show ArrR _ _ (.main 1) (.int .i64) xs _ _
    refine .inr ⟨w.heap.size, G, cs.toArray ++ zs, T, rfl, hlG, hG, by simp [moreMap], heap_alloc_new w.drew _, ?_, fun i x hx => ⟨[.int .i64 x], rfl, fun j u hj => ?_, rfl⟩⟩
    · simp only [Array.size_append, List.size_toArray, Ty.size]; omega
    · have h1 := hcs i x hx
      have hil := (List.getElem?_eq_some_iff.1 h1).1
      cases j with
      | zero =>
        simp only [List.getElem?_cons_zero, Option.some.injEq] at hj
        subst hj
        simp only [Ty.size, Nat.mul_one, Nat.add_zero]
        rw [Array.getElem?_append_left (by simpa using hil)]
        simpa using h1
      | succ j => simp at hj

theorem grow_ok {f : Nat} (hfn : ∃ fn, P.funcs[f]? = some fn ∧ fn.name ≠ "runtime.NumGoroutine" ∧ fn.body.isSome = true) (h1 : GrowRoom P f) (h2 : GrowMore P f) : ConOK P f ⟨growPk, growRk, growF⟩ where
  fn := hfn
  run := by
    rintro ⟨xs, n⟩ y hy w ρ args hfresh hlive hlen hargs hroots
    change growF (xs, n) = some y at hy
    have hlive : ∀ b l, (ρ.own b).loc = some l → l < 1 := hlive
    have hlen : 2 = args.length := hlen
    match args, hlen with
    | [v0, v1], _ =>
    have a0 : AR P ρ w _ (.c (.ref 0)) v0 := hargs 0 _ v0 rfl rfl
    have a1 : AR P ρ w _ (.c (.v (.int .i64) n [])) v1 := hargs 1 _ v1 rfl rfl
    have hr : ArrR w ρ.own (.main 0) (.int .i64) xs (EL w ρ.own 0 true (.int .i64)) (ρ.hdr 0) := hroots 0 _ rfl
    obtain ⟨g0, hs⟩ := AR.one.1 a0
    have g1 : [v1] = [.int .i64 n] := (AR.one.1 a1).2
    simp only [List.cons.injEq, and_true] at g1
    subst g1
    subst g0
    unfold growF at hy
    split at hy
    · rename_i hb
      dsimp only at hb
      cases hy
      obtain ⟨N, rfl⟩ : ∃ N : Nat, n = (N : Int) := ⟨n.toNat, (Int.toNat_of_nonneg hb.1).symm⟩
      have hml : maxLen = 9223372036854775807 := rfl
      obtain ⟨q, cap, hv, hxc, hcm, cs, hcl, hcs, hnil, hcell⟩ : ∃ (q : Option Addr) (cap : Nat), ρ.hdr 0 = .slice q xs.length cap ∧ xs.length ≤ cap ∧ cap ≤ maxLen ∧ ∃ cs : List Value, cs.length = cap ∧ (∀ (i : Nat) (x : Int), xs[i]? = some x → cs[i]? = some (.int .i64 x)) ∧
          (q = none → cap = 0) ∧ ∀ a, q = some a → ∀ j v, cs[j]? = some v → w.cell? (a.add j) = some v := by
        rcases hr with ⟨a, e1, e2⟩ | ⟨b, cap, vs, T, e1, e2, e3, e4, e5, e6, e7⟩
        · subst e2
          exact ⟨a, 0, e1, by simp, by omega, [], rfl, fun i x hx => by simp at hx, fun _ => rfl, fun a _ j v hj => by simp at hj⟩
        · refine ⟨_, cap, e1, e2, e3, vs.toList, by simpa [Ty.size] using e6, fun i x hx => ?_, fun h => (by cases h), fun a ha j v hj => ?_⟩
          · obtain ⟨us, u1, u2, u3⟩ := e7 i x hx
            have u3 : us = [.int .i64 x] := u3
            subst u3
            simpa [Ty.size] using u2 0 _ rfl
          · cases ha
            rw [Addr.add_lit]
            simp [World.cell?, e5] at hj ⊢
            exact hj
      show Calls P f #[ρ.hdr 0, .int .i64 N] w _
      rw [hv]
      have hb2 : xs.length + N ≤ 68719476736 := by have := hb.2; omega
      rcases Nat.lt_or_ge cap (xs.length + N) with hlt | hge
      · refine (h2 q xs.length cap N cs w hxc hlt hb2 hcl hnil hcell).mono ?_
        rintro e w' ⟨G, T, zs, k1, k2, k3, rfl, rfl⟩
        exact ⟨_, _, rfl, grow_more_exit hfresh hlive k2 (Nat.le_trans (Nat.le_add_right _ _) k1) (by rw [hcl, k3]; exact Nat.add_sub_cancel' (by omega)) hcs⟩
      · refine (h1 q xs.length cap N w hxc (by omega) (by omega) hge).mono ?_
        rintro e w' ⟨rfl, rfl⟩
        refine ⟨_, roomMap ρ, rfl, ?_⟩
        rw [← hv]
        exact grow_room_exit hfresh hlive hr hs
    · cases hy

end Go.Proofs.Ytgjneigkkgaaiaa.Vd

/- VdDel -/
namespace Go.Proofs.Ytgjneigkkgaaiaa.Vd

variable {P : Program}

def delPk : List PK := [.ow (.sl (.int .i64)), .data (.int .i64), .data (.int .i64)]
def delF (x : List Int × Int × Int) : Option (List Int) := if (0 ≤ x.2.1 ∧ x.2.1 ≤ x.2.2) ∧ x.2.2 ≤ (x.1.length : Int) ∧ 0 < x.1.length then some (x.1.take x.2.1.toNat ++ x.1.drop x.2.2.toNat) else Option.none

/-- What the library's own text does. -/
def DelLaw (P : Program) (f : Nat) : Prop := ∀ (b cap i j : Nat) (zs : List Int) (vs : Array Value) (T : TypeId) (w : World), w.heap[b]? = some (.cells vs T (0, 0)) → vs.size = cap → zs.length ≤ cap → cap ≤ maxLen →
  (∀ (k : Nat) (x : Int), zs[k]? = some x → vs[k]? = some (.int .i64 x)) → i ≤ j → j ≤ zs.length →
  Calls P f #[.slice (some ⟨b, 0, none⟩) zs.length cap, .int .i64 i, .int .i64 j] w fun e w' => e = .returned (.slice (some ⟨b, 0, none⟩) (zs.length - (j - i)) cap) ∧
    ∃ vs' : Array Value, w'.heap[b]? = some (.cells vs' T (0, 0)) ∧ vs'.size = cap ∧ (∀ (k : Nat) (x : Int), (zs.take i ++ zs.drop j)[k]? = some x → vs'[k]? = some (.int .i64 x)) ∧ Later w w' ∧ w'.heap.size = w.heap.size ∧ ∀ b', b' ≠ b → w'.heap[b']? = w.heap[b']?

theorem del_roots {xs : List Int} {l : Nat} {r : Root} (h : rt (exitRoots ⟨delPk, growRk, delF⟩ xs) l = some r) : l = 1 ∧ r = .arr (.int .i64) xs true := by
  have he : exitRoots ⟨delPk, growRk, delF⟩ xs = [Option.none, some (.arr (.int .i64) xs true)] := rfl
  rw [he] at h
  match l, h with
  | 0, h => cases h
  | 1, h => exact ⟨rfl, by cases h; rfl⟩
  | l + 2, h => simp [rt] at h

def delMap (ρ : Map) (v : Value) : Map := ⟨fun b => if ρ.own b = .main 0 then .main 1 else ρ.own b, fun _ => v⟩

theorem del_ok {f : Nat} (hfn : ∃ fn, P.funcs[f]? = some fn ∧ fn.name ≠ "runtime.NumGoroutine" ∧ fn.body.isSome = true) (h : DelLaw P f) : ConOK P f ⟨delPk, growRk, delF⟩ where
  fn := hfn
  run := by
    rintro ⟨xs, i, j⟩ y hy w ρ args hfresh hlive hlen hargs hroots
    change delF (xs, i, j) = some y at hy
    have hlive : ∀ b l, (ρ.own b).loc = some l → l < 1 := hlive
    have hlen : 3 = args.length := hlen
    match args, hlen with
    | [v0, v1, v2], _ =>
    have a0 : AR P ρ w _ (.c (.ref 0)) v0 := hargs 0 _ v0 rfl rfl
    have a1 : AR P ρ w _ (.c (.v (.int .i64) i [])) v1 := hargs 1 _ v1 rfl rfl
    have a2 : AR P ρ w _ (.c (.v (.int .i64) j [])) v2 := hargs 2 _ v2 rfl rfl
    have hr : ArrR w ρ.own (.main 0) (.int .i64) xs (EL w ρ.own 0 true (.int .i64)) (ρ.hdr 0) := hroots 0 _ rfl
    obtain ⟨g0, hs⟩ := AR.one.1 a0
    have g1 : [v1] = [.int .i64 i] := (AR.one.1 a1).2
    have g2 : [v2] = [.int .i64 j] := (AR.one.1 a2).2
    simp only [List.cons.injEq, and_true] at g1 g2
    subst g1
    subst g2
    subst g0
    unfold delF at hy
    split at hy
    · rename_i hb
      dsimp only at hb
      cases hy
      obtain ⟨⟨hb1, hb2⟩, hb3, hb4⟩ := hb
      obtain ⟨I, rfl⟩ : ∃ N : Nat, i = (N : Int) := ⟨i.toNat, (Int.toNat_of_nonneg hb1).symm⟩
      obtain ⟨J, rfl⟩ : ∃ N : Nat, j = (N : Int) := ⟨j.toNat, (Int.toNat_of_nonneg (by omega)).symm⟩
      rcases hr with ⟨a, e1, e2⟩ | ⟨b, cap, vs, T, e1, e2, e3, e4, e5, e6, e7⟩
      · rw [e2] at hb4
        simp at hb4
      · have hcells : ∀ (k : Nat) (x : Int), xs[k]? = some x → vs[k]? = some (.int .i64 x) := fun k x hx => by
          obtain ⟨us, u1, u2, u3⟩ := e7 k x hx
          have u3 : us = [.int .i64 x] := u3
          subst u3
          simpa [Ty.size] using u2 0 _ rfl
        show Calls P f #[ρ.hdr 0, .int .i64 I, .int .i64 J] w _
        rw [e1]
        refine (h b cap I J xs vs T w e5 (by simpa [Ty.size] using e6) e2 e3 hcells (by omega) (by omega)).mono ?_
        rintro e w' ⟨rfl, vs', k1, k2, k3, k4, k5, k6⟩
        have hlen' : (xs.take (I : Int).toNat ++ xs.drop (J : Int).toNat).length = xs.length - (J - I) := by
          simp only [Int.toNat_natCast, List.length_append, List.length_take, List.length_drop]
          omega
        refine ⟨_, delMap ρ (.slice (some ⟨b, 0, none⟩) (xs.length - (J - I)) cap), rfl, k4, fun b' hb' hbo => ⟨?_, ?_⟩, fun b' hb' => ?_, fun b' hb' => ?_, fun b' l hb' => ?_, fun l hl => by simp [stays, delPk] at hl, ?_, fun l r hl => ?_⟩
        · rcases hbo with hbo | hbo <;> simp [delMap, hbo]
        · refine k6 b' fun hbb => ?_
          rw [hbb, e4] at hbo
          rcases hbo with hbo | hbo <;> cases hbo
        · simp only [delMap] at hb'
          split at hb'
          · cases hb'
          · exact hb'
        · rw [k5] at hb'
          simp [delMap, hfresh b' hb']
        · show l < 2
          simp only [delMap] at hb'
          split at hb'
          · cases hb'; omega
          · have h0 : l < 1 := hlive b' l hb'
            omega
        · exact AR.one.2 ⟨rfl, _, _, _, rfl⟩
        · obtain ⟨rfl, rfl⟩ := del_roots hl
          show ArrR _ _ (.main 1) (.int .i64) _ _ _
          refine .inr ⟨b, cap, vs', T, by rw [hlen']; rfl, by rw [hlen']; omega, e3, by simp [delMap, e4], k1, by simpa [Ty.size] using k2, fun i x hx => ⟨[.int .i64 x], rfl, fun j u hj => ?_, rfl⟩⟩
          cases j with
          | zero =>
            simp only [List.getElem?_cons_zero, Option.some.injEq] at hj
            subst hj
            simp only [Int.toNat_natCast] at hx
            simpa [Ty.size] using k3 i x hx
          | succ j => simp at hj
    · cases hy

end Go.Proofs.Ytgjneigkkgaaiaa.Vd

/- PlA -/
namespace Go.Proofs.Ytgjneigkkgaaiaa.Vd

theorem iter_spec {σ β : Type} {body : (σ → Option β) → σ → Option β} (g : σ → Option β) (Inv : σ → Prop) (μ : σ → Nat)
    (step : ∀ (again : σ → Option β) s, Inv s → (∀ s', Inv s' → μ s' < μ s → again s' = g s') → body again s = g s) : ∀ (n : Nat) (s : σ), Inv s → μ s < n → iter body n s = g s
  | 0, _, _, h => absurd h (Nat.not_lt_zero _)
  | n + 1, s, hs, h => step _ s hs fun s' hs' h' => iter_spec g Inv μ step n s' hs' (by omega)

/-- A loop whose states go down. -/
theorem loopO_spec {σ β : Type} {body : (σ → Option β) → σ → Option β} (g : σ → Option β) (Inv : σ → Prop) (μ : σ → Nat)
    (step : ∀ (again : σ → Option β) s, Inv s → (∀ s', Inv s' → μ s' < μ s → again s' = g s') → body again s = g s) {s : σ} (h0 : Inv s) (hm : μ s < 2 ^ 64) : loopO body s = g s := by
  rw [loopO_eq]
  exact iter_spec g Inv μ step many s h0 hm

/-- A loop that counts up. -/
theorem loopO_for {σ τ β : Type} {body : (τ → Option β) → τ → Option β} (enc : Nat → σ → τ) (N : Nat) (g : Nat → σ → Option β) (Inv : Nat → σ → Prop)
    (hend : ∀ (again : τ → Option β) s, Inv N s → body again (enc N s) = g N s)
    (hin : ∀ (again : τ → Option β) i s, i < N → Inv i s → (∀ s', Inv (i + 1) s' → again (enc (i + 1) s') = g (i + 1) s') → body again (enc i s) = g i s)
    (hN : N < 2 ^ 64) {i : Nat} {s : σ} (hi : i ≤ N) (h0 : Inv i s) : loopO body (enc i s) = g i s := by
  rw [loopO_eq]
  have H : ∀ (n : Nat) i s, i ≤ N → Inv i s → N - i < n → iter body n (enc i s) = g i s := by
    intro n
    induction n with
    | zero => intro i s _ _ h; exact absurd h (Nat.not_lt_zero _)
    | succ n ih =>
      intro i s hi h0 hn
      show body (iter body n) (enc i s) = g i s
      rcases Nat.lt_or_ge i N with h | h
      · exact hin _ i s h h0 fun s' hs' => ih (i + 1) s' h hs' (by omega)
      · have : i = N := by omega
        subst this
        exact hend _ s h0
  exact H many i s hi h0 (by unfold many; omega)

/-- Two loops of the same steps. -/
theorem loopO_rel {σ τ β γ : Type} {b1 : (σ → Option β) → σ → Option β} {b2 : (τ → Option γ) → τ → Option γ} (R : σ → τ → Prop) (Q : Option β → Option γ → Prop) (hQ : Q none none)
    (step : ∀ (a1 : σ → Option β) (a2 : τ → Option γ) s t, R s t → (∀ s' t', R s' t' → Q (a1 s') (a2 t')) → Q (b1 a1 s) (b2 a2 t)) {s : σ} {t : τ} (h0 : R s t) : Q (loopO b1 s) (loopO b2 t) := by
  rw [loopO_eq, loopO_eq]
  have H : ∀ (n : Nat) s t, R s t → Q (iter b1 n s) (iter b2 n t) := by
    intro n
    induction n with
    | zero => intro _ _ _; exact hQ
    | succ n ih => intro s t h; exact step _ _ s t h ih
  exact H many s t h0

theorem loopO_congr {σ β : Type} {b1 b2 : (σ → Option β) → σ → Option β} (Inv : σ → Prop)
    (step : ∀ (a1 a2 : σ → Option β) s, Inv s → (∀ s', Inv s' → a1 s' = a2 s') → b1 a1 s = b2 a2 s) {s : σ} (h0 : Inv s) : loopO b1 s = loopO b2 s := by
  refine loopO_rel (fun s t => s = t ∧ Inv s) (fun x y => x = y) rfl ?_ (⟨rfl, h0⟩ : s = s ∧ Inv s)
  rintro a1 a2 s _ ⟨rfl, hs⟩ h
  exact step a1 a2 s hs fun s' hs' => h s' s' ⟨rfl, hs'⟩

/-! ### Small steps -/

@[simp] theorem bindO_some' {α β : Type} (v : α) (f : α → Option β) : bindO (some v) f = f v := rfl
@[simp] theorem bindO_none' {α β : Type} (f : α → Option β) : bindO (none : Option α) f = none := rfl
@[simp] theorem guardO_true : guardO true = some () := rfl
theorem guardO_of {b : Bool} (h : b = true) : guardO b = some () := by rw [h]; rfl
@[simp] theorem cond_dec {α : Type} (p : Prop) [Decidable p] (a b : α) : cond (decide p) a b = if p then a else b := by
  by_cases h : p <;> simp [h]
@[simp] theorem cond_not' {α : Type} (c : Bool) (a b : α) : cond (!c) a b = cond c b a := by cases c <;> rfl
@[simp] theorem cond_and' {α : Type} (c d : Bool) (a b : α) : cond (c && d) a b = cond c (cond d a b) b := by cases c <;> rfl
theorem bindO_ite {α β : Type} (p : Prop) [Decidable p] (a b : Option α) (f : α → Option β) : bindO (if p then a else b) f = if p then bindO a f else bindO b f := by
  by_cases h : p <;> simp [h]
theorem bindO_cond {α β : Type} (c : Bool) (a b : Option α) (f : α → Option β) : bindO (cond c a b) f = cond c (bindO a f) (bindO b f) := by
  cases c <;> rfl

theorem getI_nat {α : Type} (xs : List α) (n : Nat) : getI xs (n : Int) = xs[n]? := by
  simp [getI]

theorem getI_zero {α : Type} (xs : List α) : getI xs 0 = xs[0]? := by simp [getI]

theorem getI_some {α : Type} {xs : List α} {i : Int} {x : α} (h0 : 0 ≤ i) (h : xs[i.toNat]? = some x) : getI xs i = some x := by
  simp [getI, h0, h]

theorem lim_eq : lim = 68719476736 := rfl

theorem beq_dec (a b : Int) : (a == b) = decide (a = b) := rfl

theorem bne_dec (a b : Int) : (a != b) = decide (a ≠ b) := by
  by_cases h : a = b <;> simp [h]

/-- A quotient of what is not negative. -/
theorem tdiv_nn {x y : Int} (h : 0 ≤ x) : x.tdiv y = x / y := Int.tdiv_eq_ediv_of_nonneg h
theorem tmod_nn {x y : Int} (h : 0 ≤ x) : x.tmod y = x % y := Int.tmod_eq_emod_of_nonneg h

theorem fdiv_pos {x y : Int} (h : 0 < y) : x.fdiv y = x / y := Int.fdiv_eq_ediv_of_nonneg x (by omega)

end Go.Proofs.Ytgjneigkkgaaiaa.Vd

