/- A typed abstract semantics of Go code and its soundness over the model: part 4. No conditions. -/
import Derived.Test.YtgjneigkkgaaiaaGreatDoorVd3
set_option linter.unusedVariables false
set_option linter.unusedSimpArgs false
set_option linter.unusedSectionVars false
set_option linter.unnecessarySimpa false
/- VdZz -/
namespace Go.Proofs.YtgjneigkkgaaiaaGreatDoor.Vd

variable {P : Program} {E : Env} {ρ ρ' ρ0 ρo : Map} {w w' : World} {s s' : S} {a : Act} {K : Ctx} {H H' Hc : Nat → Option Root}

theorem stays_lt : ∀ (pk : List PK) (n l : Nat), l ∈ stays n pk → n ≤ l ∧ l < n + (pk.map PK.count).sum
  | [], n, l, h => by simp [stays] at h
  | p :: pk, n, l, h => by
    simp only [stays, List.mem_append] at h
    simp only [List.map_cons, List.sum_cons]
    rcases h with h | h
    · cases p <;> simp [List.mem_range'_1, PK.count] at h ⊢ <;> omega
    · have := stays_lt pk _ l h
      omega

def spotC : Spot → C
  | .root l => .ref l
  | _ => .nils

def goList : List Spot → List Value → List (C × Value)
  | p :: go, v :: vals => (spotC p, v) :: goList go vals
  | _, _ => []

theorem goList_get : ∀ {go : List Spot} {vals : List Value} {i : Nat} {p : Spot} {v : Value}, go[i]? = some p → vals[i]? = some v → (goList go vals)[i]? = some (spotC p, v)
  | [], vals, i, p, v, h1, h2 => by simp at h1
  | q :: go, [], i, p, v, h1, h2 => by simp at h2
  | q :: go, u :: vals, 0, p, v, h1, h2 => by
    simp only [List.getElem?_cons_zero, Option.some.injEq] at h1 h2
    subst h1
    subst h2
    rfl
  | q :: go, u :: vals, i + 1, p, v, h1, h2 => goList_get (go := go) (vals := vals) (i := i) (by simpa using h1) (by simpa using h2)

theorem goList_length : ∀ (go : List Spot) (vals : List Value), (goList go vals).length ≤ go.length
  | [], vals => by simp [goList]
  | q :: go, [] => by simp [goList]
  | q :: go, u :: vals => by simp [goList, goList_length go vals]

theorem goList_refs : ∀ {go : List Spot} {vals : List Value} {l : Nat}, (l ∈ (goList go vals).flatMap fun p => refsOf p.1) → .root l ∈ go
  | [], vals, l, h => by simp [goList] at h
  | p :: go, [], l, h => by simp [goList] at h
  | p :: go, v :: vals, l, h => by
    simp only [goList, List.flatMap_cons, List.mem_append] at h
    rcases h with h | h
    · cases p <;> simp [spotC, refsOf] at h
      subst h
      exact List.mem_cons_self ..
    · exact List.mem_cons_of_mem _ (goList_refs h)

theorem goList_nodup : ∀ {go : List Spot} {vals : List Value}, Spot.apart go = true → ((goList go vals).flatMap fun p => refsOf p.1).Nodup
  | [], vals, _ => by simp [goList]
  | p :: go, [], _ => by simp [goList]
  | p :: go, v :: vals, h => by
    obtain ⟨h1, h2⟩ := apart_tail h
    have ih := goList_nodup (vals := vals) h1
    simp only [goList, List.flatMap_cons]
    rw [List.nodup_append]
    refine ⟨?_, ih, fun x hx y hy => ?_⟩
    · cases p <;> simp [spotC, refsOf]
    · cases p <;> simp [spotC, refsOf] at hx
      subst hx
      rintro rfl
      exact h2 (by simp) (goList_refs hy)

/-- The map that goes out. -/
def goneL (pk : List PK) : List Nat := (List.range (pk.map PK.count).sum).filter fun l => !(stays 0 pk).contains l

theorem out_compat {pk : List PK} {go : List Spot} {vals : List Value} (hl : vals.length = go.length) (ha : Spot.apart go = true) (hin : ∀ p ∈ go, ∀ l i j, p ≠ .in1 l i j) :
    Compat ρ (ρ.ren (pk.map PK.count).sum (goneL pk) (goList go vals)) (pk.map PK.count).sum go vals where
  len := hl
  hdr := fun i v hi => by
    obtain ⟨p, hp⟩ : ∃ p, go[i]? = some p := ⟨go[i]'(by rw [← hl]; exact (List.getElem?_eq_some_iff.1 hi).1), List.getElem?_eq_getElem _⟩
    simp only [Map.ren]
    rw [if_pos (Nat.le_add_right _ _), Nat.add_sub_cancel_left, goList_get hp hi]
    rfl
  root := fun i l hi => by
    obtain ⟨v, hv⟩ : ∃ v, vals[i]? = some v := ⟨vals[i]'(by rw [hl]; exact (List.getElem?_eq_some_iff.1 hi).1), List.getElem?_eq_getElem _⟩
    have hf := findIdx_ref _ i l v (goList_nodup ha) (goList_get hi hv)
    refine ⟨fun b hb => by simp [Map.ren, hb, Own.loc, hf, Own.to], fun b i' j hb => by simp [Map.ren, hb, Own.loc, hf, Own.to]⟩
  in1 := fun i l i' j hi => absurd rfl (hin _ (List.mem_of_getElem? hi) l i' j)

theorem ren_own {N : Nat} {L : List Nat} {q : List (C × Value)} {b l : Nat} (hb : (ρ.own b).loc = some l) (h : l ∉ q.flatMap fun p => refsOf p.1) : (ρ.ren N L q).own b = if l < N ∧ l ∉ L then ρ.own b else .free := by
  simp only [Map.ren, hb, findIdx_none h]

theorem entriesL_len : ∀ (L : List (Σ p : PK, p.D)) (n : Nat), (entriesL n L).2.length = ((L.map fun q : (Σ p : PK, p.D) => q.1).map PK.count).sum
  | [], n => rfl
  | ⟨p, z⟩ :: L, n => by simp [entriesL, entry_len, entriesL_len L]

theorem insL_fst : ∀ (pk : List PK) (x : In pk), (insL pk x).map (fun q : (Σ p : PK, p.D) => q.1) = pk
  | [], x => rfl
  | [p], x => rfl
  | p :: q :: ps, x => by simp only [insL, List.map_cons, insL_fst (q :: ps) x.2]

theorem semF_ok [Laid P] (hT : TyOK P E) (hE : ConsOK P E) {f : Nat} {fn : Func} {b : Code} (hf : P.funcs[f]? = some fn) (hn : fn.name ≠ "runtime.NumGoroutine") (hb : fn.body = some b) (hsz : fn.results.size ≤ 6) {h : Hints} (hok : codeOK P h b = true)
    {pk : List PK} {rk : List (Ty × Bool)} {F : In pk → Option (Out rk pk)} (hF : ∀ x, semF E h ⟨b, fn.ntmps, fn.results.toList⟩ pk rk x = F x) : ConOK P f ⟨pk, rk, F⟩ := by
  refine ⟨⟨fn, hf, hn, by rw [hb]; rfl⟩, fun x y hy w ρ args hfresh hlive hlen hargs hroots hmet => ?_⟩
  dsimp only at x y hy hlive hlen hargs hroots
  rw [← hF] at hy
  unfold semF at hy
  simp only [S.force_eq] at hy
  have hT' : TyOK P { E with fix := stays 0 pk, cuts := h.cuts } := ⟨hT.ty, hT.other, hT.pair⟩
  have hE' : ConsOK P { E with fix := stays 0 pk, cuts := h.cuts } := hE
  let K : Ctx := ⟨w, ρ.own, (stays 0 pk).map fun l => (l, ρ.hdr l)⟩
  have hFix : FixOK K { E with fix := stays 0 pk, cuts := h.cuts } := by
    intro l u hl
    simp only [K, List.mem_map, Prod.mk.injEq] at hl
    obtain ⟨l', h1, rfl, _⟩ := hl
    exact h1
  have hN : (entriesL 0 (insL pk x)).2.length = (pk.map PK.count).sum := by
    rw [entriesL_len, insL_fst]
  have hRel : Rel P K ρ { fr := (entriesL 0 (insL pk x)).1 ++ List.replicate (fn.ntmps - (entriesL 0 (insL pk x)).1.length) .none, H := (entriesL 0 (insL pk x)).2.map some, dF := [], dH := [] }
      { tmps := args.toArray ++ Array.replicate (fn.ntmps - args.toArray.size) undef, defers := [] } w := by
    refine ⟨by simp [hlen], rfl, fun i X hX => ?_, fun l r hl => ?_, fun b l hb => by simpa using hlive b l hb, hfresh, Later.refl w, fun b _ _ => ⟨rfl, rfl⟩, fun b hb => hb, fun l v hl => ?_⟩
    · dsimp only at hX
      by_cases hi : i < (entriesL 0 (insL pk x)).1.length
      · rw [List.getElem?_append_left hi] at hX
        have hia : i < args.length := by rw [← hlen]; exact hi
        refine ⟨args[i], by rw [Array.getElem?_append_left (by simpa using hia)]; simp [hia], hargs i X args[i] hX (List.getElem?_eq_getElem hia)⟩
      · rw [List.getElem?_append_right (by omega), List.getElem?_replicate] at hX
        split at hX
        · rename_i hlt
          cases hX
          refine ⟨undef, ?_, rfl⟩
          rw [Array.getElem?_append_right (by simp; omega), Array.getElem?_replicate, if_pos]
          simp only [List.size_toArray]
          omega
        · cases hX
    · refine hroots l r ?_
      simp only [S.root, List.getD_eq_getElem?_getD, List.getElem?_map] at hl
      cases he : (entriesL 0 (insL pk x)).2[l]? with
      | none => rw [he] at hl; cases hl
      | some r' => rw [he] at hl; simpa using hl
    · simp only [K, List.mem_map, Prod.mk.injEq] at hl
      obtain ⟨l', h1, rfl, rfl⟩ := hl
      refine ⟨rfl, ?_⟩
      dsimp only
      rw [List.length_map, hN]
      have := stays_lt pk 0 l' h1
      omega
  refine calls_of_wp hf hb ?_
  refine code_sound hT' hFix (calls_ok hE' hmet) h b hok _ 0 _ ρ _ w _ y _ hy hRel (Same.refl _) fun e s' ρ' a' w' hR' _ hk => ?_
  have fin : (match resCells E s' fn.results.toList with
      | some as => match s'.view.outs rk as, s'.view.ios 0 (insL pk x) with
        | some o, some i => if wentApart pk (o.app i) then fillP (OutT rk pk) (o.app i).xs else Option.none
        | _, _ => Option.none
      | Option.none => Option.none) = some y → a'.defers = [] ∧ ∃ v, (Go.results fn a'.tmps).run P w' = .ok v w' ∧ ∃ v2 ρ2, Ending.returned v = .returned v2 ∧ Exit0 P ⟨pk, rk, F⟩ y w ρ w' ρ2 v2 := by
    intro hk
    split at hk
    · rename_i as has
      split at hk
      · rename_i o i ho hi
        split at hk
        · rename_i hap
          obtain ⟨vs, r1, r2, r3⟩ := run_results hR' hT hsz has
          refine ⟨hR'.defers, tupV vs, r2, tupV vs, ?_⟩
          have hxs := fillP_list _ _ _ hk
          have hpk := insL_fst pk x
          obtain ⟨v1, o1, o2, o3, o4⟩ := outs_rel (Hc := rt (exitRoots ⟨pk, rk, F⟩ y)) hR'.root rk as o vs ho r1 r3
          obtain ⟨v2, i1, i2, i3, i4⟩ := ios_rel (Hc := rt (exitRoots ⟨pk, rk, F⟩ y)) hR'.root pk (insL pk x) 0 i hpk hi
          unfold wentApart at hap
          simp only [Went.app, Bool.and_eq_true, List.all_eq_true, Bool.not_eq_true', List.contains_eq_mem, decide_eq_false_iff_not] at hap
          obtain ⟨⟨ha1, ha2⟩, ha3⟩ := hap
          have hin : ∀ p ∈ o.go ++ i.go, ∀ l a b, p ≠ .in1 l a b := fun p hp => (List.mem_append.1 hp).elim (o3 p) (i3 p)
          have hcp := out_compat (ρ := ρ') (pk := pk) (go := o.go ++ i.go) (vals := v1 ++ v2) (by simp [o1, i1]) ha1 hin
          generalize hρo : ρ'.ren (pk.map PK.count).sum (goneL pk) (goList (o.go ++ i.go) (v1 ++ v2)) = ρo at hcp
          have hloc : ∀ l, .root l ∈ o.go ++ i.go → l ∈ (o.go ++ i.go).flatMap Spot.loc := fun l hl => List.mem_flatMap.2 ⟨_, hl, by simp [Spot.loc]⟩
          have hkeep : ∀ l ∈ stays 0 pk, Keeps ρ' ρo l := by
            intro l hl
            have hlN := (stays_lt pk 0 l hl).2
            rw [Nat.zero_add] at hlN
            refine ⟨?_, fun b hb => ?_⟩
            · rw [← hρo]
              simp only [Map.ren]
              rw [if_neg (by omega)]
            · rw [← hρo, ren_own hb (fun hm => ha2 l (hloc l (goList_refs hm)) hl), if_pos ⟨hlN, fun hm => by simp [goneL, hl] at hm⟩]
          have hlets : Lets ρ' ρo.own (o.deps ++ i.deps) := by
            refine ⟨fun b hb => by rw [← hρo]; simp [Map.ren, hb, Own.loc], fun b l hb hl => ?_⟩
            obtain ⟨g1, g2⟩ := ha3 l hl
            rw [← hρo, ren_own hb (fun hm => g1 (hloc l (goList_refs hm))), if_neg]
            rintro ⟨g3, g4⟩
            exact g4 (by simp [goneL, g2, g3])
          obtain ⟨p1, p2, p3, p4, p5⟩ := o4 _ ρo i.xs (hlets.sub fun l hl => List.mem_append_left _ hl) (hcp.left o1)
          obtain ⟨z1, z2, z3⟩ := i4 _ ρo (hlets.sub fun l hl => List.mem_append_right _ hl) (hcp.right o1) hkeep
          have htl : tupList (OutT rk pk) y = o.xs ++ i.xs := hxs
          have hlenN : entryLen ⟨pk, rk, F⟩ = (pk.map PK.count).sum := rfl
          refine ⟨ρo, rfl, hR'.later, fun b hb hbo => ?_, fun b hbo => ?_, fun b hbo => ?_, fun b l hbl => ?_, fun l hl => ?_, ?_, fun l r hl => ?_⟩
          · obtain ⟨k1, k2⟩ := hR'.keep b hb hbo
            refine ⟨?_, k2⟩
            have k1' : ρ'.own b = ρ.own b := k1
            rw [← hρo]
            rcases hbo with hbo | hbo <;> simp [Map.ren, k1', hbo, Own.loc]
          · refine hR'.old b ?_
            rw [← hρo] at hbo
            cases hb' : ρ'.own b with
            | off => rfl
            | free => simp [Map.ren, hb', Own.loc] at hbo
            | main l =>
              simp only [Map.ren, hb', Own.loc] at hbo
              split at hbo
              · cases hbo
              · split at hbo <;> cases hbo
            | inner l i j =>
              simp only [Map.ren, hb', Own.loc] at hbo
              split at hbo
              · cases hbo
              · split at hbo <;> cases hbo
          · rw [← hρo]
            simp [Map.ren, hR'.fresh b hbo, Own.loc]
          · rw [exitRoots_len]
            have hnc : newCnt ⟨pk, rk, F⟩ y = o.go.length + i.go.length := by
              simp only [newCnt, hlenN, htl, List.length_append, p1, p2, z1]
            rw [hnc, hlenN]
            rw [← hρo] at hbl
            simp only [Map.ren] at hbl
            split at hbl
            · rename_i hn'; rw [hn'] at hbl; cases hbl
            · rename_i l' hl'
              split at hbl
              · rename_i j hj
                rw [Own.to_loc hl'] at hbl
                cases hbl
                have := (findIdx_some hj).1
                have := goList_length (o.go ++ i.go) (v1 ++ v2)
                simp only [List.length_append] at this
                omega
              · split at hbl
                · rename_i hlt
                  rw [hl'] at hbl
                  cases hbl
                  omega
                · cases hbl
          · rw [(hkeep l hl).1]
            exact (hR'.fix l (ρ.hdr l) (List.mem_map.2 ⟨l, hl, rfl⟩)).1
          · show AR P ρo w' (rt (exitRoots ⟨pk, rk, F⟩ y)) (tupA (results (entryLen ⟨pk, rk, F⟩) [] rk (tupList (OutT rk pk) y)).1) (tupV vs)
            rw [htl, hlenN]
            exact tupA_rel p3 p4
          · rcases Nat.lt_or_ge l (entryLen ⟨pk, rk, F⟩) with hlN | hlN
            · have hex : (exitIo ((pk.map PK.count).sum + o.go.length) pk i.xs).1[l]? = some (some r) := by
                have hl2 := hl
                simp only [rt, exitRoots, List.getD_eq_getElem?_getD] at hl2
                rw [hlenN, htl, p1, p2] at hl2
                have hel : (exitIo ((pk.map PK.count).sum + o.go.length) pk i.xs).1.length = (pk.map PK.count).sum := exitIo_len _ _ _ i2
                rw [List.getElem?_append_left (by rw [hel]; exact hlN)] at hl2
                cases hq : (exitIo ((pk.map PK.count).sum + o.go.length) pk i.xs).1[l]? with
                | none => rw [hq] at hl2; cases hl2
                | some q => rw [hq] at hl2; simp only [Option.getD_some] at hl2; rw [hl2]
              have := z2 l r hex
              rwa [Nat.zero_add] at this
            · obtain ⟨k, rfl⟩ : ∃ k, l = entryLen ⟨pk, rk, F⟩ + k := ⟨l - entryLen ⟨pk, rk, F⟩, by omega⟩
              have hex := exitRoots_new ⟨pk, rk, F⟩ y k
              rw [hl] at hex
              simp only [hlenN, htl, p1, p2] at hex
              by_cases hk2 : k < o.go.length
              · rw [List.getElem?_append_left (by rw [p2]; exact hk2)] at hex
                exact p5 k r hex.symm
              · rw [List.getElem?_append_right (by rw [p2]; omega), p2] at hex
                have := z3 _ r hex.symm
                rwa [show (pk.map PK.count).sum + o.go.length + (k - o.go.length) = entryLen ⟨pk, rk, F⟩ + k by rw [hlenN]; omega] at this
        · cases hk
      · cases hk
    · cases hk
  cases e with
  | exit id => cases hk
  | normal => exact fin hk
  | ret => exact fin hk

end Go.Proofs.YtgjneigkkgaaiaaGreatDoor.Vd

/- VdTop -/
namespace Go.Proofs.YtgjneigkkgaaiaaGreatDoor.Vd

variable {P : Program} [Laid P]

def tysOK (P : Program) : Nat → List (Option Ty) → Bool
  | _, [] => true
  | T, none :: r => tysOK P (T + 1) r
  | T, some t :: r => shp P t (.inl T) && tysOK P (T + 1) r

theorem tysOK_spec : ∀ (l : List (Option Ty)) (n T : Nat) (t : Ty), tysOK P n l = true → l.getD T none = some t → shp P t (.inl (n + T)) = true
  | [], n, T, t, _, h => by simp at h
  | o :: l, n, 0, t, hk, h => by
    simp only [List.getD_cons_zero] at h
    subst h
    simp only [tysOK, Bool.and_eq_true] at hk
    exact hk.1
  | o :: l, n, T + 1, t, hk, h => by
    have h2 : tysOK P (n + 1) l = true := by
      cases o with
      | none => exact hk
      | some u => simp only [tysOK, Bool.and_eq_true] at hk; exact hk.2
    have := tysOK_spec l (n + 1) T t h2 (by simpa using h)
    rwa [show n + 1 + T = n + (T + 1) by omega] at this

theorem tyOK_of {E : Env} (h1 : tysOK P 0 E.ty = true) (h2 : E.other.all (otherOK P) = true) (h3 : E.pairs.all (pairOK P) = true) : TyOK P E where
  ty := fun T t h => by
    have := tysOK_spec E.ty 0 T t h1 h
    rwa [Nat.zero_add] at this
  other := fun T h => List.all_eq_true.1 h2 T (by simpa using h)
  pair := fun T h => List.all_eq_true.1 h3 T (by simpa using h)

theorem consOK_nil {E : Env} (h : E.con = []) : ConsOK P E := fun f con hl => by
  rw [h] at hl
  cases hl

theorem consOK_cons {fx : List Nat} {ty : List (Option Ty)} {ot pa cu : List Nat} {f : Nat} {c : Con0} {l : List (Nat × Con0)} (h : ConOK P f c) (hl : ConsOK P ⟨fx, ty, ot, pa, l, cu⟩) : ConsOK P ⟨fx, ty, ot, pa, (f, c) :: l, cu⟩ := by
  intro g con hg
  simp only [lookupN] at hg
  split at hg
  · rename_i he
    cases hg
    rw [he]
    exact h
  · exact hl g con hg

/-- The function as `semF` takes it. -/
def info (fn : Func) : FnInfo := ⟨fn.body.getD .skip, fn.ntmps, fn.results.toList⟩

/-- What is checked of a function by computation. -/
def fnCheck (P : Program) (h : Hints) (fn : Func) : Bool := fn.name != "runtime.NumGoroutine" && fn.body.isSome && decide (fn.results.size ≤ 6) && codeOK P h (fn.body.getD .skip)

theorem fn_ok {E : Env} (hT : TyOK P E) (hE : ConsOK P E) {f : Nat} {fn : Func} (hf : P.funcs[f]? = some fn) {h : Hints} (hc : fnCheck P h fn = true) {pk : List PK} {rk : List (Ty × Bool)} {F : In pk → Option (Out rk pk)}
    (hF : ∀ x, semF E h (info fn) pk rk x = F x) : ConOK P f ⟨pk, rk, F⟩ := by
  simp only [fnCheck, Bool.and_eq_true, decide_eq_true_eq, bne_iff_ne, ne_eq] at hc
  obtain ⟨⟨⟨h1, h2⟩, h3⟩, h4⟩ := hc
  obtain ⟨b, hb⟩ := Option.isSome_iff_exists.1 h2
  refine semF_ok hT hE hf h1 hb h3 (b := b) (by rw [hb] at h4; exact h4) fun x => ?_
  have := hF x
  rw [info, hb] at this
  exact this

/-- A law that returns true: it is called with arguments that read as data. -/
theorem law_calls {f : Nat} {con : Con0} (hco : ConOK P f con) {x : In con.pk} {y : Out con.rk con.pk} (hy : con.F x = some y) (hrk : con.rk = [(.bool, false)]) (ht : tupList _ y = [⟨.bool, true⟩]) {w : World} {args : List Value} (hl : args.length = (insL con.pk x).length)
    (hargs : ∀ (k : Nat) p z v, (insL con.pk x)[k]? = some ⟨p, z⟩ → args[k]? = some v → ParR P (fun _ => .free) w p z v) (hmet : Met P w fun _ => .free) :
    Calls P f args.toArray w fun e w' => e = .returned (.bool true) ∧ Later w w' ∧ ∀ b, b < w.heap.size → w'.heap[b]? = w.heap[b]? := by
  obtain ⟨n1, n2, n3⟩ := entries_par (P := P) (w := w) (own := fun _ => .free) (ρ0 := ⟨fun _ => .free, fun _ => undef⟩) (Hc := rt []) (fun _ h => h) 0 (insL con.pk x) args hl hargs
  refine (hco.run x y hy w ⟨fun _ => .free, fun _ => undef⟩ args (fun _ _ => rfl) (fun _ _ h => by cases h) n2 (by rw [n1]; exact n3) (fun l r hr => by rw [n1] at hr; simp at hr) hmet).mono ?_
  rintro e w' ⟨v, ρ', rfl, hx⟩
  refine ⟨?_, hx.later, fun b hb => (hx.keep b hb (.inl rfl)).2⟩
  have hres := hx.res
  rw [ht, hrk] at hres
  have h2 : AR P ρ' w' (rt (exitRoots con y)) (.val false [.v .bool true []]) v := hres
  have h3 := AR.one.1 h2
  have h4 : [v] = [.bool true] := h3.2
  simp only [List.cons.injEq, and_true] at h4
  rw [h4]

theorem met_nil (h : Laid.tabs P = []) {w : World} {own : Nat → Own} : Met P w own := fun g cs hg => by
  rw [h] at hg
  cases hg

/-! ### Working out by the kernel -/

def forceN {β : Type} (n : Nat) (k : Nat → β) : β := match n with
  | 0 => k 0
  | m + 1 => k (m + 1)

def forceI {β : Type} (v : Int) (k : Int → β) : β := match v with
  | .ofNat n => forceN n fun n => k (.ofNat n)
  | .negSucc n => forceN n fun n => k (.negSucc n)

def forceLI {β : Type} : List Int → (List Int → β) → β
  | [], k => k []
  | a :: l, k => forceI a fun a => forceLI l fun l => k (a :: l)

theorem forceN_eq {β : Type} (n : Nat) (k : Nat → β) : forceN n k = k n := by cases n <;> rfl

theorem forceI_eq {β : Type} (v : Int) (k : Int → β) : forceI v k = k v := by cases v <;> simp only [forceI, forceN_eq]

theorem forceLI_eq {β : Type} : ∀ (l : List Int) (k : List Int → β), forceLI l k = k l
  | [], k => rfl
  | a :: l, k => by simp only [forceLI, forceI_eq, forceLI_eq l]

theorem bindO_int {β : Type} (v : Int) (f : Int → Option β) : bindO (some v) f = forceI v f := by rw [forceI_eq]; rfl

theorem bindO_ints {β : Type} (v : List Int) (f : List Int → Option β) : bindO (some v) f = forceLI v f := by rw [forceLI_eq]; rfl

theorem bindO_some {α β : Type} (v : α) (f : α → Option β) : bindO (some v) f = f v := rfl

/-! ### Functions that call themselves -/

/-- What better and better functions come to. -/
noncomputable def limO {α β : Type} (M : Nat → α → Option β) (x : α) : Option β :=
  @dite _ (∃ y, ∃ n, M n x = some y) (Classical.propDecidable _) (fun h => some (Classical.choose h)) fun _ => Option.none

theorem limO_some {α β : Type} {M : Nat → α → Option β} {x : α} {y : β} (h : limO M x = some y) : ∃ n, M n x = some y := by
  unfold limO at h
  split at h
  · rename_i hx
    cases h
    exact Classical.choose_spec hx
  · cases h

theorem limO_eq {α β : Type} {M : Nat → α → Option β} {x : α} {y : β} (h1 : ∃ n, M n x = some y) (h2 : ∀ n z, M n x = some z → z = y) : limO M x = some y := by
  unfold limO
  have hx : ∃ y, ∃ n, M n x = some y := ⟨y, h1⟩
  rw [dif_pos hx]
  obtain ⟨n, hn⟩ := Classical.choose_spec hx
  rw [h2 n _ hn]

theorem conOK_lim {f : Nat} {pk : List PK} {rk : List (Ty × Bool)} {M : Nat → In pk → Option (Out rk pk)} (h : ∀ n, ConOK P f ⟨pk, rk, M n⟩) : ConOK P f ⟨pk, rk, limO M⟩ where
  fn := (h 0).fn
  run := fun x y hy w ρ args h1 h2 h3 h4 h5 h6 => by
    obtain ⟨n, hn⟩ := limO_some hy
    exact ((h n).run x y hn w ρ args h1 h2 h3 h4 h5 h6).mono fun e w' ⟨v, ρ', he, hx⟩ => ⟨v, ρ', he, ⟨hx.later, hx.keep, hx.noOff, hx.fresh, hx.live, hx.hdr, hx.res, hx.root⟩⟩

theorem conOK_none {f : Nat} {fn : Func} (hf : P.funcs[f]? = some fn) {h : Hints} (hc : fnCheck P h fn = true) {pk : List PK} {rk : List (Ty × Bool)} : ConOK P f ⟨pk, rk, fun _ => Option.none⟩ where
  fn := by
    simp only [fnCheck, Bool.and_eq_true, decide_eq_true_eq, bne_iff_ne, ne_eq] at hc
    exact ⟨fn, hf, hc.1.1.1, hc.1.1.2⟩
  run := fun x y hy => by cases hy

/-! ### Words of the models -/

def sliceNN (n : Nat) : Option (Nat × Nat) := some (0, n)
def sliceLN (l : Int) (n : Nat) : Option (Nat × Nat) := if 0 ≤ l ∧ l ≤ n then some (l.toNat, n) else none
def sliceNH (h : Int) (n : Nat) : Option (Nat × Nat) := if 0 ≤ h ∧ h ≤ n then some (0, h.toNat) else none
def sliceLH (l h : Int) (n : Nat) : Option (Nat × Nat) := if 0 ≤ l ∧ l ≤ h ∧ h ≤ n then some (l.toNat, h.toNat) else none
def bytesOf (l : List Nat) : ByteArray := ⟨(l.map fun x => UInt8.ofNat x).toArray⟩

end Go.Proofs.YtgjneigkkgaaiaaGreatDoor.Vd

/- VdFa -/
namespace Go.Proofs.YtgjneigkkgaaiaaGreatDoor.Vd
universe u

noncomputable def setF {β : Type u} (l : List A) : Nat → A → (List A → β) → β :=
  List.rec (motive := fun _ => Nat → A → (List A → β) → β) (fun _ _ k => k [])
    (fun a l ih i v k => Nat.rec (motive := fun _ => β) (k (v :: l)) (fun j _ => ih j v fun l' => k (a :: l')) i) l

theorem setF_eq {β : Type u} : ∀ (l : List A) (i : Nat) (v : A) (k : List A → β), setF l i v k = k (l.set i v)
  | [], _, _, _ => rfl
  | _ :: _, 0, _, _ => rfl
  | a :: l, i + 1, v, k => setF_eq l i v fun l' => k (a :: l')

noncomputable def getF (l : List A) : Nat → A :=
  List.rec (motive := fun _ => Nat → A) (fun _ => .none) (fun a _ ih i => Nat.rec (motive := fun _ => A) a (fun j _ => ih j) i) l

theorem getF_eq : ∀ (l : List A) (i : Nat), getF l i = l.getD i .none
  | [], _ => rfl
  | _ :: _, 0 => rfl
  | _ :: l, i + 1 => (getF_eq l i).trans (List.getD_cons_succ ..).symm

/-- Increasing, from n on. -/
def upB : Nat → List Nat → Bool
  | _, [] => true
  | n, i :: r => Nat.ble n i && upB (i + 1) r

def kill2 : Nat → List A → List Nat → List A
  | _, fr, [] => fr
  | _, [], _ => []
  | n, a :: fr, i :: ks => cond (Nat.beq i n) (.any :: kill2 (n + 1) fr ks) (a :: kill2 (n + 1) fr (i :: ks))

theorem killSlots_nil : ∀ ks : List Nat, killSlots [] ks = []
  | [] => rfl
  | _ :: r => killSlots_nil r

theorem killSlots_succ (a : A) : ∀ (ks : List Nat) (fr : List A), killSlots (a :: fr) (ks.map Nat.succ) = a :: killSlots fr ks
  | [], _ => rfl
  | _ :: r, _ => killSlots_succ a r _

theorem upB_map : ∀ (ks : List Nat) (n m : Nat), n < m → upB m ks = true → ks.map (fun x => x - n) = (ks.map fun x => x - (n + 1)).map Nat.succ
  | [], _, _, _, _ => rfl
  | i :: r, n, m, h, hu => by
    simp only [upB, Bool.and_eq_true, Nat.ble_eq] at hu
    simp only [List.map_cons]
    rw [upB_map r n (i + 1) (by omega) hu.2]
    congr 1
    omega

theorem kill2_eq : ∀ (fr : List A) (n : Nat) (ks : List Nat), upB n ks = true → kill2 n fr ks = killSlots fr (ks.map fun x => x - n)
  | [], n, [], _ => rfl
  | _ :: _, n, [], _ => rfl
  | [], n, i :: ks, _ => (killSlots_nil _).symm
  | a :: fr, n, i :: ks, h => by
    have h0 := h
    simp only [upB, Bool.and_eq_true, Nat.ble_eq] at h
    unfold kill2
    by_cases e : i = n
    · subst e
      rw [Nat.beq_refl, cond_true, kill2_eq fr (i + 1) ks h.2, List.map_cons, Nat.sub_self, upB_map ks i (i + 1) (by omega) h.2]
      exact (killSlots_succ .any _ fr).symm
    · rw [show Nat.beq i n = false from by cases hb : Nat.beq i n with
        | false => rfl
        | true => exact absurd (Nat.eq_of_beq_eq_true hb) e, cond_false]
      have hu : upB (n + 1) (i :: ks) = true := by
        simp only [upB, Bool.and_eq_true, Nat.ble_eq]
        exact ⟨by omega, h.2⟩
      rw [kill2_eq fr (n + 1) (i :: ks) hu, upB_map (i :: ks) n (n + 1) (by omega) hu]
      exact (killSlots_succ a _ fr).symm

def killF (fr : List A) (ks : List Nat) : List A := cond (upB 0 ks) (kill2 0 fr ks) (killSlots fr ks)

theorem killF_eq (fr : List A) (ks : List Nat) : killF fr ks = killSlots fr ks := by
  unfold killF
  cases h : upB 0 ks with
  | false => rfl
  | true =>
    rw [cond_true, kill2_eq fr 0 ks h]
    congr 1
    exact (List.map_congr_left fun x _ => Nat.sub_zero x).trans (List.map_id _)

def S.atF (s : S) (t : Tm) (x : Its t.items) : S :=
  let s1 := s.opened t
  { ({ s1 with fr := killF s1.fr t.kill, H := blankAll (dropAll s1.H (t.items.flatMap s.ownLoc)) (t.items.flatMap s.boxLoc), dF := [], dH := [] } : S).gives t.items x with dF := [], dH := [] }

theorem S.atF_eq (s : S) (t : Tm) (x : Its t.items) : s.atF t x = s.at t x := by
  unfold S.atF S.at
  dsimp only
  rw [killF_eq]

noncomputable def S.evalF (s : S) : Operand → A
  | .tmp t => getF s.fr t
  | .const v => constA v
  | .global _ => .u
  | .func f => .c (.clo f [] [])

theorem S.evalF_eq (s : S) : s.evalF = s.eval := funext fun o => by
  cases o with
  | tmp t => exact getF_eq _ _
  | _ => rfl

noncomputable def S.putF {β : Type u} (s : S) (dst : Option Nat) (v : A) (k : S → β) : β := match dst with
  | some i => setF s.fr i v fun fr => k { s with fr := fr, dF := i :: s.dF }
  | Option.none => k s

theorem S.putF_eq {β : Type u} (s : S) (dst : Option Nat) (v : A) (k : S → β) : s.putF dst v k = k (s.put dst v) := by
  cases dst with
  | none => rfl
  | some i => simp only [S.putF, setF_eq, S.put]

theorem hitC_nil (c : C) : C.hit ⟨[], []⟩ c = false := by
  cases c <;> simp [C.hit, lookupN]

theorem A.hit_nil (a : A) : A.hit ⟨[], []⟩ a = false := by
  cases a <;> simp [A.hit, hitC_nil]

theorem Root.hit_nil (r : Root) : Root.hit ⟨[], []⟩ r = false := by
  cases r <;> simp [Root.hit, hitC_nil]

noncomputable def S.applyF {β : Type u} (s : S) (dst : Option Nat) (d : Delta) (k : S → β) : β := match d.kill, d.mov, d.set with
  | [], [], [] => d.dst.force fun v => s.putF dst v k
  | _, _, _ => (s.apply dst d).force k

theorem S.applyF_eq {β : Type u} (s : S) (dst : Option Nat) (d : Delta) (k : S → β) : s.applyF dst d k = k (s.apply dst d) := by
  unfold S.applyF
  split
  · rename_i h1 h2 h3
    rw [A.force_eq, S.putF_eq]
    congr 1
    obtain ⟨x, se, ki, mo⟩ := d
    dsimp only at h1 h2 h3
    subst h1 h2 h3
    rfl
  · exact S.force_eq _ _

def neF (o : Option Nat) (x : Nat) : Bool := match o with
  | some y => !(Nat.beq y x)
  | Option.none => true

theorem neF_eq (o : Option Nat) (x : Nat) : neF o x = (o != some x) := by
  cases o with
  | none => rfl
  | some y =>
    show (!(Nat.beq y x)) = (some y != some x)
    by_cases h : y = x
    · subst h
      rw [Nat.beq_refl]
      simp
    · have hb : Nat.beq y x = false := by
        cases hb : Nat.beq y x with
        | false => rfl
        | true => exact absurd (Nat.eq_of_beq_eq_true hb) h
      rw [hb]
      simp [h]

def bitF (m i : Nat) : Bool := Nat.beq (Nat.mod (Nat.shiftRight m i) 2) 1

theorem bitF_eq (m i : Nat) : bitF m i = m.testBit i := by
  rw [Nat.testBit_eq_decide_div_mod_eq]
  unfold bitF
  rw [show Nat.mod (Nat.shiftRight m i) 2 = m / 2 ^ i % 2 from by rw [← Nat.shiftRight_eq_div_pow]; rfl]
  rcases Nat.mod_two_eq_zero_or_one (m / 2 ^ i) with h | h <;> rw [h] <;> rfl

/-- q leaves alone what p reads, in state s: quicker. -/
def Did.clearF (s : S) (p q : Did) : Bool :=
  p.slots.all (fun x => neF q.dst x) && (q.d.kill.isEmpty || p.slots.all fun x => !(s.fr.getD x .none).hit ⟨q.d.kill, []⟩) &&
  ((q.d.set.isEmpty && q.d.kill.isEmpty) || p.look.all fun lr => !sets q.d lr.1 && match s.root lr.1 with
    | some r => !r.hit ⟨q.d.kill, []⟩
    | Option.none => true)

theorem all_and {α : Type} (l : List α) (f g : α → Bool) : (l.all fun x => f x && g x) = (l.all f && l.all g) := by
  induction l with
  | nil => rfl
  | cons a l ih =>
    simp only [List.all_cons, ih]
    cases f a <;> cases g a <;> cases l.all f <;> cases l.all g <;> rfl

theorem Did.clearF_eq (s : S) (p q : Did) : Did.clearF s p q = Did.clear s p q := by
  unfold Did.clearF Did.clear
  simp only [all_and, neF_eq]
  obtain ⟨qi, qm, qs, ql, qn, qk, qp, qd, x, se, ki, mo⟩ := q
  cases ki with
  | cons c ki =>
    simp only [List.isEmpty_cons, Bool.false_or, Bool.and_false]
    rfl
  | nil =>
    have hA : (p.slots.all fun x => !(s.fr.getD x .none).hit ⟨[], []⟩) = true := List.all_eq_true.2 fun x _ => by rw [A.hit_nil]; rfl
    have hR : (p.look.all fun lr => match s.root lr.1 with
        | some r => !r.hit ⟨[], []⟩
        | Option.none => true) = true := List.all_eq_true.2 fun lr _ => by
          cases s.root lr.1 with
          | none => rfl
          | some r => simp only [Root.hit_nil, Bool.not_false]
    cases se with
    | cons u se =>
      simp only [List.isEmpty_cons, List.isEmpty_nil, Bool.true_or, Bool.false_or, Bool.and_true, hA]
      rfl
    | nil =>
      have hS : (p.look.all fun lr => !sets ⟨x, [], [], mo⟩ lr.1) = true := List.all_eq_true.2 fun lr _ => rfl
      simp only [List.isEmpty_nil, Bool.true_or, Bool.and_true, Bool.true_and, hA, hS]
      refine (Bool.and_true _).symm.trans (congrArg _ ?_)
      exact hR.symm

/-- Two operations (p the earlier) whose order is open: quicker. -/
def Did.freeF (p q : Did) : Bool := p.d.mov.isEmpty && q.d.mov.isEmpty && (match p.dst with
  | some x => neF q.dst x
  | Option.none => true) && Did.clearF p.pre p q && Did.clearF p.pre q p && p.spares q && q.spares p && p.apart q

theorem Did.freeF_eq (p q : Did) : Did.freeF p q = Did.free p q := by
  unfold Did.freeF Did.free
  simp only [Did.clearF_eq, neF_eq]
  rfl

def didsOkF : List Did → Bool
  | [] => true
  | q :: r => (r.all fun p => bitF q.mask p.i || Did.freeF p q) && didsOkF r

theorem didsOkF_eq : ∀ l : List Did, didsOkF l = didsOk l
  | [] => rfl
  | q :: r => by simp only [didsOkF, didsOk, didsOkF_eq r, Did.freeF_eq, bitF_eq]

end Go.Proofs.YtgjneigkkgaaiaaGreatDoor.Vd

/- VdFb -/
namespace Go.Proofs.YtgjneigkkgaaiaaGreatDoor.Vd

noncomputable def drawF {β : Type} (E : Env) (ops : Array Oper) (top : Nat) : List Oper → (i nx : Nat) → (masks : List Nat) → (acc : List Did) → S → (List Did → S → Option β) → Option β
  | [], _, _, _, acc, s, k => k acc s
  | o :: rest, i, nx, masks, acc, s, k =>
    let m := maskOf masks o
    let sl := Oper.slots ops o
    let n := opNames E o
    let skip : S → Option β := fun s => s.putF o.dst .none fun s' => drawF E ops top rest (i + 1) (nx + n) (masks ++ [m]) (⟨i, m, sl, [], nx, n, s, o.dst, { dst := .none }⟩ :: acc) s' k
    let run : S → Option β := fun s => let lk := if looks o then s.look sl else []
      (opR E o s.evalF ⟨fun l => lookupN l lk, if n == 0 then top else nx⟩).runS fun d => d.share (shares o) fun d =>
        if d.set.all fun u => decide (u.1 < nx + n) then
          s.applyF o.dst d fun s' => drawF E ops top rest (i + 1) (nx + n) (masks ++ [m]) (⟨i, m, sl, lk, nx, n, s, o.dst, d⟩ :: acc) s' k
        else Option.none
    match o.guard with
    | Option.none => run s
    | some (j, want) => if !m.testBit j then Option.none else
      match (match ops[j]? with | some oj => oj.dst | Option.none => Option.none) with
      | Option.none => Option.none
      | some g => match getF s.fr g with
        | .none => skip s
        | .val false [.v .bool b []] =>
          cond b (if want then setF s.fr g (litB true) fun fr => run { s with fr := fr } else setF s.fr g (litB true) fun fr => skip { s with fr := fr })
            (if want then setF s.fr g (litB false) fun fr => skip { s with fr := fr } else setF s.fr g (litB false) fun fr => run { s with fr := fr })
        | _ => Option.none

theorem drawF_eq {β : Type} (E : Env) (ops : Array Oper) (top : Nat) : ∀ (rest : List Oper) (i nx : Nat) (masks : List Nat) (acc : List Did) (s : S) (k : List Did → S → Option β), drawF E ops top rest i nx masks acc s k = drawR E ops top rest i nx masks acc s k
  | [], _, _, _, _, _, _ => rfl
  | o :: rest, i, nx, masks, acc, s, k => by
    have ih := fun i nx masks acc s => drawF_eq E ops top rest i nx masks acc s k
    unfold drawF drawR
    simp only [ih, S.putF_eq, S.applyF_eq, S.force_eq, setF_eq, S.evalF_eq, getF_eq]
    rfl

noncomputable def drawSF {β : Type} (E : Env) (ops : Array Oper) (s : S) (k : S → Option β) : Option β :=
  let n := (ops.toList.map (opNames E)).sum
  let s0 := { s with H := s.H ++ List.replicate n (some .gap) }
  drawF E ops (s.H.length + n) ops.toList 0 s.H.length [] [] s0 fun acc s' => if didsOkF acc then k s' else drawX E ops k (ops.size + 1) 0 s

theorem drawSF_eq {β : Type} (E : Env) (ops : Array Oper) (s : S) (k : S → Option β) : drawSF E ops s k = drawS E ops s k := by
  unfold drawSF drawS
  simp only [drawF_eq, didsOkF_eq]

noncomputable def opsF {β : Type} (E : Env) (ops : Array Oper) : List Oper → S → (S → Option β) → Option β
  | [], s, k => k s
  | o :: rest, s, k =>
    match o.guard with
    | Option.none => (opR E o s.evalF s.view).run fun d => d.share (shares o) fun d => s.applyF o.dst d fun s' => opsF E ops rest s' k
    | some (j, want) =>
      match (match ops[j]? with | some oj => oj.dst | Option.none => Option.none) with
      | Option.none => Option.none
      | some g => match getF s.fr g with
        | .none => s.putF o.dst .none fun s' => opsF E ops rest s' k
        | .val false [.v .bool b _] =>
          cond b
            (s.putF (some g) (litB true) fun s' =>
             if want then (opR E o s'.evalF s'.view).run fun d => d.share (shares o) fun d => s'.applyF o.dst d fun s2 => opsF E ops rest s2 k else s'.putF o.dst .none fun s2 => opsF E ops rest s2 k)
            (s.putF (some g) (litB false) fun s' =>
             if want then s'.putF o.dst .none fun s2 => opsF E ops rest s2 k else (opR E o s'.evalF s'.view).run fun d => d.share (shares o) fun d => s'.applyF o.dst d fun s2 => opsF E ops rest s2 k)
        | _ => Option.none

theorem opsF_eq {β : Type} (E : Env) (ops : Array Oper) : ∀ (rest : List Oper) (s : S) (k : S → Option β), opsF E ops rest s k = opsR E ops rest s k
  | [], _, _ => rfl
  | o :: rest, s, k => by
    have ih := fun s => opsF_eq E ops rest s k
    unfold opsF opsR
    simp only [ih, S.putF_eq, S.applyF_eq, S.force_eq, S.evalF_eq, getF_eq]
    rfl

end Go.Proofs.YtgjneigkkgaaiaaGreatDoor.Vd

/- VdFc -/
namespace Go.Proofs.YtgjneigkkgaaiaaGreatDoor.Vd

noncomputable def semCF {β : Type} (E : Env) (h : Hints) : (cur : Nat) → Code → S → (Out1 → S → Option β) → Option β
  | _, .skip, s, K => K .normal s
  | cur, .seq a b, s, K => semCF E h cur a s fun e s' => match e with
    | .normal => semCF E h cur b s' K
    | e => K e s'
  | cur, .cond c a b, s, K => match s.eval c with
    | .val false [.v .bool x _] => cond x (semCF E h cur a s K) (semCF E h cur b s K)
    | _ => Option.none
  | _, .block id b, s, K => semCF E h id b s fun e s' => match e with
    | .exit i => if i = id then K .normal s' else K (.exit i) s'
    | e => K e s'
  | _, .exit id, s, K => K (.exit id) s
  | _, .ret, s, K => K .ret s
  | _, .region _ ops true, s, K => drawSF E ops s (K .normal)
  | _, .region _ ops false, s, K => opsF E ops ops.toList s (K .normal)
  | cur, .loop body, s, K => match lookupN cur h.loops with
    | some t => (s.entered E t).force fun s => if !s.fitIn E t then Option.none else match s.takes t.items with
      | some x0 => loopO (fun again x => (s.atF t x).force fun s1 => semCF E h cur body s1 fun e s' => match e with
        | .normal => s.onward s' t again
        | e => (s'.back s t).force fun s2 => K e s2) x0
      | Option.none => Option.none
    | Option.none => Option.none
  | _, _, _, _ => Option.none

theorem semCF_eq {β : Type} (E : Env) (h : Hints) (c : Code) : ∀ (cur : Nat) (s : S) (K : Out1 → S → Option β), semCF E h cur c s K = semC E h cur c s K := by
  induction c with
  | seq a b iha ihb =>
    intro cur s K
    simp only [semCF, semC, iha, ihb]
    rfl
  | cond c a b iha ihb =>
    intro cur s K
    simp only [semCF, semC, iha, ihb]
    rfl
  | block id b ih =>
    intro cur s K
    simp only [semCF, semC, ih]
    rfl
  | loop b ih =>
    intro cur s K
    simp only [semCF, semC, ih, S.atF_eq]
    rfl
  | region id ops d =>
    intro cur s K
    cases d with
    | true => simp only [semCF, semC, drawSF_eq]
    | false => simp only [semCF, semC, opsF_eq]
  | _ => intros; rfl

noncomputable def semFF (E : Env) (h : Hints) (fn : FnInfo) (pk : List PK) (rk : List (Ty × Bool)) (x : In pk) : Option (Out rk pk) :=
  let r := entriesL 0 (insL pk x)
  let E' := { E with fix := stays 0 pk, cuts := h.cuts }
  let s0 : S := { fr := r.1 ++ List.replicate (fn.ntmps - r.1.length) .none, H := r.2.map some, dF := [], dH := [] }
  s0.force fun s0 => semCF E' h 0 fn.body s0 fun e s => match e with
    | .exit _ => Option.none
    | _ => match resCells E s fn.results with
      | some as => match s.view.outs rk as, s.view.ios 0 (insL pk x) with
        | some o, some i => if wentApart pk (o.app i) then fillP (OutT rk pk) (o.app i).xs else Option.none
        | _, _ => Option.none
      | Option.none => Option.none

theorem semFF_eq (E : Env) (h : Hints) (fn : FnInfo) (pk : List PK) (rk : List (Ty × Bool)) (x : In pk) : semFF E h fn pk rk x = semF E h fn pk rk x := by
  unfold semFF semF
  simp only [semCF_eq]
  rfl

end Go.Proofs.YtgjneigkkgaaiaaGreatDoor.Vd

/- VdEnd -/
namespace Go.Proofs.YtgjneigkkgaaiaaGreatDoor.Vd
open Go.ChangeShapes Go.WideShapes Go.ChangeAt Go.RowKit

/-- What the row asks of a call that left old memory alone. -/
theorem post_of_kept {H : Type} {enc : TypeId × Value → H} {P : Program} {f : Func} {s : ChangeSpec} {apart fresh handsOn again : Bool} {W W' : World} {args : Array Value} {v : Value} {ds gs : List (DataW H)} {before pa pv : List MemPlace}
    (hW : DataW.Whole enc P f.params.toList s.vars apart W args.toList ds gs before)
    (hres : ∀ (b : Nat) (sp : Nat → Bool) (hd : Bool), DataW.TrodAll enc P W' b sp hd f.resultTypes.toList (v.resultList f.resultTypes.size) (s.fn H (ds ++ gs)).results [])
    (hargs : ∀ sp : Nat → Bool, (∀ p ∈ before, sp p.block = true) → DataW.TrodAll enc P W' 0 sp true f.params.toList args.toList (s.fn H (ds ++ gs)).args pa)
    (hvars : ∀ sp : Nat → Bool, (∀ p ∈ before, sp p.block = true) → DataW.TrodVars enc P W' sp s.vars (s.fn H (ds ++ gs)).vars pv)
    (hps : before = pa ++ pv) (hl : Later W W') (hb : ∀ b, b < W.heap.size → W'.heap[b]? = W.heap[b]?)
    (hok : ∀ (j : Nat) (t : TypeId) (r : Value), f.resultTypes[j]? = some t → (v.resultList f.resultTypes.size)[j]? = some r → Value.okWide P W' .any 0 t r) :
    s.post enc P f apart fresh handsOn again W args v W' := by
  have hbel : Below W.heap.size W W' := ⟨hl.os, hl.tape, hl.output, hl.size, hb⟩
  have hlt := hW.lt
  have hold : ∀ p ∈ before, (fun b => decide (b < W.heap.size)) p.block = true := fun p hp => by simpa using hlt p hp
  refine ⟨ds, gs, before, [], pa, pv, hW, hres _ _ _, hargs _ hold, hvars _ hold, World.keptBut_mono (fun p hp => ⟨hp, ?_⟩) (hbel.frame (· ∈ before)), fun _ => ?_⟩
  · rw [hps, List.mem_append] at hp
    exact Or.inr hp
  · obtain ⟨_, _, _, _, _, hz, hn⟩ := hW
    refine ⟨hok, _, _, ([] ++ pa) ++ pv, ⟨[] ++ pa, pv, trodAll_append (hargs _ (fun _ _ => rfl)) (hres _ _ _), hvars _ (fun _ _ => rfl), rfl, ?_, ?_⟩, ?_⟩
    · intro b off hp
      have hmem : MemPlace.cell b off ∈ before := by rw [hps]; simpa using hp
      rw [hbel.frozen (p := ⟨b, off, none⟩) (hlt _ hmem)]
      exact hz b off hmem
    · intro ha
      have := hn ha
      rw [hps] at this
      simpa using this
    · intro p hp _
      rw [hps]
      simpa using hp

end Go.Proofs.YtgjneigkkgaaiaaGreatDoor.Vd

/- VdIn -/
namespace Go.Proofs.YtgjneigkkgaaiaaGreatDoor.Vd
open Go.ChangeShapes Go.WideShapes Go.ChangeAt Go.RowKit

/-- What every Go datum fulfils. -/
def WF : (t : Ty) → t.D → Prop
  | .int k, n => k.min ≤ n ∧ n ≤ k.max
  | .bool, _ => True
  | .str, x => x.size ≤ maxLen
  | .sl e, xs => xs.length ≤ maxLen ∧ ∀ x ∈ xs, WF e x
  | .one h, x => WF h x
  | .cons h t, x => WF h x.1 ∧ WF t x.2

theorem list_of {α : Type} {p : Nat → α → Prop} : ∀ (n : Nat), (∀ i, i < n → ∃ y, p i y) → ∃ l : List α, l.length = n ∧ ∀ i y, l[i]? = some y → p i y
  | 0, _ => ⟨[], rfl, fun i y h => by simp at h⟩
  | n + 1, h => by
    obtain ⟨l, h1, h2⟩ := list_of n fun i hi => h i (by omega)
    obtain ⟨y, hy⟩ := h n (by omega)
    refine ⟨l ++ [y], by simp [h1], fun i z hz => ?_⟩
    by_cases hi : i < l.length
    · rw [List.getElem?_append_left hi] at hz
      exact h2 i z hz
    · rw [List.getElem?_append_right (by omega)] at hz
      have hlt := (List.getElem?_eq_some_iff.1 hz).1
      simp at hlt
      have : i = n := by omega
      subst this
      rw [h1] at hz
      simp at hz
      subst hz
      exact hy

section
variable {H : Type} {enc : TypeId × Value → H} {P : Program} {w : World} {base : Nat} {sp : Nat → Bool} {held : Bool}

theorem shp.cellsOf {t : Ty} {T : TypeId} (h : shp P t (.inl T) = true) : P.cellsOf T = t.size := by
  obtain ⟨i, z, hi, h1, _⟩ := infoOK.spec (shp.info h)
  simp [Program.cellsOf, hi, h1]

theorem trod_array {n : Nat} {e t : TypeId} {fuel : Nat} {cs : List Value} {x : DataW H × List MemPlace} (ht : P.underlying t = some (.array n e)) (h : DataW.trod enc P w base sp held fuel t cs = some x) :
    ∃ m, fuel = m + 1 ∧ cs.length = P.cellsOf t ∧ ∀ i, i < n → ∃ y, DataW.trod enc P w base sp held m e ((cs.drop (i * P.cellsOf e)).take (P.cellsOf e)) = some y := by
  cases fuel with
  | zero => simp [DataW.trod] at h
  | succ m =>
    unfold DataW.trod at h
    rw [ht] at h
    split at h <;> simp_all
    obtain ⟨hl, xs, hp, hd⟩ := h
    intro i hi
    have := mapM_some_get hp i i (by simp [hi])
    have hlen := mapM_some_length hp
    rw [List.length_range] at hlen
    rw [this]
    exact ⟨xs[i].1, xs[i].2, by simp [List.getElem?_eq_getElem (show i < xs.length by omega)]⟩

theorem trod_fields {fuel : Nat} {T : TypeId} {cs : List Value} {x : DataW H × List MemPlace} {fs : List (TypeId × Nat)} (hf : fieldsOf P T = some fs) (h : DataW.trod enc P w base sp held fuel T cs = some x) :
    ∃ m, cs.length = P.cellsOf T ∧ ∀ (k : Nat) T' o, fs[k]? = some (T', o) → ∃ y, DataW.trod enc P w base sp held m T' ((cs.drop o).take (P.cellsOf T')) = some y := by
  unfold fieldsOf at hf
  split at hf
  · rename_i gs hg
    cases hf
    obtain ⟨xs, n, rfl, rfl, hl, hlen, he⟩ := DataW.trod_struct hg h
    refine ⟨n, hl, fun k T' o hk => ?_⟩
    rw [List.getElem?_map] at hk
    cases hgk : gs.toList[k]? with
    | none => rw [hgk] at hk; cases hk
    | some f =>
      rw [hgk] at hk
      simp only [Option.map_some, Option.some.injEq, Prod.mk.injEq] at hk
      obtain ⟨rfl, rfl⟩ := hk
      have hkf : gs[k]? = some f := by simpa using hgk
      have hlt := (Array.getElem?_eq_some_iff.1 hkf).1
      rw [he k f hkf]
      exact ⟨xs[k]'(by omega), List.getElem?_eq_getElem _⟩
  · rename_i n e hg
    split at hf
    · rename_i i hi
      cases hf
      obtain ⟨m, rfl, hl, he⟩ := trod_array hg h
      refine ⟨m, hl, fun k T' o hk => ?_⟩
      rw [List.getElem?_map] at hk
      cases hgk : (List.range n)[k]? with
      | none => rw [hgk] at hk; cases hk
      | some j =>
        have hlt := (List.getElem?_eq_some_iff.1 hgk).1
        simp at hlt
        have hj : j = k := by
          rw [List.getElem?_range hlt] at hgk
          cases hgk
          rfl
        subst hj
        rw [hgk] at hk
        simp only [Option.map_some, Option.some.injEq, Prod.mk.injEq] at hk
        obtain ⟨rfl, rfl⟩ := hk
        have hc : P.cellsOf e = i.size := by simp [Program.cellsOf, hi]
        have := he j hlt
        rw [hc] at this
        rw [hc]
        exact this
    · cases hf
  · cases hf

theorem cells?_get {a : Addr} {n : Nat} {cs : List Value} (h : w.cells? base a n = some cs) : ∀ j u, cs[j]? = some u → w.cell? (a.add j) = some u := by
  unfold World.cells? at h
  split at h
  · intro j u hu
    have hlen := mapM_some_length h
    have hlt := (List.getElem?_eq_some_iff.1 hu).1
    have := mapM_some_get h j j (by rw [List.length_range] at hlen; rw [List.getElem?_range (by omega)])
    rw [this]
    exact hu
  · cases h

theorem trod_rd {A : Nat → Prop} (hA : ∀ b, A b) : ∀ (t : Ty),
    (∀ T fuel cs x, shp P t (.inl T) = true → DataW.trod enc P w base sp held fuel T cs = some x → ∃ y : t.D, Rd w A t y cs ∧ WF t y) ∧
    (∀ (fs : List (TypeId × Nat)) (off : Nat) (cs : List Value) (fuel : Nat), shp P t (.inr (fs, off)) = true → (∀ (k : Nat) T' o, fs[k]? = some (T', o) → ∃ x, DataW.trod enc P w base sp held fuel T' ((cs.drop o).take (P.cellsOf T')) = some x) → off + t.size ≤ cs.length →
      ∃ y : t.D, Rd w A t y ((cs.drop off).take t.size) ∧ WF t y) := by
  intro t
  induction t with
  | int k =>
    refine ⟨fun T fuel cs x hs h => ?_, fun fs off cs fuel hs => by simp [shp] at hs⟩
    obtain ⟨n, rfl, _, hw⟩ := DataW.trod_int (shp.int hs) h
    simp only [Lit.wf, Bool.and_eq_true, decide_eq_true_eq] at hw
    exact ⟨n, rfl, hw⟩
  | bool =>
    refine ⟨fun T fuel cs x hs h => ?_, fun fs off cs fuel hs => by simp [shp] at hs⟩
    obtain ⟨b, rfl, _⟩ := DataW.trod_bool (shp.bool hs) h
    exact ⟨b, rfl, trivial⟩
  | str =>
    refine ⟨fun T fuel cs x hs h => ?_, fun fs off cs fuel hs => by simp [shp] at hs⟩
    obtain ⟨b, rfl, _, hz⟩ := DataW.trod_string (shp.str hs) h
    exact ⟨b, rfl, hz⟩
  | sl e ih =>
    refine ⟨fun T fuel cs x hs h => ?_, fun fs off cs fuel hs => by simp [shp] at hs⟩
    obtain ⟨T', hu, hs'⟩ := (shp.slice hs)
    rcases DataW.trod_slice hu h with ⟨rfl, _⟩ | ⟨a, len, cap, elems, rest, n, rfl, rfl, _, hb, hl, hc, hlen, he, _, _⟩
    · exact ⟨[], ⟨none, 0, rfl, Nat.le_refl _, fun h => absurd rfl h⟩, Nat.zero_le _, fun x hx => by cases hx⟩
    · have hce := (shp.cellsOf hs')
      have each : ∀ i, i < len → ∃ y : e.D, (∃ us, Rd w A e y us ∧ ∀ j u, us[j]? = some u → w.cell? ((a.add (i * e.size)).add j) = some u) ∧ WF e y := by
        intro i hi
        have h1 := he i hi
        rw [List.getElem?_eq_getElem (by omega), Option.bind_eq_some_iff] at h1
        obtain ⟨us, hus, htr⟩ := h1
        obtain ⟨y, hy, hwf⟩ := ih.1 T' n us _ hs' htr
        rw [hce] at hus
        exact ⟨y, ⟨us, hy, cells?_get hus⟩, hwf⟩
      obtain ⟨ys, hys, hget⟩ := list_of len each
      refine ⟨ys, ⟨some a, cap, by rw [hys], by omega, fun hne => ?_⟩, by omega, fun y hy => ?_⟩
      · have hspot : a.spot = none := by
          have h0 : 0 < ys.length := List.length_pos_iff.2 hne
          obtain ⟨⟨us, h1, h2⟩, _⟩ := hget 0 ys[0] (List.getElem?_eq_getElem h0)
          have hul := h1.length
          have := Ty.size_pos e
          have h3 := h2 0 us[0] (List.getElem?_eq_getElem (by omega))
          simp only [Nat.zero_mul, Addr.add, if_true] at h3
          unfold World.cell? at h3
          split at h3
          · split at h3
            · cases h3
            · rename_i hsp
              simpa using hsp
          · cases h3
        obtain ⟨b, o, s⟩ := a
        dsimp only at hspot
        subst hspot
        refine ⟨b, o, rfl, hA b, fun i y hy => ?_⟩
        obtain ⟨⟨us, h1, h2⟩, _⟩ := hget i y hy
        refine ⟨us, h1, fun j u hu => ?_⟩
        have := h2 j u hu
        have e1 : ((⟨b, o, none⟩ : Addr).add (i * e.size)).add j = ⟨b, o + i * e.size + j, none⟩ := by
          unfold Addr.add
          by_cases hi0 : i * e.size = 0
          · rw [if_pos hi0, hi0]
            by_cases hj0 : j = 0
            · rw [if_pos hj0, hj0]
              rfl
            · rw [if_neg hj0]
              rfl
          · rw [if_neg hi0]
            by_cases hj0 : j = 0
            · rw [if_pos hj0, hj0]
              rfl
            · rw [if_neg hj0]
        rwa [e1] at this
      · obtain ⟨i, hi⟩ := List.mem_iff_getElem?.1 hy
        exact (hget i y hi).2
  | one u ih =>
    refine ⟨fun T fuel cs x hs h => ?_, fun fs off cs fuel hs hf hlen => ?_⟩
    · have hcs := shp.cellsOf hs
      simp only [shp, Bool.and_eq_true] at hs
      obtain ⟨_, hs⟩ := hs
      split at hs
      · rename_i T' hfo
        obtain ⟨m, hl, he⟩ := trod_fields hfo h
        obtain ⟨y, hy⟩ := he 0 T' 0 rfl
        rw [List.drop_zero, List.take_of_length_le (by rw [hl, hcs, shp.cellsOf hs]; exact Nat.le_refl _)] at hy
        exact ih.1 T' m cs y hs hy
      · cases hs
    · match fs, hs with
      | [(T', o)], hs2 =>
        simp only [shp, Bool.and_eq_true, beq_iff_eq] at hs2
        obtain ⟨rfl, hs3⟩ := hs2
        obtain ⟨x, hx⟩ := hf 0 T' o rfl
        rw [shp.cellsOf hs3] at hx
        exact ih.1 T' fuel _ x hs3 hx
  | cons u v ih1 ih2 =>
    refine ⟨fun T fuel cs x hs h => ?_, fun fs off cs fuel hs hf hlen => ?_⟩
    · have hcs := shp.cellsOf hs
      simp only [shp, Bool.and_eq_true] at hs
      obtain ⟨_, hs⟩ := hs
      split at hs
      · rename_i T' fs hfo
        simp only [Bool.and_eq_true] at hs
        obtain ⟨m, hl, he⟩ := trod_fields hfo h
        rw [hcs] at hl
        simp only [Ty.size] at hl
        obtain ⟨y, hy⟩ := he 0 T' 0 rfl
        rw [List.drop_zero, shp.cellsOf hs.1] at hy
        obtain ⟨z1, r1, f1⟩ := ih1.1 T' m _ y hs.1 hy
        obtain ⟨z2, r2, f2⟩ := ih2.2 fs u.size cs m hs.2 (fun k T2 o hk => he (k + 1) T2 o (by simpa using hk)) (by omega)
        refine ⟨(z1, z2), ⟨_, _, ?_, r1, r2⟩, f1, f2⟩
        rw [List.take_of_length_le (l := cs.drop u.size) (by rw [List.length_drop]; omega), List.take_append_drop]
      · cases hs
    · match fs, hs with
      | (T', o) :: fs, hs =>
        simp only [shp, Bool.and_eq_true, beq_iff_eq] at hs
        obtain ⟨⟨rfl, hs1⟩, hs2⟩ := hs
        simp only [Ty.size] at hlen
        obtain ⟨x, hx⟩ := hf 0 T' o rfl
        rw [shp.cellsOf hs1] at hx
        obtain ⟨z1, r1, f1⟩ := ih1.1 T' fuel _ x hs1 hx
        obtain ⟨z2, r2, f2⟩ := ih2.2 fs (o + u.size) cs fuel hs2 (fun k T2 o hk => hf (k + 1) T2 o (by simpa using hk)) (by omega)
        refine ⟨(z1, z2), ⟨_, _, ?_, r1, r2⟩, f1, f2⟩
        rw [Ty.size, List.take_add, List.drop_drop]

theorem trod_vd {A : Nat → Prop} (hA : ∀ b, A b) {t : Ty} {T : TypeId} {v : Value} {d : DataW H} {ps : List MemPlace} {r : Reach} {b0 : Nat} {W : World} (hs : shp P t (.inl T) = true) (hval : Value.okWide P W r b0 T v)
    (h : DataW.Trod enc P w base sp held T v d ps) : ∃ y : t.D, VD w A t y v ∧ WF t y := by
  obtain ⟨fuel, h⟩ := h
  obtain ⟨y, hy, hwf⟩ := (trod_rd hA t).1 T fuel _ _ hs h
  refine ⟨y, ⟨_, hy, ?_⟩, hwf⟩
  have agg : ∀ fs, fieldsOf P T = some fs → v = .agg v.cells.toList.toArray := fun fs hf => by
    unfold fieldsOf at hf
    unfold Value.okWide at hval
    split at hf
    · rename_i g hg
      rw [hg] at hval
      obtain ⟨cs, rfl, _⟩ := hval
      simp [Value.cells]
    · rename_i n e hg
      rw [hg] at hval
      obtain ⟨cs, rfl, _⟩ := hval
      simp [Value.cells]
    · cases hf
  have flat : ∀ u, P.underlying T = some u → (∀ fs, u ≠ .struct fs) → (∀ n e, u ≠ .array n e) → v.cells.toList = [v] ∨ (∀ x, v.cells.toList ≠ [x]) ∨ (∃ x, v = .agg #[x] ∧ Cell.okWide P W r b0 T v) := fun u hu h1 h2 => by
    unfold Value.okWide at hval
    rw [hu] at hval
    cases v with
    | agg cs =>
      right
      by_cases hx : ∃ x, cs = #[x]
      · obtain ⟨x, rfl⟩ := hx
        right
        refine ⟨x, rfl, ?_⟩
        cases u <;> first | exact hval | exact absurd rfl (h1 _) | exact absurd rfl (h2 _ _)
      · left
        intro x hc
        exact hx ⟨x, by simpa [Value.cells] using congrArg List.toArray hc⟩
    | _ => left; rfl
  cases t with
  | int k =>
    rcases flat _ (shp.int hs) (fun _ => by simp) (fun _ _ => by simp) with h1 | h1 | ⟨x, rfl, h1⟩
    · simp [Ty.agg, h1]
    · exact absurd hy (h1 _)
    · simp [Cell.okWide, Cell.ok, (shp.int hs)] at h1
  | bool =>
    rcases flat _ (shp.bool hs) (fun _ => by simp) (fun _ _ => by simp) with h1 | h1 | ⟨x, rfl, h1⟩
    · simp [Ty.agg, h1]
    · exact absurd hy (h1 _)
    · simp [Cell.okWide, Cell.ok, (shp.bool hs)] at h1
  | str =>
    rcases flat _ (shp.str hs) (fun _ => by simp) (fun _ _ => by simp) with h1 | h1 | ⟨x, rfl, h1⟩
    · simp [Ty.agg, h1]
    · exact absurd hy (h1 _)
    · simp [Cell.okWide, Cell.ok, (shp.str hs)] at h1
  | sl e =>
    obtain ⟨T', hu, _⟩ := (shp.slice hs)
    rcases flat _ hu (fun _ => by simp) (fun _ _ => by simp) with h1 | h1 | ⟨x, rfl, h1⟩
    · simp [Ty.agg, h1]
    · obtain ⟨a, cap, h2, _⟩ := hy
      exact absurd h2 (h1 _)
    · simp [Cell.okWide, Cell.ok, hu] at h1
  | one u =>
    simp only [shp, Bool.and_eq_true] at hs
    obtain ⟨_, hs⟩ := hs
    split at hs
    · rename_i hfo
      exact agg _ hfo
    · cases hs
  | cons u v' =>
    simp only [shp, Bool.and_eq_true] at hs
    obtain ⟨_, hs⟩ := hs
    split at hs
    · rename_i hfo
      exact agg _ hfo
    · cases hs

/-- Parameters that are data, with their types. -/
def dataOK (P : Program) : List PK → List TypeId → Bool
  | [], [] => true
  | .data t :: pk, T :: Ts => shp P t (.inl T) && dataOK P pk Ts
  | _, _ => false

def WFI : (pk : List PK) → In pk → Prop
  | [], _ => True
  | [.data t], x => WF t x
  | .data t :: q :: ps, x => WF t x.1 ∧ WFI (q :: ps) x.2
  | _, _ => False

theorem args_in {A : Nat → Own} (hA : ∀ b, A b = .free) : ∀ (pk : List PK) (Ts : List TypeId) (vs : List Value) (ds : List (DataW H)) (ps : List MemPlace) {r : Reach} {b0 : Nat} {W : World}, dataOK P pk Ts = true →
    (∀ (j : Nat) t v, Ts[j]? = some t → vs[j]? = some v → Value.okWide P W r b0 t v) → DataW.TrodAll enc P w base sp held Ts vs ds ps →
    ∃ x : In pk, vs.length = (insL pk x).length ∧ (∀ (k : Nat) p z v, (insL pk x)[k]? = some ⟨p, z⟩ → vs[k]? = some v → ParR P A w p z v) ∧ WFI pk x
  | [], Ts, vs, ds, ps, r, b0, W, hd, hval, h => by
    match Ts, hd with
    | [], _ =>
      obtain ⟨rfl, _⟩ := trodAll_nil h
      exact ⟨(), rfl, fun k p z v hk => by simp [insL] at hk, trivial⟩
  | [.data t], Ts, vs, ds, ps, r, b0, W, hd, hval, h => by
    match Ts, hd with
    | _ :: _ :: _, hd => simp [dataOK] at hd
    | [T], hd =>
      simp only [dataOK, Bool.and_true] at hd
      obtain ⟨v, vs', d, ds', p1, p2, rfl, rfl, rfl, h1, h2⟩ := trodAll_cons h
      obtain ⟨rfl, rfl, rfl⟩ := trodAll_nil h2
      · obtain ⟨y, hy, hwf⟩ := trod_vd (A := Free A) (fun b => hA b) hd (hval 0 T v rfl rfl) h1
        refine ⟨y, rfl, fun k p z u hk hv => ?_, hwf⟩
        cases k with
        | zero =>
          simp only [insL, List.getElem?_cons_zero, Option.some.injEq] at hk hv
          cases hk
          cases hv
          exact hy
        | succ k => simp at hv
  | .data t :: q :: pk, Ts, vs, ds, ps, r, b0, W, hd, hval, h => by
    match Ts, hd with
    | T :: Ts, hd =>
      simp only [dataOK, Bool.and_eq_true] at hd
      obtain ⟨v, vs', d, ds', p1, p2, rfl, rfl, rfl, h1, h2⟩ := trodAll_cons h
      · obtain ⟨y, hy, hwf⟩ := trod_vd (A := Free A) (fun b => hA b) hd.1 (hval 0 T v rfl rfl) h1
        obtain ⟨x, g1, g2, g3⟩ := args_in hA (q :: pk) Ts vs' ds' p2 (by simpa [dataOK] using hd.2) (fun j t v hj hv => hval (j + 1) t v (by simpa using hj) (by simpa using hv)) h2
        refine ⟨(y, x), by simp [insL, g1], fun k p z u hk hv => ?_, hwf, g3⟩
        cases k with
        | zero =>
          simp only [insL, List.getElem?_cons_zero, Option.some.injEq] at hk hv
          cases hk
          cases hv
          exact hy
        | succ k =>
          simp only [insL, List.getElem?_cons_succ] at hk hv
          exact g2 k p z u hk hv
  | .ow _ :: _, _, _, _, _, _, _, _, hd, _, _ | .mv _ :: _, _, _, _, _, _, _, _, hd, _, _ | .rp _ :: _, _, _, _, _, _, _, _, hd, _, _ | .mp _ _ :: _, _, _, _, _, _, _, _, hd, _, _ | .fn _ _ :: _, _, _, _, _, _, _, _, hd, _, _ | .rfn _ _ :: _, _, _, _, _, _, _, _, hd, _, _ => by simp [dataOK] at hd

theorem trodAll_len : ∀ (Ts : List TypeId) (vs : List Value) (ds : List (DataW H)) (ps : List MemPlace), DataW.TrodAll enc P w base sp held Ts vs ds ps → ds.length = Ts.length
  | [], vs, ds, ps, h => by
    obtain ⟨rfl, rfl, rfl⟩ := trodAll_nil h
    rfl
  | T :: Ts, vs, ds, ps, h => by
    obtain ⟨v, vs', d, ds', p, q, rfl, rfl, rfl, g1, g2⟩ := trodAll_cons h
    simp [trodAll_len Ts vs' ds' q g2]

theorem trodAll_stays {sp' : Nat → Bool} {W W' : World} (hl : laidOutB P = true) (hb : Below W.heap.size W W') : ∀ (Ts : List TypeId) (vs : List Value) (ds : List (DataW H)) (ps : List MemPlace), (∀ T ∈ Ts, P.readableRec T = true ∧ T < P.types.size) →
    DataW.TrodAll enc P W base (fun _ => true) true Ts vs ds ps → (∀ p ∈ ps, p.block < W.heap.size) → (∀ p ∈ ps, sp' p.block = true) → DataW.TrodAll enc P W' base sp' true Ts vs ds ps
  | [], vs, ds, ps, _, h, _, _ => by
    obtain ⟨rfl, rfl, rfl⟩ := trodAll_nil h
    rfl
  | T :: Ts, vs, ds, ps, hT, h, h1, h2 => by
    obtain ⟨v, vs', d, ds', p, q, rfl, rfl, rfl, g1, g2⟩ := trodAll_cons h
    refine ⟨p, q, ?_, trodAll_stays hl hb Ts vs' ds' q (fun T hm => hT T (List.mem_cons_of_mem _ hm)) g2 (fun x hx => h1 x (List.mem_append_right _ hx)) (fun x hx => h2 x (List.mem_append_right _ hx)), rfl⟩
    obtain ⟨e1, e2⟩ := hT T (List.mem_cons_self ..)
    exact WideElems.Trod_stays hl e1 e2 g1 (fun x hx => hb.same (h1 x (List.mem_append_left _ hx))) (fun x hx => h2 x (List.mem_append_left _ hx))

/-- **From a model that is true of every datum to what a law's row asks of the call.** -/
theorem row_calls {C : Checked} {L : Laid C.prog} {f : FuncId} {fn : Func} {s : ChangeSpec} {apart fresh handsOn again : Bool} {con : Con0} {tb : TypeId}
    (m : ConOK C.prog f con) (hrk : con.rk = [(.bool, false)]) (hpk : dataOK C.prog con.pk fn.params.toList = true) (hM : ∀ x, WFI con.pk x → ∃ y, con.F x = some y ∧ tupList _ y = [⟨.bool, true⟩])
    (hvars : s.vars = []) (hs : ∀ ds : List (DataW H), ds.length = fn.params.size → (s.fn H ds).results = [.lit (.bool true)] ∧ (s.fn H ds).args = ds ∧ (s.fn H ds).vars = [])
    (hres : fn.resultTypes = #[tb]) (hb : C.prog.underlying tb = some .bool) (hl : laidOutB C.prog = true) (hread : fn.params.toList.all (fun T => C.prog.readableRec T && decide (T < C.prog.types.size)) = true)
    (W : World) (b0 : Nat) (args : Array Value) (ds gs : List (DataW H)) (before : List MemPlace)
    (hval : ∀ (j : Nat) t v, fn.params[j]? = some t → args[j]? = some v → Value.okWide C.prog W .any b0 t v)
    (hW : DataW.Whole enc C.prog fn.params.toList s.vars apart W args.toList ds gs before) (hmet : Met C.prog W fun _ => .free) :
    Calls C.prog f args W fun e W' => ∃ v, e = .returned v ∧ s.post enc C.prog fn apart fresh handsOn again W args v W' := by
  have hW' := hW
  obtain ⟨p, q, hA, hV, rfl, hfz, hnd⟩ := hW
  rw [hvars] at hV
  obtain ⟨rfl, rfl⟩ := trodVars_none hV
  have hlen := trodAll_len _ _ _ _ hA
  obtain ⟨x, g1, g2, g3⟩ := args_in (A := fun _ => .free) (fun _ => rfl) con.pk _ _ _ _ hpk (fun j t v hj hv => hval j t v (by simpa using hj) (by simpa using hv)) hA
  obtain ⟨y, hy, ht⟩ := hM x g3
  have hc := law_calls m hy hrk ht g1 g2 hmet
  rw [Array.toArray_toList] at hc
  refine hc.mono fun e W' ⟨he, hlt, hbl⟩ => ?_
  obtain ⟨s1, s2, s3⟩ := hs ds (by simpa using hlen)
  refine ⟨_, he, post_of_kept (pa := p) (pv := []) hW' (fun b sp hd => ?_) (fun sp hsp => ?_) (fun sp hsp => ?_) rfl hlt hbl ?_⟩
  · rw [hres, List.append_nil, s1]
    exact trodAll_mk1 (shut_bool hb _)
  · rw [List.append_nil, s2]
    rw [List.append_nil] at hsp
    refine trodAll_stays hl ⟨hlt.os, hlt.tape, hlt.output, hlt.size, hbl⟩ _ _ _ _ (fun T hT => by simpa using List.all_eq_true.1 hread T hT) hA (fun x hx => hW'.lt x (by simpa using hx)) hsp
  · rw [List.append_nil, s3, hvars]
    rfl
  · exact ok_one hres rfl (okWide_bool_mk hb _)

end

end Go.Proofs.YtgjneigkkgaaiaaGreatDoor.Vd

/- VdGrow -/
namespace Go.Proofs.YtgjneigkkgaaiaaGreatDoor.Vd

variable {P : Program} [Laid P]

def growPk : List PK := [.ow (.sl (.int .i64)), .data (.int .i64)]
def growRk : List (Ty × Bool) := [(.sl (.int .i64), true)]
def growF (x : List Int × Int) : Option (List Int) := if 0 ≤ x.2 ∧ (x.1.length : Int) + x.2 ≤ 68719476736 then some x.1 else Option.none

/-- What the library's own text does: there is room; there is none. -/
def GrowRoom (P : Program) (f : Nat) : Prop := ∀ (base : Option Addr) (l c n : Nat) (w : World), l ≤ c → c ≤ 9223372036854775807 → n ≤ 9223372036854775807 → l + n ≤ c →
  Calls P f #[.slice base l c, .int .i64 n] w fun e w' => e = .returned (.slice base l c) ∧ w' = w

def GrowMore (P : Program) (f : Nat) : Prop := ∀ (base : Option Addr) (l c n : Nat) (cs : List Value) (w : World), l ≤ c → c < l + n → l + n ≤ 68719476736 → cs.length = c → (base = none → c = 0) →
  (∀ a, base = some a → ∀ j v, cs[j]? = some v → w.cell? (a.add j) = some v) →
  Calls P f #[.slice base l c, .int .i64 n] w fun e w' => ∃ (G : Nat) (T : TypeId) (zs : Array Value), l + n ≤ G ∧ G ≤ maxLen ∧ zs.size = G - c ∧
    e = .returned (.slice (some ⟨w.heap.size, 0, none⟩) l G) ∧ w' = w.drew.alloc (.cells (cs.toArray ++ zs) T)

def roomMap (ρ : Map) : Map := ⟨fun b => if ρ.own b = .main 0 then .main 1 else ρ.own b, fun _ => ρ.hdr 0⟩
def moreMap (ρ : Map) (w : World) (v : Value) : Map := ⟨fun b => if b = w.heap.size then .main 1 else ρ.own b, fun _ => v⟩

theorem grow_roots {xs : List Int} {l : Nat} {r : Root} (h : rt (exitRoots ⟨growPk, growRk, growF⟩ xs) l = some r) : l = 1 ∧ r = .arr (.int .i64) xs true := by
  have he : exitRoots ⟨growPk, growRk, growF⟩ xs = [Option.none, some (.arr (.int .i64) xs true)] := rfl
  rw [he] at h
  match l, h with
  | 0, h => cases h
  | 1, h => exact ⟨rfl, by cases h; rfl⟩
  | l + 2, h => simp [rt] at h

theorem grow_room_exit {w : World} {ρ : Map} {xs : List Int} (hfresh : ∀ b, w.heap.size ≤ b → ρ.own b = .free) (hlive : ∀ b l, (ρ.own b).loc = some l → l < 1)
    (hr : ArrR w ρ.own (.main 0) (.int .i64) xs (EL w ρ.own 0 true (.int .i64)) (ρ.hdr 0)) (hs : ∃ a n c, ρ.hdr 0 = .slice a n c) : Exit0 P ⟨growPk, growRk, growF⟩ xs w ρ w (roomMap ρ) (ρ.hdr 0) := by
  refine ⟨Later.refl w, fun b _ hb => ⟨?_, rfl⟩, fun b hb => ?_, fun b hb => ?_, fun b l hb => ?_, fun l hl => by simp [stays, growPk] at hl, ?_, fun l r hl => ?_⟩
  · rcases hb with hb | hb <;> simp [roomMap, hb]
  · simp only [roomMap] at hb
    split at hb
    · cases hb
    · exact hb
  · simp [roomMap, hfresh b hb]
  · show l < 2
    simp only [roomMap] at hb
    split at hb
    · cases hb; omega
    · have := hlive b l hb; omega
  · exact AR.one.2 ⟨rfl, hs⟩
  · obtain ⟨rfl, rfl⟩ := grow_roots hl
    show ArrR w (roomMap ρ).own (.main 1) (.int .i64) xs (EL w (roomMap ρ).own 1 true (.int .i64)) (ρ.hdr 0)
    rcases hr with ⟨a, h1, h2⟩ | ⟨b, cap, vs, T, h1, h2, h3, h4, h5, h6, h7⟩
    · exact .inl ⟨a, h1, h2⟩
    · exact .inr ⟨b, cap, vs, T, h1, h2, h3, by simp [roomMap, h4], h5, h6, h7⟩

theorem grow_more_exit {w : World} {ρ : Map} {xs : List Int} (hfresh : ∀ b, w.heap.size ≤ b → ρ.own b = .free) (hlive : ∀ b l, (ρ.own b).loc = some l → l < 1) {cs : List Value} {G : Nat} {T : TypeId} {zs : Array Value}
    (hG : G ≤ maxLen) (hlG : xs.length ≤ G) (hsz : cs.length + zs.size = G) (hcs : ∀ (i : Nat) (x : Int), xs[i]? = some x → cs[i]? = some (.int .i64 x)) :
    Exit0 P ⟨growPk, growRk, growF⟩ xs w ρ (w.drew.alloc (.cells (cs.toArray ++ zs) T)) (moreMap ρ w (.slice (some ⟨w.heap.size, 0, none⟩) xs.length G)) (.slice (some ⟨w.heap.size, 0, none⟩) xs.length G) := by
  refine ⟨⟨by show _ ≤ (w.heap.push _).size; simp, rfl, rfl, rfl⟩, fun b hb hbo => ⟨?_, heap_alloc_old w.drew _ b hb⟩, fun b hb => ?_, fun b hb => ?_, fun b l hb => ?_, fun l hl => by simp [stays, growPk] at hl, ?_, fun l r hl => ?_⟩
  · simp [moreMap, Nat.ne_of_lt hb]
  · simp only [moreMap] at hb
    split at hb
    · cases hb
    · exact hb
  · have hb' : w.heap.size + 1 ≤ b := by
      have : (w.heap.push _).size ≤ b := hb
      simpa using this
    simp only [moreMap]
    rw [if_neg (by omega), hfresh b (by omega)]
  · show l < 2
    simp only [moreMap] at hb
    split at hb
    · cases hb; omega
    · have := hlive b l hb; omega
  · exact AR.one.2 ⟨rfl, _, _, _, rfl⟩
  · obtain ⟨rfl, rfl⟩ := grow_roots hl
    show ArrR _ _ (.main 1) (.int .i64) xs _ _
    refine .inr ⟨w.heap.size, G, cs.toArray ++ zs, T, rfl, hlG, hG, by simp [moreMap], heap_alloc_new w.drew _, ?_, fun i x hx => ⟨[.int .i64 x], rfl, fun j u hj => ?_, rfl⟩⟩
    · simp only [Array.size_append, List.size_toArray, Ty.size]; omega
    · have h1 := hcs i x hx
      have hil := (List.getElem?_eq_some_iff.1 h1).1
      cases j with
      | zero =>
        simp only [List.getElem?_cons_zero, Option.some.injEq] at hj
        subst hj
        simp only [Ty.size, Nat.mul_one, Nat.add_zero]
        rw [Array.getElem?_append_left (by simpa using hil)]
        simpa using h1
      | succ j => simp at hj

theorem grow_ok {f : Nat} (hfn : ∃ fn, P.funcs[f]? = some fn ∧ fn.name ≠ "runtime.NumGoroutine" ∧ fn.body.isSome = true) (h1 : GrowRoom P f) (h2 : GrowMore P f) : ConOK P f ⟨growPk, growRk, growF⟩ where
  fn := hfn
  run := by
    rintro ⟨xs, n⟩ y hy w ρ args hfresh hlive hlen hargs hroots _
    change growF (xs, n) = some y at hy
    have hlive : ∀ b l, (ρ.own b).loc = some l → l < 1 := hlive
    have hlen : 2 = args.length := hlen
    match args, hlen with
    | [v0, v1], _ =>
    have a0 : AR P ρ w _ (.c (.ref 0)) v0 := hargs 0 _ v0 rfl rfl
    have a1 : AR P ρ w _ (.c (.v (.int .i64) n [])) v1 := hargs 1 _ v1 rfl rfl
    have hr : ArrR w ρ.own (.main 0) (.int .i64) xs (EL w ρ.own 0 true (.int .i64)) (ρ.hdr 0) := hroots 0 _ rfl
    obtain ⟨g0, hs⟩ := AR.one.1 a0
    have g1 : [v1] = [.int .i64 n] := (AR.one.1 a1).2
    simp only [List.cons.injEq, and_true] at g1
    subst g1
    subst g0
    unfold growF at hy
    split at hy
    · rename_i hb
      dsimp only at hb
      cases hy
      obtain ⟨N, rfl⟩ : ∃ N : Nat, n = (N : Int) := ⟨n.toNat, (Int.toNat_of_nonneg hb.1).symm⟩
      have hml : maxLen = 9223372036854775807 := rfl
      obtain ⟨q, cap, hv, hxc, hcm, cs, hcl, hcs, hnil, hcell⟩ : ∃ (q : Option Addr) (cap : Nat), ρ.hdr 0 = .slice q xs.length cap ∧ xs.length ≤ cap ∧ cap ≤ maxLen ∧ ∃ cs : List Value, cs.length = cap ∧ (∀ (i : Nat) (x : Int), xs[i]? = some x → cs[i]? = some (.int .i64 x)) ∧
          (q = none → cap = 0) ∧ ∀ a, q = some a → ∀ j v, cs[j]? = some v → w.cell? (a.add j) = some v := by
        rcases hr with ⟨a, e1, e2⟩ | ⟨b, cap, vs, T, e1, e2, e3, e4, e5, e6, e7⟩
        · subst e2
          exact ⟨a, 0, e1, by simp, by omega, [], rfl, fun i x hx => by simp at hx, fun _ => rfl, fun a _ j v hj => by simp at hj⟩
        · refine ⟨_, cap, e1, e2, e3, vs.toList, by simpa [Ty.size] using e6, fun i x hx => ?_, fun h => (by cases h), fun a ha j v hj => ?_⟩
          · obtain ⟨us, u1, u2, u3⟩ := e7 i x hx
            have u3 : us = [.int .i64 x] := u3
            subst u3
            simpa [Ty.size] using u2 0 _ rfl
          · cases ha
            rw [Addr.add_lit]
            simp [World.cell?, e5] at hj ⊢
            exact hj
      show Calls P f #[ρ.hdr 0, .int .i64 N] w _
      rw [hv]
      have hb2 : xs.length + N ≤ 68719476736 := by have := hb.2; omega
      rcases Nat.lt_or_ge cap (xs.length + N) with hlt | hge
      · refine (h2 q xs.length cap N cs w hxc hlt hb2 hcl hnil hcell).mono ?_
        rintro e w' ⟨G, T, zs, k1, k2, k3, rfl, rfl⟩
        exact ⟨_, _, rfl, grow_more_exit hfresh hlive k2 (Nat.le_trans (Nat.le_add_right _ _) k1) (by rw [hcl, k3]; exact Nat.add_sub_cancel' (by omega)) hcs⟩
      · refine (h1 q xs.length cap N w hxc (by omega) (by omega) hge).mono ?_
        rintro e w' ⟨rfl, rfl⟩
        refine ⟨_, roomMap ρ, rfl, ?_⟩
        rw [← hv]
        exact grow_room_exit hfresh hlive hr hs
    · cases hy

end Go.Proofs.YtgjneigkkgaaiaaGreatDoor.Vd

/- VdDel -/
namespace Go.Proofs.YtgjneigkkgaaiaaGreatDoor.Vd

variable {P : Program} [Laid P]

def delPk : List PK := [.ow (.sl (.int .i64)), .data (.int .i64), .data (.int .i64)]
def delF (x : List Int × Int × Int) : Option (List Int) := if (0 ≤ x.2.1 ∧ x.2.1 ≤ x.2.2) ∧ x.2.2 ≤ (x.1.length : Int) ∧ 0 < x.1.length then some (x.1.take x.2.1.toNat ++ x.1.drop x.2.2.toNat) else Option.none

/-- What the library's own text does. -/
def DelLaw (P : Program) (f : Nat) : Prop := ∀ (b cap i j : Nat) (zs : List Int) (vs : Array Value) (T : TypeId) (w : World), w.heap[b]? = some (.cells vs T (0, 0)) → vs.size = cap → zs.length ≤ cap → cap ≤ maxLen →
  (∀ (k : Nat) (x : Int), zs[k]? = some x → vs[k]? = some (.int .i64 x)) → i ≤ j → j ≤ zs.length →
  Calls P f #[.slice (some ⟨b, 0, none⟩) zs.length cap, .int .i64 i, .int .i64 j] w fun e w' => e = .returned (.slice (some ⟨b, 0, none⟩) (zs.length - (j - i)) cap) ∧
    ∃ vs' : Array Value, w'.heap[b]? = some (.cells vs' T (0, 0)) ∧ vs'.size = cap ∧ (∀ (k : Nat) (x : Int), (zs.take i ++ zs.drop j)[k]? = some x → vs'[k]? = some (.int .i64 x)) ∧ Later w w' ∧ w'.heap.size = w.heap.size ∧ ∀ b', b' ≠ b → w'.heap[b']? = w.heap[b']?

theorem del_roots {xs : List Int} {l : Nat} {r : Root} (h : rt (exitRoots ⟨delPk, growRk, delF⟩ xs) l = some r) : l = 1 ∧ r = .arr (.int .i64) xs true := by
  have he : exitRoots ⟨delPk, growRk, delF⟩ xs = [Option.none, some (.arr (.int .i64) xs true)] := rfl
  rw [he] at h
  match l, h with
  | 0, h => cases h
  | 1, h => exact ⟨rfl, by cases h; rfl⟩
  | l + 2, h => simp [rt] at h

def delMap (ρ : Map) (v : Value) : Map := ⟨fun b => if ρ.own b = .main 0 then .main 1 else ρ.own b, fun _ => v⟩

theorem del_ok {f : Nat} (hfn : ∃ fn, P.funcs[f]? = some fn ∧ fn.name ≠ "runtime.NumGoroutine" ∧ fn.body.isSome = true) (h : DelLaw P f) : ConOK P f ⟨delPk, growRk, delF⟩ where
  fn := hfn
  run := by
    rintro ⟨xs, i, j⟩ y hy w ρ args hfresh hlive hlen hargs hroots _
    change delF (xs, i, j) = some y at hy
    have hlive : ∀ b l, (ρ.own b).loc = some l → l < 1 := hlive
    have hlen : 3 = args.length := hlen
    match args, hlen with
    | [v0, v1, v2], _ =>
    have a0 : AR P ρ w _ (.c (.ref 0)) v0 := hargs 0 _ v0 rfl rfl
    have a1 : AR P ρ w _ (.c (.v (.int .i64) i [])) v1 := hargs 1 _ v1 rfl rfl
    have a2 : AR P ρ w _ (.c (.v (.int .i64) j [])) v2 := hargs 2 _ v2 rfl rfl
    have hr : ArrR w ρ.own (.main 0) (.int .i64) xs (EL w ρ.own 0 true (.int .i64)) (ρ.hdr 0) := hroots 0 _ rfl
    obtain ⟨g0, hs⟩ := AR.one.1 a0
    have g1 : [v1] = [.int .i64 i] := (AR.one.1 a1).2
    have g2 : [v2] = [.int .i64 j] := (AR.one.1 a2).2
    simp only [List.cons.injEq, and_true] at g1 g2
    subst g1
    subst g2
    subst g0
    unfold delF at hy
    split at hy
    · rename_i hb
      dsimp only at hb
      cases hy
      obtain ⟨⟨hb1, hb2⟩, hb3, hb4⟩ := hb
      obtain ⟨I, rfl⟩ : ∃ N : Nat, i = (N : Int) := ⟨i.toNat, (Int.toNat_of_nonneg hb1).symm⟩
      obtain ⟨J, rfl⟩ : ∃ N : Nat, j = (N : Int) := ⟨j.toNat, (Int.toNat_of_nonneg (by omega)).symm⟩
      rcases hr with ⟨a, e1, e2⟩ | ⟨b, cap, vs, T, e1, e2, e3, e4, e5, e6, e7⟩
      · rw [e2] at hb4
        simp at hb4
      · have hcells : ∀ (k : Nat) (x : Int), xs[k]? = some x → vs[k]? = some (.int .i64 x) := fun k x hx => by
          obtain ⟨us, u1, u2, u3⟩ := e7 k x hx
          have u3 : us = [.int .i64 x] := u3
          subst u3
          simpa [Ty.size] using u2 0 _ rfl
        show Calls P f #[ρ.hdr 0, .int .i64 I, .int .i64 J] w _
        rw [e1]
        refine (h b cap I J xs vs T w e5 (by simpa [Ty.size] using e6) e2 e3 hcells (by omega) (by omega)).mono ?_
        rintro e w' ⟨rfl, vs', k1, k2, k3, k4, k5, k6⟩
        have hlen' : (xs.take (I : Int).toNat ++ xs.drop (J : Int).toNat).length = xs.length - (J - I) := by
          simp only [Int.toNat_natCast, List.length_append, List.length_take, List.length_drop]
          omega
        refine ⟨_, delMap ρ (.slice (some ⟨b, 0, none⟩) (xs.length - (J - I)) cap), rfl, k4, fun b' hb' hbo => ⟨?_, ?_⟩, fun b' hb' => ?_, fun b' hb' => ?_, fun b' l hb' => ?_, fun l hl => by simp [stays, delPk] at hl, ?_, fun l r hl => ?_⟩
        · rcases hbo with hbo | hbo <;> simp [delMap, hbo]
        · refine k6 b' fun hbb => ?_
          rw [hbb, e4] at hbo
          rcases hbo with hbo | hbo <;> cases hbo
        · simp only [delMap] at hb'
          split at hb'
          · cases hb'
          · exact hb'
        · rw [k5] at hb'
          simp [delMap, hfresh b' hb']
        · show l < 2
          simp only [delMap] at hb'
          split at hb'
          · cases hb'; omega
          · have h0 : l < 1 := hlive b' l hb'
            omega
        · exact AR.one.2 ⟨rfl, _, _, _, rfl⟩
        · obtain ⟨rfl, rfl⟩ := del_roots hl
          show ArrR _ _ (.main 1) (.int .i64) _ _ _
          refine .inr ⟨b, cap, vs', T, by rw [hlen']; rfl, by rw [hlen']; omega, e3, by simp [delMap, e4], k1, by simpa [Ty.size] using k2, fun i x hx => ⟨[.int .i64 x], rfl, fun j u hj => ?_, rfl⟩⟩
          cases j with
          | zero =>
            simp only [List.getElem?_cons_zero, Option.some.injEq] at hj
            subst hj
            simp only [Int.toNat_natCast] at hx
            simpa [Ty.size] using k3 i x hx
          | succ j => simp at hj
    · cases hy

end Go.Proofs.YtgjneigkkgaaiaaGreatDoor.Vd

/- PlA -/
namespace Go.Proofs.YtgjneigkkgaaiaaGreatDoor.Vd

theorem iter_spec {σ β : Type} {body : (σ → Option β) → σ → Option β} (g : σ → Option β) (Inv : σ → Prop) (μ : σ → Nat)
    (step : ∀ (again : σ → Option β) s, Inv s → (∀ s', Inv s' → μ s' < μ s → again s' = g s') → body again s = g s) : ∀ (n : Nat) (s : σ), Inv s → μ s < n → iter body n s = g s
  | 0, _, _, h => absurd h (Nat.not_lt_zero _)
  | n + 1, s, hs, h => step _ s hs fun s' hs' h' => iter_spec g Inv μ step n s' hs' (by omega)

/-- A loop whose states go down. -/
theorem loopO_spec {σ β : Type} {body : (σ → Option β) → σ → Option β} (g : σ → Option β) (Inv : σ → Prop) (μ : σ → Nat)
    (step : ∀ (again : σ → Option β) s, Inv s → (∀ s', Inv s' → μ s' < μ s → again s' = g s') → body again s = g s) {s : σ} (h0 : Inv s) (hm : μ s < 2 ^ 64) : loopO body s = g s := by
  rw [loopO_eq]
  exact iter_spec g Inv μ step many s h0 hm

/-- A loop that counts up. -/
theorem loopO_for {σ τ β : Type} {body : (τ → Option β) → τ → Option β} (enc : Nat → σ → τ) (N : Nat) (g : Nat → σ → Option β) (Inv : Nat → σ → Prop)
    (hend : ∀ (again : τ → Option β) s, Inv N s → body again (enc N s) = g N s)
    (hin : ∀ (again : τ → Option β) i s, i < N → Inv i s → (∀ s', Inv (i + 1) s' → again (enc (i + 1) s') = g (i + 1) s') → body again (enc i s) = g i s)
    (hN : N < 2 ^ 64) {i : Nat} {s : σ} (hi : i ≤ N) (h0 : Inv i s) : loopO body (enc i s) = g i s := by
  rw [loopO_eq]
  have H : ∀ (n : Nat) i s, i ≤ N → Inv i s → N - i < n → iter body n (enc i s) = g i s := by
    intro n
    induction n with
    | zero => intro i s _ _ h; exact absurd h (Nat.not_lt_zero _)
    | succ n ih =>
      intro i s hi h0 hn
      show body (iter body n) (enc i s) = g i s
      rcases Nat.lt_or_ge i N with h | h
      · exact hin _ i s h h0 fun s' hs' => ih (i + 1) s' h hs' (by omega)
      · have : i = N := by omega
        subst this
        exact hend _ s h0
  exact H many i s hi h0 (by unfold many; omega)

/-- Two loops of the same steps. -/
theorem loopO_rel {σ τ β γ : Type} {b1 : (σ → Option β) → σ → Option β} {b2 : (τ → Option γ) → τ → Option γ} (R : σ → τ → Prop) (Q : Option β → Option γ → Prop) (hQ : Q none none)
    (step : ∀ (a1 : σ → Option β) (a2 : τ → Option γ) s t, R s t → (∀ s' t', R s' t' → Q (a1 s') (a2 t')) → Q (b1 a1 s) (b2 a2 t)) {s : σ} {t : τ} (h0 : R s t) : Q (loopO b1 s) (loopO b2 t) := by
  rw [loopO_eq, loopO_eq]
  have H : ∀ (n : Nat) s t, R s t → Q (iter b1 n s) (iter b2 n t) := by
    intro n
    induction n with
    | zero => intro _ _ _; exact hQ
    | succ n ih => intro s t h; exact step _ _ s t h ih
  exact H many s t h0

theorem loopO_congr {σ β : Type} {b1 b2 : (σ → Option β) → σ → Option β} (Inv : σ → Prop)
    (step : ∀ (a1 a2 : σ → Option β) s, Inv s → (∀ s', Inv s' → a1 s' = a2 s') → b1 a1 s = b2 a2 s) {s : σ} (h0 : Inv s) : loopO b1 s = loopO b2 s := by
  refine loopO_rel (fun s t => s = t ∧ Inv s) (fun x y => x = y) rfl ?_ (⟨rfl, h0⟩ : s = s ∧ Inv s)
  rintro a1 a2 s _ ⟨rfl, hs⟩ h
  exact step a1 a2 s hs fun s' hs' => h s' s' ⟨rfl, hs'⟩

/-! ### Small steps -/

@[simp] theorem bindO_some' {α β : Type} (v : α) (f : α → Option β) : bindO (some v) f = f v := rfl
@[simp] theorem bindO_none' {α β : Type} (f : α → Option β) : bindO (none : Option α) f = none := rfl
@[simp] theorem guardO_true : guardO true = some () := rfl
theorem guardO_of {b : Bool} (h : b = true) : guardO b = some () := by rw [h]; rfl
@[simp] theorem cond_dec {α : Type} (p : Prop) [Decidable p] (a b : α) : cond (decide p) a b = if p then a else b := by
  by_cases h : p <;> simp [h]
@[simp] theorem cond_not' {α : Type} (c : Bool) (a b : α) : cond (!c) a b = cond c b a := by cases c <;> rfl
@[simp] theorem cond_and' {α : Type} (c d : Bool) (a b : α) : cond (c && d) a b = cond c (cond d a b) b := by cases c <;> rfl
theorem bindO_ite {α β : Type} (p : Prop) [Decidable p] (a b : Option α) (f : α → Option β) : bindO (if p then a else b) f = if p then bindO a f else bindO b f := by
  by_cases h : p <;> simp [h]
theorem bindO_cond {α β : Type} (c : Bool) (a b : Option α) (f : α → Option β) : bindO (cond c a b) f = cond c (bindO a f) (bindO b f) := by
  cases c <;> rfl

theorem getI_nat {α : Type} (xs : List α) (n : Nat) : getI xs (n : Int) = xs[n]? := by
  simp [getI]

theorem getI_zero {α : Type} (xs : List α) : getI xs 0 = xs[0]? := by simp [getI]

theorem getI_some {α : Type} {xs : List α} {i : Int} {x : α} (h0 : 0 ≤ i) (h : xs[i.toNat]? = some x) : getI xs i = some x := by
  simp [getI, h0, h]

theorem lim_eq : lim = 68719476736 := rfl

theorem beq_dec (a b : Int) : (a == b) = decide (a = b) := rfl

theorem bne_dec (a b : Int) : (a != b) = decide (a ≠ b) := by
  by_cases h : a = b <;> simp [h]

/-- A quotient of what is not negative. -/
theorem tdiv_nn {x y : Int} (h : 0 ≤ x) : x.tdiv y = x / y := Int.tdiv_eq_ediv_of_nonneg h
theorem tmod_nn {x y : Int} (h : 0 ≤ x) : x.tmod y = x % y := Int.tmod_eq_emod_of_nonneg h

theorem fdiv_pos {x y : Int} (h : 0 < y) : x.fdiv y = x / y := Int.fdiv_eq_ediv_of_nonneg x (by omega)

end Go.Proofs.YtgjneigkkgaaiaaGreatDoor.Vd

