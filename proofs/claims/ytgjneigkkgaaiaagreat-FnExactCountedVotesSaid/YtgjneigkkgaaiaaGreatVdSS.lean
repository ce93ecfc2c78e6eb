/- slices.Sort: the library's laws of it at a program that holds it. No conditions. -/
import Derived.Test.YtgjneigkkgaaiaaGreatVd3
import Derived.Shelf.Sort.Plain
import Derived.Shelf.Slices.In.SortNone
set_option linter.unusedVariables false
set_option linter.unusedSimpArgs false
set_option linter.unusedSectionVars false
set_option linter.unnecessarySimpa false
namespace Go.Proofs.YtgjneigkkgaaiaaGreat.Vd

variable {P : Program}

def srtPk : List PK := [.mv (.sl (.int .i64))]
def srtRk : List (Ty × Bool) := []
def srtL (x : List Int) : List Int := x.mergeSort fun x y => decide (x ≤ y)
def srtF (x : List Int) : Option (List Int) := if x.length < 4611686018427387904 then some (srtL x) else Option.none

/-- What the library's own text does. -/
def SrtLaw (P : Program) (f : Nat) : Prop := ∀ (b cap : Nat) (zs : List Int) (vs : Array Value) (T : TypeId) (w : World), w.heap[b]? = some (.cells vs T (0, 0)) → vs.size = cap → zs.length ≤ cap → zs.length < 4611686018427387904 →
  (∀ (k : Nat) (x : Int), zs[k]? = some x → vs[k]? = some (.int .i64 x)) →
  Calls P f #[.slice (some ⟨b, 0, none⟩) zs.length cap] w fun e w' => e = .returned (.tuple #[]) ∧
    ∃ vs' : Array Value, w'.heap[b]? = some (.cells vs' T (0, 0)) ∧ vs'.size = cap ∧ (∀ (k : Nat) (x : Int), (srtL zs)[k]? = some x → vs'[k]? = some (.int .i64 x)) ∧ Later w w' ∧ ∀ b', b' ≠ b → b' < w.heap.size → w'.heap[b']? = w.heap[b']?

def SrtNone (P : Program) (f : Nat) : Prop := ∀ (p : Option Addr) (cap : Nat) (w : World), Calls P f #[.slice p 0 cap] w fun e w' => e = .returned (.tuple #[]) ∧ w' = w

theorem srt_roots {xs : List Int} {l : Nat} {r : Root} (h : rt (exitRoots ⟨srtPk, srtRk, srtF⟩ xs) l = some r) : l = 0 ∧ r = .arr (.int .i64) xs true := by
  have he : exitRoots ⟨srtPk, srtRk, srtF⟩ xs = [some (.arr (.int .i64) xs true)] := rfl
  rw [he] at h
  match l, h with
  | 0, h => exact ⟨rfl, by cases h; rfl⟩
  | l + 1, h => simp [rt] at h

theorem srtL_length (xs : List Int) : (srtL xs).length = xs.length := List.length_mergeSort xs

theorem srt_ok {f : Nat} (hfn : ∃ fn, P.funcs[f]? = some fn ∧ fn.name ≠ "runtime.NumGoroutine" ∧ fn.body.isSome = true) (h : SrtLaw P f) (h0 : SrtNone P f) : ConOK P f ⟨srtPk, srtRk, srtF⟩ where
  fn := hfn
  run := by
    intro xs0 y hy w ρ args hfresh hlive hlen hargs hroots
    obtain ⟨xs, rfl⟩ : ∃ xs : List Int, xs = xs0 := ⟨xs0, rfl⟩
    change srtF xs = some y at hy
    have hlive : ∀ b l, (ρ.own b).loc = some l → l < 1 := hlive
    have hlen : 1 = args.length := hlen
    match args, hlen with
    | [v0], _ =>
    have a0 : AR P ρ w _ (.c (.ref 0)) v0 := hargs 0 _ v0 rfl rfl
    have hr : ArrR w ρ.own (.main 0) (.int .i64) xs (EL w ρ.own 0 true (.int .i64)) (ρ.hdr 0) := hroots 0 _ rfl
    obtain ⟨g0, hs⟩ := AR.one.1 a0
    subst g0
    unfold srtF at hy
    split at hy
    · rename_i hb
      cases hy
      rcases hr with ⟨a, e1, e2⟩ | ⟨b, cap, vs, T, e1, e2, e3, e4, e5, e6, e7⟩
      · show Calls P f #[ρ.hdr 0] w _
        rw [e1]
        refine (h0 a 0 w).mono ?_
        rintro e w' ⟨rfl, rfl⟩
        refine ⟨_, ρ, rfl, Later.refl _, fun b' hb' hbo => ⟨rfl, rfl⟩, fun b' hb' => hb', hfresh, fun b' l hb' => hlive b' l hb', fun l hl => rfl, ?_, fun l r hl => ?_⟩
        · exact ⟨[], rfl, rfl, fun i p v hi => by cases hi⟩
        · obtain ⟨rfl, rfl⟩ := srt_roots hl
          exact .inl ⟨a, e1, by rw [e2]; exact List.mergeSort_nil ..⟩
      · have hcells : ∀ (k : Nat) (x : Int), xs[k]? = some x → vs[k]? = some (.int .i64 x) := fun k x hx => by
          obtain ⟨us, u1, u2, u3⟩ := e7 k x hx
          have u3 : us = [.int .i64 x] := u3
          subst u3
          simpa [Ty.size] using u2 0 _ rfl
        show Calls P f #[ρ.hdr 0] w _
        rw [e1]
        refine (h b cap xs vs T w e5 (by simpa [Ty.size] using e6) e2 hb hcells).mono ?_
        rintro e w' ⟨rfl, vs', k1, k2, k3, k4, k6⟩
        refine ⟨_, ρ, rfl, k4, fun b' hb' hbo => ⟨rfl, ?_⟩, fun b' hb' => hb', fun b' hb' => hfresh b' (Nat.le_trans k4.size hb'), fun b' l hb' => hlive b' l hb', fun l hl => rfl, ?_, fun l r hl => ?_⟩
        · refine k6 b' (fun hbb => ?_) hb'
          rw [hbb, e4] at hbo
          rcases hbo with hbo | hbo <;> cases hbo
        · exact ⟨[], rfl, rfl, fun i p v hi => by cases hi⟩
        · obtain ⟨rfl, rfl⟩ := srt_roots hl
          show ArrR _ _ (.main 0) (.int .i64) _ _ _
          refine .inr ⟨b, cap, vs', T, by have hq := srtL_length xs; exact e1.trans (by rw [← hq]), by have hq := srtL_length xs; exact hq ▸ e2, e3, e4, k1, by simpa [Ty.size] using k2, fun i x hx => ⟨[.int .i64 x], rfl, fun j u hj => ?_, rfl⟩⟩
          cases j with
          | zero =>
            simp only [List.getElem?_cons_zero, Option.some.injEq] at hj
            subst hj
            simpa [Ty.size] using k3 i x hx
          | succ j => simp at hj
    · cases hy

end Go.Proofs.YtgjneigkkgaaiaaGreat.Vd

namespace Go.Proofs.YtgjneigkkgaaiaaGreat.Vd
open Go.Shelf Go.Proofs

variable {P : Program} {ρ : Ren}

theorem srt_none (L : Lays.n189 P ρ) : SrtNone P (ρ.f 189) := fun p cap w => Any.slices_Sort_int_none L p cap w

theorem srt_law (L : Lays.n189 P ρ) : SrtLaw P (ρ.f 189) := by
  intro b cap zs vs T w hb hsz hzc hlt hcells
  have hbs : b < w.heap.size := (Array.getElem?_eq_some_iff.1 hb).1
  have hH : Sort.Holds (Value.int .i64) w b 0 zs.toArray := fun k hk => by
    have hk : k < zs.length := by simpa using hk
    have h1 := hcells k zs[k] (List.getElem?_eq_getElem hk)
    refine ⟨?_, ?_⟩
    · rw [getElem!_pos zs.toArray k (by simpa using hk)]
      simp [World.cell?, hb]
      exact h1
    · simp [World.frozen?, hb]
  refine (Any.slices_Sort_int L b 0 cap zs w hH hbs hlt).mono ?_
  rintro e w' ⟨rfl, q, os, rfl⟩
  have hlen : (srtL zs).length = zs.length := srtL_length zs
  have hmod : ∀ b', b' < w.heap.size → (Sort.grow (Sort.putRow (Value.int .i64) (Sort.ahead w q) b 0 (srtL zs).toArray) os).heap[b']? = (Sort.putRow (Value.int .i64) (Sort.ahead w q) b 0 (srtL zs).toArray).heap[b']? := fun b' hb' => by
    simp only [Sort.grow]
    exact Array.getElem?_append_left (by simpa [Sort.putRow, Sort.mapBlock, Sort.ahead] using hb')
  refine ⟨rfl, Sort.putCells (Value.int .i64) 0 (srtL zs).toArray vs, ?_, by simp [Sort.putCells, hsz], fun k x hx => ?_, ⟨by simp [Sort.grow, Sort.putRow, Sort.mapBlock, Sort.ahead], rfl, rfl, rfl⟩, fun b' hb' hbl => ?_⟩
  · refine (hmod b hbs).trans ?_
    simp only [Sort.putRow, Sort.mapBlock, Sort.ahead, Array.getElem?_modify, if_true, hb, Option.map_some, Sort.onCells]
  · have hk := (List.getElem?_eq_some_iff.1 hx).1
    have hvs : k < vs.size := by omega
    simp only [Sort.putCells, Array.getElem?_mapIdx, Array.getElem?_eq_getElem hvs, Option.map_some, Nat.zero_le, Nat.zero_add, List.size_toArray, hk, true_and, if_true, Nat.sub_zero]
    rw [getElem!_pos _ k (by simpa using hk)]
    rw [List.getElem?_eq_getElem hk] at hx
    simp only [Option.some.injEq] at hx
    exact congrArg (fun z => some (Value.int .i64 z)) hx
  · refine (hmod b' hbl).trans ?_
    simp only [Sort.putRow, Sort.mapBlock, Sort.ahead, Array.getElem?_modify]
    rw [if_neg (fun h => hb' (Eq.symm h))]

end Go.Proofs.YtgjneigkkgaaiaaGreat.Vd
