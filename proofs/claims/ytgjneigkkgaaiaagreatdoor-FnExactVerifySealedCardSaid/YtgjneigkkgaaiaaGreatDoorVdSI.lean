/- strconv.Itoa: the library's laws of it at a program that holds it. No conditions. -/
import Derived.Test.YtgjneigkkgaaiaaGreatDoorVdS
import Derived.Shelf.Strconv.Itoa3
import Derived.Lib.ItoaNum
set_option linter.unusedVariables false
set_option linter.unusedSimpArgs false
set_option linter.unusedSectionVars false
set_option linter.unnecessarySimpa false
namespace Go.Proofs.YtgjneigkkgaaiaaGreatDoor.Vd

variable {P : Program} [Laid P]

def itoPk : List PK := [.data (.int .i64)]
def itoRk : List (Ty × Bool) := [(.str, false)]
def itoB (x : Int) : ByteArray := ⟨(Go.Lib.itoa x).toArray⟩
def itoF (x : Int) : Option ByteArray := if -9223372036854775808 ≤ x ∧ x ≤ 9223372036854775807 then some (itoB x) else Option.none

/-- What the library's own text does. -/
def ItoLaw (P : Program) [Laid P] (f : Nat) : Prop := ∀ (n : Int) (w : World) (own : Nat → Own), -9223372036854775808 ≤ n → n ≤ 9223372036854775807 → Met P w own →
  Calls P f #[.int .i64 n] w fun e w' => e = .returned (.string (itoB n)) ∧ Later w w' ∧ ∀ b, b < w.heap.size → w'.heap[b]? = w.heap[b]?

theorem ito_ok {f : Nat} (hfn : ∃ fn, P.funcs[f]? = some fn ∧ fn.name ≠ "runtime.NumGoroutine" ∧ fn.body.isSome = true) (h : ItoLaw P f) : ConOK P f ⟨itoPk, itoRk, itoF⟩ where
  fn := hfn
  run := by
    intro x0 y hy w ρ args hfresh hlive hlen hargs hroots hmet
    obtain ⟨x, rfl⟩ : ∃ x : Int, x = x0 := ⟨x0, rfl⟩
    change itoF x = some y at hy
    have hlen : 1 = args.length := hlen
    match args, hlen with
    | [v0], _ =>
    have a0 : AR P ρ w _ (.c (.v (.int .i64) x [])) v0 := hargs 0 _ v0 rfl rfl
    obtain ⟨_, hv⟩ := AR.one.1 a0
    have hv : [v0] = [.int .i64 x] := hv
    simp only [List.cons.injEq, and_true] at hv
    subst hv
    unfold itoF at hy
    split at hy
    · rename_i hb
      cases hy
      refine (h x w ρ.own hb.1 hb.2 hmet).mono ?_
      rintro e w' ⟨rfl, hl, hs⟩
      refine ⟨_, ρ, rfl, hl, fun b hb' _ => ⟨rfl, hs b hb'⟩, fun b hb' => hb', fun b hb' => hfresh b (Nat.le_trans hl.size hb'), fun b l hb' => ?_, fun l hl => rfl, ?_, fun l r hlr => ?_⟩
      · exact absurd (hlive b l hb') (Nat.not_lt_zero _)
      · exact AR.ofStr _ _
      · have he : exitRoots ⟨itoPk, itoRk, itoF⟩ (itoB x) = [] := rfl
        rw [he] at hlr
        simp [rt] at hlr
    · cases hy

end Go.Proofs.YtgjneigkkgaaiaaGreatDoor.Vd

namespace Go.Proofs.YtgjneigkkgaaiaaGreatDoor.Vd
open Go.Shelf Go.Proofs

variable {P : Program} [Laid P] {ρ : Ren}

theorem ito_law (L : LaysM.n171 P ρ) (htab : ∀ (w : World) (own : Nat → Own), Met P w own → Lib.TabIs P w "internal/strconv.uint64pow10" .u64 Lib.pow10Tab) : ItoLaw P (ρ.f 171) := by
  intro n w own h0 h1 hm
  refine (Any.strconv_Itoa L n h0 h1 w (htab w own hm)).mono ?_
  rintro e w' ⟨rfl, k, os, rfl⟩
  refine ⟨rfl, ⟨?_, rfl, rfl, rfl⟩, fun b hb => ?_⟩
  · show w.heap.size ≤ (Sort.grow (w.drewN k) os).heap.size
    simp [Sort.grow, World.drewN]
  · show (Sort.grow (w.drewN k) os).heap[b]? = w.heap[b]?
    simp only [Sort.grow]
    exact Array.getElem?_append_left (by simpa [World.drewN] using hb)

theorem tab_of_met {g : Nat} (hg : P.globalNamed "internal/strconv.uint64pow10" = some g) (ht : (g, (Lib.pow10Tab.map fun z => Value.int .u64 z).toArray) ∈ Laid.tabs P) (w : World) (own : Nat → Own) (h : Met P w own) : Lib.TabIs P w "internal/strconv.uint64pow10" .u64 Lib.pow10Tab := by
  obtain ⟨_, T, z, e⟩ := h g _ ht
  unfold Lib.TabIs World.var?
  rw [hg, Option.bind_some, e]

end Go.Proofs.YtgjneigkkgaaiaaGreatDoor.Vd
