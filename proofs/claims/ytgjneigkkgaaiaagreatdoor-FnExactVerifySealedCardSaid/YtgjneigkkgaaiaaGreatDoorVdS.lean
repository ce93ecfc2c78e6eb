/- slices.Grow: the library's laws of it at a program that holds it. No conditions. -/
import Derived.Test.YtgjneigkkgaaiaaGreatDoorVd4
import Derived.Shelf.Spec.SlicesGrow
set_option linter.unusedVariables false
set_option linter.unusedSimpArgs false
set_option linter.unusedSectionVars false
set_option linter.unnecessarySimpa false
namespace Go.Proofs.YtgjneigkkgaaiaaGreatDoor.Vd
open Go.Shelf Go.Proofs

variable {P : Program} {ρ : Ren} {E : Env}

theorem grow_room (L : Lays8.n4 P ρ) : GrowRoom P (ρ.f 4) := fun base l c n w h1 h2 h3 h4 => Any8.slices_Grow_room L base l c n w h1 h2 h3 h4

theorem grow_more (L : Lays8.n4 P ρ) (hT : TyOK P E) (h25 : E.T (ρ.t 25) = some (.int .i64)) : GrowMore P (ρ.f 4) := by
  obtain ⟨i, z, hi, hsz, hby, hz, hzo⟩ := infoOK.spec (shp.info (hT.ty _ _ h25))
  have hzl : z.cells.size = i.size := by have := zeroOK.length (.int .i64) _ hzo; rw [Array.length_toList] at this; rw [this, hsz]
  have hs1 : i.size = 1 := hsz
  intro base l c n cs w h1 h2 h3 h4 h5 h6
  have hb : (l + n) * i.bytes ≤ 140737488355328 := by
    have : (l + n) * i.bytes ≤ 68719476736 * 2048 := Nat.mul_le_mul h3 hby
    omega
  refine (Any8.slices_Grow_grow L i z hi hz (by omega) base l c n cs w h1 h2 hb (by omega) (by rw [hs1, h4]; omega) h5 h6).mono ?_
  rintro e w' ⟨rfl, rfl⟩
  have hge := grownCap_ge w (l + n) c (ρ.t 25)
  have hcm : grownCap w (l + n) c (ρ.t 25) ≤ maxLen := grownCap_le_maxLen w _ c _ (maxLen_ge h3)
  generalize grownCap w (l + n) c (ρ.t 25) = G at hge hcm
  refine ⟨G, ρ.t 25, Builtin.zeroCells z.cells (l + n - c) ++ Builtin.zeroCells z.cells (G - (l + n)), hge, hcm, ?_, rfl, by rw [Array.append_assoc]⟩
  simp only [Array.size_append, size_zeroCells, hzl, hs1]
  omega

end Go.Proofs.YtgjneigkkgaaiaaGreatDoor.Vd
