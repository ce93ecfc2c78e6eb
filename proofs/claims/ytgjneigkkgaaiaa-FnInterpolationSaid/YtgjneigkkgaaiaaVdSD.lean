/- slices.Delete: the library's laws of it at a program that holds it. No conditions. -/
import Derived.Test.YtgjneigkkgaaiaaVd3
import Derived.Shelf.Slices.Delete
set_option linter.unusedVariables false
set_option linter.unusedSimpArgs false
set_option linter.unusedSectionVars false
set_option linter.unnecessarySimpa false
namespace Go.Proofs.Ytgjneigkkgaaiaa.Vd
open Go.Shelf Go.Proofs

variable {P : Program} {ρ : Ren}

theorem del_law (L : Lays2.n23 P ρ) : DelLaw P (ρ.f 23) := by
  intro b cap i j zs vs T w hb hsz hzc hcm hcells hij hj
  have hH : Sort.Holds (Value.int .i64) w b 0 zs.toArray := fun k hk => by
    have hk : k < zs.length := by simpa using hk
    have h1 := hcells k zs[k] (List.getElem?_eq_getElem hk)
    refine ⟨?_, ?_⟩
    · rw [getElem!_pos zs.toArray k (by simpa using hk)]
      simp [World.cell?, hb]
      exact h1
    · simp [World.frozen?, hb]
  refine (Any.slices_Delete_int L b 0 cap i j zs w hH hzc hcm hij hj).mono ?_
  rintro e w' ⟨rfl, q, rfl⟩
  have hlen : (zs.take i ++ zs.drop j ++ List.replicate (j - i) 0).length = zs.length := by
    simp only [List.length_append, List.length_take, List.length_drop, List.length_replicate]
    omega
  refine ⟨rfl, Sort.putCells (Value.int .i64) 0 (zs.take i ++ zs.drop j ++ List.replicate (j - i) 0).toArray vs, ?_, by simp [Sort.putCells, hsz], fun k x hx => ?_, ⟨by simp, rfl, rfl, rfl⟩, by simp [Sort.ahead], fun b' hb' => ?_⟩
  · simp only [Sort.putRow, Sort.mapBlock, Sort.ahead, Array.getElem?_modify, if_true, hb, Option.map_some, Sort.onCells]
  · have hk := (List.getElem?_eq_some_iff.1 hx).1
    have hk2 : k < (zs.take i ++ zs.drop j ++ List.replicate (j - i) 0).length := by rw [List.length_append]; omega
    have hvs : k < vs.size := by omega
    simp only [Sort.putCells, Array.getElem?_mapIdx, Array.getElem?_eq_getElem hvs, Option.map_some, Nat.zero_le, Nat.zero_add, List.size_toArray, hk2, true_and, if_true, Nat.sub_zero]
    rw [getElem!_pos _ k (by simpa using hk2)]
    have h2 : (zs.take i ++ zs.drop j ++ List.replicate (j - i) 0)[k]? = some x := by rw [List.getElem?_append_left hk]; exact hx
    rw [List.getElem?_eq_getElem hk2] at h2
    simp only [Option.some.injEq] at h2
    exact congrArg (fun z => some (Value.int .i64 z)) h2
  · simp only [Sort.putRow, Sort.mapBlock, Sort.ahead, Array.getElem?_modify]
    rw [if_neg (fun h => hb' (Eq.symm h))]

end Go.Proofs.Ytgjneigkkgaaiaa.Vd
