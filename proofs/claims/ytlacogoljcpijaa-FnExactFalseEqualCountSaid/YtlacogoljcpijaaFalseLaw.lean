/-
  The law FnExactFalseEqualCount as plain functions on data returns true for all arguments. No conditions.
-/
import Derived.Test.YtlacogoljcpijaaMod
import Derived.KernelRfl
namespace Go.Proofs.Ytlacogoljcpijaa.Vd

theorem in43 (x a b : Int) : M_43 (x, a, b) = some (decide (a ≤ x ∧ x ≤ b)) := by
  by_cases h : a ≤ x <;> by_cases h2 : x ≤ b <;> simp [M_43, h, h2]

theorem in46 (x a b : Int) : M_46 (x, a, b) = some (decide (a ≤ x ∧ x ≤ b)) := by
  by_cases h : a ≤ x <;> by_cases h2 : x ≤ b <;> simp [M_46, h, h2]

theorem pr2 : M_44 2 = some true ∧ M_45 2 = some true := by
  constructor
  · simp only [M_44, loopO_eq, bindO_int]
    kernel_rfl
  · simp only [M_45, M_46, M_80, loopO_eq, bindO_int]
    kernel_rfl

theorem pr3 : M_44 3 = some true ∧ M_45 3 = some true := by
  constructor
  · simp only [M_44, loopO_eq, bindO_int]
    kernel_rfl
  · simp only [M_45, M_46, M_80, loopO_eq, bindO_int]
    kernel_rfl

theorem pr4 : M_44 4 = some false ∧ M_45 4 = some false := by
  constructor
  · simp only [M_44, loopO_eq, bindO_int]
    kernel_rfl
  · simp only [M_45, M_46, M_80, loopO_eq, bindO_int]
    kernel_rfl

theorem pr5 : M_44 5 = some true ∧ M_45 5 = some true := by
  constructor
  · simp only [M_44, loopO_eq, bindO_int]
    kernel_rfl
  · simp only [M_45, M_46, M_80, loopO_eq, bindO_int]
    kernel_rfl

theorem pr6 : M_44 6 = some false ∧ M_45 6 = some false := by
  constructor
  · simp only [M_44, loopO_eq, bindO_int]
    kernel_rfl
  · simp only [M_45, M_46, M_80, loopO_eq, bindO_int]
    kernel_rfl

theorem pr7 : M_44 7 = some true ∧ M_45 7 = some true := by
  constructor
  · simp only [M_44, loopO_eq, bindO_int]
    kernel_rfl
  · simp only [M_45, M_46, M_80, loopO_eq, bindO_int]
    kernel_rfl

theorem pr8 : M_44 8 = some false ∧ M_45 8 = some false := by
  constructor
  · simp only [M_44, loopO_eq, bindO_int]
    kernel_rfl
  · simp only [M_45, M_46, M_80, loopO_eq, bindO_int]
    kernel_rfl

theorem pr9 : M_44 9 = some false ∧ M_45 9 = some false := by
  constructor
  · simp only [M_44, loopO_eq, bindO_int]
    kernel_rfl
  · simp only [M_45, M_46, M_80, loopO_eq, bindO_int]
    kernel_rfl

theorem pr10 : M_44 10 = some false ∧ M_45 10 = some false := by
  constructor
  · simp only [M_44, loopO_eq, bindO_int]
    kernel_rfl
  · simp only [M_45, M_46, M_80, loopO_eq, bindO_int]
    kernel_rfl

theorem pr11 : M_44 11 = some true ∧ M_45 11 = some true := by
  constructor
  · simp only [M_44, loopO_eq, bindO_int]
    kernel_rfl
  · simp only [M_45, M_46, M_80, loopO_eq, bindO_int]
    kernel_rfl

theorem pr12 : M_44 12 = some false ∧ M_45 12 = some false := by
  constructor
  · simp only [M_44, loopO_eq, bindO_int]
    kernel_rfl
  · simp only [M_45, M_46, M_80, loopO_eq, bindO_int]
    kernel_rfl

theorem pr13 : M_44 13 = some true ∧ M_45 13 = some true := by
  constructor
  · simp only [M_44, loopO_eq, bindO_int]
    kernel_rfl
  · simp only [M_45, M_46, M_80, loopO_eq, bindO_int]
    kernel_rfl

theorem pr14 : M_44 14 = some false ∧ M_45 14 = some false := by
  constructor
  · simp only [M_44, loopO_eq, bindO_int]
    kernel_rfl
  · simp only [M_45, M_46, M_80, loopO_eq, bindO_int]
    kernel_rfl

theorem pr15 : M_44 15 = some false ∧ M_45 15 = some false := by
  constructor
  · simp only [M_44, loopO_eq, bindO_int]
    kernel_rfl
  · simp only [M_45, M_46, M_80, loopO_eq, bindO_int]
    kernel_rfl

theorem pr16 : M_44 16 = some false ∧ M_45 16 = some false := by
  constructor
  · simp only [M_44, loopO_eq, bindO_int]
    kernel_rfl
  · simp only [M_45, M_46, M_80, loopO_eq, bindO_int]
    kernel_rfl

theorem pr17 : M_44 17 = some true ∧ M_45 17 = some true := by
  constructor
  · simp only [M_44, loopO_eq, bindO_int]
    kernel_rfl
  · simp only [M_45, M_46, M_80, loopO_eq, bindO_int]
    kernel_rfl

theorem pr18 : M_44 18 = some false ∧ M_45 18 = some false := by
  constructor
  · simp only [M_44, loopO_eq, bindO_int]
    kernel_rfl
  · simp only [M_45, M_46, M_80, loopO_eq, bindO_int]
    kernel_rfl

theorem pr19 : M_44 19 = some true ∧ M_45 19 = some true := by
  constructor
  · simp only [M_44, loopO_eq, bindO_int]
    kernel_rfl
  · simp only [M_45, M_46, M_80, loopO_eq, bindO_int]
    kernel_rfl

theorem pr20 : M_44 20 = some false ∧ M_45 20 = some false := by
  constructor
  · simp only [M_44, loopO_eq, bindO_int]
    kernel_rfl
  · simp only [M_45, M_46, M_80, loopO_eq, bindO_int]
    kernel_rfl

theorem pr21 : M_44 21 = some false ∧ M_45 21 = some false := by
  constructor
  · simp only [M_44, loopO_eq, bindO_int]
    kernel_rfl
  · simp only [M_45, M_46, M_80, loopO_eq, bindO_int]
    kernel_rfl

theorem pr22 : M_44 22 = some false ∧ M_45 22 = some false := by
  constructor
  · simp only [M_44, loopO_eq, bindO_int]
    kernel_rfl
  · simp only [M_45, M_46, M_80, loopO_eq, bindO_int]
    kernel_rfl

theorem pr23 : M_44 23 = some true ∧ M_45 23 = some true := by
  constructor
  · simp only [M_44, loopO_eq, bindO_int]
    kernel_rfl
  · simp only [M_45, M_46, M_80, loopO_eq, bindO_int]
    kernel_rfl

theorem v2_1 : M_14 (2, 1) = some (0, true) ∧ M_15 (2, 1) = some (0, true) := by
  constructor
  · simp only [M_14, M_43, M_44, loopO_eq, bindO_int, bindO_ints]
    kernel_rfl
  · simp only [M_15, M_45, M_46, M_80, loopO_eq, bindO_int]
    kernel_rfl

theorem v2_2 : M_14 (2, 2) = some (1, true) ∧ M_15 (2, 2) = some (1, true) := by
  constructor
  · simp only [M_14, M_43, M_44, loopO_eq, bindO_int, bindO_ints]
    kernel_rfl
  · simp only [M_15, M_45, M_46, M_80, loopO_eq, bindO_int]
    kernel_rfl

theorem v2_3 : M_14 (2, 3) = some (0, true) ∧ M_15 (2, 3) = some (0, true) := by
  constructor
  · simp only [M_14, M_43, M_44, loopO_eq, bindO_int, bindO_ints]
    kernel_rfl
  · simp only [M_15, M_45, M_46, M_80, loopO_eq, bindO_int]
    kernel_rfl

theorem v2_4 : M_14 (2, 4) = some (1, true) ∧ M_15 (2, 4) = some (1, true) := by
  constructor
  · simp only [M_14, M_43, M_44, loopO_eq, bindO_int, bindO_ints]
    kernel_rfl
  · simp only [M_15, M_45, M_46, M_80, loopO_eq, bindO_int]
    kernel_rfl

theorem v2_5 : M_14 (2, 5) = some (0, true) ∧ M_15 (2, 5) = some (0, true) := by
  constructor
  · simp only [M_14, M_43, M_44, loopO_eq, bindO_int, bindO_ints]
    kernel_rfl
  · simp only [M_15, M_45, M_46, M_80, loopO_eq, bindO_int]
    kernel_rfl

theorem v3_1 : M_14 (3, 1) = some (0, true) ∧ M_15 (3, 1) = some (0, true) := by
  constructor
  · simp only [M_14, M_43, M_44, loopO_eq, bindO_int, bindO_ints]
    kernel_rfl
  · simp only [M_15, M_45, M_46, M_80, loopO_eq, bindO_int]
    kernel_rfl

theorem v3_2 : M_14 (3, 2) = some (2, true) ∧ M_15 (3, 2) = some (2, true) := by
  constructor
  · simp only [M_14, M_43, M_44, loopO_eq, bindO_int, bindO_ints]
    kernel_rfl
  · simp only [M_15, M_45, M_46, M_80, loopO_eq, bindO_int]
    kernel_rfl

theorem v3_3 : M_14 (3, 3) = some (2, true) ∧ M_15 (3, 3) = some (2, true) := by
  constructor
  · simp only [M_14, M_43, M_44, loopO_eq, bindO_int, bindO_ints]
    kernel_rfl
  · simp only [M_15, M_45, M_46, M_80, loopO_eq, bindO_int]
    kernel_rfl

theorem v3_4 : M_14 (3, 4) = some (6, true) ∧ M_15 (3, 4) = some (6, true) := by
  constructor
  · simp only [M_14, M_43, M_44, loopO_eq, bindO_int, bindO_ints]
    kernel_rfl
  · simp only [M_15, M_45, M_46, M_80, loopO_eq, bindO_int]
    kernel_rfl

theorem v3_5 : M_14 (3, 5) = some (10, true) ∧ M_15 (3, 5) = some (10, true) := by
  constructor
  · simp only [M_14, M_43, M_44, loopO_eq, bindO_int, bindO_ints]
    kernel_rfl
  · simp only [M_15, M_45, M_46, M_80, loopO_eq, bindO_int]
    kernel_rfl

theorem v5_1 : M_14 (5, 1) = some (0, true) ∧ M_15 (5, 1) = some (0, true) := by
  constructor
  · simp only [M_14, M_43, M_44, loopO_eq, bindO_int, bindO_ints]
    kernel_rfl
  · simp only [M_15, M_45, M_46, M_80, loopO_eq, bindO_int]
    kernel_rfl

theorem v5_2 : M_14 (5, 2) = some (4, true) ∧ M_15 (5, 2) = some (4, true) := by
  constructor
  · simp only [M_14, M_43, M_44, loopO_eq, bindO_int, bindO_ints]
    kernel_rfl
  · simp only [M_15, M_45, M_46, M_80, loopO_eq, bindO_int]
    kernel_rfl

theorem v5_3 : M_14 (5, 3) = some (12, true) ∧ M_15 (5, 3) = some (12, true) := by
  constructor
  · simp only [M_14, M_43, M_44, loopO_eq, bindO_int, bindO_ints]
    kernel_rfl
  · simp only [M_15, M_45, M_46, M_80, loopO_eq, bindO_int]
    kernel_rfl

theorem v5_4 : M_14 (5, 4) = some (52, true) ∧ M_15 (5, 4) = some (52, true) := by
  constructor
  · simp only [M_14, M_43, M_44, loopO_eq, bindO_int, bindO_ints]
    kernel_rfl
  · simp only [M_15, M_45, M_46, M_80, loopO_eq, bindO_int]
    kernel_rfl

theorem v5_5 : M_14 (5, 5) = some (204, true) ∧ M_15 (5, 5) = some (204, true) := by
  constructor
  · simp only [M_14, M_43, M_44, loopO_eq, bindO_int, bindO_ints]
    kernel_rfl
  · simp only [M_15, M_45, M_46, M_80, loopO_eq, bindO_int]
    kernel_rfl

theorem v7_1 : M_14 (7, 1) = some (0, true) ∧ M_15 (7, 1) = some (0, true) := by
  constructor
  · simp only [M_14, M_43, M_44, loopO_eq, bindO_int, bindO_ints]
    kernel_rfl
  · simp only [M_15, M_45, M_46, M_80, loopO_eq, bindO_int]
    kernel_rfl

theorem v7_2 : M_14 (7, 2) = some (6, true) ∧ M_15 (7, 2) = some (6, true) := by
  constructor
  · simp only [M_14, M_43, M_44, loopO_eq, bindO_int, bindO_ints]
    kernel_rfl
  · simp only [M_15, M_45, M_46, M_80, loopO_eq, bindO_int]
    kernel_rfl

theorem v7_3 : M_14 (7, 3) = some (30, true) ∧ M_15 (7, 3) = some (30, true) := by
  constructor
  · simp only [M_14, M_43, M_44, loopO_eq, bindO_int, bindO_ints]
    kernel_rfl
  · simp only [M_15, M_45, M_46, M_80, loopO_eq, bindO_int]
    kernel_rfl

theorem v7_4 : M_14 (7, 4) = some (186, true) ∧ M_15 (7, 4) = some (186, true) := by
  constructor
  · simp only [M_14, M_43, M_44, loopO_eq, bindO_int, bindO_ints]
    kernel_rfl
  · simp only [M_15, M_45, M_46, M_80, loopO_eq, bindO_int]
    kernel_rfl

theorem v7_5 : M_14 (7, 5) = some (1110, true) ∧ M_15 (7, 5) = some (1110, true) := by
  constructor
  · simp only [M_14, M_43, M_44, loopO_eq, bindO_int, bindO_ints]
    kernel_rfl
  · simp only [M_15, M_45, M_46, M_80, loopO_eq, bindO_int]
    kernel_rfl

theorem v11_1 : M_14 (11, 1) = some (0, true) ∧ M_15 (11, 1) = some (0, true) := by
  constructor
  · simp only [M_14, M_43, M_44, loopO_eq, bindO_int, bindO_ints]
    kernel_rfl
  · simp only [M_15, M_45, M_46, M_80, loopO_eq, bindO_int]
    kernel_rfl

theorem v11_2 : M_14 (11, 2) = some (10, true) ∧ M_15 (11, 2) = some (10, true) := by
  constructor
  · simp only [M_14, M_43, M_44, loopO_eq, bindO_int, bindO_ints]
    kernel_rfl
  · simp only [M_15, M_45, M_46, M_80, loopO_eq, bindO_int]
    kernel_rfl

theorem v11_3 : M_14 (11, 3) = some (90, true) ∧ M_15 (11, 3) = some (90, true) := by
  constructor
  · simp only [M_14, M_43, M_44, loopO_eq, bindO_int, bindO_ints]
    kernel_rfl
  · simp only [M_15, M_45, M_46, M_80, loopO_eq, bindO_int]
    kernel_rfl

theorem v11_4 : M_14 (11, 4) = some (910, true) ∧ M_15 (11, 4) = some (910, true) := by
  constructor
  · simp only [M_14, M_43, M_44, loopO_eq, bindO_int, bindO_ints]
    kernel_rfl
  · simp only [M_15, M_45, M_46, M_80, loopO_eq, bindO_int]
    kernel_rfl

theorem v11_5 : M_14 (11, 5) = some (9090, true) ∧ M_15 (11, 5) = some (9090, true) := by
  constructor
  · simp only [M_14, M_43, M_44, loopO_eq, bindO_int, bindO_ints]
    kernel_rfl
  · simp only [M_15, M_45, M_46, M_80, loopO_eq, bindO_int]
    kernel_rfl

theorem v13_1 : M_14 (13, 1) = some (0, true) ∧ M_15 (13, 1) = some (0, true) := by
  constructor
  · simp only [M_14, M_43, M_44, loopO_eq, bindO_int, bindO_ints]
    kernel_rfl
  · simp only [M_15, M_45, M_46, M_80, loopO_eq, bindO_int]
    kernel_rfl

theorem v13_2 : M_14 (13, 2) = some (12, true) ∧ M_15 (13, 2) = some (12, true) := by
  constructor
  · simp only [M_14, M_43, M_44, loopO_eq, bindO_int, bindO_ints]
    kernel_rfl
  · simp only [M_15, M_45, M_46, M_80, loopO_eq, bindO_int]
    kernel_rfl

theorem v13_3 : M_14 (13, 3) = some (132, true) ∧ M_15 (13, 3) = some (132, true) := by
  constructor
  · simp only [M_14, M_43, M_44, loopO_eq, bindO_int, bindO_ints]
    kernel_rfl
  · simp only [M_15, M_45, M_46, M_80, loopO_eq, bindO_int]
    kernel_rfl

theorem v13_4 : M_14 (13, 4) = some (1596, true) ∧ M_15 (13, 4) = some (1596, true) := by
  constructor
  · simp only [M_14, M_43, M_44, loopO_eq, bindO_int, bindO_ints]
    kernel_rfl
  · simp only [M_15, M_45, M_46, M_80, loopO_eq, bindO_int]
    kernel_rfl

theorem v13_5 : M_14 (13, 5) = some (19140, true) ∧ M_15 (13, 5) = some (19140, true) := by
  constructor
  · simp only [M_14, M_43, M_44, loopO_eq, bindO_int, bindO_ints]
    kernel_rfl
  · simp only [M_15, M_45, M_46, M_80, loopO_eq, bindO_int]
    kernel_rfl

theorem v17_1 : M_14 (17, 1) = some (0, true) ∧ M_15 (17, 1) = some (0, true) := by
  constructor
  · simp only [M_14, M_43, M_44, loopO_eq, bindO_int, bindO_ints]
    kernel_rfl
  · simp only [M_15, M_45, M_46, M_80, loopO_eq, bindO_int]
    kernel_rfl

theorem v17_2 : M_14 (17, 2) = some (16, true) ∧ M_15 (17, 2) = some (16, true) := by
  constructor
  · simp only [M_14, M_43, M_44, loopO_eq, bindO_int, bindO_ints]
    kernel_rfl
  · simp only [M_15, M_45, M_46, M_80, loopO_eq, bindO_int]
    kernel_rfl

theorem v17_3 : M_14 (17, 3) = some (240, true) ∧ M_15 (17, 3) = some (240, true) := by
  constructor
  · simp only [M_14, M_43, M_44, loopO_eq, bindO_int, bindO_ints]
    kernel_rfl
  · simp only [M_15, M_45, M_46, M_80, loopO_eq, bindO_int]
    kernel_rfl

theorem v17_4 : M_14 (17, 4) = some (3856, true) ∧ M_15 (17, 4) = some (3856, true) := by
  constructor
  · simp only [M_14, M_43, M_44, loopO_eq, bindO_int, bindO_ints]
    kernel_rfl
  · simp only [M_15, M_45, M_46, M_80, loopO_eq, bindO_int]
    kernel_rfl

theorem v17_5 : M_14 (17, 5) = some (61680, true) ∧ M_15 (17, 5) = some (61680, true) := by
  constructor
  · simp only [M_14, M_43, M_44, loopO_eq, bindO_int, bindO_ints]
    kernel_rfl
  · simp only [M_15, M_45, M_46, M_80, loopO_eq, bindO_int]
    kernel_rfl

theorem v19_1 : M_14 (19, 1) = some (0, true) ∧ M_15 (19, 1) = some (0, true) := by
  constructor
  · simp only [M_14, M_43, M_44, loopO_eq, bindO_int, bindO_ints]
    kernel_rfl
  · simp only [M_15, M_45, M_46, M_80, loopO_eq, bindO_int]
    kernel_rfl

theorem v19_2 : M_14 (19, 2) = some (18, true) ∧ M_15 (19, 2) = some (18, true) := by
  constructor
  · simp only [M_14, M_43, M_44, loopO_eq, bindO_int, bindO_ints]
    kernel_rfl
  · simp only [M_15, M_45, M_46, M_80, loopO_eq, bindO_int]
    kernel_rfl

theorem v19_3 : M_14 (19, 3) = some (306, true) ∧ M_15 (19, 3) = some (306, true) := by
  constructor
  · simp only [M_14, M_43, M_44, loopO_eq, bindO_int, bindO_ints]
    kernel_rfl
  · simp only [M_15, M_45, M_46, M_80, loopO_eq, bindO_int]
    kernel_rfl

theorem v19_4 : M_14 (19, 4) = some (5526, true) ∧ M_15 (19, 4) = some (5526, true) := by
  constructor
  · simp only [M_14, M_43, M_44, loopO_eq, bindO_int, bindO_ints]
    kernel_rfl
  · simp only [M_15, M_45, M_46, M_80, loopO_eq, bindO_int]
    kernel_rfl

theorem v19_5 : M_14 (19, 5) = some (99450, true) ∧ M_15 (19, 5) = some (99450, true) := by
  constructor
  · simp only [M_14, M_43, M_44, loopO_eq, bindO_int, bindO_ints]
    kernel_rfl
  · simp only [M_15, M_45, M_46, M_80, loopO_eq, bindO_int]
    kernel_rfl

theorem v23_1 : M_14 (23, 1) = some (0, true) ∧ M_15 (23, 1) = some (0, true) := by
  constructor
  · simp only [M_14, M_43, M_44, loopO_eq, bindO_int, bindO_ints]
    kernel_rfl
  · simp only [M_15, M_45, M_46, M_80, loopO_eq, bindO_int]
    kernel_rfl

theorem v23_2 : M_14 (23, 2) = some (22, true) ∧ M_15 (23, 2) = some (22, true) := by
  constructor
  · simp only [M_14, M_43, M_44, loopO_eq, bindO_int, bindO_ints]
    kernel_rfl
  · simp only [M_15, M_45, M_46, M_80, loopO_eq, bindO_int]
    kernel_rfl

theorem v23_3 : M_14 (23, 3) = some (462, true) ∧ M_15 (23, 3) = some (462, true) := by
  constructor
  · simp only [M_14, M_43, M_44, loopO_eq, bindO_int, bindO_ints]
    kernel_rfl
  · simp only [M_15, M_45, M_46, M_80, loopO_eq, bindO_int]
    kernel_rfl

theorem v23_4 : M_14 (23, 4) = some (10186, true) ∧ M_15 (23, 4) = some (10186, true) := by
  constructor
  · simp only [M_14, M_43, M_44, loopO_eq, bindO_int, bindO_ints]
    kernel_rfl
  · simp only [M_15, M_45, M_46, M_80, loopO_eq, bindO_int]
    kernel_rfl

theorem v23_5 : M_14 (23, 5) = some (224070, true) ∧ M_15 (23, 5) = some (224070, true) := by
  constructor
  · simp only [M_14, M_43, M_44, loopO_eq, bindO_int, bindO_ints]
    kernel_rfl
  · simp only [M_15, M_45, M_46, M_80, loopO_eq, bindO_int]
    kernel_rfl

theorem no14 {q k : Int} (h : ¬ (2 ≤ q ∧ q ≤ 23) ∨ (M_44 q = some false) ∨ ((∃ b, M_44 q = some b) ∧ ¬ (1 ≤ k ∧ k ≤ 5))) : M_14 (q, k) = some (0, false) := by
  rcases h with h | h | ⟨⟨b, h⟩, h2⟩
  · simp [M_14, in43, bindO_some, h]
  · by_cases h1 : 2 ≤ q ∧ q ≤ 23 <;> simp [M_14, in43, bindO_some, h, h1]
  · by_cases h1 : 2 ≤ q ∧ q ≤ 23 <;> cases b <;> simp [M_14, in43, bindO_some, h, h1, h2]

theorem no15 {q k : Int} (h : q > 23 ∨ (M_45 q = some false) ∨ ((∃ b, M_45 q = some b) ∧ ¬ (1 ≤ k ∧ k ≤ 5))) : M_15 (q, k) = some (0, false) := by
  rcases h with h | h | ⟨⟨b, h⟩, h2⟩
  · simp [M_15, h]
  · by_cases h1 : q > 23 <;> simp [M_15, bindO_some, h, h1]
  · by_cases h1 : q > 23 <;> cases b <;> simp [M_15, in46, bindO_some, h, h1, h2]

theorem low45 {q : Int} (h : q < 2) : M_45 q = some false := by
  simp [M_45, M_80, in46, bindO_some, show ¬ (2 ≤ q ∧ q ≤ 2000000000) by omega]

theorem law3 (q k : Int) : M_3 (q, k) = some true := by
  have key : ∃ r : Int × Bool, M_14 (q, k) = some r ∧ M_15 (q, k) = some r := by
    by_cases h1 : q < 2
    · exact ⟨(0, false), no14 (.inl (by omega)), no15 (.inr (.inl (low45 h1)))⟩
    by_cases h2 : q > 23
    · exact ⟨(0, false), no14 (.inl (by omega)), no15 (.inl h2)⟩
    have hq : q = 2 ∨ q = 3 ∨ q = 4 ∨ q = 5 ∨ q = 6 ∨ q = 7 ∨ q = 8 ∨ q = 9 ∨ q = 10 ∨ q = 11 ∨ q = 12 ∨ q = 13 ∨ q = 14 ∨ q = 15 ∨ q = 16 ∨ q = 17 ∨ q = 18 ∨ q = 19 ∨ q = 20 ∨ q = 21 ∨ q = 22 ∨ q = 23 := by omega
    by_cases h3 : 1 ≤ k ∧ k ≤ 5
    · have hk : k = 1 ∨ k = 2 ∨ k = 3 ∨ k = 4 ∨ k = 5 := by omega
      rcases hq with rfl | rfl | rfl | rfl | rfl | rfl | rfl | rfl | rfl | rfl | rfl | rfl | rfl | rfl | rfl | rfl | rfl | rfl | rfl | rfl | rfl | rfl
      · rcases hk with rfl | rfl | rfl | rfl | rfl
        · exact ⟨_, v2_1⟩
        · exact ⟨_, v2_2⟩
        · exact ⟨_, v2_3⟩
        · exact ⟨_, v2_4⟩
        · exact ⟨_, v2_5⟩
      · rcases hk with rfl | rfl | rfl | rfl | rfl
        · exact ⟨_, v3_1⟩
        · exact ⟨_, v3_2⟩
        · exact ⟨_, v3_3⟩
        · exact ⟨_, v3_4⟩
        · exact ⟨_, v3_5⟩
      · exact ⟨(0, false), no14 (.inr (.inl pr4.1)), no15 (.inr (.inl pr4.2))⟩
      · rcases hk with rfl | rfl | rfl | rfl | rfl
        · exact ⟨_, v5_1⟩
        · exact ⟨_, v5_2⟩
        · exact ⟨_, v5_3⟩
        · exact ⟨_, v5_4⟩
        · exact ⟨_, v5_5⟩
      · exact ⟨(0, false), no14 (.inr (.inl pr6.1)), no15 (.inr (.inl pr6.2))⟩
      · rcases hk with rfl | rfl | rfl | rfl | rfl
        · exact ⟨_, v7_1⟩
        · exact ⟨_, v7_2⟩
        · exact ⟨_, v7_3⟩
        · exact ⟨_, v7_4⟩
        · exact ⟨_, v7_5⟩
      · exact ⟨(0, false), no14 (.inr (.inl pr8.1)), no15 (.inr (.inl pr8.2))⟩
      · exact ⟨(0, false), no14 (.inr (.inl pr9.1)), no15 (.inr (.inl pr9.2))⟩
      · exact ⟨(0, false), no14 (.inr (.inl pr10.1)), no15 (.inr (.inl pr10.2))⟩
      · rcases hk with rfl | rfl | rfl | rfl | rfl
        · exact ⟨_, v11_1⟩
        · exact ⟨_, v11_2⟩
        · exact ⟨_, v11_3⟩
        · exact ⟨_, v11_4⟩
        · exact ⟨_, v11_5⟩
      · exact ⟨(0, false), no14 (.inr (.inl pr12.1)), no15 (.inr (.inl pr12.2))⟩
      · rcases hk with rfl | rfl | rfl | rfl | rfl
        · exact ⟨_, v13_1⟩
        · exact ⟨_, v13_2⟩
        · exact ⟨_, v13_3⟩
        · exact ⟨_, v13_4⟩
        · exact ⟨_, v13_5⟩
      · exact ⟨(0, false), no14 (.inr (.inl pr14.1)), no15 (.inr (.inl pr14.2))⟩
      · exact ⟨(0, false), no14 (.inr (.inl pr15.1)), no15 (.inr (.inl pr15.2))⟩
      · exact ⟨(0, false), no14 (.inr (.inl pr16.1)), no15 (.inr (.inl pr16.2))⟩
      · rcases hk with rfl | rfl | rfl | rfl | rfl
        · exact ⟨_, v17_1⟩
        · exact ⟨_, v17_2⟩
        · exact ⟨_, v17_3⟩
        · exact ⟨_, v17_4⟩
        · exact ⟨_, v17_5⟩
      · exact ⟨(0, false), no14 (.inr (.inl pr18.1)), no15 (.inr (.inl pr18.2))⟩
      · rcases hk with rfl | rfl | rfl | rfl | rfl
        · exact ⟨_, v19_1⟩
        · exact ⟨_, v19_2⟩
        · exact ⟨_, v19_3⟩
        · exact ⟨_, v19_4⟩
        · exact ⟨_, v19_5⟩
      · exact ⟨(0, false), no14 (.inr (.inl pr20.1)), no15 (.inr (.inl pr20.2))⟩
      · exact ⟨(0, false), no14 (.inr (.inl pr21.1)), no15 (.inr (.inl pr21.2))⟩
      · exact ⟨(0, false), no14 (.inr (.inl pr22.1)), no15 (.inr (.inl pr22.2))⟩
      · rcases hk with rfl | rfl | rfl | rfl | rfl
        · exact ⟨_, v23_1⟩
        · exact ⟨_, v23_2⟩
        · exact ⟨_, v23_3⟩
        · exact ⟨_, v23_4⟩
        · exact ⟨_, v23_5⟩
    · rcases hq with rfl | rfl | rfl | rfl | rfl | rfl | rfl | rfl | rfl | rfl | rfl | rfl | rfl | rfl | rfl | rfl | rfl | rfl | rfl | rfl | rfl | rfl
      · exact ⟨(0, false), no14 (.inr (.inr ⟨⟨_, pr2.1⟩, h3⟩)), no15 (.inr (.inr ⟨⟨_, pr2.2⟩, h3⟩))⟩
      · exact ⟨(0, false), no14 (.inr (.inr ⟨⟨_, pr3.1⟩, h3⟩)), no15 (.inr (.inr ⟨⟨_, pr3.2⟩, h3⟩))⟩
      · exact ⟨(0, false), no14 (.inr (.inr ⟨⟨_, pr4.1⟩, h3⟩)), no15 (.inr (.inr ⟨⟨_, pr4.2⟩, h3⟩))⟩
      · exact ⟨(0, false), no14 (.inr (.inr ⟨⟨_, pr5.1⟩, h3⟩)), no15 (.inr (.inr ⟨⟨_, pr5.2⟩, h3⟩))⟩
      · exact ⟨(0, false), no14 (.inr (.inr ⟨⟨_, pr6.1⟩, h3⟩)), no15 (.inr (.inr ⟨⟨_, pr6.2⟩, h3⟩))⟩
      · exact ⟨(0, false), no14 (.inr (.inr ⟨⟨_, pr7.1⟩, h3⟩)), no15 (.inr (.inr ⟨⟨_, pr7.2⟩, h3⟩))⟩
      · exact ⟨(0, false), no14 (.inr (.inr ⟨⟨_, pr8.1⟩, h3⟩)), no15 (.inr (.inr ⟨⟨_, pr8.2⟩, h3⟩))⟩
      · exact ⟨(0, false), no14 (.inr (.inr ⟨⟨_, pr9.1⟩, h3⟩)), no15 (.inr (.inr ⟨⟨_, pr9.2⟩, h3⟩))⟩
      · exact ⟨(0, false), no14 (.inr (.inr ⟨⟨_, pr10.1⟩, h3⟩)), no15 (.inr (.inr ⟨⟨_, pr10.2⟩, h3⟩))⟩
      · exact ⟨(0, false), no14 (.inr (.inr ⟨⟨_, pr11.1⟩, h3⟩)), no15 (.inr (.inr ⟨⟨_, pr11.2⟩, h3⟩))⟩
      · exact ⟨(0, false), no14 (.inr (.inr ⟨⟨_, pr12.1⟩, h3⟩)), no15 (.inr (.inr ⟨⟨_, pr12.2⟩, h3⟩))⟩
      · exact ⟨(0, false), no14 (.inr (.inr ⟨⟨_, pr13.1⟩, h3⟩)), no15 (.inr (.inr ⟨⟨_, pr13.2⟩, h3⟩))⟩
      · exact ⟨(0, false), no14 (.inr (.inr ⟨⟨_, pr14.1⟩, h3⟩)), no15 (.inr (.inr ⟨⟨_, pr14.2⟩, h3⟩))⟩
      · exact ⟨(0, false), no14 (.inr (.inr ⟨⟨_, pr15.1⟩, h3⟩)), no15 (.inr (.inr ⟨⟨_, pr15.2⟩, h3⟩))⟩
      · exact ⟨(0, false), no14 (.inr (.inr ⟨⟨_, pr16.1⟩, h3⟩)), no15 (.inr (.inr ⟨⟨_, pr16.2⟩, h3⟩))⟩
      · exact ⟨(0, false), no14 (.inr (.inr ⟨⟨_, pr17.1⟩, h3⟩)), no15 (.inr (.inr ⟨⟨_, pr17.2⟩, h3⟩))⟩
      · exact ⟨(0, false), no14 (.inr (.inr ⟨⟨_, pr18.1⟩, h3⟩)), no15 (.inr (.inr ⟨⟨_, pr18.2⟩, h3⟩))⟩
      · exact ⟨(0, false), no14 (.inr (.inr ⟨⟨_, pr19.1⟩, h3⟩)), no15 (.inr (.inr ⟨⟨_, pr19.2⟩, h3⟩))⟩
      · exact ⟨(0, false), no14 (.inr (.inr ⟨⟨_, pr20.1⟩, h3⟩)), no15 (.inr (.inr ⟨⟨_, pr20.2⟩, h3⟩))⟩
      · exact ⟨(0, false), no14 (.inr (.inr ⟨⟨_, pr21.1⟩, h3⟩)), no15 (.inr (.inr ⟨⟨_, pr21.2⟩, h3⟩))⟩
      · exact ⟨(0, false), no14 (.inr (.inr ⟨⟨_, pr22.1⟩, h3⟩)), no15 (.inr (.inr ⟨⟨_, pr22.2⟩, h3⟩))⟩
      · exact ⟨(0, false), no14 (.inr (.inr ⟨⟨_, pr23.1⟩, h3⟩)), no15 (.inr (.inr ⟨⟨_, pr23.2⟩, h3⟩))⟩
  obtain ⟨r, h1, h2⟩ := key
  simp [M_3, h1, h2, bindO_some]

end Go.Proofs.Ytlacogoljcpijaa.Vd
