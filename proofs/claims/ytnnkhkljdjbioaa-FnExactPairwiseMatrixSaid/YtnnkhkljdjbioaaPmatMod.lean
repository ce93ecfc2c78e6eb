/- The functions of the law as plain functions on data, and that the program's functions are these. No conditions. -/
import Derived.Test.YtnnkhkljdjbioaaVd3
import Derived.Test.YtnnkhkljdjbioaaChecked
import Derived.KernelRfl
set_option linter.unusedVariables false
namespace Go.Proofs.Ytnnkhkljdjbioaa.Vd
def tys : List (Option Ty) := [none, none, some (.int .i64), some (.int .i64), some .bool, some (.int .u8), some (.int .u8), some (.cons (.int .i64) (.cons (.int .i64) (.cons .bool (.one (.int .u8))))), some (.cons (.int .i64) (.cons (.int .i64) (.cons .bool (.one (.int .u8))))), some .str, some .str, some .str, some (.int .u64), some (.cons .str (.one (.int .u64))), some (.cons .str (.one (.int .u64))), none, none, none, none, none, none, some (.int .i32), some (.sl (.sl (.int .i64))), none, none, none, none, none, none, none, none, some (.sl (.int .i64)), none, none, none, none, none, none, some (.sl (.int .u8)), none, none, none, none, none, none, none, none, none, none, none, none, none, none, none, none, none, none, some (.int .u64), some (.cons (.sl (.int .u8)) (.cons (.int .i64) (.one (.int .u64)))), some (.cons (.sl (.int .u8)) (.cons (.int .i64) (.one (.int .u64)))), none, none, none, none, some (.int .u64), none, none, none, none, some (.sl .bool), none, none, none, none, none, none, none, none, some (.int .u32), none, none, none, none, none, none, none, none, none, none, none, none, some (.int .u8), some (.int .u8), none, none, some (.int .i32), some (.int .i32), none, none, none]
def others : List Nat := [1, 15, 16, 17, 23, 25, 26, 27, 28, 30, 33, 34, 35, 36, 37, 39, 41, 42, 44, 45, 46, 47, 48, 49, 50, 51, 52, 53, 54, 55, 56, 60, 61, 62, 63, 65, 66, 67, 68, 70, 71, 72, 73, 74, 75, 76, 77, 79, 80, 81, 82, 83, 84, 85, 93, 94]
def pairs : List Nat := []
noncomputable def mkE (con : List (Nat × Con0)) : Env := ⟨[], tys, others, pairs, con⟩

set_option maxRecDepth 100000 in
theorem tyOK (con : List (Nat × Con0)) : TyOK Try.prog (mkE con) := tyOK_of (E := mkE con) (by kernel_rfl) (by kernel_rfl) (by kernel_rfl)

/-- L_szIntS -/
def pk_L_szIntS : List PK := [.data (.sl (.int .i64)), .data (.int .i64)]
def rk_L_szIntS : List (Ty × Bool) := [((.int .i64), false)]
def h_L_szIntS : Hints := { loops := [] }
noncomputable def M_L_szIntS (x : ((List Int) × Int)) : (Option Int) :=
  (bindO (some (IntKind.wrap .i64 (x.2 - (((List.length x.1) : Nat) : Int)))) (fun (a0 : Int) => (cond (decide (a0 < (0 : Int))) (some (- (1 : Int))) (some a0))))

noncomputable def c_L_szIntS : Con0 := ⟨pk_L_szIntS, rk_L_szIntS, M_L_szIntS⟩

set_option maxRecDepth 100000 in
theorem eq_L_szIntS (x : In pk_L_szIntS) : semF (mkE []) h_L_szIntS (info Try.f44) pk_L_szIntS rk_L_szIntS x = M_L_szIntS x := by kernel_rfl

set_option maxRecDepth 100000 in
theorem m_L_szIntS : ConOK Try.prog 44 c_L_szIntS := fn_ok (tyOK _) (E := mkE []) (consOK_nil rfl) Try.func44 (h := h_L_szIntS) (by kernel_rfl) eq_L_szIntS

/-- L_szIntSS -/
def pk_L_szIntSS : List PK := [.data (.sl (.sl (.int .i64))), .data (.int .i64)]
def rk_L_szIntSS : List (Ty × Bool) := [((.int .i64), false)]
def h_L_szIntSS : Hints := { loops := [(0, { items := [.slot 1 (.data (.int .i64) []), .slot 5 (.data (.int .i64) [])], kill := [2, 3, 4, 6, 7, 8, 9, 10, 11, 12, 13, 14, 15, 16, 17, 18, 19, 20, 21, 22, 23, 24, 25, 26] })] }
noncomputable def M_L_szIntSS (x : ((List (List Int)) × Int)) : (Option Int) :=
  (bindO (some (IntKind.wrap .i64 (x.2 - (((List.length x.1) : Nat) : Int)))) (fun (a0 : Int) => (cond (decide (a0 < (0 : Int))) (some (- (1 : Int))) (loopO (fun (again1 : ((Int × Int) → (Option Int))) => (fun (s2 : (Int × Int)) => (cond (decide (s2.2 < (((List.length x.1) : Nat) : Int))) (bindO (getI x.1 s2.2) (fun (a3 : (List Int)) => (bindO (M_L_szIntS (a3, s2.1)) (fun (a4 : Int) => (cond (decide (a4 < (0 : Int))) (some (- (1 : Int))) (bindO (some (IntKind.wrap .i64 (s2.2 + (1 : Int)))) (fun (a5 : Int) => (again1 (a4, a5))))))))) (some s2.1)))) (a0, (0 : Int))))))

noncomputable def c_L_szIntSS : Con0 := ⟨pk_L_szIntSS, rk_L_szIntSS, M_L_szIntSS⟩

set_option maxRecDepth 100000 in
theorem eq_L_szIntSS (x : In pk_L_szIntSS) : semF (mkE [(44, c_L_szIntS)]) h_L_szIntSS (info Try.f10) pk_L_szIntSS rk_L_szIntSS x = M_L_szIntSS x := by kernel_rfl

set_option maxRecDepth 100000 in
theorem m_L_szIntSS : ConOK Try.prog 10 c_L_szIntSS := fn_ok (tyOK _) (E := mkE [(44, c_L_szIntS)]) (consOK_cons m_L_szIntS (consOK_nil rfl)) Try.func10 (h := h_L_szIntSS) (by kernel_rfl) eq_L_szIntSS

/-- L_toIntS -/
def pk_L_toIntS : List PK := [.data (.sl (.int .i64))]
def rk_L_toIntS : List (Ty × Bool) := [((.sl (.int .i64)), true)]
def h_L_toIntS : Hints := { loops := [(0, { items := [.slot 4 (.data (.int .i64) []), .arr 3 (.int .i64) true], kill := [1, 2, 5, 6, 7, 8, 9, 10, 11, 12, 13, 14, 15, 16, 17, 18, 19, 20, 21] })] }
noncomputable def M_L_toIntS (x : (List Int)) : (Option (List Int)) :=
  (bindO (guardO (((decide ((0 : Int) ≤ (((List.length x) : Nat) : Int))) && (decide ((((List.length x) : Nat) : Int) ≤ (((List.length x) : Nat) : Int)))) && (decide ((((List.length x) : Nat) : Int) ≤ ((lim : Nat) : Int))))) (fun (a0 : Unit) => (loopO (fun (again1 : ((Int × (List Int)) → (Option (List Int)))) => (fun (s2 : (Int × (List Int))) => (cond (decide (s2.1 < (((List.length x) : Nat) : Int))) (bindO (getI x s2.1) (fun (a3 : Int) => (bindO (getI s2.2 s2.1) (fun (a4 : Int) => (bindO (some (List.set s2.2 (Int.toNat s2.1) a3)) (fun (a5 : (List Int)) => (bindO (some (IntKind.wrap .i64 (s2.1 + (1 : Int)))) (fun (a6 : Int) => (again1 (a6, a5)))))))))) (some s2.2)))) ((0 : Int), (List.replicate (Int.toNat (((List.length x) : Nat) : Int)) (0 : Int))))))

noncomputable def c_L_toIntS : Con0 := ⟨pk_L_toIntS, rk_L_toIntS, M_L_toIntS⟩

set_option maxRecDepth 100000 in
theorem eq_L_toIntS (x : In pk_L_toIntS) : semF (mkE []) h_L_toIntS (info Try.f22) pk_L_toIntS rk_L_toIntS x = M_L_toIntS x := by kernel_rfl

set_option maxRecDepth 100000 in
theorem m_L_toIntS : ConOK Try.prog 22 c_L_toIntS := fn_ok (tyOK _) (E := mkE []) (consOK_nil rfl) Try.func22 (h := h_L_toIntS) (by kernel_rfl) eq_L_toIntS

/-- L_toIntSS -/
def pk_L_toIntSS : List PK := [.data (.sl (.sl (.int .i64)))]
def rk_L_toIntSS : List (Ty × Bool) := [((.sl (.sl (.int .i64))), true)]
def h_L_toIntSS : Hints := { loops := [(0, { items := [.slot 4 (.data (.int .i64) []), .arr 3 (.sl (.int .i64)) true], kill := [1, 2, 5, 6, 7, 8, 9, 10, 11, 12, 13, 14, 15, 16, 17, 18, 19, 20, 21, 22] })] }
noncomputable def M_L_toIntSS (x : (List (List Int))) : (Option (List (List Int))) :=
  (bindO (guardO (((decide ((0 : Int) ≤ (((List.length x) : Nat) : Int))) && (decide ((((List.length x) : Nat) : Int) ≤ (((List.length x) : Nat) : Int)))) && (decide ((((List.length x) : Nat) : Int) ≤ ((lim : Nat) : Int))))) (fun (a0 : Unit) => (loopO (fun (again1 : ((Int × (List (List Int))) → (Option (List (List Int))))) => (fun (s2 : (Int × (List (List Int)))) => (cond (decide (s2.1 < (((List.length x) : Nat) : Int))) (bindO (getI x s2.1) (fun (a3 : (List Int)) => (bindO (M_L_toIntS a3) (fun (a4 : (List Int)) => (bindO (getI s2.2 s2.1) (fun (a5 : (List Int)) => (bindO (some (List.set s2.2 (Int.toNat s2.1) a4)) (fun (a6 : (List (List Int))) => (bindO (some (IntKind.wrap .i64 (s2.1 + (1 : Int)))) (fun (a7 : Int) => (again1 (a7, a6)))))))))))) (some s2.2)))) ((0 : Int), (List.replicate (Int.toNat (((List.length x) : Nat) : Int)) ([] : List Int))))))

noncomputable def c_L_toIntSS : Con0 := ⟨pk_L_toIntSS, rk_L_toIntSS, M_L_toIntSS⟩

set_option maxRecDepth 100000 in
theorem eq_L_toIntSS (x : In pk_L_toIntSS) : semF (mkE [(22, c_L_toIntS)]) h_L_toIntSS (info Try.f12) pk_L_toIntSS rk_L_toIntSS x = M_L_toIntSS x := by kernel_rfl

set_option maxRecDepth 100000 in
theorem m_L_toIntSS : ConOK Try.prog 12 c_L_toIntSS := fn_ok (tyOK _) (E := mkE [(22, c_L_toIntS)]) (consOK_cons m_L_toIntS (consOK_nil rfl)) Try.func12 (h := h_L_toIntSS) (by kernel_rfl) eq_L_toIntSS

/-- S_l1In -/
def pk_S_l1In : List PK := [.data (.int .i64), .data (.int .i64), .data (.int .i64)]
def rk_S_l1In : List (Ty × Bool) := [(.bool, false)]
def h_S_l1In : Hints := { loops := [] }
noncomputable def M_S_l1In (x : (Int × (Int × Int))) : (Option Bool) :=
  (cond (decide (x.1 ≥ x.2.1)) (some (decide (x.1 ≤ x.2.2))) (some false))

noncomputable def c_S_l1In : Con0 := ⟨pk_S_l1In, rk_S_l1In, M_S_l1In⟩

set_option maxRecDepth 100000 in
theorem eq_S_l1In (x : In pk_S_l1In) : semF (mkE []) h_S_l1In (info Try.f55) pk_S_l1In rk_S_l1In x = M_S_l1In x := by kernel_rfl

set_option maxRecDepth 100000 in
theorem m_S_l1In : ConOK Try.prog 55 c_S_l1In := fn_ok (tyOK _) (E := mkE []) (consOK_nil rfl) Try.func55 (h := h_S_l1In) (by kernel_rfl) eq_S_l1In

/-- S_l1All -/
def pk_S_l1All : List PK := [.data (.sl (.int .i64)), .data (.int .i64), .data (.int .i64)]
def rk_S_l1All : List (Ty × Bool) := [(.bool, false)]
def h_S_l1All : Hints := { loops := [(0, { items := [.slot 11 (.data (.int .i64) [])], kill := [0, 3, 4, 5, 6, 7, 8, 12, 13, 14, 15, 16, 17, 18, 19, 20] })] }
noncomputable def M_S_l1All (x : ((List Int) × (Int × Int))) : (Option Bool) :=
  (loopO (fun (again0 : (Int → (Option Bool))) => (fun (s1 : Int) => (cond (decide (s1 < (((List.length x.1) : Nat) : Int))) (bindO (getI x.1 s1) (fun (a2 : Int) => (bindO (M_S_l1In (a2, (x.2.1, x.2.2))) (fun (a3 : Bool) => (cond (not a3) (some false) (bindO (some (IntKind.wrap .i64 (s1 + (1 : Int)))) (fun (a4 : Int) => (again0 a4)))))))) (some true)))) (0 : Int))

noncomputable def c_S_l1All : Con0 := ⟨pk_S_l1All, rk_S_l1All, M_S_l1All⟩

set_option maxRecDepth 100000 in
theorem eq_S_l1All (x : In pk_S_l1All) : semF (mkE [(55, c_S_l1In)]) h_S_l1All (info Try.f74) pk_S_l1All rk_S_l1All x = M_S_l1All x := by kernel_rfl

set_option maxRecDepth 100000 in
theorem m_S_l1All : ConOK Try.prog 74 c_S_l1All := fn_ok (tyOK _) (E := mkE [(55, c_S_l1In)]) (consOK_cons m_S_l1In (consOK_nil rfl)) Try.func74 (h := h_S_l1All) (by kernel_rfl) eq_S_l1All

/-- S_l1Has -/
def pk_S_l1Has : List PK := [.data (.sl (.int .i64)), .data (.int .i64)]
def rk_S_l1Has : List (Ty × Bool) := [(.bool, false)]
def h_S_l1Has : Hints := { loops := [(0, { items := [.slot 9 (.data (.int .i64) [])], kill := [0, 2, 3, 4, 5, 6, 10, 11, 12, 13, 14, 15, 16] })] }
noncomputable def M_S_l1Has (x : ((List Int) × Int)) : (Option Bool) :=
  (loopO (fun (again0 : (Int → (Option Bool))) => (fun (s1 : Int) => (cond (decide (s1 < (((List.length x.1) : Nat) : Int))) (bindO (getI x.1 s1) (fun (a2 : Int) => (cond (a2 == x.2) (some true) (bindO (some (IntKind.wrap .i64 (s1 + (1 : Int)))) (fun (a3 : Int) => (again0 a3)))))) (some false)))) (0 : Int))

noncomputable def c_S_l1Has : Con0 := ⟨pk_S_l1Has, rk_S_l1Has, M_S_l1Has⟩

set_option maxRecDepth 100000 in
theorem eq_S_l1Has (x : In pk_S_l1Has) : semF (mkE []) h_S_l1Has (info Try.f83) pk_S_l1Has rk_S_l1Has x = M_S_l1Has x := by kernel_rfl

set_option maxRecDepth 100000 in
theorem m_S_l1Has : ConOK Try.prog 83 c_S_l1Has := fn_ok (tyOK _) (E := mkE []) (consOK_nil rfl) Try.func83 (h := h_S_l1Has) (by kernel_rfl) eq_S_l1Has

/-- S_vDifferent -/
def pk_S_vDifferent : List PK := [.data (.sl (.int .i64))]
def rk_S_vDifferent : List (Ty × Bool) := [(.bool, false)]
def h_S_vDifferent : Hints := { loops := [(0, { items := [.slot 7 (.data (.int .i64) [])], kill := [1, 2, 3, 4, 8, 9, 10, 11, 12, 13, 14, 15, 16, 17] })] }
noncomputable def M_S_vDifferent (x : (List Int)) : (Option Bool) :=
  (loopO (fun (again0 : (Int → (Option Bool))) => (fun (s1 : Int) => (cond (decide (s1 < (((List.length x) : Nat) : Int))) (bindO (getI x s1) (fun (a2 : Int) => (bindO (sliceNH s1 (List.length x)) (fun (a3 : (Nat × Nat)) => (bindO (M_S_l1Has ((List.drop a3.1 (List.take a3.2 x)), a2)) (fun (a4 : Bool) => (cond a4 (some false) (bindO (some (IntKind.wrap .i64 (s1 + (1 : Int)))) (fun (a5 : Int) => (again0 a5)))))))))) (some true)))) (0 : Int))

noncomputable def c_S_vDifferent : Con0 := ⟨pk_S_vDifferent, rk_S_vDifferent, M_S_vDifferent⟩

set_option maxRecDepth 100000 in
theorem eq_S_vDifferent (x : In pk_S_vDifferent) : semF (mkE [(83, c_S_l1Has)]) h_S_vDifferent (info Try.f75) pk_S_vDifferent rk_S_vDifferent x = M_S_vDifferent x := by kernel_rfl

set_option maxRecDepth 100000 in
theorem m_S_vDifferent : ConOK Try.prog 75 c_S_vDifferent := fn_ok (tyOK _) (E := mkE [(83, c_S_l1Has)]) (consOK_cons m_S_l1Has (consOK_nil rfl)) Try.func75 (h := h_S_vDifferent) (by kernel_rfl) eq_S_vDifferent

/-- S_tRanks -/
def pk_S_tRanks : List PK := [.data (.int .i64), .data (.sl (.sl (.int .i64)))]
def rk_S_tRanks : List (Ty × Bool) := [(.bool, false)]
def h_S_tRanks : Hints := { loops := [(0, { items := [.slot 17 (.data (.int .i64) [])], kill := [1, 2, 3, 4, 5, 6, 7, 8, 9, 10, 11, 12, 13, 14, 18, 19, 20, 21, 22, 23, 24, 25, 26, 27, 28, 29, 30, 31] })] }
noncomputable def M_S_tRanks (x : (Int × (List (List Int)))) : (Option Bool) :=
  (bindO (M_S_l1In (x.1, ((1 : Int), (8 : Int)))) (fun (a0 : Bool) => (cond (not a0) (some false) (cond (decide ((((List.length x.2) : Nat) : Int) > (24 : Int))) (some false) (loopO (fun (again1 : (Int → (Option Bool))) => (fun (s2 : Int) => (cond (decide (s2 < (((List.length x.2) : Nat) : Int))) (bindO (getI x.2 s2) (fun (a3 : (List Int)) => (bindO (some (IntKind.wrap .i64 (x.1 - (1 : Int)))) (fun (a4 : Int) => (bindO (M_S_l1All (a3, ((0 : Int), a4))) (fun (a5 : Bool) => (cond (not a5) (some false) (bindO (M_S_vDifferent a3) (fun (a6 : Bool) => (cond (not a6) (some false) (bindO (some (IntKind.wrap .i64 (s2 + (1 : Int)))) (fun (a7 : Int) => (again1 a7))))))))))))) (some true)))) (0 : Int))))))

noncomputable def c_S_tRanks : Con0 := ⟨pk_S_tRanks, rk_S_tRanks, M_S_tRanks⟩

set_option maxRecDepth 100000 in
theorem eq_S_tRanks (x : In pk_S_tRanks) : semF (mkE [(55, c_S_l1In), (74, c_S_l1All), (75, c_S_vDifferent)]) h_S_tRanks (info Try.f45) pk_S_tRanks rk_S_tRanks x = M_S_tRanks x := by kernel_rfl

set_option maxRecDepth 100000 in
theorem m_S_tRanks : ConOK Try.prog 45 c_S_tRanks := fn_ok (tyOK _) (E := mkE [(55, c_S_l1In), (74, c_S_l1All), (75, c_S_vDifferent)]) (consOK_cons m_S_l1In (consOK_cons m_S_l1All (consOK_cons m_S_vDifferent (consOK_nil rfl)))) Try.func45 (h := h_S_tRanks) (by kernel_rfl) eq_S_tRanks

/-- S_tPlace -/
def pk_S_tPlace : List PK := [.data (.sl (.int .i64)), .data (.int .i64)]
def rk_S_tPlace : List (Ty × Bool) := [((.int .i64), false)]
def h_S_tPlace : Hints := { loops := [(0, { items := [.slot 9 (.data (.int .i64) [])], kill := [0, 2, 3, 4, 5, 6, 10, 11, 12, 13, 14, 15, 16, 17, 18] })] }
noncomputable def M_S_tPlace (x : ((List Int) × Int)) : (Option Int) :=
  (loopO (fun (again0 : (Int → (Option Int))) => (fun (s1 : Int) => (cond (decide (s1 < (((List.length x.1) : Nat) : Int))) (bindO (getI x.1 s1) (fun (a2 : Int) => (cond (a2 == x.2) (some s1) (bindO (some (IntKind.wrap .i64 (s1 + (1 : Int)))) (fun (a3 : Int) => (again0 a3)))))) (some (8 : Int))))) (0 : Int))

noncomputable def c_S_tPlace : Con0 := ⟨pk_S_tPlace, rk_S_tPlace, M_S_tPlace⟩

set_option maxRecDepth 100000 in
theorem eq_S_tPlace (x : In pk_S_tPlace) : semF (mkE []) h_S_tPlace (info Try.f46) pk_S_tPlace rk_S_tPlace x = M_S_tPlace x := by kernel_rfl

set_option maxRecDepth 100000 in
theorem m_S_tPlace : ConOK Try.prog 46 c_S_tPlace := fn_ok (tyOK _) (E := mkE []) (consOK_nil rfl) Try.func46 (h := h_S_tPlace) (by kernel_rfl) eq_S_tPlace

/-- S_PairwiseMatrix -/
def pk_S_PairwiseMatrix : List PK := [.data (.int .i64), .data (.sl (.sl (.int .i64)))]
def rk_S_PairwiseMatrix : List (Ty × Bool) := [((.sl (.sl (.int .i64))), true), (.bool, false)]
def h_S_PairwiseMatrix : Hints := { loops := [(0, { items := [.slot 6 (.own (.sl (.int .i64)) true), .slot 7 (.data (.int .i64) [])], kill := [2, 3, 4, 5, 8, 9, 10, 11, 12, 13, 14, 15, 16, 17, 18, 19, 20, 21, 22, 23, 24, 25, 26, 27, 28, 29, 30, 31, 32, 33, 34, 35, 36, 37, 38, 39, 40, 41, 42, 43, 44, 45, 46, 47, 48, 49, 50, 51, 52, 53] }), (2, { items := [.slot 25 (.data (.int .i64) []), .arr 8 (.int .i64) true], kill := [2, 3, 4, 5, 9, 10, 11, 12, 13, 14, 15, 16, 17, 18, 19, 20, 21, 22, 23, 26, 27, 28, 29, 30, 31, 32, 33, 34, 35, 36, 37, 38, 39, 40, 41, 42, 43, 44, 45, 46, 47, 48, 49, 50, 51, 52, 53] }), (4, { items := [.slot 30 (.data (.int .i64) []), .arr 8 (.int .i64) true], kill := [2, 3, 4, 5, 10, 11, 12, 13, 14, 15, 16, 17, 18, 19, 20, 21, 22, 23, 26, 27, 31, 32, 33, 34, 35, 36, 37, 38, 39, 40, 41, 42, 43, 44, 45, 46, 47, 48, 49, 50, 51, 52, 53] })] }
noncomputable def M_S_PairwiseMatrix (x : (Int × (List (List Int)))) : (Option ((List (List Int)) × Bool)) :=
  (bindO (M_S_tRanks (x.1, x.2)) (fun (a0 : Bool) => (cond (not a0) (some (([] : List (List Int)), false)) (loopO (fun (again1 : (((List (List Int)) × Int) → (Option ((List (List Int)) × Bool)))) => (fun (s2 : ((List (List Int)) × Int)) => (cond (decide (s2.2 < x.1)) (bindO (guardO (((decide ((0 : Int) ≤ x.1)) && (decide (x.1 ≤ x.1))) && (decide (x.1 ≤ ((lim : Nat) : Int))))) (fun (a3 : Unit) => (loopO (fun (again4 : ((Int × (List Int)) → (Option ((List (List Int)) × Bool)))) => (fun (s5 : (Int × (List Int))) => (cond (decide (s5.1 < (((List.length (List.replicate (Int.toNat x.1) (0 : Int))) : Nat) : Int))) (loopO (fun (again6 : ((Int × (List Int)) → (Option ((List (List Int)) × Bool)))) => (fun (s7 : (Int × (List Int))) => (cond (decide (s7.1 < (((List.length x.2) : Nat) : Int))) (bindO (getI x.2 s7.1) (fun (a8 : (List Int)) => (bindO (M_S_tPlace (a8, s2.2)) (fun (a9 : Int) => (bindO (M_S_tPlace (a8, s5.1)) (fun (a10 : Int) => (cond (decide (a9 < a10)) (bindO (getI s7.2 s5.1) (fun (a11 : Int) => (bindO (some (IntKind.wrap .i64 (a11 + (1 : Int)))) (fun (a12 : Int) => (bindO (getI s7.2 s5.1) (fun (a13 : Int) => (bindO (some (List.set s7.2 (Int.toNat s5.1) a12)) (fun (a14 : (List Int)) => (bindO (some (IntKind.wrap .i64 (s7.1 + (1 : Int)))) (fun (a15 : Int) => (again6 (a15, a14)))))))))))) (bindO (some (IntKind.wrap .i64 (s7.1 + (1 : Int)))) (fun (a16 : Int) => (again6 (a16, s7.2))))))))))) (bindO (some (IntKind.wrap .i64 (s5.1 + (1 : Int)))) (fun (a17 : Int) => (again4 (a17, s7.2))))))) ((0 : Int), s5.2)) (bindO (guardO (lenOk ((List.length s2.1) + (List.length (s5.2 :: ([] : List (List Int))))))) (fun (a18 : Unit) => (bindO (some (s2.1 ++ (s5.2 :: ([] : List (List Int))))) (fun (a19 : (List (List Int))) => (bindO (some (IntKind.wrap .i64 (s2.2 + (1 : Int)))) (fun (a20 : Int) => (again1 (a19, a20))))))))))) ((0 : Int), (List.replicate (Int.toNat x.1) (0 : Int)))))) (some (s2.1, true))))) (([] : List (List Int)), (0 : Int))))))

noncomputable def c_S_PairwiseMatrix : Con0 := ⟨pk_S_PairwiseMatrix, rk_S_PairwiseMatrix, M_S_PairwiseMatrix⟩

set_option maxRecDepth 100000 in
theorem eq_S_PairwiseMatrix (x : In pk_S_PairwiseMatrix) : semF (mkE [(45, c_S_tRanks), (46, c_S_tPlace)]) h_S_PairwiseMatrix (info Try.f11) pk_S_PairwiseMatrix rk_S_PairwiseMatrix x = M_S_PairwiseMatrix x := by kernel_rfl

set_option maxRecDepth 100000 in
theorem m_S_PairwiseMatrix : ConOK Try.prog 11 c_S_PairwiseMatrix := fn_ok (tyOK _) (E := mkE [(45, c_S_tRanks), (46, c_S_tPlace)]) (consOK_cons m_S_tRanks (consOK_cons m_S_tPlace (consOK_nil rfl))) Try.func11 (h := h_S_PairwiseMatrix) (by kernel_rfl) eq_S_PairwiseMatrix

/-- I_within -/
def pk_I_within : List PK := [.data (.int .i64), .data (.int .i64), .data (.int .i64)]
def rk_I_within : List (Ty × Bool) := [(.bool, false)]
def h_I_within : Hints := { loops := [] }
noncomputable def M_I_within (x : (Int × (Int × Int))) : (Option Bool) :=
  (cond (decide (x.1 ≥ x.2.1)) (some (decide (x.1 ≤ x.2.2))) (some false))

noncomputable def c_I_within : Con0 := ⟨pk_I_within, rk_I_within, M_I_within⟩

set_option maxRecDepth 100000 in
theorem eq_I_within (x : In pk_I_within) : semF (mkE []) h_I_within (info Try.f58) pk_I_within rk_I_within x = M_I_within x := by kernel_rfl

set_option maxRecDepth 100000 in
theorem m_I_within : ConOK Try.prog 58 c_I_within := fn_ok (tyOK _) (E := mkE []) (consOK_nil rfl) Try.func58 (h := h_I_within) (by kernel_rfl) eq_I_within

/-- slices_IndexFunc_ssint_sint -/
def pk_slices_IndexFunc_ssint_sint : List PK := [.data (.sl (.sl (.int .i64))), .fn [(.sl (.int .i64))] .bool]
def rk_slices_IndexFunc_ssint_sint : List (Ty × Bool) := [((.int .i64), false)]
def h_slices_IndexFunc_ssint_sint : Hints := { loops := [(0, { items := [.slot 8 (.data (.int .i64) [])], kill := [2, 3, 4, 5, 6, 9, 10, 11, 12, 13, 14, 15, 16, 17, 18] })] }
noncomputable def M_slices_IndexFunc_ssint_sint (x : ((List (List Int)) × ((List Int) → (Option Bool)))) : (Option Int) :=
  (loopO (fun (again0 : (Int → (Option Int))) => (fun (s1 : Int) => (cond (decide (s1 < (((List.length x.1) : Nat) : Int))) (bindO (getI x.1 s1) (fun (a2 : (List Int)) => (bindO (x.2 a2) (fun (a3 : Bool) => (cond a3 (some s1) (bindO (some (IntKind.wrap .i64 (s1 + (1 : Int)))) (fun (a4 : Int) => (again0 a4)))))))) (some (- (1 : Int)))))) (0 : Int))

noncomputable def c_slices_IndexFunc_ssint_sint : Con0 := ⟨pk_slices_IndexFunc_ssint_sint, rk_slices_IndexFunc_ssint_sint, M_slices_IndexFunc_ssint_sint⟩

set_option maxRecDepth 100000 in
theorem eq_slices_IndexFunc_ssint_sint (x : In pk_slices_IndexFunc_ssint_sint) : semF (mkE []) h_slices_IndexFunc_ssint_sint (info Try.f94) pk_slices_IndexFunc_ssint_sint rk_slices_IndexFunc_ssint_sint x = M_slices_IndexFunc_ssint_sint x := by kernel_rfl

set_option maxRecDepth 100000 in
theorem m_slices_IndexFunc_ssint_sint : ConOK Try.prog 94 c_slices_IndexFunc_ssint_sint := fn_ok (tyOK _) (E := mkE []) (consOK_nil rfl) Try.func94 (h := h_slices_IndexFunc_ssint_sint) (by kernel_rfl) eq_slices_IndexFunc_ssint_sint

/-- slices_ContainsFunc_ssint_sint -/
def pk_slices_ContainsFunc_ssint_sint : List PK := [.data (.sl (.sl (.int .i64))), .fn [(.sl (.int .i64))] .bool]
def rk_slices_ContainsFunc_ssint_sint : List (Ty × Bool) := [(.bool, false)]
def h_slices_ContainsFunc_ssint_sint : Hints := { loops := [] }
noncomputable def M_slices_ContainsFunc_ssint_sint (x : ((List (List Int)) × ((List Int) → (Option Bool)))) : (Option Bool) :=
  (bindO (M_slices_IndexFunc_ssint_sint (x.1, x.2)) (fun (a0 : Int) => (some (decide (a0 ≥ (0 : Int))))))

noncomputable def c_slices_ContainsFunc_ssint_sint : Con0 := ⟨pk_slices_ContainsFunc_ssint_sint, rk_slices_ContainsFunc_ssint_sint, M_slices_ContainsFunc_ssint_sint⟩

set_option maxRecDepth 100000 in
theorem eq_slices_ContainsFunc_ssint_sint (x : In pk_slices_ContainsFunc_ssint_sint) : semF (mkE [(94, c_slices_IndexFunc_ssint_sint)]) h_slices_ContainsFunc_ssint_sint (info Try.f76) pk_slices_ContainsFunc_ssint_sint rk_slices_ContainsFunc_ssint_sint x = M_slices_ContainsFunc_ssint_sint x := by kernel_rfl

set_option maxRecDepth 100000 in
theorem m_slices_ContainsFunc_ssint_sint : ConOK Try.prog 76 c_slices_ContainsFunc_ssint_sint := fn_ok (tyOK _) (E := mkE [(94, c_slices_IndexFunc_ssint_sint)]) (consOK_cons m_slices_IndexFunc_ssint_sint (consOK_nil rfl)) Try.func76 (h := h_slices_ContainsFunc_ssint_sint) (by kernel_rfl) eq_slices_ContainsFunc_ssint_sint

/-- slices_IndexFunc_sint_int -/
def pk_slices_IndexFunc_sint_int : List PK := [.data (.sl (.int .i64)), .fn [(.int .i64)] .bool]
def rk_slices_IndexFunc_sint_int : List (Ty × Bool) := [((.int .i64), false)]
def h_slices_IndexFunc_sint_int : Hints := { loops := [(0, { items := [.slot 8 (.data (.int .i64) [])], kill := [2, 3, 4, 5, 6, 9, 10, 11, 12, 13, 14, 15, 16, 17, 18] })] }
noncomputable def M_slices_IndexFunc_sint_int (x : ((List Int) × (Int → (Option Bool)))) : (Option Int) :=
  (loopO (fun (again0 : (Int → (Option Int))) => (fun (s1 : Int) => (cond (decide (s1 < (((List.length x.1) : Nat) : Int))) (bindO (getI x.1 s1) (fun (a2 : Int) => (bindO (x.2 a2) (fun (a3 : Bool) => (cond a3 (some s1) (bindO (some (IntKind.wrap .i64 (s1 + (1 : Int)))) (fun (a4 : Int) => (again0 a4)))))))) (some (- (1 : Int)))))) (0 : Int))

noncomputable def c_slices_IndexFunc_sint_int : Con0 := ⟨pk_slices_IndexFunc_sint_int, rk_slices_IndexFunc_sint_int, M_slices_IndexFunc_sint_int⟩

set_option maxRecDepth 100000 in
theorem eq_slices_IndexFunc_sint_int (x : In pk_slices_IndexFunc_sint_int) : semF (mkE []) h_slices_IndexFunc_sint_int (info Try.f96) pk_slices_IndexFunc_sint_int rk_slices_IndexFunc_sint_int x = M_slices_IndexFunc_sint_int x := by kernel_rfl

set_option maxRecDepth 100000 in
theorem m_slices_IndexFunc_sint_int : ConOK Try.prog 96 c_slices_IndexFunc_sint_int := fn_ok (tyOK _) (E := mkE []) (consOK_nil rfl) Try.func96 (h := h_slices_IndexFunc_sint_int) (by kernel_rfl) eq_slices_IndexFunc_sint_int

/-- slices_ContainsFunc_sint_int -/
def pk_slices_ContainsFunc_sint_int : List PK := [.data (.sl (.int .i64)), .fn [(.int .i64)] .bool]
def rk_slices_ContainsFunc_sint_int : List (Ty × Bool) := [(.bool, false)]
def h_slices_ContainsFunc_sint_int : Hints := { loops := [] }
noncomputable def M_slices_ContainsFunc_sint_int (x : ((List Int) × (Int → (Option Bool)))) : (Option Bool) :=
  (bindO (M_slices_IndexFunc_sint_int (x.1, x.2)) (fun (a0 : Int) => (some (decide (a0 ≥ (0 : Int))))))

noncomputable def c_slices_ContainsFunc_sint_int : Con0 := ⟨pk_slices_ContainsFunc_sint_int, rk_slices_ContainsFunc_sint_int, M_slices_ContainsFunc_sint_int⟩

set_option maxRecDepth 100000 in
theorem eq_slices_ContainsFunc_sint_int (x : In pk_slices_ContainsFunc_sint_int) : semF (mkE [(96, c_slices_IndexFunc_sint_int)]) h_slices_ContainsFunc_sint_int (info Try.f98) pk_slices_ContainsFunc_sint_int rk_slices_ContainsFunc_sint_int x = M_slices_ContainsFunc_sint_int x := by kernel_rfl

set_option maxRecDepth 100000 in
theorem m_slices_ContainsFunc_sint_int : ConOK Try.prog 98 c_slices_ContainsFunc_sint_int := fn_ok (tyOK _) (E := mkE [(96, c_slices_IndexFunc_sint_int)]) (consOK_cons m_slices_IndexFunc_sint_int (consOK_nil rfl)) Try.func98 (h := h_slices_ContainsFunc_sint_int) (by kernel_rfl) eq_slices_ContainsFunc_sint_int

/-- I_areAll_1 -/
def pk_I_areAll_1 : List PK := [.data (.int .i64), .rfn [(.int .i64)] .bool]
def rk_I_areAll_1 : List (Ty × Bool) := [(.bool, false)]
def h_I_areAll_1 : Hints := { loops := [] }
noncomputable def M_I_areAll_1 (x : (Int × (Int → (Option Bool)))) : (Option Bool) :=
  (bindO (x.2 x.1) (fun (a0 : Bool) => (some (not a0))))

noncomputable def c_I_areAll_1 : Con0 := ⟨pk_I_areAll_1, rk_I_areAll_1, M_I_areAll_1⟩

set_option maxRecDepth 100000 in
theorem eq_I_areAll_1 (x : In pk_I_areAll_1) : semF (mkE []) h_I_areAll_1 (info Try.f99) pk_I_areAll_1 rk_I_areAll_1 x = M_I_areAll_1 x := by kernel_rfl

set_option maxRecDepth 100000 in
theorem m_I_areAll_1 : ConOK Try.prog 99 c_I_areAll_1 := fn_ok (tyOK _) (E := mkE []) (consOK_nil rfl) Try.func99 (h := h_I_areAll_1) (by kernel_rfl) eq_I_areAll_1

/-- I_areAll -/
def pk_I_areAll : List PK := [.data (.sl (.int .i64)), .fn [(.int .i64)] .bool]
def rk_I_areAll : List (Ty × Bool) := [(.bool, false)]
def h_I_areAll : Hints := { loops := [] }
noncomputable def M_I_areAll (x : ((List Int) × (Int → (Option Bool)))) : (Option Bool) :=
  (bindO (M_slices_ContainsFunc_sint_int (x.1, (fun (a0 : Int) => (bindO (M_I_areAll_1 (a0, x.2)) (fun (a1 : Bool) => (some a1)))))) (fun (a2 : Bool) => (some (not a2))))

noncomputable def c_I_areAll : Con0 := ⟨pk_I_areAll, rk_I_areAll, M_I_areAll⟩

set_option maxRecDepth 100000 in
theorem eq_I_areAll (x : In pk_I_areAll) : semF (mkE [(98, c_slices_ContainsFunc_sint_int), (99, c_I_areAll_1)]) h_I_areAll (info Try.f84) pk_I_areAll rk_I_areAll x = M_I_areAll x := by kernel_rfl

set_option maxRecDepth 100000 in
theorem m_I_areAll : ConOK Try.prog 84 c_I_areAll := fn_ok (tyOK _) (E := mkE [(98, c_slices_ContainsFunc_sint_int), (99, c_I_areAll_1)]) (consOK_cons m_slices_ContainsFunc_sint_int (consOK_cons m_I_areAll_1 (consOK_nil rfl))) Try.func84 (h := h_I_areAll) (by kernel_rfl) eq_I_areAll

/-- I_areBelow_1 -/
def pk_I_areBelow_1 : List PK := [.data (.int .i64), .rp (.int .i64)]
def rk_I_areBelow_1 : List (Ty × Bool) := [(.bool, false)]
def h_I_areBelow_1 : Hints := { loops := [] }
noncomputable def M_I_areBelow_1 (x : (Int × Int)) : (Option Bool) :=
  (bindO (some (IntKind.wrap .i64 (x.2 - (1 : Int)))) (fun (a0 : Int) => (bindO (M_I_within (x.1, ((0 : Int), a0))) (fun (a1 : Bool) => (some a1)))))

noncomputable def c_I_areBelow_1 : Con0 := ⟨pk_I_areBelow_1, rk_I_areBelow_1, M_I_areBelow_1⟩

set_option maxRecDepth 100000 in
theorem eq_I_areBelow_1 (x : In pk_I_areBelow_1) : semF (mkE [(58, c_I_within)]) h_I_areBelow_1 (info Try.f95) pk_I_areBelow_1 rk_I_areBelow_1 x = M_I_areBelow_1 x := by kernel_rfl

set_option maxRecDepth 100000 in
theorem m_I_areBelow_1 : ConOK Try.prog 95 c_I_areBelow_1 := fn_ok (tyOK _) (E := mkE [(58, c_I_within)]) (consOK_cons m_I_within (consOK_nil rfl)) Try.func95 (h := h_I_areBelow_1) (by kernel_rfl) eq_I_areBelow_1

/-- I_areBelow -/
def pk_I_areBelow : List PK := [.data (.sl (.int .i64)), .data (.int .i64)]
def rk_I_areBelow : List (Ty × Bool) := [(.bool, false)]
def h_I_areBelow : Hints := { loops := [] }
noncomputable def M_I_areBelow (x : ((List Int) × Int)) : (Option Bool) :=
  (bindO (M_I_areAll (x.1, (fun (a0 : Int) => (bindO (M_I_areBelow_1 (a0, x.2)) (fun (a1 : Bool) => (some a1)))))) (fun (a2 : Bool) => (some a2)))

noncomputable def c_I_areBelow : Con0 := ⟨pk_I_areBelow, rk_I_areBelow, M_I_areBelow⟩

set_option maxRecDepth 100000 in
theorem eq_I_areBelow (x : In pk_I_areBelow) : semF (mkE [(84, c_I_areAll), (95, c_I_areBelow_1)]) h_I_areBelow (info Try.f78) pk_I_areBelow rk_I_areBelow x = M_I_areBelow x := by kernel_rfl

set_option maxRecDepth 100000 in
theorem m_I_areBelow : ConOK Try.prog 78 c_I_areBelow := fn_ok (tyOK _) (E := mkE [(84, c_I_areAll), (95, c_I_areBelow_1)]) (consOK_cons m_I_areAll (consOK_cons m_I_areBelow_1 (consOK_nil rfl))) Try.func78 (h := h_I_areBelow) (by kernel_rfl) eq_I_areBelow

/-- slices_Index_sint_int -/
def pk_slices_Index_sint_int : List PK := [.data (.sl (.int .i64)), .data (.int .i64)]
def rk_slices_Index_sint_int : List (Ty × Bool) := [((.int .i64), false)]
def h_slices_Index_sint_int : Hints := { loops := [(0, { items := [.slot 8 (.data (.int .i64) [])], kill := [2, 3, 4, 5, 6, 9, 10, 11, 12, 13, 14, 15, 16, 17, 18] })] }
noncomputable def M_slices_Index_sint_int (x : ((List Int) × Int)) : (Option Int) :=
  (loopO (fun (again0 : (Int → (Option Int))) => (fun (s1 : Int) => (cond (decide (s1 < (((List.length x.1) : Nat) : Int))) (bindO (getI x.1 s1) (fun (a2 : Int) => (cond (x.2 == a2) (some s1) (bindO (some (IntKind.wrap .i64 (s1 + (1 : Int)))) (fun (a3 : Int) => (again0 a3)))))) (some (- (1 : Int)))))) (0 : Int))

noncomputable def c_slices_Index_sint_int : Con0 := ⟨pk_slices_Index_sint_int, rk_slices_Index_sint_int, M_slices_Index_sint_int⟩

set_option maxRecDepth 100000 in
theorem eq_slices_Index_sint_int (x : In pk_slices_Index_sint_int) : semF (mkE []) h_slices_Index_sint_int (info Try.f51) pk_slices_Index_sint_int rk_slices_Index_sint_int x = M_slices_Index_sint_int x := by kernel_rfl

set_option maxRecDepth 100000 in
theorem m_slices_Index_sint_int : ConOK Try.prog 51 c_slices_Index_sint_int := fn_ok (tyOK _) (E := mkE []) (consOK_nil rfl) Try.func51 (h := h_slices_Index_sint_int) (by kernel_rfl) eq_slices_Index_sint_int

/-- slices_Contains_sint_int -/
def pk_slices_Contains_sint_int : List PK := [.data (.sl (.int .i64)), .data (.int .i64)]
def rk_slices_Contains_sint_int : List (Ty × Bool) := [(.bool, false)]
def h_slices_Contains_sint_int : Hints := { loops := [] }
noncomputable def M_slices_Contains_sint_int (x : ((List Int) × Int)) : (Option Bool) :=
  (bindO (M_slices_Index_sint_int (x.1, x.2)) (fun (a0 : Int) => (some (decide (a0 ≥ (0 : Int))))))

noncomputable def c_slices_Contains_sint_int : Con0 := ⟨pk_slices_Contains_sint_int, rk_slices_Contains_sint_int, M_slices_Contains_sint_int⟩

set_option maxRecDepth 100000 in
theorem eq_slices_Contains_sint_int (x : In pk_slices_Contains_sint_int) : semF (mkE [(51, c_slices_Index_sint_int)]) h_slices_Contains_sint_int (info Try.f48) pk_slices_Contains_sint_int rk_slices_Contains_sint_int x = M_slices_Contains_sint_int x := by kernel_rfl

set_option maxRecDepth 100000 in
theorem m_slices_Contains_sint_int : ConOK Try.prog 48 c_slices_Contains_sint_int := fn_ok (tyOK _) (E := mkE [(51, c_slices_Index_sint_int)]) (consOK_cons m_slices_Index_sint_int (consOK_nil rfl)) Try.func48 (h := h_slices_Contains_sint_int) (by kernel_rfl) eq_slices_Contains_sint_int

/-- I_areDifferent -/
def pk_I_areDifferent : List PK := [.data (.sl (.int .i64))]
def rk_I_areDifferent : List (Ty × Bool) := [(.bool, false)]
def h_I_areDifferent : Hints := { loops := [(0, { items := [.slot 7 (.data (.int .i64) [])], kill := [1, 2, 3, 4, 8, 9, 10, 11, 12, 13, 14, 15, 16, 17] })] }
noncomputable def M_I_areDifferent (x : (List Int)) : (Option Bool) :=
  (loopO (fun (again0 : (Int → (Option Bool))) => (fun (s1 : Int) => (cond (decide (s1 < (((List.length x) : Nat) : Int))) (bindO (getI x s1) (fun (a2 : Int) => (bindO (sliceNH s1 (List.length x)) (fun (a3 : (Nat × Nat)) => (bindO (M_slices_Contains_sint_int ((List.drop a3.1 (List.take a3.2 x)), a2)) (fun (a4 : Bool) => (cond a4 (some false) (bindO (some (IntKind.wrap .i64 (s1 + (1 : Int)))) (fun (a5 : Int) => (again0 a5)))))))))) (some true)))) (0 : Int))

noncomputable def c_I_areDifferent : Con0 := ⟨pk_I_areDifferent, rk_I_areDifferent, M_I_areDifferent⟩

set_option maxRecDepth 100000 in
theorem eq_I_areDifferent (x : In pk_I_areDifferent) : semF (mkE [(48, c_slices_Contains_sint_int)]) h_I_areDifferent (info Try.f79) pk_I_areDifferent rk_I_areDifferent x = M_I_areDifferent x := by kernel_rfl

set_option maxRecDepth 100000 in
theorem m_I_areDifferent : ConOK Try.prog 79 c_I_areDifferent := fn_ok (tyOK _) (E := mkE [(48, c_slices_Contains_sint_int)]) (consOK_cons m_slices_Contains_sint_int (consOK_nil rfl)) Try.func79 (h := h_I_areDifferent) (by kernel_rfl) eq_I_areDifferent

/-- I_areRankings_1 -/
def pk_I_areRankings_1 : List PK := [.data (.sl (.int .i64)), .rp (.int .i64)]
def rk_I_areRankings_1 : List (Ty × Bool) := [(.bool, false)]
def h_I_areRankings_1 : Hints := { loops := [] }
noncomputable def M_I_areRankings_1 (x : ((List Int) × Int)) : (Option Bool) :=
  (bindO (M_I_areBelow (x.1, x.2)) (fun (a0 : Bool) => (cond (not a0) (some true) (bindO (M_I_areDifferent x.1) (fun (a1 : Bool) => (some (not a1)))))))

noncomputable def c_I_areRankings_1 : Con0 := ⟨pk_I_areRankings_1, rk_I_areRankings_1, M_I_areRankings_1⟩

set_option maxRecDepth 100000 in
theorem eq_I_areRankings_1 (x : In pk_I_areRankings_1) : semF (mkE [(78, c_I_areBelow), (79, c_I_areDifferent)]) h_I_areRankings_1 (info Try.f77) pk_I_areRankings_1 rk_I_areRankings_1 x = M_I_areRankings_1 x := by kernel_rfl

set_option maxRecDepth 100000 in
theorem m_I_areRankings_1 : ConOK Try.prog 77 c_I_areRankings_1 := fn_ok (tyOK _) (E := mkE [(78, c_I_areBelow), (79, c_I_areDifferent)]) (consOK_cons m_I_areBelow (consOK_cons m_I_areDifferent (consOK_nil rfl))) Try.func77 (h := h_I_areRankings_1) (by kernel_rfl) eq_I_areRankings_1

/-- I_areRankings -/
def pk_I_areRankings : List PK := [.data (.int .i64), .data (.sl (.sl (.int .i64)))]
def rk_I_areRankings : List (Ty × Bool) := [(.bool, false)]
def h_I_areRankings : Hints := { loops := [] }
noncomputable def M_I_areRankings (x : (Int × (List (List Int)))) : (Option Bool) :=
  (bindO (M_I_within (x.1, ((1 : Int), (8 : Int)))) (fun (a0 : Bool) => (cond a0 (cond (decide ((((List.length x.2) : Nat) : Int) ≤ (24 : Int))) (bindO (M_slices_ContainsFunc_ssint_sint (x.2, (fun (a1 : (List Int)) => (bindO (M_I_areRankings_1 (a1, x.1)) (fun (a2 : Bool) => (some a2)))))) (fun (a3 : Bool) => (some (not a3)))) (some false)) (some false))))

noncomputable def c_I_areRankings : Con0 := ⟨pk_I_areRankings, rk_I_areRankings, M_I_areRankings⟩

set_option maxRecDepth 100000 in
theorem eq_I_areRankings (x : In pk_I_areRankings) : semF (mkE [(58, c_I_within), (76, c_slices_ContainsFunc_ssint_sint), (77, c_I_areRankings_1)]) h_I_areRankings (info Try.f47) pk_I_areRankings rk_I_areRankings x = M_I_areRankings x := by kernel_rfl

set_option maxRecDepth 100000 in
theorem m_I_areRankings : ConOK Try.prog 47 c_I_areRankings := fn_ok (tyOK _) (E := mkE [(58, c_I_within), (76, c_slices_ContainsFunc_ssint_sint), (77, c_I_areRankings_1)]) (consOK_cons m_I_within (consOK_cons m_slices_ContainsFunc_ssint_sint (consOK_cons m_I_areRankings_1 (consOK_nil rfl)))) Try.func47 (h := h_I_areRankings) (by kernel_rfl) eq_I_areRankings

/-- I_PairwiseMatrix -/
def pk_I_PairwiseMatrix : List PK := [.data (.int .i64), .data (.sl (.sl (.int .i64)))]
def rk_I_PairwiseMatrix : List (Ty × Bool) := [((.sl (.sl (.int .i64))), true), (.bool, false)]
def h_I_PairwiseMatrix : Hints := { loops := [(0, { items := [.slot 6 (.own (.sl (.int .i64)) true), .slot 18 (.data (.int .i64) [])], kill := [2, 3, 4, 5, 7, 8, 9, 10, 11, 12, 13, 14, 15, 16, 19, 20, 21, 22, 23, 24, 25, 26, 27, 28, 29, 30, 31, 32, 33, 34, 35, 36, 37, 38, 39, 40, 41, 42, 43, 44, 45, 46, 47, 48, 49, 50, 51, 52, 53, 54, 55, 56, 57, 58, 59, 60, 61, 62] }), (2, { items := [.slot 28 (.data (.int .i64) []), .arr 6 (.sl (.int .i64)) true], kill := [1, 2, 3, 4, 5, 7, 8, 9, 10, 11, 12, 13, 14, 15, 16, 17, 18, 19, 20, 21, 22, 23, 24, 25, 29, 30, 31, 32, 33, 34, 35, 36, 37, 38, 39, 40, 41, 42, 43, 44, 45, 46, 47, 48, 49, 50, 51, 52, 53, 54, 55, 56, 57, 58, 59, 60, 61, 62] }), (4, { items := [.slot 34 (.data (.int .i64) []), .arr 6 (.sl (.int .i64)) true], kill := [1, 2, 3, 4, 5, 7, 9, 10, 11, 12, 13, 14, 15, 16, 17, 18, 19, 20, 21, 22, 23, 24, 25, 29, 30, 31, 35, 36, 37, 38, 39, 40, 41, 42, 43, 44, 45, 46, 47, 48, 49, 50, 51, 52, 53, 54, 55, 56, 57, 58, 59, 60, 61, 62] }), (6, { items := [.slot 40 (.data (.int .i64) []), .arr 6 (.sl (.int .i64)) true], kill := [1, 2, 3, 4, 5, 7, 11, 12, 13, 14, 15, 16, 17, 18, 19, 20, 21, 22, 23, 24, 25, 29, 30, 31, 35, 36, 37, 38, 41, 42, 43, 44, 45, 46, 47, 48, 49, 50, 51, 52, 53, 54, 55, 56, 57, 58, 59, 60, 61, 62] })] }
noncomputable def M_I_PairwiseMatrix (x : (Int × (List (List Int)))) : (Option ((List (List Int)) × Bool)) :=
  (bindO (M_I_areRankings (x.1, x.2)) (fun (a0 : Bool) => (cond (not a0) (some (([] : List (List Int)), false)) (loopO (fun (again1 : (((List (List Int)) × Int) → (Option ((List (List Int)) × Bool)))) => (fun (s2 : ((List (List Int)) × Int)) => (cond (decide (s2.2 < x.1)) (bindO (guardO (((decide ((0 : Int) ≤ x.1)) && (decide (x.1 ≤ x.1))) && (decide (x.1 ≤ ((lim : Nat) : Int))))) (fun (a3 : Unit) => (bindO (guardO (lenOk ((List.length s2.1) + (List.length ((List.replicate (Int.toNat x.1) (0 : Int)) :: ([] : List (List Int))))))) (fun (a4 : Unit) => (bindO (some (s2.1 ++ ((List.replicate (Int.toNat x.1) (0 : Int)) :: ([] : List (List Int))))) (fun (a5 : (List (List Int))) => (bindO (some (IntKind.wrap .i64 (s2.2 + (1 : Int)))) (fun (a6 : Int) => (again1 (a5, a6)))))))))) (loopO (fun (again7 : ((Int × (List (List Int))) → (Option ((List (List Int)) × Bool)))) => (fun (s8 : (Int × (List (List Int)))) => (cond (decide (s8.1 < (((List.length x.2) : Nat) : Int))) (bindO (getI x.2 s8.1) (fun (a9 : (List Int)) => (loopO (fun (again10 : ((Int × (List (List Int))) → (Option ((List (List Int)) × Bool)))) => (fun (s11 : (Int × (List (List Int)))) => (cond (decide (s11.1 < (((List.length a9) : Nat) : Int))) (bindO (getI a9 s11.1) (fun (a12 : Int) => (loopO (fun (again13 : ((Int × (List (List Int))) → (Option ((List (List Int)) × Bool)))) => (fun (s14 : (Int × (List (List Int)))) => (cond (decide (s14.1 < x.1)) (bindO (some (IntKind.wrap .i64 (s11.1 + (1 : Int)))) (fun (a15 : Int) => (bindO (sliceNH a15 (List.length a9)) (fun (a16 : (Nat × Nat)) => (bindO (M_slices_Contains_sint_int ((List.drop a16.1 (List.take a16.2 a9)), s14.1)) (fun (a17 : Bool) => (cond (not a17) (bindO (getI s14.2 a12) (fun (a18 : (List Int)) => (bindO (getI a18 s14.1) (fun (a19 : Int) => (bindO (some (IntKind.wrap .i64 (a19 + (1 : Int)))) (fun (a20 : Int) => (bindO (getI a18 s14.1) (fun (a21 : Int) => (bindO (some (List.modify s14.2 (Int.toNat a12) (fun (a22 : (List Int)) => (List.set a18 (Int.toNat s14.1) a20)))) (fun (a23 : (List (List Int))) => (bindO (some (IntKind.wrap .i64 (s14.1 + (1 : Int)))) (fun (a24 : Int) => (again13 (a24, a23)))))))))))))) (bindO (some (IntKind.wrap .i64 (s14.1 + (1 : Int)))) (fun (a25 : Int) => (again13 (a25, s14.2))))))))))) (bindO (some (IntKind.wrap .i64 (s11.1 + (1 : Int)))) (fun (a26 : Int) => (again10 (a26, s14.2))))))) ((0 : Int), s11.2)))) (bindO (some (IntKind.wrap .i64 (s8.1 + (1 : Int)))) (fun (a27 : Int) => (again7 (a27, s11.2))))))) ((0 : Int), s8.2)))) (some (s8.2, true))))) ((0 : Int), s2.1))))) (([] : List (List Int)), (0 : Int))))))

noncomputable def c_I_PairwiseMatrix : Con0 := ⟨pk_I_PairwiseMatrix, rk_I_PairwiseMatrix, M_I_PairwiseMatrix⟩

set_option maxRecDepth 100000 in
theorem eq_I_PairwiseMatrix (x : In pk_I_PairwiseMatrix) : semF (mkE [(47, c_I_areRankings), (48, c_slices_Contains_sint_int)]) h_I_PairwiseMatrix (info Try.f13) pk_I_PairwiseMatrix rk_I_PairwiseMatrix x = M_I_PairwiseMatrix x := by kernel_rfl

set_option maxRecDepth 100000 in
theorem m_I_PairwiseMatrix : ConOK Try.prog 13 c_I_PairwiseMatrix := fn_ok (tyOK _) (E := mkE [(47, c_I_areRankings), (48, c_slices_Contains_sint_int)]) (consOK_cons m_I_areRankings (consOK_cons m_slices_Contains_sint_int (consOK_nil rfl))) Try.func13 (h := h_I_PairwiseMatrix) (by kernel_rfl) eq_I_PairwiseMatrix

/-- L_eqIntS -/
def pk_L_eqIntS : List PK := [.data (.sl (.int .i64)), .data (.sl (.int .i64))]
def rk_L_eqIntS : List (Ty × Bool) := [(.bool, false)]
def h_L_eqIntS : Hints := { loops := [(0, { items := [.slot 5 (.data (.int .i64) [])], kill := [2, 3, 4, 6, 7, 8, 9, 10, 11, 12, 13, 14, 15, 16, 17, 18, 19, 20, 21, 22, 23, 24, 25] })] }
noncomputable def M_L_eqIntS (x : ((List Int) × (List Int))) : (Option Bool) :=
  (cond ((((List.length x.1) : Nat) : Int) != (((List.length x.2) : Nat) : Int)) (some false) (loopO (fun (again0 : (Int → (Option Bool))) => (fun (s1 : Int) => (cond (decide (s1 < (((List.length x.1) : Nat) : Int))) (bindO (getI x.1 s1) (fun (a2 : Int) => (bindO (getI x.2 s1) (fun (a3 : Int) => (cond (a2 != a3) (some false) (bindO (some (IntKind.wrap .i64 (s1 + (1 : Int)))) (fun (a4 : Int) => (again0 a4)))))))) (some true)))) (0 : Int)))

noncomputable def c_L_eqIntS : Con0 := ⟨pk_L_eqIntS, rk_L_eqIntS, M_L_eqIntS⟩

set_option maxRecDepth 100000 in
theorem eq_L_eqIntS (x : In pk_L_eqIntS) : semF (mkE []) h_L_eqIntS (info Try.f24) pk_L_eqIntS rk_L_eqIntS x = M_L_eqIntS x := by kernel_rfl

set_option maxRecDepth 100000 in
theorem m_L_eqIntS : ConOK Try.prog 24 c_L_eqIntS := fn_ok (tyOK _) (E := mkE []) (consOK_nil rfl) Try.func24 (h := h_L_eqIntS) (by kernel_rfl) eq_L_eqIntS

/-- L_eqIntSS -/
def pk_L_eqIntSS : List PK := [.data (.sl (.sl (.int .i64))), .data (.sl (.sl (.int .i64)))]
def rk_L_eqIntSS : List (Ty × Bool) := [(.bool, false)]
def h_L_eqIntSS : Hints := { loops := [(0, { items := [.slot 5 (.data (.int .i64) [])], kill := [2, 3, 4, 6, 7, 8, 9, 10, 11, 12, 13, 14, 15, 16, 17, 18, 19, 20, 21, 22, 23, 24, 25, 26] })] }
noncomputable def M_L_eqIntSS (x : ((List (List Int)) × (List (List Int)))) : (Option Bool) :=
  (cond ((((List.length x.1) : Nat) : Int) != (((List.length x.2) : Nat) : Int)) (some false) (loopO (fun (again0 : (Int → (Option Bool))) => (fun (s1 : Int) => (cond (decide (s1 < (((List.length x.1) : Nat) : Int))) (bindO (getI x.1 s1) (fun (a2 : (List Int)) => (bindO (getI x.2 s1) (fun (a3 : (List Int)) => (bindO (M_L_eqIntS (a2, a3)) (fun (a4 : Bool) => (cond (not a4) (some false) (bindO (some (IntKind.wrap .i64 (s1 + (1 : Int)))) (fun (a5 : Int) => (again0 a5)))))))))) (some true)))) (0 : Int)))

noncomputable def c_L_eqIntSS : Con0 := ⟨pk_L_eqIntSS, rk_L_eqIntSS, M_L_eqIntSS⟩

set_option maxRecDepth 100000 in
theorem eq_L_eqIntSS (x : In pk_L_eqIntSS) : semF (mkE [(24, c_L_eqIntS)]) h_L_eqIntSS (info Try.f14) pk_L_eqIntSS rk_L_eqIntSS x = M_L_eqIntSS x := by kernel_rfl

set_option maxRecDepth 100000 in
theorem m_L_eqIntSS : ConOK Try.prog 14 c_L_eqIntSS := fn_ok (tyOK _) (E := mkE [(24, c_L_eqIntS)]) (consOK_cons m_L_eqIntS (consOK_nil rfl)) Try.func14 (h := h_L_eqIntSS) (by kernel_rfl) eq_L_eqIntSS

/-- L_markIntS -/
def pk_L_markIntS : List PK := [.mv (.sl (.int .i64)), .data (.int .i64)]
def rk_L_markIntS : List (Ty × Bool) := [((.int .i64), false)]
def h_L_markIntS : Hints := { loops := [(0, { items := [.slot 1 (.data (.int .i64) []), .slot 5 (.data (.int .i64) []), .arr 0 (.int .i64) true], kill := [2, 3, 4, 6, 7, 8, 9, 10, 11, 12, 13, 14, 15, 16, 17, 18] })] }
noncomputable def M_L_markIntS (x : ((List Int) × Int)) : (Option (Int × (List Int))) :=
  (loopO (fun (again0 : ((Int × (Int × (List Int))) → (Option (Int × (List Int))))) => (fun (s1 : (Int × (Int × (List Int)))) => (cond (decide (s1.2.1 < (((List.length s1.2.2) : Nat) : Int))) (bindO (getI s1.2.2 s1.2.1) (fun (a2 : Int) => (bindO (some (List.set s1.2.2 (Int.toNat s1.2.1) s1.1)) (fun (a3 : (List Int)) => (bindO (some (IntKind.wrap .i64 (s1.1 + (1 : Int)))) (fun (a4 : Int) => (bindO (some (IntKind.wrap .i64 (s1.2.1 + (1 : Int)))) (fun (a5 : Int) => (again0 (a4, (a5, a3))))))))))) (some (s1.1, s1.2.2))))) (x.2, ((0 : Int), x.1)))

noncomputable def c_L_markIntS : Con0 := ⟨pk_L_markIntS, rk_L_markIntS, M_L_markIntS⟩

set_option maxRecDepth 100000 in
theorem eq_L_markIntS (x : In pk_L_markIntS) : semF (mkE []) h_L_markIntS (info Try.f25) pk_L_markIntS rk_L_markIntS x = M_L_markIntS x := by kernel_rfl

set_option maxRecDepth 100000 in
theorem m_L_markIntS : ConOK Try.prog 25 c_L_markIntS := fn_ok (tyOK _) (E := mkE []) (consOK_nil rfl) Try.func25 (h := h_L_markIntS) (by kernel_rfl) eq_L_markIntS

/-- L_markIntSS -/
def pk_L_markIntSS : List PK := [.mv (.sl (.sl (.int .i64))), .data (.int .i64)]
def rk_L_markIntSS : List (Ty × Bool) := [((.int .i64), false)]
def h_L_markIntSS : Hints := { loops := [(0, { items := [.slot 1 (.data (.int .i64) []), .slot 5 (.data (.int .i64) []), .arr 0 (.sl (.int .i64)) true], kill := [2, 3, 4, 6, 7, 8, 9, 10, 11, 12, 13, 14, 15, 16, 17, 18] })] }
noncomputable def M_L_markIntSS (x : ((List (List Int)) × Int)) : (Option (Int × (List (List Int)))) :=
  (loopO (fun (again0 : ((Int × (Int × (List (List Int)))) → (Option (Int × (List (List Int)))))) => (fun (s1 : (Int × (Int × (List (List Int))))) => (cond (decide (s1.2.1 < (((List.length s1.2.2) : Nat) : Int))) (bindO (getI s1.2.2 s1.2.1) (fun (a2 : (List Int)) => (bindO (M_L_markIntS (a2, s1.1)) (fun (a3 : (Int × (List Int))) => (bindO (some (IntKind.wrap .i64 (s1.2.1 + (1 : Int)))) (fun (a4 : Int) => (again0 (a3.1, (a4, (List.modify s1.2.2 (Int.toNat s1.2.1) (fun (a5 : (List Int)) => a3.2))))))))))) (some (s1.1, s1.2.2))))) (x.2, ((0 : Int), x.1)))

noncomputable def c_L_markIntSS : Con0 := ⟨pk_L_markIntSS, rk_L_markIntSS, M_L_markIntSS⟩

set_option maxRecDepth 100000 in
theorem eq_L_markIntSS (x : In pk_L_markIntSS) : semF (mkE [(25, c_L_markIntS)]) h_L_markIntSS (info Try.f15) pk_L_markIntSS rk_L_markIntSS x = M_L_markIntSS x := by kernel_rfl

set_option maxRecDepth 100000 in
theorem m_L_markIntSS : ConOK Try.prog 15 c_L_markIntSS := fn_ok (tyOK _) (E := mkE [(25, c_L_markIntS)]) (consOK_cons m_L_markIntS (consOK_nil rfl)) Try.func15 (h := h_L_markIntSS) (by kernel_rfl) eq_L_markIntSS

/-- L_heldIntS -/
def pk_L_heldIntS : List PK := [.data (.sl (.int .i64)), .data (.int .i64)]
def rk_L_heldIntS : List (Ty × Bool) := [((.int .i64), false)]
def h_L_heldIntS : Hints := { loops := [(0, { items := [.slot 1 (.data (.int .i64) []), .slot 5 (.data (.int .i64) [])], kill := [2, 3, 4, 6, 7, 8, 9, 10, 11, 12, 13, 14, 15, 16, 17, 18, 19, 20] })] }
noncomputable def M_L_heldIntS (x : ((List Int) × Int)) : (Option Int) :=
  (loopO (fun (again0 : ((Int × Int) → (Option Int))) => (fun (s1 : (Int × Int)) => (cond (decide (s1.2 < (((List.length x.1) : Nat) : Int))) (bindO (getI x.1 s1.2) (fun (a2 : Int) => (cond (a2 != s1.1) (some (- (1 : Int))) (bindO (some (IntKind.wrap .i64 (s1.1 + (1 : Int)))) (fun (a3 : Int) => (bindO (some (IntKind.wrap .i64 (s1.2 + (1 : Int)))) (fun (a4 : Int) => (again0 (a3, a4))))))))) (some s1.1)))) (x.2, (0 : Int)))

noncomputable def c_L_heldIntS : Con0 := ⟨pk_L_heldIntS, rk_L_heldIntS, M_L_heldIntS⟩

set_option maxRecDepth 100000 in
theorem eq_L_heldIntS (x : In pk_L_heldIntS) : semF (mkE []) h_L_heldIntS (info Try.f26) pk_L_heldIntS rk_L_heldIntS x = M_L_heldIntS x := by kernel_rfl

set_option maxRecDepth 100000 in
theorem m_L_heldIntS : ConOK Try.prog 26 c_L_heldIntS := fn_ok (tyOK _) (E := mkE []) (consOK_nil rfl) Try.func26 (h := h_L_heldIntS) (by kernel_rfl) eq_L_heldIntS

/-- L_heldIntSS -/
def pk_L_heldIntSS : List PK := [.data (.sl (.sl (.int .i64))), .data (.int .i64)]
def rk_L_heldIntSS : List (Ty × Bool) := [((.int .i64), false)]
def h_L_heldIntSS : Hints := { loops := [(0, { items := [.slot 1 (.data (.int .i64) []), .slot 5 (.data (.int .i64) [])], kill := [2, 3, 4, 6, 7, 8, 9, 10, 11, 12, 13, 14, 15, 16, 17, 18, 19, 20] })] }
noncomputable def M_L_heldIntSS (x : ((List (List Int)) × Int)) : (Option Int) :=
  (loopO (fun (again0 : ((Int × Int) → (Option Int))) => (fun (s1 : (Int × Int)) => (cond (decide (s1.2 < (((List.length x.1) : Nat) : Int))) (bindO (getI x.1 s1.2) (fun (a2 : (List Int)) => (bindO (M_L_heldIntS (a2, s1.1)) (fun (a3 : Int) => (cond (decide (a3 < (0 : Int))) (some (- (1 : Int))) (bindO (some (IntKind.wrap .i64 (s1.2 + (1 : Int)))) (fun (a4 : Int) => (again0 (a3, a4))))))))) (some s1.1)))) (x.2, (0 : Int)))

noncomputable def c_L_heldIntSS : Con0 := ⟨pk_L_heldIntSS, rk_L_heldIntSS, M_L_heldIntSS⟩

set_option maxRecDepth 100000 in
theorem eq_L_heldIntSS (x : In pk_L_heldIntSS) : semF (mkE [(26, c_L_heldIntS)]) h_L_heldIntSS (info Try.f16) pk_L_heldIntSS rk_L_heldIntSS x = M_L_heldIntSS x := by kernel_rfl

set_option maxRecDepth 100000 in
theorem m_L_heldIntSS : ConOK Try.prog 16 c_L_heldIntSS := fn_ok (tyOK _) (E := mkE [(26, c_L_heldIntS)]) (consOK_cons m_L_heldIntS (consOK_nil rfl)) Try.func16 (h := h_L_heldIntSS) (by kernel_rfl) eq_L_heldIntSS

/-- L_FnExactPairwiseMatrix -/
def pk_L_FnExactPairwiseMatrix : List PK := [.data (.int .i64), .data (.sl (.sl (.int .i64)))]
def rk_L_FnExactPairwiseMatrix : List (Ty × Bool) := [(.bool, false)]
def h_L_FnExactPairwiseMatrix : Hints := { loops := [] }
noncomputable def M_L_FnExactPairwiseMatrix (x : (Int × (List (List Int)))) : (Option Bool) :=
  (bindO (M_L_szIntSS (x.2, (1048576 : Int))) (fun (a0 : Int) => (cond (decide (a0 < (0 : Int))) (some true) (bindO (M_L_toIntSS x.2) (fun (a1 : (List (List Int))) => (bindO (M_S_PairwiseMatrix (x.1, a1)) (fun (a2 : ((List (List Int)) × Bool)) => (bindO (M_L_toIntSS x.2) (fun (a3 : (List (List Int))) => (bindO (M_I_PairwiseMatrix (x.1, a3)) (fun (a4 : ((List (List Int)) × Bool)) => (bindO (M_L_eqIntSS (a4.1, a2.1)) (fun (a5 : Bool) => (cond (not a5) (some false) (cond (not (a4.2 == a2.2)) (some false) (bindO (M_L_toIntSS x.2) (fun (a6 : (List (List Int))) => (bindO (M_L_eqIntSS (a3, a6)) (fun (a7 : Bool) => (cond (not a7) (some false) (bindO (M_L_markIntSS (a3, (1 : Int))) (fun (a8 : (Int × (List (List Int)))) => (cond (decide (a8.1 < (0 : Int))) (some false) (bindO (M_L_eqIntSS (a4.1, a2.1)) (fun (a9 : Bool) => (cond (not a9) (some false) (cond (not (a4.2 == a2.2)) (some false) (bindO (M_L_markIntSS (a4.1, (1 : Int))) (fun (a10 : (Int × (List (List Int)))) => (bindO (M_L_heldIntSS (a10.2, (1 : Int))) (fun (a11 : Int) => (cond (decide (a11 < (0 : Int))) (some false) (cond (a11 != a10.1) (some false) (bindO (M_L_toIntSS x.2) (fun (a12 : (List (List Int))) => (bindO (M_I_PairwiseMatrix (x.1, a12)) (fun (a13 : ((List (List Int)) × Bool)) => (bindO (M_L_eqIntSS (a13.1, a2.1)) (fun (a14 : Bool) => (cond (not a14) (some false) (cond (not (a13.2 == a2.2)) (some false) (bindO (M_L_heldIntSS (a10.2, (1 : Int))) (fun (a15 : Int) => (cond (decide (a15 < (0 : Int))) (some false) (cond (a15 != a10.1) (some false) (some true))))))))))))))))))))))))))))))))))))))))))))))

noncomputable def c_L_FnExactPairwiseMatrix : Con0 := ⟨pk_L_FnExactPairwiseMatrix, rk_L_FnExactPairwiseMatrix, M_L_FnExactPairwiseMatrix⟩

set_option maxRecDepth 100000 in
theorem eq_L_FnExactPairwiseMatrix (x : In pk_L_FnExactPairwiseMatrix) : semF (mkE [(10, c_L_szIntSS), (12, c_L_toIntSS), (11, c_S_PairwiseMatrix), (13, c_I_PairwiseMatrix), (14, c_L_eqIntSS), (15, c_L_markIntSS), (16, c_L_heldIntSS)]) h_L_FnExactPairwiseMatrix (info Try.f3) pk_L_FnExactPairwiseMatrix rk_L_FnExactPairwiseMatrix x = M_L_FnExactPairwiseMatrix x := by kernel_rfl

set_option maxRecDepth 100000 in
theorem m_L_FnExactPairwiseMatrix : ConOK Try.prog 3 c_L_FnExactPairwiseMatrix := fn_ok (tyOK _) (E := mkE [(10, c_L_szIntSS), (12, c_L_toIntSS), (11, c_S_PairwiseMatrix), (13, c_I_PairwiseMatrix), (14, c_L_eqIntSS), (15, c_L_markIntSS), (16, c_L_heldIntSS)]) (consOK_cons m_L_szIntSS (consOK_cons m_L_toIntSS (consOK_cons m_S_PairwiseMatrix (consOK_cons m_I_PairwiseMatrix (consOK_cons m_L_eqIntSS (consOK_cons m_L_markIntSS (consOK_cons m_L_heldIntSS (consOK_nil rfl)))))))) Try.func3 (h := h_L_FnExactPairwiseMatrix) (by kernel_rfl) eq_L_FnExactPairwiseMatrix

end Go.Proofs.Ytnnkhkljdjbioaa.Vd
