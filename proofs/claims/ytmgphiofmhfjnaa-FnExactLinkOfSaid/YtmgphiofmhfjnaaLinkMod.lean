/- The functions of the law as plain functions on data, and that the program's functions are these. No conditions. -/
import Derived.Test.YtmgphiofmhfjnaaVd3
import Derived.Test.YtmgphiofmhfjnaaChecked
import Derived.KernelRfl
set_option linter.unusedVariables false
namespace Go.Proofs.Ytmgphiofmhfjnaa.Vd
def tys : List (Option Ty) := [none, none, some (.int .i64), some (.int .i64), some .bool, some (.int .u8), some (.int .u8), some (.cons (.int .i64) (.cons (.int .i64) (.cons .bool (.one (.int .u8))))), some (.cons (.int .i64) (.cons (.int .i64) (.cons .bool (.one (.int .u8))))), some .str, some .str, some .str, some (.int .u64), some (.cons .str (.one (.int .u64))), some (.cons .str (.one (.int .u64))), none, none, none, none, none, none, some (.int .i32), some (.sl (.sl (.int .i64))), none, none, none, none, none, none, some (.cons (.int .i64) (.cons (.int .i64) (.one (.int .i64)))), some (.cons (.int .i64) (.cons (.int .i64) (.one (.int .i64)))), some (.sl (.int .i64)), none, none, some (.cons (.int .i64) (.cons (.int .i64) (.one (.int .i64)))), none, none, none, none, none, none, none, none, none, none, none, none, none, none, none, some (.sl (.cons (.int .i64) (.one (.int .i64)))), none, none, none, none, none, some (.sl (.cons (.int .i64) (.one (.int .i64)))), none, none, none, none, none, none, none, some (.int .u64), none, none, none, none, none, none, none, none, none, none, none, none, none, none, some (.cons (.int .i64) (.one (.int .i64))), some (.cons (.int .i64) (.one (.int .i64))), none, none, none, none, none, none, none, none, none, none, none, none, some (.cons (.int .i64) (.one (.int .i64))), none, none, none, none, none, none, none, none, none, none, none, none, some (.int .u32), none, some (.int .u64), none, none, none, none, none, none, none, none, some (.cons (.int .i64) (.one (.int .i64))), some (.cons (.int .i64) (.one (.int .i64))), none, none, none, none, none, none, none, none, some (.int .u8), some (.int .u8), none, none, some (.int .i32), some (.int .i32), none, none, none]
def others : List Nat := [1, 15, 16, 17, 23, 25, 26, 27, 28, 33, 35, 36, 37, 38, 39, 40, 41, 42, 43, 45, 46, 47, 49, 52, 53, 54, 55, 57, 58, 59, 60, 61, 62, 63, 65, 66, 67, 68, 69, 70, 71, 72, 73, 74, 75, 76, 77, 78, 81, 82, 83, 84, 85, 86, 87, 88, 89, 90, 91, 92, 94, 95, 96, 97, 98, 99, 100, 101, 102, 103, 104, 105, 107, 109, 110, 111, 112, 113, 114, 115, 116, 119, 120, 126, 129, 130]
def pairs : List Nat := [79, 80, 93, 117, 118]
noncomputable def mkE (con : List (Nat × Con0)) : Env := ⟨[], tys, others, pairs, con⟩

set_option maxRecDepth 100000 in
theorem tyOK (con : List (Nat × Con0)) : TyOK Try.prog (mkE con) := tyOK_of (E := mkE con) (by kernel_rfl) (by kernel_rfl) (by kernel_rfl)

/-- L_szIntS -/
def pk_L_szIntS : List PK := [.data (.sl (.int .i64)), .data (.int .i64)]
def rk_L_szIntS : List (Ty × Bool) := [((.int .i64), false)]
def h_L_szIntS : Hints := { loops := [] }
noncomputable def M_L_szIntS (x : ((List Int) × Int)) : (Option Int) :=
  (bindO (some (IntKind.wrap .i64 (x.2 - (((List.length x.1) : Nat) : Int)))) (fun (a0 : Int) => (cond (decide (a0 < (0 : Int))) (some (- (1 : Int))) (some a0))))

noncomputable def c_L_szIntS : Con0 := ⟨pk_L_szIntS, rk_L_szIntS, M_L_szIntS⟩

set_option maxRecDepth 100000 in
theorem eq_L_szIntS (x : In pk_L_szIntS) : semF (mkE []) h_L_szIntS (info Try.f54) pk_L_szIntS rk_L_szIntS x = M_L_szIntS x := by kernel_rfl

set_option maxRecDepth 100000 in
theorem m_L_szIntS : ConOK Try.prog 54 c_L_szIntS := fn_ok (tyOK _) (E := mkE []) (consOK_nil rfl) Try.func54 (h := h_L_szIntS) (by kernel_rfl) eq_L_szIntS

/-- L_szIntSS -/
def pk_L_szIntSS : List PK := [.data (.sl (.sl (.int .i64))), .data (.int .i64)]
def rk_L_szIntSS : List (Ty × Bool) := [((.int .i64), false)]
def h_L_szIntSS : Hints := { loops := [(0, { items := [.slot 1 (.data (.int .i64) []), .slot 5 (.data (.int .i64) [])], kill := [2, 3, 4, 6, 7, 8, 9, 10, 11, 12, 13, 14, 15, 16, 17, 18, 19, 20, 21, 22, 23, 24, 25, 26] })] }
noncomputable def M_L_szIntSS (x : ((List (List Int)) × Int)) : (Option Int) :=
  (bindO (some (IntKind.wrap .i64 (x.2 - (((List.length x.1) : Nat) : Int)))) (fun (a0 : Int) => (cond (decide (a0 < (0 : Int))) (some (- (1 : Int))) (loopO (fun (again1 : ((Int × Int) → (Option Int))) => (fun (s2 : (Int × Int)) => (cond (decide (s2.2 < (((List.length x.1) : Nat) : Int))) (bindO (getI x.1 s2.2) (fun (a3 : (List Int)) => (bindO (M_L_szIntS (a3, s2.1)) (fun (a4 : Int) => (cond (decide (a4 < (0 : Int))) (some (- (1 : Int))) (bindO (some (IntKind.wrap .i64 (s2.2 + (1 : Int)))) (fun (a5 : Int) => (again1 (a4, a5))))))))) (some s2.1)))) (a0, (0 : Int))))))

noncomputable def c_L_szIntSS : Con0 := ⟨pk_L_szIntSS, rk_L_szIntSS, M_L_szIntSS⟩

set_option maxRecDepth 100000 in
theorem eq_L_szIntSS (x : In pk_L_szIntSS) : semF (mkE [(54, c_L_szIntS)]) h_L_szIntSS (info Try.f15) pk_L_szIntSS rk_L_szIntSS x = M_L_szIntSS x := by kernel_rfl

set_option maxRecDepth 100000 in
theorem m_L_szIntSS : ConOK Try.prog 15 c_L_szIntSS := fn_ok (tyOK _) (E := mkE [(54, c_L_szIntS)]) (consOK_cons m_L_szIntS (consOK_nil rfl)) Try.func15 (h := h_L_szIntSS) (by kernel_rfl) eq_L_szIntSS

/-- L_toIntS -/
def pk_L_toIntS : List PK := [.data (.sl (.int .i64))]
def rk_L_toIntS : List (Ty × Bool) := [((.sl (.int .i64)), true)]
def h_L_toIntS : Hints := { loops := [(0, { items := [.slot 4 (.data (.int .i64) []), .arr 3 (.int .i64) true], kill := [1, 2, 5, 6, 7, 8, 9, 10, 11, 12, 13, 14, 15, 16, 17, 18, 19, 20, 21] })] }
noncomputable def M_L_toIntS (x : (List Int)) : (Option (List Int)) :=
  (bindO (guardO (((decide ((0 : Int) ≤ (((List.length x) : Nat) : Int))) && (decide ((((List.length x) : Nat) : Int) ≤ (((List.length x) : Nat) : Int)))) && (decide ((((List.length x) : Nat) : Int) ≤ ((lim : Nat) : Int))))) (fun (a0 : Unit) => (loopO (fun (again1 : ((Int × (List Int)) → (Option (List Int)))) => (fun (s2 : (Int × (List Int))) => (cond (decide (s2.1 < (((List.length x) : Nat) : Int))) (bindO (getI x s2.1) (fun (a3 : Int) => (bindO (getI s2.2 s2.1) (fun (a4 : Int) => (bindO (some (List.set s2.2 (Int.toNat s2.1) a3)) (fun (a5 : (List Int)) => (bindO (some (IntKind.wrap .i64 (s2.1 + (1 : Int)))) (fun (a6 : Int) => (again1 (a6, a5)))))))))) (some s2.2)))) ((0 : Int), (List.replicate (Int.toNat (((List.length x) : Nat) : Int)) (0 : Int))))))

noncomputable def c_L_toIntS : Con0 := ⟨pk_L_toIntS, rk_L_toIntS, M_L_toIntS⟩

set_option maxRecDepth 100000 in
theorem eq_L_toIntS (x : In pk_L_toIntS) : semF (mkE []) h_L_toIntS (info Try.f22) pk_L_toIntS rk_L_toIntS x = M_L_toIntS x := by kernel_rfl

set_option maxRecDepth 100000 in
theorem m_L_toIntS : ConOK Try.prog 22 c_L_toIntS := fn_ok (tyOK _) (E := mkE []) (consOK_nil rfl) Try.func22 (h := h_L_toIntS) (by kernel_rfl) eq_L_toIntS

/-- L_toIntSS -/
def pk_L_toIntSS : List PK := [.data (.sl (.sl (.int .i64)))]
def rk_L_toIntSS : List (Ty × Bool) := [((.sl (.sl (.int .i64))), true)]
def h_L_toIntSS : Hints := { loops := [(0, { items := [.slot 4 (.data (.int .i64) []), .arr 3 (.sl (.int .i64)) true], kill := [1, 2, 5, 6, 7, 8, 9, 10, 11, 12, 13, 14, 15, 16, 17, 18, 19, 20, 21, 22] })] }
noncomputable def M_L_toIntSS (x : (List (List Int))) : (Option (List (List Int))) :=
  (bindO (guardO (((decide ((0 : Int) ≤ (((List.length x) : Nat) : Int))) && (decide ((((List.length x) : Nat) : Int) ≤ (((List.length x) : Nat) : Int)))) && (decide ((((List.length x) : Nat) : Int) ≤ ((lim : Nat) : Int))))) (fun (a0 : Unit) => (loopO (fun (again1 : ((Int × (List (List Int))) → (Option (List (List Int))))) => (fun (s2 : (Int × (List (List Int)))) => (cond (decide (s2.1 < (((List.length x) : Nat) : Int))) (bindO (getI x s2.1) (fun (a3 : (List Int)) => (bindO (M_L_toIntS a3) (fun (a4 : (List Int)) => (bindO (getI s2.2 s2.1) (fun (a5 : (List Int)) => (bindO (some (List.set s2.2 (Int.toNat s2.1) a4)) (fun (a6 : (List (List Int))) => (bindO (some (IntKind.wrap .i64 (s2.1 + (1 : Int)))) (fun (a7 : Int) => (again1 (a7, a6)))))))))))) (some s2.2)))) ((0 : Int), (List.replicate (Int.toNat (((List.length x) : Nat) : Int)) ([] : List Int))))))

noncomputable def c_L_toIntSS : Con0 := ⟨pk_L_toIntSS, rk_L_toIntSS, M_L_toIntSS⟩

set_option maxRecDepth 100000 in
theorem eq_L_toIntSS (x : In pk_L_toIntSS) : semF (mkE [(22, c_L_toIntS)]) h_L_toIntSS (info Try.f17) pk_L_toIntSS rk_L_toIntSS x = M_L_toIntSS x := by kernel_rfl

set_option maxRecDepth 100000 in
theorem m_L_toIntSS : ConOK Try.prog 17 c_L_toIntSS := fn_ok (tyOK _) (E := mkE [(22, c_L_toIntS)]) (consOK_cons m_L_toIntS (consOK_nil rfl)) Try.func17 (h := h_L_toIntSS) (by kernel_rfl) eq_L_toIntSS

/-- S_l1In -/
def pk_S_l1In : List PK := [.data (.int .i64), .data (.int .i64), .data (.int .i64)]
def rk_S_l1In : List (Ty × Bool) := [(.bool, false)]
def h_S_l1In : Hints := { loops := [] }
noncomputable def M_S_l1In (x : (Int × (Int × Int))) : (Option Bool) :=
  (cond (decide (x.1 ≥ x.2.1)) (some (decide (x.1 ≤ x.2.2))) (some false))

noncomputable def c_S_l1In : Con0 := ⟨pk_S_l1In, rk_S_l1In, M_S_l1In⟩

set_option maxRecDepth 100000 in
theorem eq_S_l1In (x : In pk_S_l1In) : semF (mkE []) h_S_l1In (info Try.f61) pk_S_l1In rk_S_l1In x = M_S_l1In x := by kernel_rfl

set_option maxRecDepth 100000 in
theorem m_S_l1In : ConOK Try.prog 61 c_S_l1In := fn_ok (tyOK _) (E := mkE []) (consOK_nil rfl) Try.func61 (h := h_S_l1In) (by kernel_rfl) eq_S_l1In

/-- S_l1All -/
def pk_S_l1All : List PK := [.data (.sl (.int .i64)), .data (.int .i64), .data (.int .i64)]
def rk_S_l1All : List (Ty × Bool) := [(.bool, false)]
def h_S_l1All : Hints := { loops := [(0, { items := [.slot 11 (.data (.int .i64) [])], kill := [0, 3, 4, 5, 6, 7, 8, 12, 13, 14, 15, 16, 17, 18, 19, 20] })] }
noncomputable def M_S_l1All (x : ((List Int) × (Int × Int))) : (Option Bool) :=
  (loopO (fun (again0 : (Int → (Option Bool))) => (fun (s1 : Int) => (cond (decide (s1 < (((List.length x.1) : Nat) : Int))) (bindO (getI x.1 s1) (fun (a2 : Int) => (bindO (M_S_l1In (a2, (x.2.1, x.2.2))) (fun (a3 : Bool) => (cond (not a3) (some false) (bindO (some (IntKind.wrap .i64 (s1 + (1 : Int)))) (fun (a4 : Int) => (again0 a4)))))))) (some true)))) (0 : Int))

noncomputable def c_S_l1All : Con0 := ⟨pk_S_l1All, rk_S_l1All, M_S_l1All⟩

set_option maxRecDepth 100000 in
theorem eq_S_l1All (x : In pk_S_l1All) : semF (mkE [(61, c_S_l1In)]) h_S_l1All (info Try.f73) pk_S_l1All rk_S_l1All x = M_S_l1All x := by kernel_rfl

set_option maxRecDepth 100000 in
theorem m_S_l1All : ConOK Try.prog 73 c_S_l1All := fn_ok (tyOK _) (E := mkE [(61, c_S_l1In)]) (consOK_cons m_S_l1In (consOK_nil rfl)) Try.func73 (h := h_S_l1All) (by kernel_rfl) eq_S_l1All

/-- S_l1Has -/
def pk_S_l1Has : List PK := [.data (.sl (.int .i64)), .data (.int .i64)]
def rk_S_l1Has : List (Ty × Bool) := [(.bool, false)]
def h_S_l1Has : Hints := { loops := [(0, { items := [.slot 9 (.data (.int .i64) [])], kill := [0, 2, 3, 4, 5, 6, 10, 11, 12, 13, 14, 15, 16] })] }
noncomputable def M_S_l1Has (x : ((List Int) × Int)) : (Option Bool) :=
  (loopO (fun (again0 : (Int → (Option Bool))) => (fun (s1 : Int) => (cond (decide (s1 < (((List.length x.1) : Nat) : Int))) (bindO (getI x.1 s1) (fun (a2 : Int) => (cond (a2 == x.2) (some true) (bindO (some (IntKind.wrap .i64 (s1 + (1 : Int)))) (fun (a3 : Int) => (again0 a3)))))) (some false)))) (0 : Int))

noncomputable def c_S_l1Has : Con0 := ⟨pk_S_l1Has, rk_S_l1Has, M_S_l1Has⟩

set_option maxRecDepth 100000 in
theorem eq_S_l1Has (x : In pk_S_l1Has) : semF (mkE []) h_S_l1Has (info Try.f147) pk_S_l1Has rk_S_l1Has x = M_S_l1Has x := by kernel_rfl

set_option maxRecDepth 100000 in
theorem m_S_l1Has : ConOK Try.prog 147 c_S_l1Has := fn_ok (tyOK _) (E := mkE []) (consOK_nil rfl) Try.func147 (h := h_S_l1Has) (by kernel_rfl) eq_S_l1Has

/-- S_vDifferent -/
def pk_S_vDifferent : List PK := [.data (.sl (.int .i64))]
def rk_S_vDifferent : List (Ty × Bool) := [(.bool, false)]
def h_S_vDifferent : Hints := { loops := [(0, { items := [.slot 7 (.data (.int .i64) [])], kill := [1, 2, 3, 4, 8, 9, 10, 11, 12, 13, 14, 15, 16, 17] })] }
noncomputable def M_S_vDifferent (x : (List Int)) : (Option Bool) :=
  (loopO (fun (again0 : (Int → (Option Bool))) => (fun (s1 : Int) => (cond (decide (s1 < (((List.length x) : Nat) : Int))) (bindO (getI x s1) (fun (a2 : Int) => (bindO (sliceNH s1 (List.length x)) (fun (a3 : (Nat × Nat)) => (bindO (M_S_l1Has ((List.drop a3.1 (List.take a3.2 x)), a2)) (fun (a4 : Bool) => (cond a4 (some false) (bindO (some (IntKind.wrap .i64 (s1 + (1 : Int)))) (fun (a5 : Int) => (again0 a5)))))))))) (some true)))) (0 : Int))

noncomputable def c_S_vDifferent : Con0 := ⟨pk_S_vDifferent, rk_S_vDifferent, M_S_vDifferent⟩

set_option maxRecDepth 100000 in
theorem eq_S_vDifferent (x : In pk_S_vDifferent) : semF (mkE [(147, c_S_l1Has)]) h_S_vDifferent (info Try.f119) pk_S_vDifferent rk_S_vDifferent x = M_S_vDifferent x := by kernel_rfl

set_option maxRecDepth 100000 in
theorem m_S_vDifferent : ConOK Try.prog 119 c_S_vDifferent := fn_ok (tyOK _) (E := mkE [(147, c_S_l1Has)]) (consOK_cons m_S_l1Has (consOK_nil rfl)) Try.func119 (h := h_S_vDifferent) (by kernel_rfl) eq_S_vDifferent

/-- S_mGood -/
def pk_S_mGood : List PK := [.data (.sl (.int .i64))]
def rk_S_mGood : List (Ty × Bool) := [(.bool, false)]
def h_S_mGood : Hints := { loops := [] }
noncomputable def M_S_mGood (x : (List Int)) : (Option Bool) :=
  (cond (decide ((((List.length x) : Nat) : Int) ≤ (24 : Int))) (bindO (some (IntKind.wrap .i64 ((((List.length x) : Nat) : Int) - (1 : Int)))) (fun (a0 : Int) => (bindO (M_S_l1All (x, ((0 : Int), a0))) (fun (a1 : Bool) => (cond a1 (bindO (M_S_vDifferent x) (fun (a2 : Bool) => (some a2))) (some false)))))) (some false))

noncomputable def c_S_mGood : Con0 := ⟨pk_S_mGood, rk_S_mGood, M_S_mGood⟩

set_option maxRecDepth 100000 in
theorem eq_S_mGood (x : In pk_S_mGood) : semF (mkE [(73, c_S_l1All), (119, c_S_vDifferent)]) h_S_mGood (info Try.f78) pk_S_mGood rk_S_mGood x = M_S_mGood x := by kernel_rfl

set_option maxRecDepth 100000 in
theorem m_S_mGood : ConOK Try.prog 78 c_S_mGood := fn_ok (tyOK _) (E := mkE [(73, c_S_l1All), (119, c_S_vDifferent)]) (consOK_cons m_S_l1All (consOK_cons m_S_vDifferent (consOK_nil rfl))) Try.func78 (h := h_S_mGood) (by kernel_rfl) eq_S_mGood

/-- S_l1Own -/
def pk_S_l1Own : List PK := [.data (.sl (.int .i64))]
def rk_S_l1Own : List (Ty × Bool) := [((.sl (.int .i64)), true)]
def h_S_l1Own : Hints := { loops := [] }
noncomputable def M_S_l1Own (x : (List Int)) : (Option (List Int)) :=
  (bindO (guardO (lenOk ((List.length ([] : List Int)) + (List.length x)))) (fun (a0 : Unit) => (bindO (some (([] : List Int) ++ x)) (fun (a1 : (List Int)) => (some a1)))))

noncomputable def c_S_l1Own : Con0 := ⟨pk_S_l1Own, rk_S_l1Own, M_S_l1Own⟩

set_option maxRecDepth 100000 in
theorem eq_S_l1Own (x : In pk_S_l1Own) : semF (mkE []) h_S_l1Own (info Try.f79) pk_S_l1Own rk_S_l1Own x = M_S_l1Own x := by kernel_rfl

set_option maxRecDepth 100000 in
theorem m_S_l1Own : ConOK Try.prog 79 c_S_l1Own := fn_ok (tyOK _) (E := mkE []) (consOK_nil rfl) Try.func79 (h := h_S_l1Own) (by kernel_rfl) eq_S_l1Own

/-- S_mApply -/
def pk_S_mApply : List PK := [.data (.sl (.int .i64)), .data (.sl (.int .i64))]
def rk_S_mApply : List (Ty × Bool) := [((.sl (.int .i64)), true)]
def h_S_mApply : Hints := { loops := [(0, { items := [.slot 13 (.data (.int .i64) []), .arr 5 (.int .i64) true], kill := [0, 2, 3, 4, 6, 7, 8, 9, 10, 14, 15, 16, 17, 18, 19, 20, 21, 22, 23, 24, 25, 26] })] }
noncomputable def M_S_mApply (x : ((List Int) × (List Int))) : (Option (List Int)) :=
  (bindO (guardO (((decide ((0 : Int) ≤ (((List.length x.1) : Nat) : Int))) && (decide ((((List.length x.1) : Nat) : Int) ≤ (((List.length x.1) : Nat) : Int)))) && (decide ((((List.length x.1) : Nat) : Int) ≤ ((lim : Nat) : Int))))) (fun (a0 : Unit) => (loopO (fun (again1 : ((Int × (List Int)) → (Option (List Int)))) => (fun (s2 : (Int × (List Int))) => (cond (decide (s2.1 < (((List.length x.1) : Nat) : Int))) (bindO (getI x.1 s2.1) (fun (a3 : Int) => (bindO (getI x.2 a3) (fun (a4 : Int) => (bindO (getI s2.2 s2.1) (fun (a5 : Int) => (bindO (some (List.set s2.2 (Int.toNat s2.1) a4)) (fun (a6 : (List Int)) => (bindO (some (IntKind.wrap .i64 (s2.1 + (1 : Int)))) (fun (a7 : Int) => (again1 (a7, a6)))))))))))) (some s2.2)))) ((0 : Int), (List.replicate (Int.toNat (((List.length x.1) : Nat) : Int)) (0 : Int))))))

noncomputable def c_S_mApply : Con0 := ⟨pk_S_mApply, rk_S_mApply, M_S_mApply⟩

set_option maxRecDepth 100000 in
theorem eq_S_mApply (x : In pk_S_mApply) : semF (mkE []) h_S_mApply (info Try.f80) pk_S_mApply rk_S_mApply x = M_S_mApply x := by kernel_rfl

set_option maxRecDepth 100000 in
theorem m_S_mApply : ConOK Try.prog 80 c_S_mApply := fn_ok (tyOK _) (E := mkE []) (consOK_nil rfl) Try.func80 (h := h_S_mApply) (by kernel_rfl) eq_S_mApply

/-- S_LinkOf -/
def pk_S_LinkOf : List PK := [.data (.sl (.sl (.int .i64)))]
def rk_S_LinkOf : List (Ty × Bool) := [((.sl (.int .i64)), true), (.bool, false)]
def h_S_LinkOf : Hints := { loops := [(0, { items := [.slot 15 (.data (.int .i64) [])], kill := [1, 2, 3, 4, 5, 6, 7, 8, 9, 10, 11, 12, 16, 17, 18, 19, 20, 21, 22, 23, 24, 25, 26, 27, 28, 29, 30, 31, 32, 33, 34, 35, 36, 37, 38, 39, 40, 41, 42, 43, 44, 45, 46, 47] }), (2, { items := [.slot 6 (.own (.int .i64) true), .slot 39 (.data (.int .i64) [])], kill := [0, 1, 2, 3, 4, 5, 7, 8, 9, 10, 11, 12, 13, 14, 15, 16, 17, 18, 19, 20, 21, 22, 23, 24, 25, 26, 27, 28, 29, 30, 31, 32, 33, 34, 35, 36, 40, 41, 42, 43, 44, 45, 46, 47] })] }
noncomputable def M_S_LinkOf (x : (List (List Int))) : (Option ((List Int) × Bool)) :=
  (bindO (M_S_l1In ((((List.length x) : Nat) : Int), ((1 : Int), (6 : Int)))) (fun (a0 : Bool) => (cond (not a0) (some (([] : List Int), false)) (loopO (fun (again1 : (Int → (Option ((List Int) × Bool)))) => (fun (s2 : Int) => (cond (decide (s2 < (((List.length x) : Nat) : Int))) (bindO (getI x s2) (fun (a3 : (List Int)) => (bindO (getI x (0 : Int)) (fun (a4 : (List Int)) => (cond ((((List.length a3) : Nat) : Int) != (((List.length a4) : Nat) : Int)) (some (([] : List Int), false)) (bindO (M_S_mGood a3) (fun (a5 : Bool) => (cond (not a5) (some (([] : List Int), false)) (bindO (some (IntKind.wrap .i64 (s2 + (1 : Int)))) (fun (a6 : Int) => (again1 a6))))))))))) (bindO (getI x (0 : Int)) (fun (a7 : (List Int)) => (bindO (M_S_l1Own a7) (fun (a8 : (List Int)) => (bindO (sliceLN (1 : Int) (List.length x)) (fun (a9 : (Nat × Nat)) => (loopO (fun (again10 : (((List Int) × Int) → (Option ((List Int) × Bool)))) => (fun (s11 : ((List Int) × Int)) => (cond (decide (s11.2 < (((List.length (List.drop a9.1 (List.take a9.2 x))) : Nat) : Int))) (bindO (getI (List.drop a9.1 (List.take a9.2 x)) s11.2) (fun (a12 : (List Int)) => (bindO (M_S_mApply (a12, s11.1)) (fun (a13 : (List Int)) => (bindO (some (IntKind.wrap .i64 (s11.2 + (1 : Int)))) (fun (a14 : Int) => (again10 (a13, a14)))))))) (some (s11.1, true))))) (a8, (0 : Int)))))))))))) (0 : Int)))))

noncomputable def c_S_LinkOf : Con0 := ⟨pk_S_LinkOf, rk_S_LinkOf, M_S_LinkOf⟩

set_option maxRecDepth 100000 in
theorem eq_S_LinkOf (x : In pk_S_LinkOf) : semF (mkE [(61, c_S_l1In), (78, c_S_mGood), (79, c_S_l1Own), (80, c_S_mApply)]) h_S_LinkOf (info Try.f34) pk_S_LinkOf rk_S_LinkOf x = M_S_LinkOf x := by kernel_rfl

set_option maxRecDepth 100000 in
theorem m_S_LinkOf : ConOK Try.prog 34 c_S_LinkOf := fn_ok (tyOK _) (E := mkE [(61, c_S_l1In), (78, c_S_mGood), (79, c_S_l1Own), (80, c_S_mApply)]) (consOK_cons m_S_l1In (consOK_cons m_S_mGood (consOK_cons m_S_l1Own (consOK_cons m_S_mApply (consOK_nil rfl))))) Try.func34 (h := h_S_LinkOf) (by kernel_rfl) eq_S_LinkOf

/-- I_within -/
def pk_I_within : List PK := [.data (.int .i64), .data (.int .i64), .data (.int .i64)]
def rk_I_within : List (Ty × Bool) := [(.bool, false)]
def h_I_within : Hints := { loops := [] }
noncomputable def M_I_within (x : (Int × (Int × Int))) : (Option Bool) :=
  (cond (decide (x.1 ≥ x.2.1)) (some (decide (x.1 ≤ x.2.2))) (some false))

noncomputable def c_I_within : Con0 := ⟨pk_I_within, rk_I_within, M_I_within⟩

set_option maxRecDepth 100000 in
theorem eq_I_within (x : In pk_I_within) : semF (mkE []) h_I_within (info Try.f65) pk_I_within rk_I_within x = M_I_within x := by kernel_rfl

set_option maxRecDepth 100000 in
theorem m_I_within : ConOK Try.prog 65 c_I_within := fn_ok (tyOK _) (E := mkE []) (consOK_nil rfl) Try.func65 (h := h_I_within) (by kernel_rfl) eq_I_within

/-- slices_IndexFunc_sint_int -/
def pk_slices_IndexFunc_sint_int : List PK := [.data (.sl (.int .i64)), .fn [(.int .i64)] .bool]
def rk_slices_IndexFunc_sint_int : List (Ty × Bool) := [((.int .i64), false)]
def h_slices_IndexFunc_sint_int : Hints := { loops := [(0, { items := [.slot 8 (.data (.int .i64) [])], kill := [2, 3, 4, 5, 6, 9, 10, 11, 12, 13, 14, 15, 16, 17, 18] })] }
noncomputable def M_slices_IndexFunc_sint_int (x : ((List Int) × (Int → (Option Bool)))) : (Option Int) :=
  (loopO (fun (again0 : (Int → (Option Int))) => (fun (s1 : Int) => (cond (decide (s1 < (((List.length x.1) : Nat) : Int))) (bindO (getI x.1 s1) (fun (a2 : Int) => (bindO (x.2 a2) (fun (a3 : Bool) => (cond a3 (some s1) (bindO (some (IntKind.wrap .i64 (s1 + (1 : Int)))) (fun (a4 : Int) => (again0 a4)))))))) (some (- (1 : Int)))))) (0 : Int))

noncomputable def c_slices_IndexFunc_sint_int : Con0 := ⟨pk_slices_IndexFunc_sint_int, rk_slices_IndexFunc_sint_int, M_slices_IndexFunc_sint_int⟩

set_option maxRecDepth 100000 in
theorem eq_slices_IndexFunc_sint_int (x : In pk_slices_IndexFunc_sint_int) : semF (mkE []) h_slices_IndexFunc_sint_int (info Try.f154) pk_slices_IndexFunc_sint_int rk_slices_IndexFunc_sint_int x = M_slices_IndexFunc_sint_int x := by kernel_rfl

set_option maxRecDepth 100000 in
theorem m_slices_IndexFunc_sint_int : ConOK Try.prog 154 c_slices_IndexFunc_sint_int := fn_ok (tyOK _) (E := mkE []) (consOK_nil rfl) Try.func154 (h := h_slices_IndexFunc_sint_int) (by kernel_rfl) eq_slices_IndexFunc_sint_int

/-- slices_ContainsFunc_sint_int -/
def pk_slices_ContainsFunc_sint_int : List PK := [.data (.sl (.int .i64)), .fn [(.int .i64)] .bool]
def rk_slices_ContainsFunc_sint_int : List (Ty × Bool) := [(.bool, false)]
def h_slices_ContainsFunc_sint_int : Hints := { loops := [] }
noncomputable def M_slices_ContainsFunc_sint_int (x : ((List Int) × (Int → (Option Bool)))) : (Option Bool) :=
  (bindO (M_slices_IndexFunc_sint_int (x.1, x.2)) (fun (a0 : Int) => (some (decide (a0 ≥ (0 : Int))))))

noncomputable def c_slices_ContainsFunc_sint_int : Con0 := ⟨pk_slices_ContainsFunc_sint_int, rk_slices_ContainsFunc_sint_int, M_slices_ContainsFunc_sint_int⟩

set_option maxRecDepth 100000 in
theorem eq_slices_ContainsFunc_sint_int (x : In pk_slices_ContainsFunc_sint_int) : semF (mkE [(154, c_slices_IndexFunc_sint_int)]) h_slices_ContainsFunc_sint_int (info Try.f130) pk_slices_ContainsFunc_sint_int rk_slices_ContainsFunc_sint_int x = M_slices_ContainsFunc_sint_int x := by kernel_rfl

set_option maxRecDepth 100000 in
theorem m_slices_ContainsFunc_sint_int : ConOK Try.prog 130 c_slices_ContainsFunc_sint_int := fn_ok (tyOK _) (E := mkE [(154, c_slices_IndexFunc_sint_int)]) (consOK_cons m_slices_IndexFunc_sint_int (consOK_nil rfl)) Try.func130 (h := h_slices_ContainsFunc_sint_int) (by kernel_rfl) eq_slices_ContainsFunc_sint_int

/-- I_areAll_1 -/
def pk_I_areAll_1 : List PK := [.data (.int .i64), .rfn [(.int .i64)] .bool]
def rk_I_areAll_1 : List (Ty × Bool) := [(.bool, false)]
def h_I_areAll_1 : Hints := { loops := [] }
noncomputable def M_I_areAll_1 (x : (Int × (Int → (Option Bool)))) : (Option Bool) :=
  (bindO (x.2 x.1) (fun (a0 : Bool) => (some (not a0))))

noncomputable def c_I_areAll_1 : Con0 := ⟨pk_I_areAll_1, rk_I_areAll_1, M_I_areAll_1⟩

set_option maxRecDepth 100000 in
theorem eq_I_areAll_1 (x : In pk_I_areAll_1) : semF (mkE []) h_I_areAll_1 (info Try.f131) pk_I_areAll_1 rk_I_areAll_1 x = M_I_areAll_1 x := by kernel_rfl

set_option maxRecDepth 100000 in
theorem m_I_areAll_1 : ConOK Try.prog 131 c_I_areAll_1 := fn_ok (tyOK _) (E := mkE []) (consOK_nil rfl) Try.func131 (h := h_I_areAll_1) (by kernel_rfl) eq_I_areAll_1

/-- I_areAll -/
def pk_I_areAll : List PK := [.data (.sl (.int .i64)), .fn [(.int .i64)] .bool]
def rk_I_areAll : List (Ty × Bool) := [(.bool, false)]
def h_I_areAll : Hints := { loops := [] }
noncomputable def M_I_areAll (x : ((List Int) × (Int → (Option Bool)))) : (Option Bool) :=
  (bindO (M_slices_ContainsFunc_sint_int (x.1, (fun (a0 : Int) => (bindO (M_I_areAll_1 (a0, x.2)) (fun (a1 : Bool) => (some a1)))))) (fun (a2 : Bool) => (some (not a2))))

noncomputable def c_I_areAll : Con0 := ⟨pk_I_areAll, rk_I_areAll, M_I_areAll⟩

set_option maxRecDepth 100000 in
theorem eq_I_areAll (x : In pk_I_areAll) : semF (mkE [(130, c_slices_ContainsFunc_sint_int), (131, c_I_areAll_1)]) h_I_areAll (info Try.f76) pk_I_areAll rk_I_areAll x = M_I_areAll x := by kernel_rfl

set_option maxRecDepth 100000 in
theorem m_I_areAll : ConOK Try.prog 76 c_I_areAll := fn_ok (tyOK _) (E := mkE [(130, c_slices_ContainsFunc_sint_int), (131, c_I_areAll_1)]) (consOK_cons m_slices_ContainsFunc_sint_int (consOK_cons m_I_areAll_1 (consOK_nil rfl))) Try.func76 (h := h_I_areAll) (by kernel_rfl) eq_I_areAll

/-- slices_Index_sint_int -/
def pk_slices_Index_sint_int : List PK := [.data (.sl (.int .i64)), .data (.int .i64)]
def rk_slices_Index_sint_int : List (Ty × Bool) := [((.int .i64), false)]
def h_slices_Index_sint_int : Hints := { loops := [(0, { items := [.slot 8 (.data (.int .i64) [])], kill := [2, 3, 4, 5, 6, 9, 10, 11, 12, 13, 14, 15, 16, 17, 18] })] }
noncomputable def M_slices_Index_sint_int (x : ((List Int) × Int)) : (Option Int) :=
  (loopO (fun (again0 : (Int → (Option Int))) => (fun (s1 : Int) => (cond (decide (s1 < (((List.length x.1) : Nat) : Int))) (bindO (getI x.1 s1) (fun (a2 : Int) => (cond (x.2 == a2) (some s1) (bindO (some (IntKind.wrap .i64 (s1 + (1 : Int)))) (fun (a3 : Int) => (again0 a3)))))) (some (- (1 : Int)))))) (0 : Int))

noncomputable def c_slices_Index_sint_int : Con0 := ⟨pk_slices_Index_sint_int, rk_slices_Index_sint_int, M_slices_Index_sint_int⟩

set_option maxRecDepth 100000 in
theorem eq_slices_Index_sint_int (x : In pk_slices_Index_sint_int) : semF (mkE []) h_slices_Index_sint_int (info Try.f110) pk_slices_Index_sint_int rk_slices_Index_sint_int x = M_slices_Index_sint_int x := by kernel_rfl

set_option maxRecDepth 100000 in
theorem m_slices_Index_sint_int : ConOK Try.prog 110 c_slices_Index_sint_int := fn_ok (tyOK _) (E := mkE []) (consOK_nil rfl) Try.func110 (h := h_slices_Index_sint_int) (by kernel_rfl) eq_slices_Index_sint_int

/-- slices_Contains_sint_int -/
def pk_slices_Contains_sint_int : List PK := [.data (.sl (.int .i64)), .data (.int .i64)]
def rk_slices_Contains_sint_int : List (Ty × Bool) := [(.bool, false)]
def h_slices_Contains_sint_int : Hints := { loops := [] }
noncomputable def M_slices_Contains_sint_int (x : ((List Int) × Int)) : (Option Bool) :=
  (bindO (M_slices_Index_sint_int (x.1, x.2)) (fun (a0 : Int) => (some (decide (a0 ≥ (0 : Int))))))

noncomputable def c_slices_Contains_sint_int : Con0 := ⟨pk_slices_Contains_sint_int, rk_slices_Contains_sint_int, M_slices_Contains_sint_int⟩

set_option maxRecDepth 100000 in
theorem eq_slices_Contains_sint_int (x : In pk_slices_Contains_sint_int) : semF (mkE [(110, c_slices_Index_sint_int)]) h_slices_Contains_sint_int (info Try.f85) pk_slices_Contains_sint_int rk_slices_Contains_sint_int x = M_slices_Contains_sint_int x := by kernel_rfl

set_option maxRecDepth 100000 in
theorem m_slices_Contains_sint_int : ConOK Try.prog 85 c_slices_Contains_sint_int := fn_ok (tyOK _) (E := mkE [(110, c_slices_Index_sint_int)]) (consOK_cons m_slices_Index_sint_int (consOK_nil rfl)) Try.func85 (h := h_slices_Contains_sint_int) (by kernel_rfl) eq_slices_Contains_sint_int

/-- I_areDifferent -/
def pk_I_areDifferent : List PK := [.data (.sl (.int .i64))]
def rk_I_areDifferent : List (Ty × Bool) := [(.bool, false)]
def h_I_areDifferent : Hints := { loops := [(0, { items := [.slot 7 (.data (.int .i64) [])], kill := [1, 2, 3, 4, 8, 9, 10, 11, 12, 13, 14, 15, 16, 17] })] }
noncomputable def M_I_areDifferent (x : (List Int)) : (Option Bool) :=
  (loopO (fun (again0 : (Int → (Option Bool))) => (fun (s1 : Int) => (cond (decide (s1 < (((List.length x) : Nat) : Int))) (bindO (getI x s1) (fun (a2 : Int) => (bindO (sliceNH s1 (List.length x)) (fun (a3 : (Nat × Nat)) => (bindO (M_slices_Contains_sint_int ((List.drop a3.1 (List.take a3.2 x)), a2)) (fun (a4 : Bool) => (cond a4 (some false) (bindO (some (IntKind.wrap .i64 (s1 + (1 : Int)))) (fun (a5 : Int) => (again0 a5)))))))))) (some true)))) (0 : Int))

noncomputable def c_I_areDifferent : Con0 := ⟨pk_I_areDifferent, rk_I_areDifferent, M_I_areDifferent⟩

set_option maxRecDepth 100000 in
theorem eq_I_areDifferent (x : In pk_I_areDifferent) : semF (mkE [(85, c_slices_Contains_sint_int)]) h_I_areDifferent (info Try.f122) pk_I_areDifferent rk_I_areDifferent x = M_I_areDifferent x := by kernel_rfl

set_option maxRecDepth 100000 in
theorem m_I_areDifferent : ConOK Try.prog 122 c_I_areDifferent := fn_ok (tyOK _) (E := mkE [(85, c_slices_Contains_sint_int)]) (consOK_cons m_slices_Contains_sint_int (consOK_nil rfl)) Try.func122 (h := h_I_areDifferent) (by kernel_rfl) eq_I_areDifferent

/-- I_IsPermutation_1 -/
def pk_I_IsPermutation_1 : List PK := [.data (.int .i64), .rp (.sl (.int .i64))]
def rk_I_IsPermutation_1 : List (Ty × Bool) := [(.bool, false)]
def h_I_IsPermutation_1 : Hints := { loops := [] }
noncomputable def M_I_IsPermutation_1 (x : (Int × (List Int))) : (Option Bool) :=
  (bindO (some (IntKind.wrap .i64 ((((List.length x.2) : Nat) : Int) - (1 : Int)))) (fun (a0 : Int) => (bindO (M_I_within (x.1, ((0 : Int), a0))) (fun (a1 : Bool) => (some a1)))))

noncomputable def c_I_IsPermutation_1 : Con0 := ⟨pk_I_IsPermutation_1, rk_I_IsPermutation_1, M_I_IsPermutation_1⟩

set_option maxRecDepth 100000 in
theorem eq_I_IsPermutation_1 (x : In pk_I_IsPermutation_1) : semF (mkE [(65, c_I_within)]) h_I_IsPermutation_1 (info Try.f132) pk_I_IsPermutation_1 rk_I_IsPermutation_1 x = M_I_IsPermutation_1 x := by kernel_rfl

set_option maxRecDepth 100000 in
theorem m_I_IsPermutation_1 : ConOK Try.prog 132 c_I_IsPermutation_1 := fn_ok (tyOK _) (E := mkE [(65, c_I_within)]) (consOK_cons m_I_within (consOK_nil rfl)) Try.func132 (h := h_I_IsPermutation_1) (by kernel_rfl) eq_I_IsPermutation_1

/-- I_IsPermutation -/
def pk_I_IsPermutation : List PK := [.data (.sl (.int .i64))]
def rk_I_IsPermutation : List (Ty × Bool) := [(.bool, false)]
def h_I_IsPermutation : Hints := { loops := [] }
noncomputable def M_I_IsPermutation (x : (List Int)) : (Option Bool) :=
  (cond (decide ((((List.length x) : Nat) : Int) ≤ (24 : Int))) (bindO (M_I_areAll (x, (fun (a0 : Int) => (bindO (M_I_IsPermutation_1 (a0, x)) (fun (a1 : Bool) => (some a1)))))) (fun (a2 : Bool) => (cond a2 (bindO (M_I_areDifferent x) (fun (a3 : Bool) => (some a3))) (some false)))) (some false))

noncomputable def c_I_IsPermutation : Con0 := ⟨pk_I_IsPermutation, rk_I_IsPermutation, M_I_IsPermutation⟩

set_option maxRecDepth 100000 in
theorem eq_I_IsPermutation (x : In pk_I_IsPermutation) : semF (mkE [(76, c_I_areAll), (122, c_I_areDifferent), (132, c_I_IsPermutation_1)]) h_I_IsPermutation (info Try.f81) pk_I_IsPermutation rk_I_IsPermutation x = M_I_IsPermutation x := by kernel_rfl

set_option maxRecDepth 100000 in
theorem m_I_IsPermutation : ConOK Try.prog 81 c_I_IsPermutation := fn_ok (tyOK _) (E := mkE [(76, c_I_areAll), (122, c_I_areDifferent), (132, c_I_IsPermutation_1)]) (consOK_cons m_I_areAll (consOK_cons m_I_areDifferent (consOK_cons m_I_IsPermutation_1 (consOK_nil rfl)))) Try.func81 (h := h_I_IsPermutation) (by kernel_rfl) eq_I_IsPermutation

/-- slices_Clone_sint_int -/
def pk_slices_Clone_sint_int : List PK := [.data (.sl (.int .i64))]
def rk_slices_Clone_sint_int : List (Ty × Bool) := [((.sl (.int .i64)), true)]
def h_slices_Clone_sint_int : Hints := { loops := [] }
noncomputable def M_slices_Clone_sint_int (x : (List Int)) : (Option (List Int)) :=
  (cond (List.isEmpty x) (ambO (some ([] : List Int)) (cond (not true) (some ([] : List Int)) (bindO (guardO (lenOk ((List.length ([] : List Int)) + (List.length x)))) (fun (a0 : Unit) => (bindO (some (([] : List Int) ++ x)) (fun (a1 : (List Int)) => (some a1))))))) (cond (not true) (some ([] : List Int)) (bindO (guardO (lenOk ((List.length ([] : List Int)) + (List.length x)))) (fun (a2 : Unit) => (bindO (some (([] : List Int) ++ x)) (fun (a3 : (List Int)) => (some a3)))))))

noncomputable def c_slices_Clone_sint_int : Con0 := ⟨pk_slices_Clone_sint_int, rk_slices_Clone_sint_int, M_slices_Clone_sint_int⟩

set_option maxRecDepth 100000 in
theorem eq_slices_Clone_sint_int (x : In pk_slices_Clone_sint_int) : semF (mkE []) h_slices_Clone_sint_int (info Try.f82) pk_slices_Clone_sint_int rk_slices_Clone_sint_int x = M_slices_Clone_sint_int x := by kernel_rfl

set_option maxRecDepth 100000 in
theorem m_slices_Clone_sint_int : ConOK Try.prog 82 c_slices_Clone_sint_int := fn_ok (tyOK _) (E := mkE []) (consOK_nil rfl) Try.func82 (h := h_slices_Clone_sint_int) (by kernel_rfl) eq_slices_Clone_sint_int

/-- I_at -/
def pk_I_at : List PK := [.data (.sl (.int .i64)), .data (.sl (.int .i64))]
def rk_I_at : List (Ty × Bool) := [((.sl (.int .i64)), true)]
def h_I_at : Hints := { loops := [(0, { items := [.slot 5 (.own (.int .i64) true), .slot 11 (.data (.int .i64) [])], kill := [1, 2, 3, 4, 6, 7, 8, 12, 13, 14, 15, 16, 17, 18, 19, 20, 21, 22, 23] })] }
noncomputable def M_I_at (x : ((List Int) × (List Int))) : (Option (List Int)) :=
  (loopO (fun (again0 : (((List Int) × Int) → (Option (List Int)))) => (fun (s1 : ((List Int) × Int)) => (cond (decide (s1.2 < (((List.length x.2) : Nat) : Int))) (bindO (getI x.2 s1.2) (fun (a2 : Int) => (bindO (getI x.1 a2) (fun (a3 : Int) => (bindO (guardO (lenOk ((List.length s1.1) + (List.length (a3 :: ([] : List Int)))))) (fun (a4 : Unit) => (bindO (some (s1.1 ++ (a3 :: ([] : List Int)))) (fun (a5 : (List Int)) => (bindO (some (IntKind.wrap .i64 (s1.2 + (1 : Int)))) (fun (a6 : Int) => (again0 (a5, a6)))))))))))) (some s1.1)))) (([] : List Int), (0 : Int)))

noncomputable def c_I_at : Con0 := ⟨pk_I_at, rk_I_at, M_I_at⟩

set_option maxRecDepth 100000 in
theorem eq_I_at (x : In pk_I_at) : semF (mkE []) h_I_at (info Try.f83) pk_I_at rk_I_at x = M_I_at x := by kernel_rfl

set_option maxRecDepth 100000 in
theorem m_I_at : ConOK Try.prog 83 c_I_at := fn_ok (tyOK _) (E := mkE []) (consOK_nil rfl) Try.func83 (h := h_I_at) (by kernel_rfl) eq_I_at

/-- I_LinkOf -/
def pk_I_LinkOf : List PK := [.data (.sl (.sl (.int .i64)))]
def rk_I_LinkOf : List (Ty × Bool) := [((.sl (.int .i64)), true), (.bool, false)]
def h_I_LinkOf : Hints := { loops := [(0, { items := [.slot 15 (.data (.int .i64) [])], kill := [1, 2, 3, 4, 5, 6, 7, 8, 9, 10, 11, 12, 16, 17, 18, 19, 20, 21, 22, 23, 24, 25, 26, 27, 28, 29, 30, 31, 32, 33, 34, 35, 36, 37, 38, 39, 40, 41, 42, 43, 44, 45, 46, 47] }), (2, { items := [.slot 6 (.own (.int .i64) true), .slot 39 (.data (.int .i64) [])], kill := [0, 1, 2, 3, 4, 5, 7, 8, 9, 10, 11, 12, 13, 14, 15, 16, 17, 18, 19, 20, 21, 22, 23, 24, 25, 26, 27, 28, 29, 30, 31, 32, 33, 34, 35, 36, 40, 41, 42, 43, 44, 45, 46, 47] })] }
noncomputable def M_I_LinkOf (x : (List (List Int))) : (Option ((List Int) × Bool)) :=
  (bindO (M_I_within ((((List.length x) : Nat) : Int), ((1 : Int), (6 : Int)))) (fun (a0 : Bool) => (cond (not a0) (some (([] : List Int), false)) (loopO (fun (again1 : (Int → (Option ((List Int) × Bool)))) => (fun (s2 : Int) => (cond (decide (s2 < (((List.length x) : Nat) : Int))) (bindO (getI x s2) (fun (a3 : (List Int)) => (bindO (M_I_IsPermutation a3) (fun (a4 : Bool) => (cond (not a4) (some (([] : List Int), false)) (bindO (getI x (0 : Int)) (fun (a5 : (List Int)) => (cond ((((List.length a3) : Nat) : Int) != (((List.length a5) : Nat) : Int)) (some (([] : List Int), false)) (bindO (some (IntKind.wrap .i64 (s2 + (1 : Int)))) (fun (a6 : Int) => (again1 a6))))))))))) (bindO (getI x (0 : Int)) (fun (a7 : (List Int)) => (bindO (M_slices_Clone_sint_int a7) (fun (a8 : (List Int)) => (bindO (sliceLN (1 : Int) (List.length x)) (fun (a9 : (Nat × Nat)) => (loopO (fun (again10 : (((List Int) × Int) → (Option ((List Int) × Bool)))) => (fun (s11 : ((List Int) × Int)) => (cond (decide (s11.2 < (((List.length (List.drop a9.1 (List.take a9.2 x))) : Nat) : Int))) (bindO (getI (List.drop a9.1 (List.take a9.2 x)) s11.2) (fun (a12 : (List Int)) => (bindO (M_I_at (s11.1, a12)) (fun (a13 : (List Int)) => (bindO (some (IntKind.wrap .i64 (s11.2 + (1 : Int)))) (fun (a14 : Int) => (again10 (a13, a14)))))))) (some (s11.1, true))))) (a8, (0 : Int)))))))))))) (0 : Int)))))

noncomputable def c_I_LinkOf : Con0 := ⟨pk_I_LinkOf, rk_I_LinkOf, M_I_LinkOf⟩

set_option maxRecDepth 100000 in
theorem eq_I_LinkOf (x : In pk_I_LinkOf) : semF (mkE [(65, c_I_within), (81, c_I_IsPermutation), (82, c_slices_Clone_sint_int), (83, c_I_at)]) h_I_LinkOf (info Try.f35) pk_I_LinkOf rk_I_LinkOf x = M_I_LinkOf x := by kernel_rfl

set_option maxRecDepth 100000 in
theorem m_I_LinkOf : ConOK Try.prog 35 c_I_LinkOf := fn_ok (tyOK _) (E := mkE [(65, c_I_within), (81, c_I_IsPermutation), (82, c_slices_Clone_sint_int), (83, c_I_at)]) (consOK_cons m_I_within (consOK_cons m_I_IsPermutation (consOK_cons m_slices_Clone_sint_int (consOK_cons m_I_at (consOK_nil rfl))))) Try.func35 (h := h_I_LinkOf) (by kernel_rfl) eq_I_LinkOf

/-- L_eqIntS -/
def pk_L_eqIntS : List PK := [.data (.sl (.int .i64)), .data (.sl (.int .i64))]
def rk_L_eqIntS : List (Ty × Bool) := [(.bool, false)]
def h_L_eqIntS : Hints := { loops := [(0, { items := [.slot 5 (.data (.int .i64) [])], kill := [2, 3, 4, 6, 7, 8, 9, 10, 11, 12, 13, 14, 15, 16, 17, 18, 19, 20, 21, 22, 23, 24, 25] })] }
noncomputable def M_L_eqIntS (x : ((List Int) × (List Int))) : (Option Bool) :=
  (cond ((((List.length x.1) : Nat) : Int) != (((List.length x.2) : Nat) : Int)) (some false) (loopO (fun (again0 : (Int → (Option Bool))) => (fun (s1 : Int) => (cond (decide (s1 < (((List.length x.1) : Nat) : Int))) (bindO (getI x.1 s1) (fun (a2 : Int) => (bindO (getI x.2 s1) (fun (a3 : Int) => (cond (a2 != a3) (some false) (bindO (some (IntKind.wrap .i64 (s1 + (1 : Int)))) (fun (a4 : Int) => (again0 a4)))))))) (some true)))) (0 : Int)))

noncomputable def c_L_eqIntS : Con0 := ⟨pk_L_eqIntS, rk_L_eqIntS, M_L_eqIntS⟩

set_option maxRecDepth 100000 in
theorem eq_L_eqIntS (x : In pk_L_eqIntS) : semF (mkE []) h_L_eqIntS (info Try.f24) pk_L_eqIntS rk_L_eqIntS x = M_L_eqIntS x := by kernel_rfl

set_option maxRecDepth 100000 in
theorem m_L_eqIntS : ConOK Try.prog 24 c_L_eqIntS := fn_ok (tyOK _) (E := mkE []) (consOK_nil rfl) Try.func24 (h := h_L_eqIntS) (by kernel_rfl) eq_L_eqIntS

/-- L_eqIntSS -/
def pk_L_eqIntSS : List PK := [.data (.sl (.sl (.int .i64))), .data (.sl (.sl (.int .i64)))]
def rk_L_eqIntSS : List (Ty × Bool) := [(.bool, false)]
def h_L_eqIntSS : Hints := { loops := [(0, { items := [.slot 5 (.data (.int .i64) [])], kill := [2, 3, 4, 6, 7, 8, 9, 10, 11, 12, 13, 14, 15, 16, 17, 18, 19, 20, 21, 22, 23, 24, 25, 26] })] }
noncomputable def M_L_eqIntSS (x : ((List (List Int)) × (List (List Int)))) : (Option Bool) :=
  (cond ((((List.length x.1) : Nat) : Int) != (((List.length x.2) : Nat) : Int)) (some false) (loopO (fun (again0 : (Int → (Option Bool))) => (fun (s1 : Int) => (cond (decide (s1 < (((List.length x.1) : Nat) : Int))) (bindO (getI x.1 s1) (fun (a2 : (List Int)) => (bindO (getI x.2 s1) (fun (a3 : (List Int)) => (bindO (M_L_eqIntS (a2, a3)) (fun (a4 : Bool) => (cond (not a4) (some false) (bindO (some (IntKind.wrap .i64 (s1 + (1 : Int)))) (fun (a5 : Int) => (again0 a5)))))))))) (some true)))) (0 : Int)))

noncomputable def c_L_eqIntSS : Con0 := ⟨pk_L_eqIntSS, rk_L_eqIntSS, M_L_eqIntSS⟩

set_option maxRecDepth 100000 in
theorem eq_L_eqIntSS (x : In pk_L_eqIntSS) : semF (mkE [(24, c_L_eqIntS)]) h_L_eqIntSS (info Try.f19) pk_L_eqIntSS rk_L_eqIntSS x = M_L_eqIntSS x := by kernel_rfl

set_option maxRecDepth 100000 in
theorem m_L_eqIntSS : ConOK Try.prog 19 c_L_eqIntSS := fn_ok (tyOK _) (E := mkE [(24, c_L_eqIntS)]) (consOK_cons m_L_eqIntS (consOK_nil rfl)) Try.func19 (h := h_L_eqIntSS) (by kernel_rfl) eq_L_eqIntSS

/-- L_markIntS -/
def pk_L_markIntS : List PK := [.mv (.sl (.int .i64)), .data (.int .i64)]
def rk_L_markIntS : List (Ty × Bool) := [((.int .i64), false)]
def h_L_markIntS : Hints := { loops := [(0, { items := [.slot 1 (.data (.int .i64) []), .slot 5 (.data (.int .i64) []), .arr 0 (.int .i64) true], kill := [2, 3, 4, 6, 7, 8, 9, 10, 11, 12, 13, 14, 15, 16, 17, 18] })] }
noncomputable def M_L_markIntS (x : ((List Int) × Int)) : (Option (Int × (List Int))) :=
  (loopO (fun (again0 : ((Int × (Int × (List Int))) → (Option (Int × (List Int))))) => (fun (s1 : (Int × (Int × (List Int)))) => (cond (decide (s1.2.1 < (((List.length s1.2.2) : Nat) : Int))) (bindO (getI s1.2.2 s1.2.1) (fun (a2 : Int) => (bindO (some (List.set s1.2.2 (Int.toNat s1.2.1) s1.1)) (fun (a3 : (List Int)) => (bindO (some (IntKind.wrap .i64 (s1.1 + (1 : Int)))) (fun (a4 : Int) => (bindO (some (IntKind.wrap .i64 (s1.2.1 + (1 : Int)))) (fun (a5 : Int) => (again0 (a4, (a5, a3))))))))))) (some (s1.1, s1.2.2))))) (x.2, ((0 : Int), x.1)))

noncomputable def c_L_markIntS : Con0 := ⟨pk_L_markIntS, rk_L_markIntS, M_L_markIntS⟩

set_option maxRecDepth 100000 in
theorem eq_L_markIntS (x : In pk_L_markIntS) : semF (mkE []) h_L_markIntS (info Try.f25) pk_L_markIntS rk_L_markIntS x = M_L_markIntS x := by kernel_rfl

set_option maxRecDepth 100000 in
theorem m_L_markIntS : ConOK Try.prog 25 c_L_markIntS := fn_ok (tyOK _) (E := mkE []) (consOK_nil rfl) Try.func25 (h := h_L_markIntS) (by kernel_rfl) eq_L_markIntS

/-- L_markIntSS -/
def pk_L_markIntSS : List PK := [.mv (.sl (.sl (.int .i64))), .data (.int .i64)]
def rk_L_markIntSS : List (Ty × Bool) := [((.int .i64), false)]
def h_L_markIntSS : Hints := { loops := [(0, { items := [.slot 1 (.data (.int .i64) []), .slot 5 (.data (.int .i64) []), .arr 0 (.sl (.int .i64)) true], kill := [2, 3, 4, 6, 7, 8, 9, 10, 11, 12, 13, 14, 15, 16, 17, 18] })] }
noncomputable def M_L_markIntSS (x : ((List (List Int)) × Int)) : (Option (Int × (List (List Int)))) :=
  (loopO (fun (again0 : ((Int × (Int × (List (List Int)))) → (Option (Int × (List (List Int)))))) => (fun (s1 : (Int × (Int × (List (List Int))))) => (cond (decide (s1.2.1 < (((List.length s1.2.2) : Nat) : Int))) (bindO (getI s1.2.2 s1.2.1) (fun (a2 : (List Int)) => (bindO (M_L_markIntS (a2, s1.1)) (fun (a3 : (Int × (List Int))) => (bindO (some (IntKind.wrap .i64 (s1.2.1 + (1 : Int)))) (fun (a4 : Int) => (again0 (a3.1, (a4, (List.modify s1.2.2 (Int.toNat s1.2.1) (fun (a5 : (List Int)) => a3.2))))))))))) (some (s1.1, s1.2.2))))) (x.2, ((0 : Int), x.1)))

noncomputable def c_L_markIntSS : Con0 := ⟨pk_L_markIntSS, rk_L_markIntSS, M_L_markIntSS⟩

set_option maxRecDepth 100000 in
theorem eq_L_markIntSS (x : In pk_L_markIntSS) : semF (mkE [(25, c_L_markIntS)]) h_L_markIntSS (info Try.f29) pk_L_markIntSS rk_L_markIntSS x = M_L_markIntSS x := by kernel_rfl

set_option maxRecDepth 100000 in
theorem m_L_markIntSS : ConOK Try.prog 29 c_L_markIntSS := fn_ok (tyOK _) (E := mkE [(25, c_L_markIntS)]) (consOK_cons m_L_markIntS (consOK_nil rfl)) Try.func29 (h := h_L_markIntSS) (by kernel_rfl) eq_L_markIntSS

/-- L_heldIntS -/
def pk_L_heldIntS : List PK := [.data (.sl (.int .i64)), .data (.int .i64)]
def rk_L_heldIntS : List (Ty × Bool) := [((.int .i64), false)]
def h_L_heldIntS : Hints := { loops := [(0, { items := [.slot 1 (.data (.int .i64) []), .slot 5 (.data (.int .i64) [])], kill := [2, 3, 4, 6, 7, 8, 9, 10, 11, 12, 13, 14, 15, 16, 17, 18, 19, 20] })] }
noncomputable def M_L_heldIntS (x : ((List Int) × Int)) : (Option Int) :=
  (loopO (fun (again0 : ((Int × Int) → (Option Int))) => (fun (s1 : (Int × Int)) => (cond (decide (s1.2 < (((List.length x.1) : Nat) : Int))) (bindO (getI x.1 s1.2) (fun (a2 : Int) => (cond (a2 != s1.1) (some (- (1 : Int))) (bindO (some (IntKind.wrap .i64 (s1.1 + (1 : Int)))) (fun (a3 : Int) => (bindO (some (IntKind.wrap .i64 (s1.2 + (1 : Int)))) (fun (a4 : Int) => (again0 (a3, a4))))))))) (some s1.1)))) (x.2, (0 : Int)))

noncomputable def c_L_heldIntS : Con0 := ⟨pk_L_heldIntS, rk_L_heldIntS, M_L_heldIntS⟩

set_option maxRecDepth 100000 in
theorem eq_L_heldIntS (x : In pk_L_heldIntS) : semF (mkE []) h_L_heldIntS (info Try.f26) pk_L_heldIntS rk_L_heldIntS x = M_L_heldIntS x := by kernel_rfl

set_option maxRecDepth 100000 in
theorem m_L_heldIntS : ConOK Try.prog 26 c_L_heldIntS := fn_ok (tyOK _) (E := mkE []) (consOK_nil rfl) Try.func26 (h := h_L_heldIntS) (by kernel_rfl) eq_L_heldIntS

/-- L_FnExactLinkOf -/
def pk_L_FnExactLinkOf : List PK := [.data (.sl (.sl (.int .i64)))]
def rk_L_FnExactLinkOf : List (Ty × Bool) := [(.bool, false)]
def h_L_FnExactLinkOf : Hints := { loops := [] }
noncomputable def M_L_FnExactLinkOf (x : (List (List Int))) : (Option Bool) :=
  (bindO (M_L_szIntSS (x, (1048576 : Int))) (fun (a0 : Int) => (cond (decide (a0 < (0 : Int))) (some true) (bindO (M_L_toIntSS x) (fun (a1 : (List (List Int))) => (bindO (M_S_LinkOf a1) (fun (a2 : ((List Int) × Bool)) => (bindO (M_L_toIntSS x) (fun (a3 : (List (List Int))) => (bindO (M_I_LinkOf a3) (fun (a4 : ((List Int) × Bool)) => (bindO (M_L_eqIntS (a4.1, a2.1)) (fun (a5 : Bool) => (cond (not a5) (some false) (cond (not (a4.2 == a2.2)) (some false) (bindO (M_L_toIntSS x) (fun (a6 : (List (List Int))) => (bindO (M_L_eqIntSS (a3, a6)) (fun (a7 : Bool) => (cond (not a7) (some false) (bindO (M_L_markIntSS (a3, (1 : Int))) (fun (a8 : (Int × (List (List Int)))) => (cond (decide (a8.1 < (0 : Int))) (some false) (bindO (M_L_eqIntS (a4.1, a2.1)) (fun (a9 : Bool) => (cond (not a9) (some false) (cond (not (a4.2 == a2.2)) (some false) (bindO (M_L_markIntS (a4.1, (1 : Int))) (fun (a10 : (Int × (List Int))) => (bindO (M_L_heldIntS (a10.2, (1 : Int))) (fun (a11 : Int) => (cond (decide (a11 < (0 : Int))) (some false) (cond (a11 != a10.1) (some false) (bindO (M_L_toIntSS x) (fun (a12 : (List (List Int))) => (bindO (M_I_LinkOf a12) (fun (a13 : ((List Int) × Bool)) => (bindO (M_L_eqIntS (a13.1, a2.1)) (fun (a14 : Bool) => (cond (not a14) (some false) (cond (not (a13.2 == a2.2)) (some false) (bindO (M_L_heldIntS (a10.2, (1 : Int))) (fun (a15 : Int) => (cond (decide (a15 < (0 : Int))) (some false) (cond (a15 != a10.1) (some false) (some true))))))))))))))))))))))))))))))))))))))))))))))

noncomputable def c_L_FnExactLinkOf : Con0 := ⟨pk_L_FnExactLinkOf, rk_L_FnExactLinkOf, M_L_FnExactLinkOf⟩

set_option maxRecDepth 100000 in
theorem eq_L_FnExactLinkOf (x : In pk_L_FnExactLinkOf) : semF (mkE [(15, c_L_szIntSS), (17, c_L_toIntSS), (34, c_S_LinkOf), (35, c_I_LinkOf), (24, c_L_eqIntS), (19, c_L_eqIntSS), (29, c_L_markIntSS), (25, c_L_markIntS), (26, c_L_heldIntS)]) h_L_FnExactLinkOf (info Try.f8) pk_L_FnExactLinkOf rk_L_FnExactLinkOf x = M_L_FnExactLinkOf x := by kernel_rfl

set_option maxRecDepth 100000 in
theorem m_L_FnExactLinkOf : ConOK Try.prog 8 c_L_FnExactLinkOf := fn_ok (tyOK _) (E := mkE [(15, c_L_szIntSS), (17, c_L_toIntSS), (34, c_S_LinkOf), (35, c_I_LinkOf), (24, c_L_eqIntS), (19, c_L_eqIntSS), (29, c_L_markIntSS), (25, c_L_markIntS), (26, c_L_heldIntS)]) (consOK_cons m_L_szIntSS (consOK_cons m_L_toIntSS (consOK_cons m_S_LinkOf (consOK_cons m_I_LinkOf (consOK_cons m_L_eqIntS (consOK_cons m_L_eqIntSS (consOK_cons m_L_markIntSS (consOK_cons m_L_markIntS (consOK_cons m_L_heldIntS (consOK_nil rfl)))))))))) Try.func8 (h := h_L_FnExactLinkOf) (by kernel_rfl) eq_L_FnExactLinkOf

end Go.Proofs.Ytmgphiofmhfjnaa.Vd
