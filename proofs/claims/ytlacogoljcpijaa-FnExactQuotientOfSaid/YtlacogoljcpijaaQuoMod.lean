/- The functions of the law as plain functions on data, and that the program's functions are these. No conditions. -/
import Derived.Test.YtlacogoljcpijaaVd3
import Derived.Test.YtlacogoljcpijaaChecked
import Derived.KernelRfl
set_option linter.unusedVariables false
namespace Go.Proofs.Ytlacogoljcpijaa.Vd
def tys : List (Option Ty) := [none, none, some (.int .i64), some (.int .i64), some .bool, some (.int .u8), some (.int .u8), some (.cons (.int .i64) (.cons (.int .i64) (.cons .bool (.one (.int .u8))))), some (.cons (.int .i64) (.cons (.int .i64) (.cons .bool (.one (.int .u8))))), some .str, some .str, some .str, some (.int .u64), some (.cons .str (.one (.int .u64))), some (.cons .str (.one (.int .u64))), none, none, none, none, none, none, some (.int .i32), none, none, none, some (.sl (.int .i64)), none, none, none, none, none, none, some (.cons (.int .i64) (.cons (.int .i64) (.one (.int .i64)))), some (.cons (.int .i64) (.cons (.int .i64) (.one (.int .i64)))), none, some (.cons (.int .i64) (.cons (.int .i64) (.one (.int .i64)))), none, none, none, none, none, none, none, none, none, none, none, some (.cons (.int .i64) (.one (.int .i64))), some (.cons (.int .i64) (.one (.int .i64))), some (.cons (.int .i64) (.one (.int .i64))), none, none, none, none, none, none, none, none, none, none, none, none, none, none, none, none, none, none, none, none, none, none, none, none, none, none, none, none, none, none, none, none, some (.sl (.cons (.int .i64) (.one (.int .i64)))), none, some (.int .u64), none, none, none, some (.cons (.int .i64) (.one (.int .i64))), some (.cons (.int .i64) (.one (.int .i64))), none, none, none, none, none, none, none, none, some (.int .u32), some (.int .u8), some (.int .u8), none, none, some (.int .i32), some (.int .i32), none, none, none]
def others : List Nat := [1, 15, 16, 17, 23, 24, 27, 28, 29, 30, 31, 34, 36, 37, 38, 39, 40, 41, 42, 43, 44, 45, 46, 51, 52, 53, 54, 56, 57, 58, 59, 60, 61, 62, 63, 64, 65, 66, 68, 69, 70, 71, 72, 73, 74, 75, 76, 77, 78, 79, 80, 81, 83, 85, 86, 87, 90, 91, 97, 101, 102]
def pairs : List Nat := [47, 48, 49, 88, 89]
noncomputable def mkE (con : List (Nat × Con0)) : Env := ⟨[], tys, others, pairs, con⟩

set_option maxRecDepth 100000 in
theorem tyOK (con : List (Nat × Con0)) : TyOK Try.prog (mkE con) := tyOK_of (E := mkE con) (by kernel_rfl) (by kernel_rfl) (by kernel_rfl)

/-- L_toGroup -/
def pk_L_toGroup : List PK := [.data (.cons (.int .i64) (.cons (.int .i64) (.one (.int .i64))))]
def rk_L_toGroup : List (Ty × Bool) := [((.cons (.int .i64) (.cons (.int .i64) (.one (.int .i64)))), false)]
def h_L_toGroup : Hints := { loops := [] }
noncomputable def M_L_toGroup (x : (Int × (Int × Int))) : (Option (Int × (Int × Int))) :=
  (some (x.1, (x.2.1, x.2.2)))

noncomputable def c_L_toGroup : Con0 := ⟨pk_L_toGroup, rk_L_toGroup, M_L_toGroup⟩

set_option maxRecDepth 100000 in
theorem eq_L_toGroup (x : In pk_L_toGroup) : semF (mkE []) h_L_toGroup (info Try.f23) pk_L_toGroup rk_L_toGroup x = M_L_toGroup x := by kernel_rfl

set_option maxRecDepth 100000 in
theorem m_L_toGroup : ConOK Try.prog 23 c_L_toGroup := fn_ok (tyOK _) (E := mkE []) (consOK_nil rfl) Try.func23 (h := h_L_toGroup) (by kernel_rfl) eq_L_toGroup

/-- L_toCipher -/
def pk_L_toCipher : List PK := [.data (.cons (.int .i64) (.one (.int .i64)))]
def rk_L_toCipher : List (Ty × Bool) := [((.cons (.int .i64) (.one (.int .i64))), false)]
def h_L_toCipher : Hints := { loops := [] }
noncomputable def M_L_toCipher (x : (Int × Int)) : (Option (Int × Int)) :=
  (some (x.1, x.2))

noncomputable def c_L_toCipher : Con0 := ⟨pk_L_toCipher, rk_L_toCipher, M_L_toCipher⟩

set_option maxRecDepth 100000 in
theorem eq_L_toCipher (x : In pk_L_toCipher) : semF (mkE []) h_L_toCipher (info Try.f38) pk_L_toCipher rk_L_toCipher x = M_L_toCipher x := by kernel_rfl

set_option maxRecDepth 100000 in
theorem m_L_toCipher : ConOK Try.prog 38 c_L_toCipher := fn_ok (tyOK _) (E := mkE []) (consOK_nil rfl) Try.func38 (h := h_L_toCipher) (by kernel_rfl) eq_L_toCipher

/-- S_l1In -/
def pk_S_l1In : List PK := [.data (.int .i64), .data (.int .i64), .data (.int .i64)]
def rk_S_l1In : List (Ty × Bool) := [(.bool, false)]
def h_S_l1In : Hints := { loops := [] }
noncomputable def M_S_l1In (x : (Int × (Int × Int))) : (Option Bool) :=
  (cond (decide (x.1 ≥ x.2.1)) (some (decide (x.1 ≤ x.2.2))) (some false))

noncomputable def c_S_l1In : Con0 := ⟨pk_S_l1In, rk_S_l1In, M_S_l1In⟩

set_option maxRecDepth 100000 in
theorem eq_S_l1In (x : In pk_S_l1In) : semF (mkE []) h_S_l1In (info Try.f43) pk_S_l1In rk_S_l1In x = M_S_l1In x := by kernel_rfl

set_option maxRecDepth 100000 in
theorem m_S_l1In : ConOK Try.prog 43 c_S_l1In := fn_ok (tyOK _) (E := mkE []) (consOK_nil rfl) Try.func43 (h := h_S_l1In) (by kernel_rfl) eq_S_l1In

/-- S_nPower -/
def pk_S_nPower : List PK := [.data (.int .i64), .data (.int .i64), .data (.int .i64)]
def rk_S_nPower : List (Ty × Bool) := [((.int .i64), false)]
def h_S_nPower : Hints := { loops := [(0, { items := [.slot 0 (.data (.int .i64) []), .slot 1 (.data (.int .i64) []), .slot 7 (.data (.int .i64) [])], kill := [3, 4, 5, 6, 8, 9, 10, 11, 12, 13, 14, 15, 16, 17, 18, 19, 20, 21, 22, 23, 24, 25, 26, 27] })] }
noncomputable def M_S_nPower (x : (Int × (Int × Int))) : (Option Int) :=
  (bindO (guardO (x.2.2 != (0 : Int))) (fun (a0 : Unit) => (bindO (some (Int.tmod (1 : Int) x.2.2)) (fun (a1 : Int) => (loopO (fun (again2 : ((Int × (Int × Int)) → (Option Int))) => (fun (s3 : (Int × (Int × Int))) => (cond (decide (s3.2.1 > (0 : Int))) (bindO (guardO ((2 : Int) != (0 : Int))) (fun (a4 : Unit) => (bindO (some (Int.tmod s3.2.1 (2 : Int))) (fun (a5 : Int) => (cond (a5 == (1 : Int)) (bindO (some (IntKind.wrap .i64 (s3.2.2 * s3.1))) (fun (a6 : Int) => (bindO (guardO (x.2.2 != (0 : Int))) (fun (a7 : Unit) => (bindO (some (Int.tmod a6 x.2.2)) (fun (a8 : Int) => (bindO (some (IntKind.wrap .i64 (s3.1 * s3.1))) (fun (a9 : Int) => (bindO (guardO (x.2.2 != (0 : Int))) (fun (a10 : Unit) => (bindO (some (Int.tmod a9 x.2.2)) (fun (a11 : Int) => (bindO (guardO ((2 : Int) != (0 : Int))) (fun (a12 : Unit) => (bindO (some (IntKind.wrap .i64 (Int.tdiv s3.2.1 (2 : Int)))) (fun (a13 : Int) => (again2 (a11, (a13, a8))))))))))))))))))) (bindO (some (IntKind.wrap .i64 (s3.1 * s3.1))) (fun (a14 : Int) => (bindO (guardO (x.2.2 != (0 : Int))) (fun (a15 : Unit) => (bindO (some (Int.tmod a14 x.2.2)) (fun (a16 : Int) => (bindO (guardO ((2 : Int) != (0 : Int))) (fun (a17 : Unit) => (bindO (some (IntKind.wrap .i64 (Int.tdiv s3.2.1 (2 : Int)))) (fun (a18 : Int) => (again2 (a16, (a18, s3.2.2)))))))))))))))))) (some s3.2.2)))) (x.1, (x.2.1, a1)))))))

noncomputable def c_S_nPower : Con0 := ⟨pk_S_nPower, rk_S_nPower, M_S_nPower⟩

set_option maxRecDepth 100000 in
theorem eq_S_nPower (x : In pk_S_nPower) : semF (mkE []) h_S_nPower (info Try.f82) pk_S_nPower rk_S_nPower x = M_S_nPower x := by kernel_rfl

set_option maxRecDepth 100000 in
theorem m_S_nPower : ConOK Try.prog 82 c_S_nPower := fn_ok (tyOK _) (E := mkE []) (consOK_nil rfl) Try.func82 (h := h_S_nPower) (by kernel_rfl) eq_S_nPower

/-- S_nPrime -/
def pk_S_nPrime : List PK := [.data (.int .i64)]
def rk_S_nPrime : List (Ty × Bool) := [(.bool, false)]
def h_S_nPrime : Hints := { loops := [(0, { items := [.slot 3 (.data (.int .i64) [])], kill := [1, 2, 4, 5, 6, 7, 8, 9, 10, 11, 12, 13, 14, 15, 16] })] }
noncomputable def M_S_nPrime (x : Int) : (Option Bool) :=
  (cond (decide (x < (2 : Int))) (some false) (loopO (fun (again0 : (Int → (Option Bool))) => (fun (s1 : Int) => (bindO (some (IntKind.wrap .i64 (s1 * s1))) (fun (a2 : Int) => (cond (decide (a2 ≤ x)) (bindO (guardO (s1 != (0 : Int))) (fun (a3 : Unit) => (bindO (some (Int.tmod x s1)) (fun (a4 : Int) => (cond (a4 == (0 : Int)) (some false) (bindO (some (IntKind.wrap .i64 (s1 + (1 : Int)))) (fun (a5 : Int) => (again0 a5)))))))) (some true)))))) (2 : Int)))

noncomputable def c_S_nPrime : Con0 := ⟨pk_S_nPrime, rk_S_nPrime, M_S_nPrime⟩

set_option maxRecDepth 100000 in
theorem eq_S_nPrime (x : In pk_S_nPrime) : semF (mkE []) h_S_nPrime (info Try.f44) pk_S_nPrime rk_S_nPrime x = M_S_nPrime x := by kernel_rfl

set_option maxRecDepth 100000 in
theorem m_S_nPrime : ConOK Try.prog 44 c_S_nPrime := fn_ok (tyOK _) (E := mkE []) (consOK_nil rfl) Try.func44 (h := h_S_nPrime) (by kernel_rfl) eq_S_nPrime

/-- S_l2Good -/
def pk_S_l2Good : List PK := [.data (.cons (.int .i64) (.cons (.int .i64) (.one (.int .i64))))]
def rk_S_l2Good : List (Ty × Bool) := [(.bool, false)]
def h_S_l2Good : Hints := { loops := [] }
noncomputable def M_S_l2Good (x : (Int × (Int × Int))) : (Option Bool) :=
  (bindO (M_S_l1In (x.1, ((3 : Int), (2000000000 : Int)))) (fun (a0 : Bool) => (cond a0 (bindO (some (IntKind.wrap .i64 (x.1 - (1 : Int)))) (fun (a1 : Int) => (bindO (M_S_l1In (x.2.1, ((2 : Int), a1))) (fun (a2 : Bool) => (cond a2 (bindO (some (IntKind.wrap .i64 (x.1 - (1 : Int)))) (fun (a3 : Int) => (bindO (guardO (x.2.1 != (0 : Int))) (fun (a4 : Unit) => (bindO (some (Int.tmod a3 x.2.1)) (fun (a5 : Int) => (cond (a5 == (0 : Int)) (bindO (some (IntKind.wrap .i64 (x.1 - (1 : Int)))) (fun (a6 : Int) => (bindO (M_S_l1In (x.2.2, ((2 : Int), a6))) (fun (a7 : Bool) => (cond a7 (bindO (M_S_nPower (x.2.2, (x.2.1, x.1))) (fun (a8 : Int) => (cond (a8 == (1 : Int)) (bindO (M_S_nPrime x.2.1) (fun (a9 : Bool) => (cond a9 (bindO (M_S_nPrime x.1) (fun (a10 : Bool) => (some a10))) (some false)))) (some false)))) (some false)))))) (some false)))))))) (some false)))))) (some false))))

noncomputable def c_S_l2Good : Con0 := ⟨pk_S_l2Good, rk_S_l2Good, M_S_l2Good⟩

set_option maxRecDepth 100000 in
theorem eq_S_l2Good (x : In pk_S_l2Good) : semF (mkE [(43, c_S_l1In), (82, c_S_nPower), (44, c_S_nPrime)]) h_S_l2Good (info Try.f49) pk_S_l2Good rk_S_l2Good x = M_S_l2Good x := by kernel_rfl

set_option maxRecDepth 100000 in
theorem m_S_l2Good : ConOK Try.prog 49 c_S_l2Good := fn_ok (tyOK _) (E := mkE [(43, c_S_l1In), (82, c_S_nPower), (44, c_S_nPrime)]) (consOK_cons m_S_l1In (consOK_cons m_S_nPower (consOK_cons m_S_nPrime (consOK_nil rfl)))) Try.func49 (h := h_S_l2Good) (by kernel_rfl) eq_S_l2Good

/-- S_gIs -/
def pk_S_gIs : List PK := [.data (.cons (.int .i64) (.cons (.int .i64) (.one (.int .i64)))), .data (.sl (.int .i64))]
def rk_S_gIs : List (Ty × Bool) := [(.bool, false)]
def h_S_gIs : Hints := { loops := [(0, { items := [.slot 9 (.data (.int .i64) [])], kill := [0, 1, 3, 4, 5, 6, 10, 11, 12, 13, 14, 15, 16, 17, 18, 19, 20, 21, 22, 23, 24, 25, 26, 27, 28] })] }
noncomputable def M_S_gIs (x : ((Int × (Int × Int)) × (List Int))) : (Option Bool) :=
  (loopO (fun (again0 : (Int → (Option Bool))) => (fun (s1 : Int) => (cond (decide (s1 < (((List.length x.2) : Nat) : Int))) (bindO (getI x.2 s1) (fun (a2 : Int) => (bindO (some (IntKind.wrap .i64 (x.1.1 - (1 : Int)))) (fun (a3 : Int) => (bindO (M_S_l1In (a2, ((1 : Int), a3))) (fun (a4 : Bool) => (cond (not a4) (some false) (bindO (M_S_nPower (a2, (x.1.2.1, x.1.1))) (fun (a5 : Int) => (cond (a5 != (1 : Int)) (some false) (bindO (some (IntKind.wrap .i64 (s1 + (1 : Int)))) (fun (a6 : Int) => (again0 a6))))))))))))) (some true)))) (0 : Int))

noncomputable def c_S_gIs : Con0 := ⟨pk_S_gIs, rk_S_gIs, M_S_gIs⟩

set_option maxRecDepth 100000 in
theorem eq_S_gIs (x : In pk_S_gIs) : semF (mkE [(43, c_S_l1In), (82, c_S_nPower)]) h_S_gIs (info Try.f95) pk_S_gIs rk_S_gIs x = M_S_gIs x := by kernel_rfl

set_option maxRecDepth 100000 in
theorem m_S_gIs : ConOK Try.prog 95 c_S_gIs := fn_ok (tyOK _) (E := mkE [(43, c_S_l1In), (82, c_S_nPower)]) (consOK_cons m_S_l1In (consOK_cons m_S_nPower (consOK_nil rfl))) Try.func95 (h := h_S_gIs) (by kernel_rfl) eq_S_gIs

/-- S_eGood -/
def pk_S_eGood : List PK := [.data (.cons (.int .i64) (.cons (.int .i64) (.one (.int .i64)))), .data (.sl (.cons (.int .i64) (.one (.int .i64))))]
def rk_S_eGood : List (Ty × Bool) := [(.bool, false)]
def h_S_eGood : Hints := { loops := [(0, { items := [.slot 12 (.data (.int .i64) [])], kill := [0, 1, 3, 4, 5, 6, 7, 8, 9, 13, 14, 15, 16, 17, 18, 19, 20, 21, 22, 23, 24] })] }
noncomputable def M_S_eGood (x : ((Int × (Int × Int)) × (List (Int × Int)))) : (Option Bool) :=
  (cond (decide ((((List.length x.2) : Nat) : Int) > (24 : Int))) (some false) (loopO (fun (again0 : (Int → (Option Bool))) => (fun (s1 : Int) => (cond (decide (s1 < (((List.length x.2) : Nat) : Int))) (bindO (getI x.2 s1) (fun (a2 : (Int × Int)) => (bindO (M_S_gIs ((x.1.1, (x.1.2.1, x.1.2.2)), (a2.1 :: (a2.2 :: ([] : List Int))))) (fun (a3 : Bool) => (cond (not a3) (some false) (bindO (some (IntKind.wrap .i64 (s1 + (1 : Int)))) (fun (a4 : Int) => (again0 a4)))))))) (some true)))) (0 : Int)))

noncomputable def c_S_eGood : Con0 := ⟨pk_S_eGood, rk_S_eGood, M_S_eGood⟩

set_option maxRecDepth 100000 in
theorem eq_S_eGood (x : In pk_S_eGood) : semF (mkE [(95, c_S_gIs)]) h_S_eGood (info Try.f74) pk_S_eGood rk_S_eGood x = M_S_eGood x := by kernel_rfl

set_option maxRecDepth 100000 in
theorem m_S_eGood : ConOK Try.prog 74 c_S_eGood := fn_ok (tyOK _) (E := mkE [(95, c_S_gIs)]) (consOK_cons m_S_gIs (consOK_nil rfl)) Try.func74 (h := h_S_eGood) (by kernel_rfl) eq_S_eGood

/-- S_gInv -/
def pk_S_gInv : List PK := [.data (.cons (.int .i64) (.cons (.int .i64) (.one (.int .i64)))), .data (.int .i64)]
def rk_S_gInv : List (Ty × Bool) := [((.int .i64), false)]
def h_S_gInv : Hints := { loops := [] }
noncomputable def M_S_gInv (x : ((Int × (Int × Int)) × Int)) : (Option Int) :=
  (bindO (some (IntKind.wrap .i64 (x.1.2.1 - (1 : Int)))) (fun (a0 : Int) => (bindO (M_S_nPower (x.2, (a0, x.1.1))) (fun (a1 : Int) => (some a1)))))

noncomputable def c_S_gInv : Con0 := ⟨pk_S_gInv, rk_S_gInv, M_S_gInv⟩

set_option maxRecDepth 100000 in
theorem eq_S_gInv (x : In pk_S_gInv) : semF (mkE [(82, c_S_nPower)]) h_S_gInv (info Try.f97) pk_S_gInv rk_S_gInv x = M_S_gInv x := by kernel_rfl

set_option maxRecDepth 100000 in
theorem m_S_gInv : ConOK Try.prog 97 c_S_gInv := fn_ok (tyOK _) (E := mkE [(82, c_S_nPower)]) (consOK_cons m_S_nPower (consOK_nil rfl)) Try.func97 (h := h_S_gInv) (by kernel_rfl) eq_S_gInv

/-- S_gMul -/
def pk_S_gMul : List PK := [.data (.cons (.int .i64) (.cons (.int .i64) (.one (.int .i64)))), .data (.sl (.int .i64))]
def rk_S_gMul : List (Ty × Bool) := [((.int .i64), false)]
def h_S_gMul : Hints := { loops := [(0, { items := [.slot 5 (.data (.int .i64) []), .slot 10 (.data (.int .i64) [])], kill := [0, 1, 3, 4, 6, 7, 11, 12, 13, 14, 15, 16, 17, 18, 19, 20, 21] })] }
noncomputable def M_S_gMul (x : ((Int × (Int × Int)) × (List Int))) : (Option Int) :=
  (loopO (fun (again0 : ((Int × Int) → (Option Int))) => (fun (s1 : (Int × Int)) => (cond (decide (s1.2 < (((List.length x.2) : Nat) : Int))) (bindO (getI x.2 s1.2) (fun (a2 : Int) => (bindO (some (IntKind.wrap .i64 (s1.1 * a2))) (fun (a3 : Int) => (bindO (guardO (x.1.1 != (0 : Int))) (fun (a4 : Unit) => (bindO (some (Int.tmod a3 x.1.1)) (fun (a5 : Int) => (bindO (some (IntKind.wrap .i64 (s1.2 + (1 : Int)))) (fun (a6 : Int) => (again0 (a5, a6)))))))))))) (some s1.1)))) ((1 : Int), (0 : Int)))

noncomputable def c_S_gMul : Con0 := ⟨pk_S_gMul, rk_S_gMul, M_S_gMul⟩

set_option maxRecDepth 100000 in
theorem eq_S_gMul (x : In pk_S_gMul) : semF (mkE []) h_S_gMul (info Try.f71) pk_S_gMul rk_S_gMul x = M_S_gMul x := by kernel_rfl

set_option maxRecDepth 100000 in
theorem m_S_gMul : ConOK Try.prog 71 c_S_gMul := fn_ok (tyOK _) (E := mkE []) (consOK_nil rfl) Try.func71 (h := h_S_gMul) (by kernel_rfl) eq_S_gMul

/-- S_qQuo -/
def pk_S_qQuo : List PK := [.data (.cons (.int .i64) (.cons (.int .i64) (.one (.int .i64)))), .data (.cons (.int .i64) (.one (.int .i64))), .data (.cons (.int .i64) (.one (.int .i64)))]
def rk_S_qQuo : List (Ty × Bool) := [((.cons (.int .i64) (.one (.int .i64))), false)]
def h_S_qQuo : Hints := { loops := [] }
noncomputable def M_S_qQuo (x : ((Int × (Int × Int)) × ((Int × Int) × (Int × Int)))) : (Option (Int × Int)) :=
  (bindO (M_S_gInv ((x.1.1, (x.1.2.1, x.1.2.2)), x.2.2.1)) (fun (a0 : Int) => (bindO (M_S_gMul ((x.1.1, (x.1.2.1, x.1.2.2)), (x.2.1.1 :: (a0 :: ([] : List Int))))) (fun (a1 : Int) => (bindO (M_S_gInv ((x.1.1, (x.1.2.1, x.1.2.2)), x.2.2.2)) (fun (a2 : Int) => (bindO (M_S_gMul ((x.1.1, (x.1.2.1, x.1.2.2)), (x.2.1.2 :: (a2 :: ([] : List Int))))) (fun (a3 : Int) => (some (a1, a3))))))))))

noncomputable def c_S_qQuo : Con0 := ⟨pk_S_qQuo, rk_S_qQuo, M_S_qQuo⟩

set_option maxRecDepth 100000 in
theorem eq_S_qQuo (x : In pk_S_qQuo) : semF (mkE [(97, c_S_gInv), (71, c_S_gMul)]) h_S_qQuo (info Try.f75) pk_S_qQuo rk_S_qQuo x = M_S_qQuo x := by kernel_rfl

set_option maxRecDepth 100000 in
theorem m_S_qQuo : ConOK Try.prog 75 c_S_qQuo := fn_ok (tyOK _) (E := mkE [(97, c_S_gInv), (71, c_S_gMul)]) (consOK_cons m_S_gInv (consOK_cons m_S_gMul (consOK_nil rfl))) Try.func75 (h := h_S_qQuo) (by kernel_rfl) eq_S_qQuo

/-- S_QuotientOf -/
def pk_S_QuotientOf : List PK := [.data (.cons (.int .i64) (.cons (.int .i64) (.one (.int .i64)))), .data (.cons (.int .i64) (.one (.int .i64))), .data (.cons (.int .i64) (.one (.int .i64)))]
def rk_S_QuotientOf : List (Ty × Bool) := [((.cons (.int .i64) (.one (.int .i64))), false), (.bool, false)]
def h_S_QuotientOf : Hints := { loops := [] }
noncomputable def M_S_QuotientOf (x : ((Int × (Int × Int)) × ((Int × Int) × (Int × Int)))) : (Option ((Int × Int) × Bool)) :=
  (bindO (M_S_l2Good (x.1.1, (x.1.2.1, x.1.2.2))) (fun (a0 : Bool) => (cond (not a0) (some (((0 : Int), (0 : Int)), false)) (bindO (M_S_eGood ((x.1.1, (x.1.2.1, x.1.2.2)), ((x.2.1.1, x.2.1.2) :: ((x.2.2.1, x.2.2.2) :: ([] : List (Int × Int)))))) (fun (a1 : Bool) => (cond (not a1) (some (((0 : Int), (0 : Int)), false)) (bindO (M_S_qQuo ((x.1.1, (x.1.2.1, x.1.2.2)), ((x.2.1.1, x.2.1.2), (x.2.2.1, x.2.2.2)))) (fun (a2 : (Int × Int)) => (some ((a2.1, a2.2), true))))))))))

noncomputable def c_S_QuotientOf : Con0 := ⟨pk_S_QuotientOf, rk_S_QuotientOf, M_S_QuotientOf⟩

set_option maxRecDepth 100000 in
theorem eq_S_QuotientOf (x : In pk_S_QuotientOf) : semF (mkE [(49, c_S_l2Good), (74, c_S_eGood), (75, c_S_qQuo)]) h_S_QuotientOf (info Try.f37) pk_S_QuotientOf rk_S_QuotientOf x = M_S_QuotientOf x := by kernel_rfl

set_option maxRecDepth 100000 in
theorem m_S_QuotientOf : ConOK Try.prog 37 c_S_QuotientOf := fn_ok (tyOK _) (E := mkE [(49, c_S_l2Good), (74, c_S_eGood), (75, c_S_qQuo)]) (consOK_cons m_S_l2Good (consOK_cons m_S_eGood (consOK_cons m_S_qQuo (consOK_nil rfl)))) Try.func37 (h := h_S_QuotientOf) (by kernel_rfl) eq_S_QuotientOf

/-- I_within -/
def pk_I_within : List PK := [.data (.int .i64), .data (.int .i64), .data (.int .i64)]
def rk_I_within : List (Ty × Bool) := [(.bool, false)]
def h_I_within : Hints := { loops := [] }
noncomputable def M_I_within (x : (Int × (Int × Int))) : (Option Bool) :=
  (cond (decide (x.1 ≥ x.2.1)) (some (decide (x.1 ≤ x.2.2))) (some false))

noncomputable def c_I_within : Con0 := ⟨pk_I_within, rk_I_within, M_I_within⟩

set_option maxRecDepth 100000 in
theorem eq_I_within (x : In pk_I_within) : semF (mkE []) h_I_within (info Try.f46) pk_I_within rk_I_within x = M_I_within x := by kernel_rfl

set_option maxRecDepth 100000 in
theorem m_I_within : ConOK Try.prog 46 c_I_within := fn_ok (tyOK _) (E := mkE []) (consOK_nil rfl) Try.func46 (h := h_I_within) (by kernel_rfl) eq_I_within

/-- I_isModulus -/
def pk_I_isModulus : List PK := [.data (.int .i64)]
def rk_I_isModulus : List (Ty × Bool) := [(.bool, false)]
def h_I_isModulus : Hints := { loops := [] }
noncomputable def M_I_isModulus (x : Int) : (Option Bool) :=
  (bindO (M_I_within (x, ((2 : Int), (2000000000 : Int)))) (fun (a0 : Bool) => (some a0)))

noncomputable def c_I_isModulus : Con0 := ⟨pk_I_isModulus, rk_I_isModulus, M_I_isModulus⟩

set_option maxRecDepth 100000 in
theorem eq_I_isModulus (x : In pk_I_isModulus) : semF (mkE [(46, c_I_within)]) h_I_isModulus (info Try.f80) pk_I_isModulus rk_I_isModulus x = M_I_isModulus x := by kernel_rfl

set_option maxRecDepth 100000 in
theorem m_I_isModulus : ConOK Try.prog 80 c_I_isModulus := fn_ok (tyOK _) (E := mkE [(46, c_I_within)]) (consOK_cons m_I_within (consOK_nil rfl)) Try.func80 (h := h_I_isModulus) (by kernel_rfl) eq_I_isModulus

/-- I_isPrime -/
def pk_I_isPrime : List PK := [.data (.int .i64)]
def rk_I_isPrime : List (Ty × Bool) := [(.bool, false)]
def h_I_isPrime : Hints := { loops := [(0, { items := [.slot 3 (.data (.int .i64) [])], kill := [1, 2, 4, 5, 6, 7, 8, 9, 10, 11, 12, 13, 14, 15, 16, 17, 18, 19, 20, 21, 22, 23, 24, 25, 26] })] }
noncomputable def M_I_isPrime (x : Int) : (Option Bool) :=
  (bindO (M_I_isModulus x) (fun (a0 : Bool) => (cond (not a0) (some false) (bindO (guardO ((2 : Int) != (0 : Int))) (fun (a1 : Unit) => (bindO (some (Int.tmod x (2 : Int))) (fun (a2 : Int) => (cond (a2 == (0 : Int)) (cond (x != (2 : Int)) (some false) (loopO (fun (again3 : (Int → (Option Bool))) => (fun (s4 : Int) => (bindO (some (IntKind.wrap .i64 (s4 * s4))) (fun (a5 : Int) => (cond (decide (a5 ≤ x)) (bindO (guardO (s4 != (0 : Int))) (fun (a6 : Unit) => (bindO (some (Int.tmod x s4)) (fun (a7 : Int) => (cond (a7 == (0 : Int)) (some false) (bindO (some (IntKind.wrap .i64 (s4 + (2 : Int)))) (fun (a8 : Int) => (again3 a8)))))))) (some true)))))) (3 : Int))) (loopO (fun (again9 : (Int → (Option Bool))) => (fun (s10 : Int) => (bindO (some (IntKind.wrap .i64 (s10 * s10))) (fun (a11 : Int) => (cond (decide (a11 ≤ x)) (bindO (guardO (s10 != (0 : Int))) (fun (a12 : Unit) => (bindO (some (Int.tmod x s10)) (fun (a13 : Int) => (cond (a13 == (0 : Int)) (some false) (bindO (some (IntKind.wrap .i64 (s10 + (2 : Int)))) (fun (a14 : Int) => (again9 a14)))))))) (some true)))))) (3 : Int))))))))))

noncomputable def c_I_isPrime : Con0 := ⟨pk_I_isPrime, rk_I_isPrime, M_I_isPrime⟩

set_option maxRecDepth 100000 in
theorem eq_I_isPrime (x : In pk_I_isPrime) : semF (mkE [(80, c_I_isModulus)]) h_I_isPrime (info Try.f45) pk_I_isPrime rk_I_isPrime x = M_I_isPrime x := by kernel_rfl

set_option maxRecDepth 100000 in
theorem m_I_isPrime : ConOK Try.prog 45 c_I_isPrime := fn_ok (tyOK _) (E := mkE [(80, c_I_isModulus)]) (consOK_cons m_I_isModulus (consOK_nil rfl)) Try.func45 (h := h_I_isPrime) (by kernel_rfl) eq_I_isPrime

/-- I_power -/
def pk_I_power : List PK := [.data (.int .i64), .data (.int .i64), .data (.int .i64)]
def rk_I_power : List (Ty × Bool) := [((.int .i64), false)]
def h_I_power : Hints := { loops := [(0, { items := [.slot 0 (.data (.int .i64) []), .slot 1 (.data (.int .i64) []), .slot 7 (.data (.int .i64) [])], kill := [3, 4, 5, 6, 8, 9, 10, 11, 12, 13, 14, 15, 16, 17, 18, 19, 20, 21, 22, 23, 24, 25, 26, 27] })] }
noncomputable def M_I_power (x : (Int × (Int × Int))) : (Option Int) :=
  (bindO (guardO (x.2.2 != (0 : Int))) (fun (a0 : Unit) => (bindO (some (Int.tmod (1 : Int) x.2.2)) (fun (a1 : Int) => (loopO (fun (again2 : ((Int × (Int × Int)) → (Option Int))) => (fun (s3 : (Int × (Int × Int))) => (cond (decide (s3.2.1 > (0 : Int))) (bindO (some (bits .and .i64 s3.2.1 (1 : Int))) (fun (a4 : Int) => (cond (a4 == (1 : Int)) (bindO (some (IntKind.wrap .i64 (s3.2.2 * s3.1))) (fun (a5 : Int) => (bindO (guardO (x.2.2 != (0 : Int))) (fun (a6 : Unit) => (bindO (some (Int.tmod a5 x.2.2)) (fun (a7 : Int) => (bindO (some (IntKind.wrap .i64 (s3.1 * s3.1))) (fun (a8 : Int) => (bindO (guardO (x.2.2 != (0 : Int))) (fun (a9 : Unit) => (bindO (some (Int.tmod a8 x.2.2)) (fun (a10 : Int) => (bindO (guardO (decide ((0 : Int) ≤ (1 : Int)))) (fun (a11 : Unit) => (bindO (some (shr .i64 s3.2.1 (1 : Int))) (fun (a12 : Int) => (again2 (a10, (a12, a7))))))))))))))))))) (bindO (some (IntKind.wrap .i64 (s3.1 * s3.1))) (fun (a13 : Int) => (bindO (guardO (x.2.2 != (0 : Int))) (fun (a14 : Unit) => (bindO (some (Int.tmod a13 x.2.2)) (fun (a15 : Int) => (bindO (guardO (decide ((0 : Int) ≤ (1 : Int)))) (fun (a16 : Unit) => (bindO (some (shr .i64 s3.2.1 (1 : Int))) (fun (a17 : Int) => (again2 (a15, (a17, s3.2.2)))))))))))))))) (some s3.2.2)))) (x.1, (x.2.1, a1)))))))

noncomputable def c_I_power : Con0 := ⟨pk_I_power, rk_I_power, M_I_power⟩

set_option maxRecDepth 100000 in
theorem eq_I_power (x : In pk_I_power) : semF (mkE []) h_I_power (info Try.f85) pk_I_power rk_I_power x = M_I_power x := by kernel_rfl

set_option maxRecDepth 100000 in
theorem m_I_power : ConOK Try.prog 85 c_I_power := fn_ok (tyOK _) (E := mkE []) (consOK_nil rfl) Try.func85 (h := h_I_power) (by kernel_rfl) eq_I_power

/-- I_IsValidGroup -/
def pk_I_IsValidGroup : List PK := [.data (.cons (.int .i64) (.cons (.int .i64) (.one (.int .i64))))]
def rk_I_IsValidGroup : List (Ty × Bool) := [(.bool, false)]
def h_I_IsValidGroup : Hints := { loops := [] }
noncomputable def M_I_IsValidGroup (x : (Int × (Int × Int))) : (Option Bool) :=
  (bindO (M_I_within (x.1, ((3 : Int), (2000000000 : Int)))) (fun (a0 : Bool) => (cond a0 (bindO (some (IntKind.wrap .i64 (x.1 - (1 : Int)))) (fun (a1 : Int) => (bindO (M_I_within (x.2.1, ((2 : Int), a1))) (fun (a2 : Bool) => (cond a2 (bindO (some (IntKind.wrap .i64 (x.1 - (1 : Int)))) (fun (a3 : Int) => (bindO (guardO (x.2.1 != (0 : Int))) (fun (a4 : Unit) => (bindO (some (Int.tmod a3 x.2.1)) (fun (a5 : Int) => (cond (a5 == (0 : Int)) (bindO (some (IntKind.wrap .i64 (x.1 - (1 : Int)))) (fun (a6 : Int) => (bindO (M_I_within (x.2.2, ((2 : Int), a6))) (fun (a7 : Bool) => (cond a7 (bindO (M_I_isPrime x.1) (fun (a8 : Bool) => (cond a8 (bindO (M_I_isPrime x.2.1) (fun (a9 : Bool) => (cond a9 (bindO (M_I_power (x.2.2, (x.2.1, x.1))) (fun (a10 : Int) => (some (a10 == (1 : Int))))) (some false)))) (some false)))) (some false)))))) (some false)))))))) (some false)))))) (some false))))

noncomputable def c_I_IsValidGroup : Con0 := ⟨pk_I_IsValidGroup, rk_I_IsValidGroup, M_I_IsValidGroup⟩

set_option maxRecDepth 100000 in
theorem eq_I_IsValidGroup (x : In pk_I_IsValidGroup) : semF (mkE [(46, c_I_within), (45, c_I_isPrime), (85, c_I_power)]) h_I_IsValidGroup (info Try.f52) pk_I_IsValidGroup rk_I_IsValidGroup x = M_I_IsValidGroup x := by kernel_rfl

set_option maxRecDepth 100000 in
theorem m_I_IsValidGroup : ConOK Try.prog 52 c_I_IsValidGroup := fn_ok (tyOK _) (E := mkE [(46, c_I_within), (45, c_I_isPrime), (85, c_I_power)]) (consOK_cons m_I_within (consOK_cons m_I_isPrime (consOK_cons m_I_power (consOK_nil rfl)))) Try.func52 (h := h_I_IsValidGroup) (by kernel_rfl) eq_I_IsValidGroup

/-- I_Group_has -/
def pk_I_Group_has : List PK := [.data (.cons (.int .i64) (.cons (.int .i64) (.one (.int .i64)))), .data (.int .i64)]
def rk_I_Group_has : List (Ty × Bool) := [(.bool, false)]
def h_I_Group_has : Hints := { loops := [] }
noncomputable def M_I_Group_has (x : ((Int × (Int × Int)) × Int)) : (Option Bool) :=
  (bindO (some (IntKind.wrap .i64 (x.1.1 - (1 : Int)))) (fun (a0 : Int) => (bindO (M_I_within (x.2, ((1 : Int), a0))) (fun (a1 : Bool) => (cond a1 (bindO (M_I_power (x.2, (x.1.2.1, x.1.1))) (fun (a2 : Int) => (some (a2 == (1 : Int))))) (some false))))))

noncomputable def c_I_Group_has : Con0 := ⟨pk_I_Group_has, rk_I_Group_has, M_I_Group_has⟩

set_option maxRecDepth 100000 in
theorem eq_I_Group_has (x : In pk_I_Group_has) : semF (mkE [(46, c_I_within), (85, c_I_power)]) h_I_Group_has (info Try.f96) pk_I_Group_has rk_I_Group_has x = M_I_Group_has x := by kernel_rfl

set_option maxRecDepth 100000 in
theorem m_I_Group_has : ConOK Try.prog 96 c_I_Group_has := fn_ok (tyOK _) (E := mkE [(46, c_I_within), (85, c_I_power)]) (consOK_cons m_I_within (consOK_cons m_I_power (consOK_nil rfl))) Try.func96 (h := h_I_Group_has) (by kernel_rfl) eq_I_Group_has

/-- I_Group_hasCipher -/
def pk_I_Group_hasCipher : List PK := [.data (.cons (.int .i64) (.cons (.int .i64) (.one (.int .i64)))), .data (.cons (.int .i64) (.one (.int .i64)))]
def rk_I_Group_hasCipher : List (Ty × Bool) := [(.bool, false)]
def h_I_Group_hasCipher : Hints := { loops := [] }
noncomputable def M_I_Group_hasCipher (x : ((Int × (Int × Int)) × (Int × Int))) : (Option Bool) :=
  (bindO (M_I_Group_has ((x.1.1, (x.1.2.1, x.1.2.2)), x.2.1)) (fun (a0 : Bool) => (cond a0 (bindO (M_I_Group_has ((x.1.1, (x.1.2.1, x.1.2.2)), x.2.2)) (fun (a1 : Bool) => (some a1))) (some false))))

noncomputable def c_I_Group_hasCipher : Con0 := ⟨pk_I_Group_hasCipher, rk_I_Group_hasCipher, M_I_Group_hasCipher⟩

set_option maxRecDepth 100000 in
theorem eq_I_Group_hasCipher (x : In pk_I_Group_hasCipher) : semF (mkE [(96, c_I_Group_has)]) h_I_Group_hasCipher (info Try.f76) pk_I_Group_hasCipher rk_I_Group_hasCipher x = M_I_Group_hasCipher x := by kernel_rfl

set_option maxRecDepth 100000 in
theorem m_I_Group_hasCipher : ConOK Try.prog 76 c_I_Group_hasCipher := fn_ok (tyOK _) (E := mkE [(96, c_I_Group_has)]) (consOK_cons m_I_Group_has (consOK_nil rfl)) Try.func76 (h := h_I_Group_hasCipher) (by kernel_rfl) eq_I_Group_hasCipher

/-- I_mod -/
def pk_I_mod : List PK := [.data (.int .i64), .data (.int .i64)]
def rk_I_mod : List (Ty × Bool) := [((.int .i64), false)]
def h_I_mod : Hints := { loops := [] }
noncomputable def M_I_mod (x : (Int × Int)) : (Option Int) :=
  (bindO (guardO (x.2 != (0 : Int))) (fun (a0 : Unit) => (bindO (some (Int.tmod x.1 x.2)) (fun (a1 : Int) => (bindO (some (IntKind.wrap .i64 (a1 + x.2))) (fun (a2 : Int) => (bindO (guardO (x.2 != (0 : Int))) (fun (a3 : Unit) => (bindO (some (Int.tmod a2 x.2)) (fun (a4 : Int) => (some a4)))))))))))

noncomputable def c_I_mod : Con0 := ⟨pk_I_mod, rk_I_mod, M_I_mod⟩

set_option maxRecDepth 100000 in
theorem eq_I_mod (x : In pk_I_mod) : semF (mkE []) h_I_mod (info Try.f86) pk_I_mod rk_I_mod x = M_I_mod x := by kernel_rfl

set_option maxRecDepth 100000 in
theorem m_I_mod : ConOK Try.prog 86 c_I_mod := fn_ok (tyOK _) (E := mkE []) (consOK_nil rfl) Try.func86 (h := h_I_mod) (by kernel_rfl) eq_I_mod

/-- I_Group_pow -/
def pk_I_Group_pow : List PK := [.data (.cons (.int .i64) (.cons (.int .i64) (.one (.int .i64)))), .data (.int .i64), .data (.int .i64)]
def rk_I_Group_pow : List (Ty × Bool) := [((.int .i64), false)]
def h_I_Group_pow : Hints := { loops := [] }
noncomputable def M_I_Group_pow (x : ((Int × (Int × Int)) × (Int × Int))) : (Option Int) :=
  (bindO (M_I_mod (x.2.2, x.1.2.1)) (fun (a0 : Int) => (bindO (M_I_power (x.2.1, (a0, x.1.1))) (fun (a1 : Int) => (some a1)))))

noncomputable def c_I_Group_pow : Con0 := ⟨pk_I_Group_pow, rk_I_Group_pow, M_I_Group_pow⟩

set_option maxRecDepth 100000 in
theorem eq_I_Group_pow (x : In pk_I_Group_pow) : semF (mkE [(86, c_I_mod), (85, c_I_power)]) h_I_Group_pow (info Try.f54) pk_I_Group_pow rk_I_Group_pow x = M_I_Group_pow x := by kernel_rfl

set_option maxRecDepth 100000 in
theorem m_I_Group_pow : ConOK Try.prog 54 c_I_Group_pow := fn_ok (tyOK _) (E := mkE [(86, c_I_mod), (85, c_I_power)]) (consOK_cons m_I_mod (consOK_cons m_I_power (consOK_nil rfl))) Try.func54 (h := h_I_Group_pow) (by kernel_rfl) eq_I_Group_pow

/-- I_Group_inv -/
def pk_I_Group_inv : List PK := [.data (.cons (.int .i64) (.cons (.int .i64) (.one (.int .i64)))), .data (.int .i64)]
def rk_I_Group_inv : List (Ty × Bool) := [((.int .i64), false)]
def h_I_Group_inv : Hints := { loops := [] }
noncomputable def M_I_Group_inv (x : ((Int × (Int × Int)) × Int)) : (Option Int) :=
  (bindO (M_I_Group_pow ((x.1.1, (x.1.2.1, x.1.2.2)), (x.2, (- (1 : Int))))) (fun (a0 : Int) => (some a0)))

noncomputable def c_I_Group_inv : Con0 := ⟨pk_I_Group_inv, rk_I_Group_inv, M_I_Group_inv⟩

set_option maxRecDepth 100000 in
theorem eq_I_Group_inv (x : In pk_I_Group_inv) : semF (mkE [(54, c_I_Group_pow)]) h_I_Group_inv (info Try.f106) pk_I_Group_inv rk_I_Group_inv x = M_I_Group_inv x := by kernel_rfl

set_option maxRecDepth 100000 in
theorem m_I_Group_inv : ConOK Try.prog 106 c_I_Group_inv := fn_ok (tyOK _) (E := mkE [(54, c_I_Group_pow)]) (consOK_cons m_I_Group_pow (consOK_nil rfl)) Try.func106 (h := h_I_Group_inv) (by kernel_rfl) eq_I_Group_inv

/-- I_Group_mul -/
def pk_I_Group_mul : List PK := [.data (.cons (.int .i64) (.cons (.int .i64) (.one (.int .i64)))), .data (.sl (.int .i64))]
def rk_I_Group_mul : List (Ty × Bool) := [((.int .i64), false)]
def h_I_Group_mul : Hints := { loops := [(0, { items := [.slot 5 (.data (.int .i64) []), .slot 10 (.data (.int .i64) [])], kill := [0, 1, 3, 4, 6, 7, 11, 12, 13, 14, 15, 16, 17, 18, 19, 20, 21] })] }
noncomputable def M_I_Group_mul (x : ((Int × (Int × Int)) × (List Int))) : (Option Int) :=
  (loopO (fun (again0 : ((Int × Int) → (Option Int))) => (fun (s1 : (Int × Int)) => (cond (decide (s1.2 < (((List.length x.2) : Nat) : Int))) (bindO (getI x.2 s1.2) (fun (a2 : Int) => (bindO (some (IntKind.wrap .i64 (s1.1 * a2))) (fun (a3 : Int) => (bindO (guardO (x.1.1 != (0 : Int))) (fun (a4 : Unit) => (bindO (some (Int.tmod a3 x.1.1)) (fun (a5 : Int) => (bindO (some (IntKind.wrap .i64 (s1.2 + (1 : Int)))) (fun (a6 : Int) => (again0 (a5, a6)))))))))))) (some s1.1)))) ((1 : Int), (0 : Int)))

noncomputable def c_I_Group_mul : Con0 := ⟨pk_I_Group_mul, rk_I_Group_mul, M_I_Group_mul⟩

set_option maxRecDepth 100000 in
theorem eq_I_Group_mul (x : In pk_I_Group_mul) : semF (mkE []) h_I_Group_mul (info Try.f73) pk_I_Group_mul rk_I_Group_mul x = M_I_Group_mul x := by kernel_rfl

set_option maxRecDepth 100000 in
theorem m_I_Group_mul : ConOK Try.prog 73 c_I_Group_mul := fn_ok (tyOK _) (E := mkE []) (consOK_nil rfl) Try.func73 (h := h_I_Group_mul) (by kernel_rfl) eq_I_Group_mul

/-- I_Group_over -/
def pk_I_Group_over : List PK := [.data (.cons (.int .i64) (.cons (.int .i64) (.one (.int .i64)))), .data (.int .i64), .data (.int .i64)]
def rk_I_Group_over : List (Ty × Bool) := [((.int .i64), false)]
def h_I_Group_over : Hints := { loops := [] }
noncomputable def M_I_Group_over (x : ((Int × (Int × Int)) × (Int × Int))) : (Option Int) :=
  (bindO (M_I_Group_inv ((x.1.1, (x.1.2.1, x.1.2.2)), x.2.2)) (fun (a0 : Int) => (bindO (M_I_Group_mul ((x.1.1, (x.1.2.1, x.1.2.2)), (x.2.1 :: (a0 :: ([] : List Int))))) (fun (a1 : Int) => (some a1)))))

noncomputable def c_I_Group_over : Con0 := ⟨pk_I_Group_over, rk_I_Group_over, M_I_Group_over⟩

set_option maxRecDepth 100000 in
theorem eq_I_Group_over (x : In pk_I_Group_over) : semF (mkE [(106, c_I_Group_inv), (73, c_I_Group_mul)]) h_I_Group_over (info Try.f98) pk_I_Group_over rk_I_Group_over x = M_I_Group_over x := by kernel_rfl

set_option maxRecDepth 100000 in
theorem m_I_Group_over : ConOK Try.prog 98 c_I_Group_over := fn_ok (tyOK _) (E := mkE [(106, c_I_Group_inv), (73, c_I_Group_mul)]) (consOK_cons m_I_Group_inv (consOK_cons m_I_Group_mul (consOK_nil rfl))) Try.func98 (h := h_I_Group_over) (by kernel_rfl) eq_I_Group_over

/-- I_Group_quotient -/
def pk_I_Group_quotient : List PK := [.data (.cons (.int .i64) (.cons (.int .i64) (.one (.int .i64)))), .data (.cons (.int .i64) (.one (.int .i64))), .data (.cons (.int .i64) (.one (.int .i64)))]
def rk_I_Group_quotient : List (Ty × Bool) := [((.cons (.int .i64) (.one (.int .i64))), false)]
def h_I_Group_quotient : Hints := { loops := [] }
noncomputable def M_I_Group_quotient (x : ((Int × (Int × Int)) × ((Int × Int) × (Int × Int)))) : (Option (Int × Int)) :=
  (bindO (M_I_Group_over ((x.1.1, (x.1.2.1, x.1.2.2)), (x.2.1.1, x.2.2.1))) (fun (a0 : Int) => (bindO (M_I_Group_over ((x.1.1, (x.1.2.1, x.1.2.2)), (x.2.1.2, x.2.2.2))) (fun (a1 : Int) => (some (a0, a1))))))

noncomputable def c_I_Group_quotient : Con0 := ⟨pk_I_Group_quotient, rk_I_Group_quotient, M_I_Group_quotient⟩

set_option maxRecDepth 100000 in
theorem eq_I_Group_quotient (x : In pk_I_Group_quotient) : semF (mkE [(98, c_I_Group_over)]) h_I_Group_quotient (info Try.f77) pk_I_Group_quotient rk_I_Group_quotient x = M_I_Group_quotient x := by kernel_rfl

set_option maxRecDepth 100000 in
theorem m_I_Group_quotient : ConOK Try.prog 77 c_I_Group_quotient := fn_ok (tyOK _) (E := mkE [(98, c_I_Group_over)]) (consOK_cons m_I_Group_over (consOK_nil rfl)) Try.func77 (h := h_I_Group_quotient) (by kernel_rfl) eq_I_Group_quotient

/-- I_QuotientOf -/
def pk_I_QuotientOf : List PK := [.data (.cons (.int .i64) (.cons (.int .i64) (.one (.int .i64)))), .data (.cons (.int .i64) (.one (.int .i64))), .data (.cons (.int .i64) (.one (.int .i64)))]
def rk_I_QuotientOf : List (Ty × Bool) := [((.cons (.int .i64) (.one (.int .i64))), false), (.bool, false)]
def h_I_QuotientOf : Hints := { loops := [] }
noncomputable def M_I_QuotientOf (x : ((Int × (Int × Int)) × ((Int × Int) × (Int × Int)))) : (Option ((Int × Int) × Bool)) :=
  (bindO (M_I_IsValidGroup (x.1.1, (x.1.2.1, x.1.2.2))) (fun (a0 : Bool) => (cond (not a0) (some (((0 : Int), (0 : Int)), false)) (bindO (M_I_Group_hasCipher ((x.1.1, (x.1.2.1, x.1.2.2)), (x.2.1.1, x.2.1.2))) (fun (a1 : Bool) => (cond (not a1) (some (((0 : Int), (0 : Int)), false)) (bindO (M_I_Group_hasCipher ((x.1.1, (x.1.2.1, x.1.2.2)), (x.2.2.1, x.2.2.2))) (fun (a2 : Bool) => (cond (not a2) (some (((0 : Int), (0 : Int)), false)) (bindO (M_I_Group_quotient ((x.1.1, (x.1.2.1, x.1.2.2)), ((x.2.1.1, x.2.1.2), (x.2.2.1, x.2.2.2)))) (fun (a3 : (Int × Int)) => (some ((a3.1, a3.2), true)))))))))))))

noncomputable def c_I_QuotientOf : Con0 := ⟨pk_I_QuotientOf, rk_I_QuotientOf, M_I_QuotientOf⟩

set_option maxRecDepth 100000 in
theorem eq_I_QuotientOf (x : In pk_I_QuotientOf) : semF (mkE [(52, c_I_IsValidGroup), (76, c_I_Group_hasCipher), (77, c_I_Group_quotient)]) h_I_QuotientOf (info Try.f39) pk_I_QuotientOf rk_I_QuotientOf x = M_I_QuotientOf x := by kernel_rfl

set_option maxRecDepth 100000 in
theorem m_I_QuotientOf : ConOK Try.prog 39 c_I_QuotientOf := fn_ok (tyOK _) (E := mkE [(52, c_I_IsValidGroup), (76, c_I_Group_hasCipher), (77, c_I_Group_quotient)]) (consOK_cons m_I_IsValidGroup (consOK_cons m_I_Group_hasCipher (consOK_cons m_I_Group_quotient (consOK_nil rfl)))) Try.func39 (h := h_I_QuotientOf) (by kernel_rfl) eq_I_QuotientOf

/-- L_eqCipher -/
def pk_L_eqCipher : List PK := [.data (.cons (.int .i64) (.one (.int .i64))), .data (.cons (.int .i64) (.one (.int .i64)))]
def rk_L_eqCipher : List (Ty × Bool) := [(.bool, false)]
def h_L_eqCipher : Hints := { loops := [] }
noncomputable def M_L_eqCipher (x : ((Int × Int) × (Int × Int))) : (Option Bool) :=
  (cond (x.1.1 != x.2.1) (some false) (cond (x.1.2 != x.2.2) (some false) (some true)))

noncomputable def c_L_eqCipher : Con0 := ⟨pk_L_eqCipher, rk_L_eqCipher, M_L_eqCipher⟩

set_option maxRecDepth 100000 in
theorem eq_L_eqCipher (x : In pk_L_eqCipher) : semF (mkE []) h_L_eqCipher (info Try.f40) pk_L_eqCipher rk_L_eqCipher x = M_L_eqCipher x := by kernel_rfl

set_option maxRecDepth 100000 in
theorem m_L_eqCipher : ConOK Try.prog 40 c_L_eqCipher := fn_ok (tyOK _) (E := mkE []) (consOK_nil rfl) Try.func40 (h := h_L_eqCipher) (by kernel_rfl) eq_L_eqCipher

/-- L_FnExactQuotientOf -/
def pk_L_FnExactQuotientOf : List PK := [.data (.cons (.int .i64) (.cons (.int .i64) (.one (.int .i64)))), .data (.cons (.int .i64) (.one (.int .i64))), .data (.cons (.int .i64) (.one (.int .i64)))]
def rk_L_FnExactQuotientOf : List (Ty × Bool) := [(.bool, false)]
def h_L_FnExactQuotientOf : Hints := { loops := [] }
noncomputable def M_L_FnExactQuotientOf (x : ((Int × (Int × Int)) × ((Int × Int) × (Int × Int)))) : (Option Bool) :=
  (bindO (M_L_toGroup (x.1.1, (x.1.2.1, x.1.2.2))) (fun (a0 : (Int × (Int × Int))) => (bindO (M_L_toCipher (x.2.1.1, x.2.1.2)) (fun (a1 : (Int × Int)) => (bindO (M_L_toCipher (x.2.2.1, x.2.2.2)) (fun (a2 : (Int × Int)) => (bindO (M_S_QuotientOf ((a0.1, (a0.2.1, a0.2.2)), ((a1.1, a1.2), (a2.1, a2.2)))) (fun (a3 : ((Int × Int) × Bool)) => (bindO (M_L_toGroup (x.1.1, (x.1.2.1, x.1.2.2))) (fun (a4 : (Int × (Int × Int))) => (bindO (M_L_toCipher (x.2.1.1, x.2.1.2)) (fun (a5 : (Int × Int)) => (bindO (M_L_toCipher (x.2.2.1, x.2.2.2)) (fun (a6 : (Int × Int)) => (bindO (M_I_QuotientOf ((a4.1, (a4.2.1, a4.2.2)), ((a5.1, a5.2), (a6.1, a6.2)))) (fun (a7 : ((Int × Int) × Bool)) => (bindO (M_L_eqCipher ((a7.1.1, a7.1.2), (a3.1.1, a3.1.2))) (fun (a8 : Bool) => (cond (not a8) (some false) (cond (not (a7.2 == a3.2)) (some false) (some true)))))))))))))))))))))

noncomputable def c_L_FnExactQuotientOf : Con0 := ⟨pk_L_FnExactQuotientOf, rk_L_FnExactQuotientOf, M_L_FnExactQuotientOf⟩

set_option maxRecDepth 100000 in
theorem eq_L_FnExactQuotientOf (x : In pk_L_FnExactQuotientOf) : semF (mkE [(23, c_L_toGroup), (38, c_L_toCipher), (37, c_S_QuotientOf), (39, c_I_QuotientOf), (40, c_L_eqCipher)]) h_L_FnExactQuotientOf (info Try.f12) pk_L_FnExactQuotientOf rk_L_FnExactQuotientOf x = M_L_FnExactQuotientOf x := by kernel_rfl

set_option maxRecDepth 100000 in
theorem m_L_FnExactQuotientOf : ConOK Try.prog 12 c_L_FnExactQuotientOf := fn_ok (tyOK _) (E := mkE [(23, c_L_toGroup), (38, c_L_toCipher), (37, c_S_QuotientOf), (39, c_I_QuotientOf), (40, c_L_eqCipher)]) (consOK_cons m_L_toGroup (consOK_cons m_L_toCipher (consOK_cons m_S_QuotientOf (consOK_cons m_I_QuotientOf (consOK_cons m_L_eqCipher (consOK_nil rfl)))))) Try.func12 (h := h_L_FnExactQuotientOf) (by kernel_rfl) eq_L_FnExactQuotientOf

/-- S_nMod -/
noncomputable def M_S_nMod (x : (Int × Int)) : (Option Int) :=
  (bindO (guardO (x.2 != (0 : Int))) (fun (a0 : Unit) => (bindO (some (Int.tmod x.1 x.2)) (fun (a1 : Int) => (bindO (some (IntKind.wrap .i64 (a1 + x.2))) (fun (a2 : Int) => (bindO (guardO (x.2 != (0 : Int))) (fun (a3 : Unit) => (bindO (some (Int.tmod a2 x.2)) (fun (a4 : Int) => (some a4)))))))))))

end Go.Proofs.Ytlacogoljcpijaa.Vd
