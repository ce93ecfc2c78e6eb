/- The functions of the law as plain functions on data, and that the program's functions are these. No conditions. -/
import Derived.Test.YtffknfalfklleaaVdS
import Derived.Test.YtffknfalfklleaaChecked
import Derived.KernelRfl
set_option linter.unusedVariables false
namespace Go.Proofs.Ytffknfalfklleaa.Vd
def tys : List (Option Ty) := [none, none, some (.int .i64), some (.int .i64), some .bool, some (.int .u8), some (.int .u8), some (.cons (.int .i64) (.cons (.int .i64) (.cons .bool (.one (.int .u8))))), some (.cons (.int .i64) (.cons (.int .i64) (.cons .bool (.one (.int .u8))))), some .str, some .str, some .str, some (.int .u64), some (.cons .str (.one (.int .u64))), some (.cons .str (.one (.int .u64))), none, none, none, none, none, none, some (.int .i32), some (.cons (.int .i64) (.cons (.int .i64) (.one (.int .i64)))), some (.cons (.int .i64) (.cons (.int .i64) (.one (.int .i64)))), some (.sl (.int .i64)), some (.cons (.int .i64) (.one (.sl (.int .i64)))), some (.cons (.int .i64) (.one (.sl (.int .i64)))), some (.sl (.cons (.sl (.int .i64)) (.cons (.sl (.int .i64)) (.one (.sl (.int .i64)))))), none, none, none, none, some (.cons (.int .i64) (.cons (.int .i64) (.one (.int .i64)))), none, some (.cons (.int .i64) (.one (.sl (.int .i64)))), none, none, some (.sl (.cons (.sl (.int .i64)) (.cons (.sl (.int .i64)) (.one (.sl (.int .i64)))))), none, none, none, none, none, some (.cons (.int .i64) (.one (.int .i64))), some (.cons (.int .i64) (.one (.int .i64))), some (.cons (.sl (.int .i64)) (.cons (.sl (.int .i64)) (.one (.sl (.int .i64))))), some (.cons (.sl (.int .i64)) (.cons (.sl (.int .i64)) (.one (.sl (.int .i64))))), none, none, some (.cons (.int .i64) (.one (.int .i64))), none, some (.cons (.sl (.int .i64)) (.cons (.sl (.int .i64)) (.one (.sl (.int .i64))))), none, none, none, none, none, some (.cons (.int .i64) (.cons (.cons (.int .i64) (.one (.int .i64))) (.one (.cons (.sl (.int .i64)) (.cons (.sl (.int .i64)) (.one (.sl (.int .i64)))))))), some (.cons (.int .i64) (.cons (.cons (.int .i64) (.one (.int .i64))) (.one (.cons (.sl (.int .i64)) (.cons (.sl (.int .i64)) (.one (.sl (.int .i64)))))))), none, none, none, none, none, some (.cons (.int .i64) (.cons (.cons (.int .i64) (.one (.int .i64))) (.one (.cons (.sl (.int .i64)) (.cons (.sl (.int .i64)) (.one (.sl (.int .i64)))))))), some (.cons (.int .i64) (.cons (.cons (.int .i64) (.one (.int .i64))) (.one (.cons (.sl (.int .i64)) (.cons (.sl (.int .i64)) (.one (.sl (.int .i64)))))))), none, none, none, none, none, none, none, none, none, none, none, none, none, none, none, none, none, none, none, none, none, none, none, none, none, none, none, none, none, some (.cons (.int .i64) (.cons (.int .i64) (.cons (.int .i64) (.one (.int .i64))))), some (.cons (.int .i64) (.cons (.int .i64) (.cons (.int .i64) (.one (.int .i64))))), none, none, none, none, none, none, none, none, none, none, none, none, none, none, none, none, none, none, none, none, none, none, none, none, some (.sl (.sl (.int .i64))), none, none, none, none, none, none, none, none, none, some (.sl (.cons (.int .i64) (.one (.int .i64)))), none, none, none, none, none, none, none, none, none, none, none, none, none, none, none, none, none, some (.int .u64), none, none, none, none, none, none, none, none, some (.cons (.int .i64) (.one (.int .i64))), some (.cons (.int .i64) (.one (.int .i64))), none, none, none, none, none, none, none, none, none, none, none, none, none, none, some (.int .u32), some (.int .u8), some (.int .u8), none, none, some (.int .i32), some (.int .i32), none, none, none, none]
def others : List Nat := [1, 15, 16, 17, 28, 29, 31, 33, 35, 36, 38, 39, 40, 41, 42, 47, 48, 50, 52, 53, 54, 55, 56, 60, 61, 62, 63, 66, 67, 68, 69, 71, 72, 73, 74, 75, 76, 77, 78, 79, 80, 81, 82, 83, 84, 85, 87, 89, 90, 91, 92, 93, 94, 97, 98, 99, 100, 101, 102, 103, 104, 105, 106, 108, 109, 110, 111, 112, 113, 115, 116, 117, 118, 119, 120, 123, 124, 125, 126, 127, 128, 129, 130, 132, 133, 134, 135, 136, 137, 138, 139, 140, 141, 142, 143, 144, 145, 146, 147, 148, 150, 151, 152, 153, 154, 155, 156, 157, 160, 161, 162, 163, 164, 165, 166, 167, 173, 177, 178, 183]
def pairs : List Nat := [43, 44, 49, 158, 159]
noncomputable def mkE (con : List (Nat × Con0)) : Env := ⟨[], tys, others, pairs, con⟩

set_option maxRecDepth 100000 in
theorem tyOK (con : List (Nat × Con0)) : TyOK Try.prog (mkE con) := tyOK_of (E := mkE con) (by kernel_rfl) (by kernel_rfl) (by kernel_rfl)

/-- L_toGroup -/
def pk_L_toGroup : List PK := [.data (.cons (.int .i64) (.cons (.int .i64) (.one (.int .i64))))]
def rk_L_toGroup : List (Ty × Bool) := [((.cons (.int .i64) (.cons (.int .i64) (.one (.int .i64)))), false)]
def h_L_toGroup : Hints := { loops := [] }
noncomputable def M_L_toGroup (x : (Int × (Int × Int))) : (Option (Int × (Int × Int))) :=
  (some (x.1, (x.2.1, x.2.2)))

noncomputable def c_L_toGroup : Con0 := ⟨pk_L_toGroup, rk_L_toGroup, M_L_toGroup⟩

set_option maxRecDepth 100000 in
theorem eq_L_toGroup (x : In pk_L_toGroup) : semF (mkE []) h_L_toGroup (info Try.f12) pk_L_toGroup rk_L_toGroup x = M_L_toGroup x := by kernel_rfl

set_option maxRecDepth 100000 in
theorem m_L_toGroup : ConOK Try.prog 12 c_L_toGroup := fn_ok (tyOK _) (E := mkE []) (consOK_nil rfl) Try.func12 (h := h_L_toGroup) (by kernel_rfl) eq_L_toGroup

/-- L_toCipher -/
def pk_L_toCipher : List PK := [.data (.cons (.int .i64) (.one (.int .i64)))]
def rk_L_toCipher : List (Ty × Bool) := [((.cons (.int .i64) (.one (.int .i64))), false)]
def h_L_toCipher : Hints := { loops := [] }
noncomputable def M_L_toCipher (x : (Int × Int)) : (Option (Int × Int)) :=
  (some (x.1, x.2))

noncomputable def c_L_toCipher : Con0 := ⟨pk_L_toCipher, rk_L_toCipher, M_L_toCipher⟩

set_option maxRecDepth 100000 in
theorem eq_L_toCipher (x : In pk_L_toCipher) : semF (mkE []) h_L_toCipher (info Try.f22) pk_L_toCipher rk_L_toCipher x = M_L_toCipher x := by kernel_rfl

set_option maxRecDepth 100000 in
theorem m_L_toCipher : ConOK Try.prog 22 c_L_toCipher := fn_ok (tyOK _) (E := mkE []) (consOK_nil rfl) Try.func22 (h := h_L_toCipher) (by kernel_rfl) eq_L_toCipher

/-- S_l1In -/
def pk_S_l1In : List PK := [.data (.int .i64), .data (.int .i64), .data (.int .i64)]
def rk_S_l1In : List (Ty × Bool) := [(.bool, false)]
def h_S_l1In : Hints := { loops := [] }
noncomputable def M_S_l1In (x : (Int × (Int × Int))) : (Option Bool) :=
  (cond (decide (x.1 ≥ x.2.1)) (some (decide (x.1 ≤ x.2.2))) (some false))

noncomputable def c_S_l1In : Con0 := ⟨pk_S_l1In, rk_S_l1In, M_S_l1In⟩

set_option maxRecDepth 100000 in
theorem eq_S_l1In (x : In pk_S_l1In) : semF (mkE []) h_S_l1In (info Try.f81) pk_S_l1In rk_S_l1In x = M_S_l1In x := by kernel_rfl

set_option maxRecDepth 100000 in
theorem m_S_l1In : ConOK Try.prog 81 c_S_l1In := fn_ok (tyOK _) (E := mkE []) (consOK_nil rfl) Try.func81 (h := h_S_l1In) (by kernel_rfl) eq_S_l1In

/-- S_nPower -/
def pk_S_nPower : List PK := [.data (.int .i64), .data (.int .i64), .data (.int .i64)]
def rk_S_nPower : List (Ty × Bool) := [((.int .i64), false)]
def h_S_nPower : Hints := { loops := [(0, { items := [.slot 0 (.data (.int .i64) []), .slot 1 (.data (.int .i64) []), .slot 7 (.data (.int .i64) [])], kill := [3, 4, 5, 6, 8, 9, 10, 11, 12, 13, 14, 15, 16, 17, 18, 19, 20, 21, 22, 23, 24, 25, 26, 27] })] }
noncomputable def M_S_nPower (x : (Int × (Int × Int))) : (Option Int) :=
  (bindO (guardO (x.2.2 != (0 : Int))) (fun (a0 : Unit) => (bindO (some (Int.tmod (1 : Int) x.2.2)) (fun (a1 : Int) => (loopO (fun (again2 : ((Int × (Int × Int)) → (Option Int))) => (fun (s3 : (Int × (Int × Int))) => (cond (decide (s3.2.1 > (0 : Int))) (bindO (guardO ((2 : Int) != (0 : Int))) (fun (a4 : Unit) => (bindO (some (Int.tmod s3.2.1 (2 : Int))) (fun (a5 : Int) => (cond (a5 == (1 : Int)) (bindO (some (IntKind.wrap .i64 (s3.2.2 * s3.1))) (fun (a6 : Int) => (bindO (guardO (x.2.2 != (0 : Int))) (fun (a7 : Unit) => (bindO (some (Int.tmod a6 x.2.2)) (fun (a8 : Int) => (bindO (some (IntKind.wrap .i64 (s3.1 * s3.1))) (fun (a9 : Int) => (bindO (guardO (x.2.2 != (0 : Int))) (fun (a10 : Unit) => (bindO (some (Int.tmod a9 x.2.2)) (fun (a11 : Int) => (bindO (guardO ((2 : Int) != (0 : Int))) (fun (a12 : Unit) => (bindO (some (IntKind.wrap .i64 (Int.tdiv s3.2.1 (2 : Int)))) (fun (a13 : Int) => (again2 (a11, (a13, a8))))))))))))))))))) (bindO (some (IntKind.wrap .i64 (s3.1 * s3.1))) (fun (a14 : Int) => (bindO (guardO (x.2.2 != (0 : Int))) (fun (a15 : Unit) => (bindO (some (Int.tmod a14 x.2.2)) (fun (a16 : Int) => (bindO (guardO ((2 : Int) != (0 : Int))) (fun (a17 : Unit) => (bindO (some (IntKind.wrap .i64 (Int.tdiv s3.2.1 (2 : Int)))) (fun (a18 : Int) => (again2 (a16, (a18, s3.2.2)))))))))))))))))) (some s3.2.2)))) (x.1, (x.2.1, a1)))))))

noncomputable def c_S_nPower : Con0 := ⟨pk_S_nPower, rk_S_nPower, M_S_nPower⟩

set_option maxRecDepth 100000 in
theorem eq_S_nPower (x : In pk_S_nPower) : semF (mkE []) h_S_nPower (info Try.f96) pk_S_nPower rk_S_nPower x = M_S_nPower x := by kernel_rfl

set_option maxRecDepth 100000 in
theorem m_S_nPower : ConOK Try.prog 96 c_S_nPower := fn_ok (tyOK _) (E := mkE []) (consOK_nil rfl) Try.func96 (h := h_S_nPower) (by kernel_rfl) eq_S_nPower

/-- S_nPrime -/
def pk_S_nPrime : List PK := [.data (.int .i64)]
def rk_S_nPrime : List (Ty × Bool) := [(.bool, false)]
def h_S_nPrime : Hints := { loops := [(0, { items := [.slot 3 (.data (.int .i64) [])], kill := [1, 2, 4, 5, 6, 7, 8, 9, 10, 11, 12, 13, 14, 15, 16] })] }
noncomputable def M_S_nPrime (x : Int) : (Option Bool) :=
  (cond (decide (x < (2 : Int))) (some false) (loopO (fun (again0 : (Int → (Option Bool))) => (fun (s1 : Int) => (bindO (some (IntKind.wrap .i64 (s1 * s1))) (fun (a2 : Int) => (cond (decide (a2 ≤ x)) (bindO (guardO (s1 != (0 : Int))) (fun (a3 : Unit) => (bindO (some (Int.tmod x s1)) (fun (a4 : Int) => (cond (a4 == (0 : Int)) (some false) (bindO (some (IntKind.wrap .i64 (s1 + (1 : Int)))) (fun (a5 : Int) => (again0 a5)))))))) (some true)))))) (2 : Int)))

noncomputable def c_S_nPrime : Con0 := ⟨pk_S_nPrime, rk_S_nPrime, M_S_nPrime⟩

set_option maxRecDepth 100000 in
theorem eq_S_nPrime (x : In pk_S_nPrime) : semF (mkE []) h_S_nPrime (info Try.f116) pk_S_nPrime rk_S_nPrime x = M_S_nPrime x := by kernel_rfl

set_option maxRecDepth 100000 in
theorem m_S_nPrime : ConOK Try.prog 116 c_S_nPrime := fn_ok (tyOK _) (E := mkE []) (consOK_nil rfl) Try.func116 (h := h_S_nPrime) (by kernel_rfl) eq_S_nPrime

/-- S_l2Good -/
def pk_S_l2Good : List PK := [.data (.cons (.int .i64) (.cons (.int .i64) (.one (.int .i64))))]
def rk_S_l2Good : List (Ty × Bool) := [(.bool, false)]
def h_S_l2Good : Hints := { loops := [] }
noncomputable def M_S_l2Good (x : (Int × (Int × Int))) : (Option Bool) :=
  (bindO (M_S_l1In (x.1, ((3 : Int), (2000000000 : Int)))) (fun (a0 : Bool) => (cond a0 (bindO (some (IntKind.wrap .i64 (x.1 - (1 : Int)))) (fun (a1 : Int) => (bindO (M_S_l1In (x.2.1, ((2 : Int), a1))) (fun (a2 : Bool) => (cond a2 (bindO (some (IntKind.wrap .i64 (x.1 - (1 : Int)))) (fun (a3 : Int) => (bindO (guardO (x.2.1 != (0 : Int))) (fun (a4 : Unit) => (bindO (some (Int.tmod a3 x.2.1)) (fun (a5 : Int) => (cond (a5 == (0 : Int)) (bindO (some (IntKind.wrap .i64 (x.1 - (1 : Int)))) (fun (a6 : Int) => (bindO (M_S_l1In (x.2.2, ((2 : Int), a6))) (fun (a7 : Bool) => (cond a7 (bindO (M_S_nPower (x.2.2, (x.2.1, x.1))) (fun (a8 : Int) => (cond (a8 == (1 : Int)) (bindO (M_S_nPrime x.2.1) (fun (a9 : Bool) => (cond a9 (bindO (M_S_nPrime x.1) (fun (a10 : Bool) => (some a10))) (some false)))) (some false)))) (some false)))))) (some false)))))))) (some false)))))) (some false))))

noncomputable def c_S_l2Good : Con0 := ⟨pk_S_l2Good, rk_S_l2Good, M_S_l2Good⟩

set_option maxRecDepth 100000 in
theorem eq_S_l2Good (x : In pk_S_l2Good) : semF (mkE [(81, c_S_l1In), (96, c_S_nPower), (116, c_S_nPrime)]) h_S_l2Good (info Try.f80) pk_S_l2Good rk_S_l2Good x = M_S_l2Good x := by kernel_rfl

set_option maxRecDepth 100000 in
theorem m_S_l2Good : ConOK Try.prog 80 c_S_l2Good := fn_ok (tyOK _) (E := mkE [(81, c_S_l1In), (96, c_S_nPower), (116, c_S_nPrime)]) (consOK_cons m_S_l1In (consOK_cons m_S_nPower (consOK_cons m_S_nPrime (consOK_nil rfl)))) Try.func80 (h := h_S_l2Good) (by kernel_rfl) eq_S_l2Good

/-- S_gIs -/
def pk_S_gIs : List PK := [.data (.cons (.int .i64) (.cons (.int .i64) (.one (.int .i64)))), .data (.sl (.int .i64))]
def rk_S_gIs : List (Ty × Bool) := [(.bool, false)]
def h_S_gIs : Hints := { loops := [(0, { items := [.slot 9 (.data (.int .i64) [])], kill := [0, 1, 3, 4, 5, 6, 10, 11, 12, 13, 14, 15, 16, 17, 18, 19, 20, 21, 22, 23, 24, 25, 26, 27, 28] })] }
noncomputable def M_S_gIs (x : ((Int × (Int × Int)) × (List Int))) : (Option Bool) :=
  (loopO (fun (again0 : (Int → (Option Bool))) => (fun (s1 : Int) => (cond (decide (s1 < (((List.length x.2) : Nat) : Int))) (bindO (getI x.2 s1) (fun (a2 : Int) => (bindO (some (IntKind.wrap .i64 (x.1.1 - (1 : Int)))) (fun (a3 : Int) => (bindO (M_S_l1In (a2, ((1 : Int), a3))) (fun (a4 : Bool) => (cond (not a4) (some false) (bindO (M_S_nPower (a2, (x.1.2.1, x.1.1))) (fun (a5 : Int) => (cond (a5 != (1 : Int)) (some false) (bindO (some (IntKind.wrap .i64 (s1 + (1 : Int)))) (fun (a6 : Int) => (again0 a6))))))))))))) (some true)))) (0 : Int))

noncomputable def c_S_gIs : Con0 := ⟨pk_S_gIs, rk_S_gIs, M_S_gIs⟩

set_option maxRecDepth 100000 in
theorem eq_S_gIs (x : In pk_S_gIs) : semF (mkE [(81, c_S_l1In), (96, c_S_nPower)]) h_S_gIs (info Try.f44) pk_S_gIs rk_S_gIs x = M_S_gIs x := by kernel_rfl

set_option maxRecDepth 100000 in
theorem m_S_gIs : ConOK Try.prog 44 c_S_gIs := fn_ok (tyOK _) (E := mkE [(81, c_S_l1In), (96, c_S_nPower)]) (consOK_cons m_S_l1In (consOK_cons m_S_nPower (consOK_nil rfl))) Try.func44 (h := h_S_gIs) (by kernel_rfl) eq_S_gIs

/-- S_eGood -/
def pk_S_eGood : List PK := [.data (.cons (.int .i64) (.cons (.int .i64) (.one (.int .i64)))), .data (.sl (.cons (.int .i64) (.one (.int .i64))))]
def rk_S_eGood : List (Ty × Bool) := [(.bool, false)]
def h_S_eGood : Hints := { loops := [(0, { items := [.slot 12 (.data (.int .i64) [])], kill := [0, 1, 3, 4, 5, 6, 7, 8, 9, 13, 14, 15, 16, 17, 18, 19, 20, 21, 22, 23, 24] })] }
noncomputable def M_S_eGood (x : ((Int × (Int × Int)) × (List (Int × Int)))) : (Option Bool) :=
  (cond (decide ((((List.length x.2) : Nat) : Int) > (24 : Int))) (some false) (loopO (fun (again0 : (Int → (Option Bool))) => (fun (s1 : Int) => (cond (decide (s1 < (((List.length x.2) : Nat) : Int))) (bindO (getI x.2 s1) (fun (a2 : (Int × Int)) => (bindO (M_S_gIs ((x.1.1, (x.1.2.1, x.1.2.2)), (a2.1 :: (a2.2 :: ([] : List Int))))) (fun (a3 : Bool) => (cond (not a3) (some false) (bindO (some (IntKind.wrap .i64 (s1 + (1 : Int)))) (fun (a4 : Int) => (again0 a4)))))))) (some true)))) (0 : Int)))

noncomputable def c_S_eGood : Con0 := ⟨pk_S_eGood, rk_S_eGood, M_S_eGood⟩

set_option maxRecDepth 100000 in
theorem eq_S_eGood (x : In pk_S_eGood) : semF (mkE [(44, c_S_gIs)]) h_S_eGood (info Try.f64) pk_S_eGood rk_S_eGood x = M_S_eGood x := by kernel_rfl

set_option maxRecDepth 100000 in
theorem m_S_eGood : ConOK Try.prog 64 c_S_eGood := fn_ok (tyOK _) (E := mkE [(44, c_S_gIs)]) (consOK_cons m_S_gIs (consOK_nil rfl)) Try.func64 (h := h_S_eGood) (by kernel_rfl) eq_S_eGood

/-- S_l1All -/
def pk_S_l1All : List PK := [.data (.sl (.int .i64)), .data (.int .i64), .data (.int .i64)]
def rk_S_l1All : List (Ty × Bool) := [(.bool, false)]
def h_S_l1All : Hints := { loops := [(0, { items := [.slot 11 (.data (.int .i64) [])], kill := [0, 3, 4, 5, 6, 7, 8, 12, 13, 14, 15, 16, 17, 18, 19, 20] })] }
noncomputable def M_S_l1All (x : ((List Int) × (Int × Int))) : (Option Bool) :=
  (loopO (fun (again0 : (Int → (Option Bool))) => (fun (s1 : Int) => (cond (decide (s1 < (((List.length x.1) : Nat) : Int))) (bindO (getI x.1 s1) (fun (a2 : Int) => (bindO (M_S_l1In (a2, (x.2.1, x.2.2))) (fun (a3 : Bool) => (cond (not a3) (some false) (bindO (some (IntKind.wrap .i64 (s1 + (1 : Int)))) (fun (a4 : Int) => (again0 a4)))))))) (some true)))) (0 : Int))

noncomputable def c_S_l1All : Con0 := ⟨pk_S_l1All, rk_S_l1All, M_S_l1All⟩

set_option maxRecDepth 100000 in
theorem eq_S_l1All (x : In pk_S_l1All) : semF (mkE [(81, c_S_l1In)]) h_S_l1All (info Try.f117) pk_S_l1All rk_S_l1All x = M_S_l1All x := by kernel_rfl

set_option maxRecDepth 100000 in
theorem m_S_l1All : ConOK Try.prog 117 c_S_l1All := fn_ok (tyOK _) (E := mkE [(81, c_S_l1In)]) (consOK_cons m_S_l1In (consOK_nil rfl)) Try.func117 (h := h_S_l1All) (by kernel_rfl) eq_S_l1All

/-- S_gExps -/
def pk_S_gExps : List PK := [.data (.cons (.int .i64) (.cons (.int .i64) (.one (.int .i64)))), .data (.sl (.int .i64))]
def rk_S_gExps : List (Ty × Bool) := [(.bool, false)]
def h_S_gExps : Hints := { loops := [] }
noncomputable def M_S_gExps (x : ((Int × (Int × Int)) × (List Int))) : (Option Bool) :=
  (bindO (some (IntKind.wrap .i64 (x.1.2.1 - (1 : Int)))) (fun (a0 : Int) => (bindO (M_S_l1All (x.2, ((0 : Int), a0))) (fun (a1 : Bool) => (some a1)))))

noncomputable def c_S_gExps : Con0 := ⟨pk_S_gExps, rk_S_gExps, M_S_gExps⟩

set_option maxRecDepth 100000 in
theorem eq_S_gExps (x : In pk_S_gExps) : semF (mkE [(117, c_S_l1All)]) h_S_gExps (info Try.f82) pk_S_gExps rk_S_gExps x = M_S_gExps x := by kernel_rfl

set_option maxRecDepth 100000 in
theorem m_S_gExps : ConOK Try.prog 82 c_S_gExps := fn_ok (tyOK _) (E := mkE [(117, c_S_l1All)]) (consOK_cons m_S_l1All (consOK_nil rfl)) Try.func82 (h := h_S_gExps) (by kernel_rfl) eq_S_gExps

/-- S_nMod -/
def pk_S_nMod : List PK := [.data (.int .i64), .data (.int .i64)]
def rk_S_nMod : List (Ty × Bool) := [((.int .i64), false)]
def h_S_nMod : Hints := { loops := [] }
noncomputable def M_S_nMod (x : (Int × Int)) : (Option Int) :=
  (bindO (guardO (x.2 != (0 : Int))) (fun (a0 : Unit) => (bindO (some (Int.tmod x.1 x.2)) (fun (a1 : Int) => (bindO (some (IntKind.wrap .i64 (a1 + x.2))) (fun (a2 : Int) => (bindO (guardO (x.2 != (0 : Int))) (fun (a3 : Unit) => (bindO (some (Int.tmod a2 x.2)) (fun (a4 : Int) => (some a4)))))))))))

noncomputable def c_S_nMod : Con0 := ⟨pk_S_nMod, rk_S_nMod, M_S_nMod⟩

set_option maxRecDepth 100000 in
theorem eq_S_nMod (x : In pk_S_nMod) : semF (mkE []) h_S_nMod (info Try.f46) pk_S_nMod rk_S_nMod x = M_S_nMod x := by kernel_rfl

set_option maxRecDepth 100000 in
theorem m_S_nMod : ConOK Try.prog 46 c_S_nMod := fn_ok (tyOK _) (E := mkE []) (consOK_nil rfl) Try.func46 (h := h_S_nMod) (by kernel_rfl) eq_S_nMod

/-- S_gExp -/
def pk_S_gExp : List PK := [.data (.cons (.int .i64) (.cons (.int .i64) (.one (.int .i64)))), .data (.int .i64), .data (.int .i64)]
def rk_S_gExp : List (Ty × Bool) := [((.int .i64), false)]
def h_S_gExp : Hints := { loops := [] }
noncomputable def M_S_gExp (x : ((Int × (Int × Int)) × (Int × Int))) : (Option Int) :=
  (bindO (M_S_nMod (x.2.2, x.1.2.1)) (fun (a0 : Int) => (bindO (M_S_nPower (x.2.1, (a0, x.1.1))) (fun (a1 : Int) => (some a1)))))

noncomputable def c_S_gExp : Con0 := ⟨pk_S_gExp, rk_S_gExp, M_S_gExp⟩

set_option maxRecDepth 100000 in
theorem eq_S_gExp (x : In pk_S_gExp) : semF (mkE [(46, c_S_nMod), (96, c_S_nPower)]) h_S_gExp (info Try.f52) pk_S_gExp rk_S_gExp x = M_S_gExp x := by kernel_rfl

set_option maxRecDepth 100000 in
theorem m_S_gExp : ConOK Try.prog 52 c_S_gExp := fn_ok (tyOK _) (E := mkE [(46, c_S_nMod), (96, c_S_nPower)]) (consOK_cons m_S_nMod (consOK_cons m_S_nPower (consOK_nil rfl))) Try.func52 (h := h_S_gExp) (by kernel_rfl) eq_S_gExp

/-- S_ePow -/
def pk_S_ePow : List PK := [.data (.cons (.int .i64) (.cons (.int .i64) (.one (.int .i64)))), .data (.cons (.int .i64) (.one (.int .i64))), .data (.int .i64)]
def rk_S_ePow : List (Ty × Bool) := [((.cons (.int .i64) (.one (.int .i64))), false)]
def h_S_ePow : Hints := { loops := [] }
noncomputable def M_S_ePow (x : ((Int × (Int × Int)) × ((Int × Int) × Int))) : (Option (Int × Int)) :=
  (bindO (M_S_gExp ((x.1.1, (x.1.2.1, x.1.2.2)), (x.2.1.1, x.2.2))) (fun (a0 : Int) => (bindO (M_S_gExp ((x.1.1, (x.1.2.1, x.1.2.2)), (x.2.1.2, x.2.2))) (fun (a1 : Int) => (some (a0, a1))))))

noncomputable def c_S_ePow : Con0 := ⟨pk_S_ePow, rk_S_ePow, M_S_ePow⟩

set_option maxRecDepth 100000 in
theorem eq_S_ePow (x : In pk_S_ePow) : semF (mkE [(52, c_S_gExp)]) h_S_ePow (info Try.f118) pk_S_ePow rk_S_ePow x = M_S_ePow x := by kernel_rfl

set_option maxRecDepth 100000 in
theorem m_S_ePow : ConOK Try.prog 118 c_S_ePow := fn_ok (tyOK _) (E := mkE [(52, c_S_gExp)]) (consOK_cons m_S_gExp (consOK_nil rfl)) Try.func118 (h := h_S_ePow) (by kernel_rfl) eq_S_ePow

/-- S_gProd -/
def pk_S_gProd : List PK := [.data (.cons (.int .i64) (.cons (.int .i64) (.one (.int .i64)))), .data (.sl (.int .i64)), .data (.sl (.int .i64))]
def rk_S_gProd : List (Ty × Bool) := [((.int .i64), false)]
def h_S_gProd : Hints := { loops := [(0, { items := [.slot 7 (.data (.int .i64) []), .slot 12 (.data (.int .i64) [])], kill := [0, 1, 4, 5, 6, 8, 9, 13, 14, 15, 16, 17, 18, 19, 20, 21, 22, 23, 24, 25, 26, 27, 28, 29, 30] })] }
noncomputable def M_S_gProd (x : ((Int × (Int × Int)) × ((List Int) × (List Int)))) : (Option Int) :=
  (loopO (fun (again0 : ((Int × Int) → (Option Int))) => (fun (s1 : (Int × Int)) => (cond (decide (s1.2 < (((List.length x.2.1) : Nat) : Int))) (bindO (getI x.2.1 s1.2) (fun (a2 : Int) => (bindO (getI x.2.2 s1.2) (fun (a3 : Int) => (bindO (M_S_gExp ((x.1.1, (x.1.2.1, x.1.2.2)), (a2, a3))) (fun (a4 : Int) => (bindO (some (IntKind.wrap .i64 (s1.1 * a4))) (fun (a5 : Int) => (bindO (guardO (x.1.1 != (0 : Int))) (fun (a6 : Unit) => (bindO (some (Int.tmod a5 x.1.1)) (fun (a7 : Int) => (bindO (some (IntKind.wrap .i64 (s1.2 + (1 : Int)))) (fun (a8 : Int) => (again0 (a7, a8)))))))))))))))) (some s1.1)))) ((1 : Int), (0 : Int)))

noncomputable def c_S_gProd : Con0 := ⟨pk_S_gProd, rk_S_gProd, M_S_gProd⟩

set_option maxRecDepth 100000 in
theorem eq_S_gProd (x : In pk_S_gProd) : semF (mkE [(52, c_S_gExp)]) h_S_gProd (info Try.f134) pk_S_gProd rk_S_gProd x = M_S_gProd x := by kernel_rfl

set_option maxRecDepth 100000 in
theorem m_S_gProd : ConOK Try.prog 134 c_S_gProd := fn_ok (tyOK _) (E := mkE [(52, c_S_gExp)]) (consOK_cons m_S_gExp (consOK_nil rfl)) Try.func134 (h := h_S_gProd) (by kernel_rfl) eq_S_gProd

/-- S_sImages -/
def pk_S_sImages : List PK := [.data (.cons (.int .i64) (.cons (.int .i64) (.one (.int .i64)))), .data (.sl (.sl (.int .i64))), .data (.sl (.int .i64))]
def rk_S_sImages : List (Ty × Bool) := [((.sl (.int .i64)), true)]
def h_S_sImages : Hints := { loops := [(0, { items := [.slot 7 (.own (.int .i64) true), .slot 12 (.data (.int .i64) [])], kill := [0, 1, 4, 5, 6, 8, 9, 13, 14, 15, 16, 17, 18, 19, 20, 21, 22, 23, 24] })] }
noncomputable def M_S_sImages (x : ((Int × (Int × Int)) × ((List (List Int)) × (List Int)))) : (Option (List Int)) :=
  (loopO (fun (again0 : (((List Int) × Int) → (Option (List Int)))) => (fun (s1 : ((List Int) × Int)) => (cond (decide (s1.2 < (((List.length x.2.1) : Nat) : Int))) (bindO (getI x.2.1 s1.2) (fun (a2 : (List Int)) => (bindO (M_S_gProd ((x.1.1, (x.1.2.1, x.1.2.2)), (a2, x.2.2))) (fun (a3 : Int) => (bindO (guardO (lenOk ((List.length s1.1) + (List.length (a3 :: ([] : List Int)))))) (fun (a4 : Unit) => (bindO (some (s1.1 ++ (a3 :: ([] : List Int)))) (fun (a5 : (List Int)) => (bindO (some (IntKind.wrap .i64 (s1.2 + (1 : Int)))) (fun (a6 : Int) => (again0 (a5, a6)))))))))))) (some s1.1)))) (([] : List Int), (0 : Int)))

noncomputable def c_S_sImages : Con0 := ⟨pk_S_sImages, rk_S_sImages, M_S_sImages⟩

set_option maxRecDepth 100000 in
theorem eq_S_sImages (x : In pk_S_sImages) : semF (mkE [(134, c_S_gProd)]) h_S_sImages (info Try.f124) pk_S_sImages rk_S_sImages x = M_S_sImages x := by kernel_rfl

set_option maxRecDepth 100000 in
theorem m_S_sImages : ConOK Try.prog 124 c_S_sImages := fn_ok (tyOK _) (E := mkE [(134, c_S_gProd)]) (consOK_cons m_S_gProd (consOK_nil rfl)) Try.func124 (h := h_S_sImages) (by kernel_rfl) eq_S_sImages

/-- S_sStatement -/
def pk_S_sStatement : List PK := [.data (.sl (.sl (.int .i64))), .data (.sl (.int .i64)), .data (.sl (.int .i64))]
def rk_S_sStatement : List (Ty × Bool) := [((.sl (.int .i64)), true)]
def h_S_sStatement : Hints := { loops := [(0, { items := [.slot 7 (.own (.int .i64) true), .slot 12 (.data (.int .i64) [])], kill := [0, 3, 4, 5, 6, 8, 9, 13, 14, 15, 16, 17, 18, 19, 20, 21, 22, 23, 24] })] }
noncomputable def M_S_sStatement (x : ((List (List Int)) × ((List Int) × (List Int)))) : (Option (List Int)) :=
  (loopO (fun (again0 : (((List Int) × Int) → (Option (List Int)))) => (fun (s1 : ((List Int) × Int)) => (cond (decide (s1.2 < (((List.length x.1) : Nat) : Int))) (bindO (getI x.1 s1.2) (fun (a2 : (List Int)) => (bindO (guardO (lenOk ((List.length s1.1) + (List.length a2)))) (fun (a3 : Unit) => (bindO (some (s1.1 ++ a2)) (fun (a4 : (List Int)) => (bindO (some (IntKind.wrap .i64 (s1.2 + (1 : Int)))) (fun (a5 : Int) => (again0 (a4, a5)))))))))) (bindO (guardO (lenOk ((List.length s1.1) + (List.length x.2.1)))) (fun (a6 : Unit) => (bindO (some (s1.1 ++ x.2.1)) (fun (a7 : (List Int)) => (bindO (guardO (lenOk ((List.length a7) + (List.length x.2.2)))) (fun (a8 : Unit) => (bindO (some (a7 ++ x.2.2)) (fun (a9 : (List Int)) => (some a9)))))))))))) (([] : List Int), (0 : Int)))

noncomputable def c_S_sStatement : Con0 := ⟨pk_S_sStatement, rk_S_sStatement, M_S_sStatement⟩

set_option maxRecDepth 100000 in
theorem eq_S_sStatement (x : In pk_S_sStatement) : semF (mkE []) h_S_sStatement (info Try.f125) pk_S_sStatement rk_S_sStatement x = M_S_sStatement x := by kernel_rfl

set_option maxRecDepth 100000 in
theorem m_S_sStatement : ConOK Try.prog 125 c_S_sStatement := fn_ok (tyOK _) (E := mkE []) (consOK_nil rfl) Try.func125 (h := h_S_sStatement) (by kernel_rfl) eq_S_sStatement

/-- S_l3With -/
def pk_S_l3With : List PK := [.data .str, .data (.sl (.int .i64))]
def rk_S_l3With : List (Ty × Bool) := [((.sl (.int .i64)), true)]
def h_S_l3With : Hints := { loops := [(0, { items := [.slot 5 (.own (.int .i64) true), .slot 6 (.data (.int .i64) [])], kill := [2, 3, 4, 7, 8, 9, 10, 11, 12, 13, 14, 15, 16, 17, 18, 19, 20, 21, 22, 23, 24, 25] })] }
noncomputable def M_S_l3With (x : (ByteArray × (List Int))) : (Option (List Int)) :=
  (loopO (fun (again0 : (((List Int) × Int) → (Option (List Int)))) => (fun (s1 : ((List Int) × Int)) => (cond (decide (s1.2 < (((ByteArray.size x.1) : Nat) : Int))) (bindO (if ((0 : Int) ≤ s1.2) then (x.1[(Int.toNat s1.2)]?) else (none : Option (UInt8))) (fun (a2 : (UInt8)) => (bindO (guardO (lenOk ((List.length s1.1) + (List.length ((IntKind.wrap .i64 (((UInt8.toNat a2) : Nat) : Int)) :: ([] : List Int)))))) (fun (a3 : Unit) => (bindO (some (s1.1 ++ ((IntKind.wrap .i64 (((UInt8.toNat a2) : Nat) : Int)) :: ([] : List Int)))) (fun (a4 : (List Int)) => (bindO (some (IntKind.wrap .i64 (s1.2 + (1 : Int)))) (fun (a5 : Int) => (again0 (a4, a5)))))))))) (bindO (guardO (lenOk ((List.length s1.1) + (List.length x.2)))) (fun (a6 : Unit) => (bindO (some (s1.1 ++ x.2)) (fun (a7 : (List Int)) => (some a7)))))))) (((((ByteArray.size x.1) : Nat) : Int) :: ([] : List Int)), (0 : Int)))

noncomputable def c_S_l3With : Con0 := ⟨pk_S_l3With, rk_S_l3With, M_S_l3With⟩

set_option maxRecDepth 100000 in
theorem eq_S_l3With (x : In pk_S_l3With) : semF (mkE []) h_S_l3With (info Try.f128) pk_S_l3With rk_S_l3With x = M_S_l3With x := by kernel_rfl

set_option maxRecDepth 100000 in
theorem m_S_l3With : ConOK Try.prog 128 c_S_l3With := fn_ok (tyOK _) (E := mkE []) (consOK_nil rfl) Try.func128 (h := h_S_l3With) (by kernel_rfl) eq_S_l3With

/-- S_l3State_absorb -/
def pk_S_l3State_absorb : List PK := [.mp (.cons (.int .i64) (.one (.int .i64))) false, .data (.int .i64)]
def rk_S_l3State_absorb : List (Ty × Bool) := []
def h_S_l3State_absorb : Hints := { loops := [(0, { items := [.slot 12 (.data (.int .i64) []), .cell 0 0 (.data (.int .i64) []), .cell 0 1 (.data (.int .i64) [])], kill := [1, 2, 3, 4, 5, 6, 7, 8, 9, 13, 14, 15, 16, 17, 18, 19, 20, 21, 22, 23, 24, 25, 26, 27, 28, 29, 30, 31, 32, 33, 34, 35, 36, 37, 38, 39, 40] })] }
noncomputable def M_S_l3State_absorb (x : ((Int × Int) × Int)) : (Option (Int × Int)) :=
  (bindO (guardO ((2147483648 : Int) != (0 : Int))) (fun (a0 : Unit) => (bindO (some (Int.tmod x.2 (2147483648 : Int))) (fun (a1 : Int) => (bindO (guardO ((2147483648 : Int) != (0 : Int))) (fun (a2 : Unit) => (bindO (some (IntKind.wrap .i64 (Int.tdiv x.2 (2147483648 : Int)))) (fun (a3 : Int) => (loopO (fun (again4 : ((Int × (Int × Int)) → (Option (Int × Int)))) => (fun (s5 : (Int × (Int × Int))) => (cond (decide (s5.1 < (((List.length (a1 :: (a3 :: ([] : List Int)))) : Nat) : Int))) (bindO (getI (a1 :: (a3 :: ([] : List Int))) s5.1) (fun (a6 : Int) => (bindO (some (IntKind.wrap .i64 ((48271 : Int) * s5.2.1))) (fun (a7 : Int) => (bindO (some (IntKind.wrap .i64 (a7 + a6))) (fun (a8 : Int) => (bindO (some (IntKind.wrap .i64 (a8 + (1 : Int)))) (fun (a9 : Int) => (bindO (guardO ((2147483647 : Int) != (0 : Int))) (fun (a10 : Unit) => (bindO (some (Int.tmod a9 (2147483647 : Int))) (fun (a11 : Int) => (bindO (some (IntKind.wrap .i64 ((69621 : Int) * s5.2.2))) (fun (a12 : Int) => (bindO (some (IntKind.wrap .i64 (a12 + a6))) (fun (a13 : Int) => (bindO (some (IntKind.wrap .i64 (a13 + (1 : Int)))) (fun (a14 : Int) => (bindO (guardO ((2147483647 : Int) != (0 : Int))) (fun (a15 : Unit) => (bindO (some (Int.tmod a14 (2147483647 : Int))) (fun (a16 : Int) => (bindO (some (IntKind.wrap .i64 (s5.1 + (1 : Int)))) (fun (a17 : Int) => (again4 (a17, (a11, a16))))))))))))))))))))))))))) (some (s5.2.1, s5.2.2))))) ((0 : Int), (x.1.1, x.1.2)))))))))))

noncomputable def c_S_l3State_absorb : Con0 := ⟨pk_S_l3State_absorb, rk_S_l3State_absorb, M_S_l3State_absorb⟩

set_option maxRecDepth 100000 in
theorem eq_S_l3State_absorb (x : In pk_S_l3State_absorb) : semF (mkE []) h_S_l3State_absorb (info Try.f143) pk_S_l3State_absorb rk_S_l3State_absorb x = M_S_l3State_absorb x := by kernel_rfl

set_option maxRecDepth 100000 in
theorem m_S_l3State_absorb : ConOK Try.prog 143 c_S_l3State_absorb := fn_ok (tyOK _) (E := mkE []) (consOK_nil rfl) Try.func143 (h := h_S_l3State_absorb) (by kernel_rfl) eq_S_l3State_absorb

/-- S_hInts -/
def pk_S_hInts : List PK := [.data (.sl (.int .i64))]
def rk_S_hInts : List (Ty × Bool) := [((.int .i64), false)]
def h_S_hInts : Hints := { loops := [(0, { items := [.slot 14 (.data (.int .i64) []), .cell 7 0 (.data (.int .i64) []), .cell 7 1 (.data (.int .i64) [])], kill := [0, 1, 2, 4, 5, 6, 8, 9, 10, 11, 15, 16, 17, 18, 19, 20, 21, 22, 23, 24, 25, 26, 27, 28, 29, 30, 31] })] }
noncomputable def M_S_hInts (x : (List Int)) : (Option Int) :=
  (bindO (M_S_l3State_absorb (((1 : Int), (2 : Int)), (((List.length x) : Nat) : Int))) (fun (a0 : (Int × Int)) => (loopO (fun (again1 : ((Int × (Int × Int)) → (Option Int))) => (fun (s2 : (Int × (Int × Int))) => (cond (decide (s2.1 < (((List.length x) : Nat) : Int))) (bindO (getI x s2.1) (fun (a3 : Int) => (bindO (M_S_l3State_absorb ((s2.2.1, s2.2.2), a3)) (fun (a4 : (Int × Int)) => (bindO (some (IntKind.wrap .i64 (s2.1 + (1 : Int)))) (fun (a5 : Int) => (again1 (a5, (a4.1, a4.2))))))))) (bindO (some (IntKind.wrap .i64 (s2.2.1 * (2147483648 : Int)))) (fun (a6 : Int) => (bindO (some (IntKind.wrap .i64 (a6 + s2.2.2))) (fun (a7 : Int) => (some a7)))))))) ((0 : Int), (a0.1, a0.2)))))

noncomputable def c_S_hInts : Con0 := ⟨pk_S_hInts, rk_S_hInts, M_S_hInts⟩

set_option maxRecDepth 100000 in
theorem eq_S_hInts (x : In pk_S_hInts) : semF (mkE [(143, c_S_l3State_absorb)]) h_S_hInts (info Try.f127) pk_S_hInts rk_S_hInts x = M_S_hInts x := by kernel_rfl

set_option maxRecDepth 100000 in
theorem m_S_hInts : ConOK Try.prog 127 c_S_hInts := fn_ok (tyOK _) (E := mkE [(143, c_S_l3State_absorb)]) (consOK_cons m_S_l3State_absorb (consOK_nil rfl)) Try.func127 (h := h_S_hInts) (by kernel_rfl) eq_S_hInts

/-- S_hLabelled -/
def pk_S_hLabelled : List PK := [.data .str, .data (.sl (.int .i64))]
def rk_S_hLabelled : List (Ty × Bool) := [((.int .i64), false)]
def h_S_hLabelled : Hints := { loops := [] }
noncomputable def M_S_hLabelled (x : (ByteArray × (List Int))) : (Option Int) :=
  (bindO (M_S_l3With (x.1, x.2)) (fun (a0 : (List Int)) => (bindO (M_S_hInts a0) (fun (a1 : Int) => (some a1)))))

noncomputable def c_S_hLabelled : Con0 := ⟨pk_S_hLabelled, rk_S_hLabelled, M_S_hLabelled⟩

set_option maxRecDepth 100000 in
theorem eq_S_hLabelled (x : In pk_S_hLabelled) : semF (mkE [(128, c_S_l3With), (127, c_S_hInts)]) h_S_hLabelled (info Try.f98) pk_S_hLabelled rk_S_hLabelled x = M_S_hLabelled x := by kernel_rfl

set_option maxRecDepth 100000 in
theorem m_S_hLabelled : ConOK Try.prog 98 c_S_hLabelled := fn_ok (tyOK _) (E := mkE [(128, c_S_l3With), (127, c_S_hInts)]) (consOK_cons m_S_l3With (consOK_cons m_S_hInts (consOK_nil rfl))) Try.func98 (h := h_S_hLabelled) (by kernel_rfl) eq_S_hLabelled

/-- S_hChallenge -/
def pk_S_hChallenge : List PK := [.data (.cons (.int .i64) (.cons (.int .i64) (.one (.int .i64)))), .data .str, .data (.sl (.int .i64))]
def rk_S_hChallenge : List (Ty × Bool) := [((.int .i64), false)]
def h_S_hChallenge : Hints := { loops := [] }
noncomputable def M_S_hChallenge (x : ((Int × (Int × Int)) × (ByteArray × (List Int)))) : (Option Int) :=
  (bindO (guardO (lenOk ((List.length (x.1.1 :: (x.1.2.1 :: (x.1.2.2 :: ([] : List Int))))) + (List.length x.2.2)))) (fun (a0 : Unit) => (bindO (some ((x.1.1 :: (x.1.2.1 :: (x.1.2.2 :: ([] : List Int)))) ++ x.2.2)) (fun (a1 : (List Int)) => (bindO (M_S_hLabelled (x.2.1, a1)) (fun (a2 : Int) => (bindO (guardO (x.1.2.1 != (0 : Int))) (fun (a3 : Unit) => (bindO (some (Int.tmod a2 x.1.2.1)) (fun (a4 : Int) => (some a4)))))))))))

noncomputable def c_S_hChallenge : Con0 := ⟨pk_S_hChallenge, rk_S_hChallenge, M_S_hChallenge⟩

set_option maxRecDepth 100000 in
theorem eq_S_hChallenge (x : In pk_S_hChallenge) : semF (mkE [(98, c_S_hLabelled)]) h_S_hChallenge (info Try.f73) pk_S_hChallenge rk_S_hChallenge x = M_S_hChallenge x := by kernel_rfl

set_option maxRecDepth 100000 in
theorem m_S_hChallenge : ConOK Try.prog 73 c_S_hChallenge := fn_ok (tyOK _) (E := mkE [(98, c_S_hLabelled)]) (consOK_cons m_S_hLabelled (consOK_nil rfl)) Try.func73 (h := h_S_hChallenge) (by kernel_rfl) eq_S_hChallenge

/-- S_sProve -/
def pk_S_sProve : List PK := [.data (.cons (.int .i64) (.cons (.int .i64) (.one (.int .i64)))), .data .str, .data (.sl (.sl (.int .i64))), .data (.sl (.int .i64)), .data (.sl (.int .i64))]
def rk_S_sProve : List (Ty × Bool) := [((.cons (.sl (.int .i64)) (.cons (.sl (.int .i64)) (.one (.sl (.int .i64))))), true)]
def h_S_sProve : Hints := { loops := [(0, { items := [.slot 36 (.data (.int .i64) []), .cell 11 0 (.own (.int .i64) true), .cell 11 1 (.own (.int .i64) true), .cell 11 2 (.own (.int .i64) true)], kill := [0, 1, 2, 3, 6, 7, 8, 9, 13, 14, 15, 16, 17, 18, 19, 20, 21, 22, 23, 24, 25, 26, 27, 28, 29, 30, 31, 32, 33, 37, 38, 39, 40, 41, 42, 43, 44, 45, 46, 47, 48, 49, 50, 51, 52, 53, 54, 55, 56, 57, 58] })] }
noncomputable def M_S_sProve (x : ((Int × (Int × Int)) × (ByteArray × ((List (List Int)) × ((List Int) × (List Int)))))) : (Option ((List Int) × ((List Int) × (List Int)))) :=
  (bindO (M_S_sImages ((x.1.1, (x.1.2.1, x.1.2.2)), (x.2.2.1, x.2.2.2.2))) (fun (a0 : (List Int)) => (bindO (M_S_sImages ((x.1.1, (x.1.2.1, x.1.2.2)), (x.2.2.1, x.2.2.2.1))) (fun (a1 : (List Int)) => (bindO (M_S_sStatement (x.2.2.1, (a1, a0))) (fun (a2 : (List Int)) => (bindO (M_S_hChallenge ((x.1.1, (x.1.2.1, x.1.2.2)), (x.2.1, a2))) (fun (a3 : Int) => (loopO (fun (again4 : ((Int × ((List Int) × ((List Int) × (List Int)))) → (Option ((List Int) × ((List Int) × (List Int)))))) => (fun (s5 : (Int × ((List Int) × ((List Int) × (List Int))))) => (cond (decide (s5.1 < (((List.length x.2.2.2.1) : Nat) : Int))) (bindO (getI x.2.2.2.1 s5.1) (fun (a6 : Int) => (bindO (getI x.2.2.2.2 s5.1) (fun (a7 : Int) => (bindO (some (IntKind.wrap .i64 (a3 * a6))) (fun (a8 : Int) => (bindO (some (IntKind.wrap .i64 (a7 + a8))) (fun (a9 : Int) => (bindO (guardO (x.1.2.1 != (0 : Int))) (fun (a10 : Unit) => (bindO (some (Int.tmod a9 x.1.2.1)) (fun (a11 : Int) => (bindO (guardO (lenOk ((List.length s5.2.2.2) + (List.length (a11 :: ([] : List Int)))))) (fun (a12 : Unit) => (bindO (some (s5.2.2.2 ++ (a11 :: ([] : List Int)))) (fun (a13 : (List Int)) => (bindO (some (IntKind.wrap .i64 (s5.1 + (1 : Int)))) (fun (a14 : Int) => (again4 (a14, (s5.2.1, (s5.2.2.1, a13)))))))))))))))))))))) (some (s5.2.1, (s5.2.2.1, s5.2.2.2)))))) ((0 : Int), (a0, ((a3 :: ([] : List Int)), ([] : List Int)))))))))))))

noncomputable def c_S_sProve : Con0 := ⟨pk_S_sProve, rk_S_sProve, M_S_sProve⟩

set_option maxRecDepth 100000 in
theorem eq_S_sProve (x : In pk_S_sProve) : semF (mkE [(124, c_S_sImages), (125, c_S_sStatement), (73, c_S_hChallenge)]) h_S_sProve (info Try.f91) pk_S_sProve rk_S_sProve x = M_S_sProve x := by kernel_rfl

set_option maxRecDepth 100000 in
theorem m_S_sProve : ConOK Try.prog 91 c_S_sProve := fn_ok (tyOK _) (E := mkE [(124, c_S_sImages), (125, c_S_sStatement), (73, c_S_hChallenge)]) (consOK_cons m_S_sImages (consOK_cons m_S_sStatement (consOK_cons m_S_hChallenge (consOK_nil rfl)))) Try.func91 (h := h_S_sProve) (by kernel_rfl) eq_S_sProve

/-- S_qBlind -/
def pk_S_qBlind : List PK := [.data (.cons (.int .i64) (.cons (.int .i64) (.one (.int .i64)))), .data (.cons (.int .i64) (.one (.int .i64))), .data (.int .i64), .data (.int .i64), .data (.int .i64)]
def rk_S_qBlind : List (Ty × Bool) := [((.cons (.int .i64) (.cons (.cons (.int .i64) (.one (.int .i64))) (.one (.cons (.sl (.int .i64)) (.cons (.sl (.int .i64)) (.one (.sl (.int .i64)))))))), true)]
def h_S_qBlind : Hints := { loops := [] }
noncomputable def M_S_qBlind (x : ((Int × (Int × Int)) × ((Int × Int) × (Int × (Int × Int))))) : (Option (Int × ((Int × Int) × ((List Int) × ((List Int) × (List Int)))))) :=
  (bindO (M_S_ePow ((x.1.1, (x.1.2.1, x.1.2.2)), ((x.2.1.1, x.2.1.2), x.2.2.2.1))) (fun (a0 : (Int × Int)) => (bindO (M_S_sProve ((x.1.1, (x.1.2.1, x.1.2.2)), ((bytesOf [98, 108, 105, 110, 100]), (((x.2.1.1 :: ([] : List Int)) :: ((x.2.1.2 :: ([] : List Int)) :: ([] : List (List Int)))), ((x.2.2.2.1 :: ([] : List Int)), (x.2.2.2.2 :: ([] : List Int))))))) (fun (a1 : ((List Int) × ((List Int) × (List Int)))) => (some (x.2.2.1, ((a0.1, a0.2), (a1.1, (a1.2.1, a1.2.2)))))))))

noncomputable def c_S_qBlind : Con0 := ⟨pk_S_qBlind, rk_S_qBlind, M_S_qBlind⟩

set_option maxRecDepth 100000 in
theorem eq_S_qBlind (x : In pk_S_qBlind) : semF (mkE [(118, c_S_ePow), (91, c_S_sProve)]) h_S_qBlind (info Try.f83) pk_S_qBlind rk_S_qBlind x = M_S_qBlind x := by kernel_rfl

set_option maxRecDepth 100000 in
theorem m_S_qBlind : ConOK Try.prog 83 c_S_qBlind := fn_ok (tyOK _) (E := mkE [(118, c_S_ePow), (91, c_S_sProve)]) (consOK_cons m_S_ePow (consOK_cons m_S_sProve (consOK_nil rfl))) Try.func83 (h := h_S_qBlind) (by kernel_rfl) eq_S_qBlind

/-- S_BlindBy -/
def pk_S_BlindBy : List PK := [.data (.cons (.int .i64) (.cons (.int .i64) (.one (.int .i64)))), .data (.cons (.int .i64) (.one (.int .i64))), .data (.int .i64), .data (.int .i64), .data (.int .i64)]
def rk_S_BlindBy : List (Ty × Bool) := [((.cons (.int .i64) (.cons (.cons (.int .i64) (.one (.int .i64))) (.one (.cons (.sl (.int .i64)) (.cons (.sl (.int .i64)) (.one (.sl (.int .i64)))))))), true), (.bool, false)]
def h_S_BlindBy : Hints := { loops := [] }
noncomputable def M_S_BlindBy (x : ((Int × (Int × Int)) × ((Int × Int) × (Int × (Int × Int))))) : (Option ((Int × ((Int × Int) × ((List Int) × ((List Int) × (List Int))))) × Bool)) :=
  (bindO (M_S_l2Good (x.1.1, (x.1.2.1, x.1.2.2))) (fun (a0 : Bool) => (cond (not a0) (some (((0 : Int), (((0 : Int), (0 : Int)), (([] : List Int), (([] : List Int), ([] : List Int))))), false)) (bindO (M_S_eGood ((x.1.1, (x.1.2.1, x.1.2.2)), ((x.2.1.1, x.2.1.2) :: ([] : List (Int × Int))))) (fun (a1 : Bool) => (cond (not a1) (some (((0 : Int), (((0 : Int), (0 : Int)), (([] : List Int), (([] : List Int), ([] : List Int))))), false)) (bindO (M_S_l1In (x.2.2.1, ((1 : Int), (7 : Int)))) (fun (a2 : Bool) => (cond (not a2) (some (((0 : Int), (((0 : Int), (0 : Int)), (([] : List Int), (([] : List Int), ([] : List Int))))), false)) (bindO (M_S_gExps ((x.1.1, (x.1.2.1, x.1.2.2)), (x.2.2.2.1 :: (x.2.2.2.2 :: ([] : List Int))))) (fun (a3 : Bool) => (cond (not a3) (some (((0 : Int), (((0 : Int), (0 : Int)), (([] : List Int), (([] : List Int), ([] : List Int))))), false)) (cond (x.2.2.2.1 == (0 : Int)) (some (((0 : Int), (((0 : Int), (0 : Int)), (([] : List Int), (([] : List Int), ([] : List Int))))), false)) (bindO (M_S_qBlind ((x.1.1, (x.1.2.1, x.1.2.2)), ((x.2.1.1, x.2.1.2), (x.2.2.1, (x.2.2.2.1, x.2.2.2.2))))) (fun (a4 : (Int × ((Int × Int) × ((List Int) × ((List Int) × (List Int)))))) => (some ((a4.1, ((a4.2.1.1, a4.2.1.2), (a4.2.2.1, (a4.2.2.2.1, a4.2.2.2.2)))), true)))))))))))))))))

noncomputable def c_S_BlindBy : Con0 := ⟨pk_S_BlindBy, rk_S_BlindBy, M_S_BlindBy⟩

set_option maxRecDepth 100000 in
theorem eq_S_BlindBy (x : In pk_S_BlindBy) : semF (mkE [(80, c_S_l2Good), (64, c_S_eGood), (81, c_S_l1In), (82, c_S_gExps), (83, c_S_qBlind)]) h_S_BlindBy (info Try.f28) pk_S_BlindBy rk_S_BlindBy x = M_S_BlindBy x := by kernel_rfl

set_option maxRecDepth 100000 in
theorem m_S_BlindBy : ConOK Try.prog 28 c_S_BlindBy := fn_ok (tyOK _) (E := mkE [(80, c_S_l2Good), (64, c_S_eGood), (81, c_S_l1In), (82, c_S_gExps), (83, c_S_qBlind)]) (consOK_cons m_S_l2Good (consOK_cons m_S_eGood (consOK_cons m_S_l1In (consOK_cons m_S_gExps (consOK_cons m_S_qBlind (consOK_nil rfl)))))) Try.func28 (h := h_S_BlindBy) (by kernel_rfl) eq_S_BlindBy

/-- I_within -/
def pk_I_within : List PK := [.data (.int .i64), .data (.int .i64), .data (.int .i64)]
def rk_I_within : List (Ty × Bool) := [(.bool, false)]
def h_I_within : Hints := { loops := [] }
noncomputable def M_I_within (x : (Int × (Int × Int))) : (Option Bool) :=
  (cond (decide (x.1 ≥ x.2.1)) (some (decide (x.1 ≤ x.2.2))) (some false))

noncomputable def c_I_within : Con0 := ⟨pk_I_within, rk_I_within, M_I_within⟩

set_option maxRecDepth 100000 in
theorem eq_I_within (x : In pk_I_within) : semF (mkE []) h_I_within (info Try.f110) pk_I_within rk_I_within x = M_I_within x := by kernel_rfl

set_option maxRecDepth 100000 in
theorem m_I_within : ConOK Try.prog 110 c_I_within := fn_ok (tyOK _) (E := mkE []) (consOK_nil rfl) Try.func110 (h := h_I_within) (by kernel_rfl) eq_I_within

/-- I_isModulus -/
def pk_I_isModulus : List PK := [.data (.int .i64)]
def rk_I_isModulus : List (Ty × Bool) := [(.bool, false)]
def h_I_isModulus : Hints := { loops := [] }
noncomputable def M_I_isModulus (x : Int) : (Option Bool) :=
  (bindO (M_I_within (x, ((2 : Int), (2000000000 : Int)))) (fun (a0 : Bool) => (some a0)))

noncomputable def c_I_isModulus : Con0 := ⟨pk_I_isModulus, rk_I_isModulus, M_I_isModulus⟩

set_option maxRecDepth 100000 in
theorem eq_I_isModulus (x : In pk_I_isModulus) : semF (mkE [(110, c_I_within)]) h_I_isModulus (info Try.f135) pk_I_isModulus rk_I_isModulus x = M_I_isModulus x := by kernel_rfl

set_option maxRecDepth 100000 in
theorem m_I_isModulus : ConOK Try.prog 135 c_I_isModulus := fn_ok (tyOK _) (E := mkE [(110, c_I_within)]) (consOK_cons m_I_within (consOK_nil rfl)) Try.func135 (h := h_I_isModulus) (by kernel_rfl) eq_I_isModulus

/-- I_isPrime -/
def pk_I_isPrime : List PK := [.data (.int .i64)]
def rk_I_isPrime : List (Ty × Bool) := [(.bool, false)]
def h_I_isPrime : Hints := { loops := [(0, { items := [.slot 3 (.data (.int .i64) [])], kill := [1, 2, 4, 5, 6, 7, 8, 9, 10, 11, 12, 13, 14, 15, 16, 17, 18, 19, 20, 21, 22, 23, 24, 25, 26] })] }
noncomputable def M_I_isPrime (x : Int) : (Option Bool) :=
  (bindO (M_I_isModulus x) (fun (a0 : Bool) => (cond (not a0) (some false) (bindO (guardO ((2 : Int) != (0 : Int))) (fun (a1 : Unit) => (bindO (some (Int.tmod x (2 : Int))) (fun (a2 : Int) => (cond (a2 == (0 : Int)) (cond (x != (2 : Int)) (some false) (loopO (fun (again3 : (Int → (Option Bool))) => (fun (s4 : Int) => (bindO (some (IntKind.wrap .i64 (s4 * s4))) (fun (a5 : Int) => (cond (decide (a5 ≤ x)) (bindO (guardO (s4 != (0 : Int))) (fun (a6 : Unit) => (bindO (some (Int.tmod x s4)) (fun (a7 : Int) => (cond (a7 == (0 : Int)) (some false) (bindO (some (IntKind.wrap .i64 (s4 + (2 : Int)))) (fun (a8 : Int) => (again3 a8)))))))) (some true)))))) (3 : Int))) (loopO (fun (again9 : (Int → (Option Bool))) => (fun (s10 : Int) => (bindO (some (IntKind.wrap .i64 (s10 * s10))) (fun (a11 : Int) => (cond (decide (a11 ≤ x)) (bindO (guardO (s10 != (0 : Int))) (fun (a12 : Unit) => (bindO (some (Int.tmod x s10)) (fun (a13 : Int) => (cond (a13 == (0 : Int)) (some false) (bindO (some (IntKind.wrap .i64 (s10 + (2 : Int)))) (fun (a14 : Int) => (again9 a14)))))))) (some true)))))) (3 : Int))))))))))

noncomputable def c_I_isPrime : Con0 := ⟨pk_I_isPrime, rk_I_isPrime, M_I_isPrime⟩

set_option maxRecDepth 100000 in
theorem eq_I_isPrime (x : In pk_I_isPrime) : semF (mkE [(135, c_I_isModulus)]) h_I_isPrime (info Try.f111) pk_I_isPrime rk_I_isPrime x = M_I_isPrime x := by kernel_rfl

set_option maxRecDepth 100000 in
theorem m_I_isPrime : ConOK Try.prog 111 c_I_isPrime := fn_ok (tyOK _) (E := mkE [(135, c_I_isModulus)]) (consOK_cons m_I_isModulus (consOK_nil rfl)) Try.func111 (h := h_I_isPrime) (by kernel_rfl) eq_I_isPrime

/-- I_power -/
def pk_I_power : List PK := [.data (.int .i64), .data (.int .i64), .data (.int .i64)]
def rk_I_power : List (Ty × Bool) := [((.int .i64), false)]
def h_I_power : Hints := { loops := [(0, { items := [.slot 0 (.data (.int .i64) []), .slot 1 (.data (.int .i64) []), .slot 7 (.data (.int .i64) [])], kill := [3, 4, 5, 6, 8, 9, 10, 11, 12, 13, 14, 15, 16, 17, 18, 19, 20, 21, 22, 23, 24, 25, 26, 27] })] }
noncomputable def M_I_power (x : (Int × (Int × Int))) : (Option Int) :=
  (bindO (guardO (x.2.2 != (0 : Int))) (fun (a0 : Unit) => (bindO (some (Int.tmod (1 : Int) x.2.2)) (fun (a1 : Int) => (loopO (fun (again2 : ((Int × (Int × Int)) → (Option Int))) => (fun (s3 : (Int × (Int × Int))) => (cond (decide (s3.2.1 > (0 : Int))) (bindO (some (bits .and .i64 s3.2.1 (1 : Int))) (fun (a4 : Int) => (cond (a4 == (1 : Int)) (bindO (some (IntKind.wrap .i64 (s3.2.2 * s3.1))) (fun (a5 : Int) => (bindO (guardO (x.2.2 != (0 : Int))) (fun (a6 : Unit) => (bindO (some (Int.tmod a5 x.2.2)) (fun (a7 : Int) => (bindO (some (IntKind.wrap .i64 (s3.1 * s3.1))) (fun (a8 : Int) => (bindO (guardO (x.2.2 != (0 : Int))) (fun (a9 : Unit) => (bindO (some (Int.tmod a8 x.2.2)) (fun (a10 : Int) => (bindO (guardO (decide ((0 : Int) ≤ (1 : Int)))) (fun (a11 : Unit) => (bindO (some (shr .i64 s3.2.1 (1 : Int))) (fun (a12 : Int) => (again2 (a10, (a12, a7))))))))))))))))))) (bindO (some (IntKind.wrap .i64 (s3.1 * s3.1))) (fun (a13 : Int) => (bindO (guardO (x.2.2 != (0 : Int))) (fun (a14 : Unit) => (bindO (some (Int.tmod a13 x.2.2)) (fun (a15 : Int) => (bindO (guardO (decide ((0 : Int) ≤ (1 : Int)))) (fun (a16 : Unit) => (bindO (some (shr .i64 s3.2.1 (1 : Int))) (fun (a17 : Int) => (again2 (a15, (a17, s3.2.2)))))))))))))))) (some s3.2.2)))) (x.1, (x.2.1, a1)))))))

noncomputable def c_I_power : Con0 := ⟨pk_I_power, rk_I_power, M_I_power⟩

set_option maxRecDepth 100000 in
theorem eq_I_power (x : In pk_I_power) : semF (mkE []) h_I_power (info Try.f107) pk_I_power rk_I_power x = M_I_power x := by kernel_rfl

set_option maxRecDepth 100000 in
theorem m_I_power : ConOK Try.prog 107 c_I_power := fn_ok (tyOK _) (E := mkE []) (consOK_nil rfl) Try.func107 (h := h_I_power) (by kernel_rfl) eq_I_power

/-- I_IsValidGroup -/
def pk_I_IsValidGroup : List PK := [.data (.cons (.int .i64) (.cons (.int .i64) (.one (.int .i64))))]
def rk_I_IsValidGroup : List (Ty × Bool) := [(.bool, false)]
def h_I_IsValidGroup : Hints := { loops := [] }
noncomputable def M_I_IsValidGroup (x : (Int × (Int × Int))) : (Option Bool) :=
  (bindO (M_I_within (x.1, ((3 : Int), (2000000000 : Int)))) (fun (a0 : Bool) => (cond a0 (bindO (some (IntKind.wrap .i64 (x.1 - (1 : Int)))) (fun (a1 : Int) => (bindO (M_I_within (x.2.1, ((2 : Int), a1))) (fun (a2 : Bool) => (cond a2 (bindO (some (IntKind.wrap .i64 (x.1 - (1 : Int)))) (fun (a3 : Int) => (bindO (guardO (x.2.1 != (0 : Int))) (fun (a4 : Unit) => (bindO (some (Int.tmod a3 x.2.1)) (fun (a5 : Int) => (cond (a5 == (0 : Int)) (bindO (some (IntKind.wrap .i64 (x.1 - (1 : Int)))) (fun (a6 : Int) => (bindO (M_I_within (x.2.2, ((2 : Int), a6))) (fun (a7 : Bool) => (cond a7 (bindO (M_I_isPrime x.1) (fun (a8 : Bool) => (cond a8 (bindO (M_I_isPrime x.2.1) (fun (a9 : Bool) => (cond a9 (bindO (M_I_power (x.2.2, (x.2.1, x.1))) (fun (a10 : Int) => (some (a10 == (1 : Int))))) (some false)))) (some false)))) (some false)))))) (some false)))))))) (some false)))))) (some false))))

noncomputable def c_I_IsValidGroup : Con0 := ⟨pk_I_IsValidGroup, rk_I_IsValidGroup, M_I_IsValidGroup⟩

set_option maxRecDepth 100000 in
theorem eq_I_IsValidGroup (x : In pk_I_IsValidGroup) : semF (mkE [(110, c_I_within), (111, c_I_isPrime), (107, c_I_power)]) h_I_IsValidGroup (info Try.f67) pk_I_IsValidGroup rk_I_IsValidGroup x = M_I_IsValidGroup x := by kernel_rfl

set_option maxRecDepth 100000 in
theorem m_I_IsValidGroup : ConOK Try.prog 67 c_I_IsValidGroup := fn_ok (tyOK _) (E := mkE [(110, c_I_within), (111, c_I_isPrime), (107, c_I_power)]) (consOK_cons m_I_within (consOK_cons m_I_isPrime (consOK_cons m_I_power (consOK_nil rfl)))) Try.func67 (h := h_I_IsValidGroup) (by kernel_rfl) eq_I_IsValidGroup

/-- I_Group_has -/
def pk_I_Group_has : List PK := [.data (.cons (.int .i64) (.cons (.int .i64) (.one (.int .i64)))), .data (.int .i64)]
def rk_I_Group_has : List (Ty × Bool) := [(.bool, false)]
def h_I_Group_has : Hints := { loops := [] }
noncomputable def M_I_Group_has (x : ((Int × (Int × Int)) × Int)) : (Option Bool) :=
  (bindO (some (IntKind.wrap .i64 (x.1.1 - (1 : Int)))) (fun (a0 : Int) => (bindO (M_I_within (x.2, ((1 : Int), a0))) (fun (a1 : Bool) => (cond a1 (bindO (M_I_power (x.2, (x.1.2.1, x.1.1))) (fun (a2 : Int) => (some (a2 == (1 : Int))))) (some false))))))

noncomputable def c_I_Group_has : Con0 := ⟨pk_I_Group_has, rk_I_Group_has, M_I_Group_has⟩

set_option maxRecDepth 100000 in
theorem eq_I_Group_has (x : In pk_I_Group_has) : semF (mkE [(110, c_I_within), (107, c_I_power)]) h_I_Group_has (info Try.f68) pk_I_Group_has rk_I_Group_has x = M_I_Group_has x := by kernel_rfl

set_option maxRecDepth 100000 in
theorem m_I_Group_has : ConOK Try.prog 68 c_I_Group_has := fn_ok (tyOK _) (E := mkE [(110, c_I_within), (107, c_I_power)]) (consOK_cons m_I_within (consOK_cons m_I_power (consOK_nil rfl))) Try.func68 (h := h_I_Group_has) (by kernel_rfl) eq_I_Group_has

/-- I_Group_hasCipher -/
def pk_I_Group_hasCipher : List PK := [.data (.cons (.int .i64) (.cons (.int .i64) (.one (.int .i64)))), .data (.cons (.int .i64) (.one (.int .i64)))]
def rk_I_Group_hasCipher : List (Ty × Bool) := [(.bool, false)]
def h_I_Group_hasCipher : Hints := { loops := [] }
noncomputable def M_I_Group_hasCipher (x : ((Int × (Int × Int)) × (Int × Int))) : (Option Bool) :=
  (bindO (M_I_Group_has ((x.1.1, (x.1.2.1, x.1.2.2)), x.2.1)) (fun (a0 : Bool) => (cond a0 (bindO (M_I_Group_has ((x.1.1, (x.1.2.1, x.1.2.2)), x.2.2)) (fun (a1 : Bool) => (some a1))) (some false))))

noncomputable def c_I_Group_hasCipher : Con0 := ⟨pk_I_Group_hasCipher, rk_I_Group_hasCipher, M_I_Group_hasCipher⟩

set_option maxRecDepth 100000 in
theorem eq_I_Group_hasCipher (x : In pk_I_Group_hasCipher) : semF (mkE [(68, c_I_Group_has)]) h_I_Group_hasCipher (info Try.f69) pk_I_Group_hasCipher rk_I_Group_hasCipher x = M_I_Group_hasCipher x := by kernel_rfl

set_option maxRecDepth 100000 in
theorem m_I_Group_hasCipher : ConOK Try.prog 69 c_I_Group_hasCipher := fn_ok (tyOK _) (E := mkE [(68, c_I_Group_has)]) (consOK_cons m_I_Group_has (consOK_nil rfl)) Try.func69 (h := h_I_Group_hasCipher) (by kernel_rfl) eq_I_Group_hasCipher

/-- I_isTrustee -/
def pk_I_isTrustee : List PK := [.data (.int .i64)]
def rk_I_isTrustee : List (Ty × Bool) := [(.bool, false)]
def h_I_isTrustee : Hints := { loops := [] }
noncomputable def M_I_isTrustee (x : Int) : (Option Bool) :=
  (bindO (M_I_within (x, ((1 : Int), (7 : Int)))) (fun (a0 : Bool) => (some a0)))

noncomputable def c_I_isTrustee : Con0 := ⟨pk_I_isTrustee, rk_I_isTrustee, M_I_isTrustee⟩

set_option maxRecDepth 100000 in
theorem eq_I_isTrustee (x : In pk_I_isTrustee) : semF (mkE [(110, c_I_within)]) h_I_isTrustee (info Try.f84) pk_I_isTrustee rk_I_isTrustee x = M_I_isTrustee x := by kernel_rfl

set_option maxRecDepth 100000 in
theorem m_I_isTrustee : ConOK Try.prog 84 c_I_isTrustee := fn_ok (tyOK _) (E := mkE [(110, c_I_within)]) (consOK_cons m_I_within (consOK_nil rfl)) Try.func84 (h := h_I_isTrustee) (by kernel_rfl) eq_I_isTrustee

/-- slices_IndexFunc_sint_int -/
def pk_slices_IndexFunc_sint_int : List PK := [.data (.sl (.int .i64)), .fn [(.int .i64)] .bool]
def rk_slices_IndexFunc_sint_int : List (Ty × Bool) := [((.int .i64), false)]
def h_slices_IndexFunc_sint_int : Hints := { loops := [(0, { items := [.slot 8 (.data (.int .i64) [])], kill := [2, 3, 4, 5, 6, 9, 10, 11, 12, 13, 14, 15, 16, 17, 18] })] }
noncomputable def M_slices_IndexFunc_sint_int (x : ((List Int) × (Int → (Option Bool)))) : (Option Int) :=
  (loopO (fun (again0 : (Int → (Option Int))) => (fun (s1 : Int) => (cond (decide (s1 < (((List.length x.1) : Nat) : Int))) (bindO (getI x.1 s1) (fun (a2 : Int) => (bindO (x.2 a2) (fun (a3 : Bool) => (cond a3 (some s1) (bindO (some (IntKind.wrap .i64 (s1 + (1 : Int)))) (fun (a4 : Int) => (again0 a4)))))))) (some (- (1 : Int)))))) (0 : Int))

noncomputable def c_slices_IndexFunc_sint_int : Con0 := ⟨pk_slices_IndexFunc_sint_int, rk_slices_IndexFunc_sint_int, M_slices_IndexFunc_sint_int⟩

set_option maxRecDepth 100000 in
theorem eq_slices_IndexFunc_sint_int (x : In pk_slices_IndexFunc_sint_int) : semF (mkE []) h_slices_IndexFunc_sint_int (info Try.f144) pk_slices_IndexFunc_sint_int rk_slices_IndexFunc_sint_int x = M_slices_IndexFunc_sint_int x := by kernel_rfl

set_option maxRecDepth 100000 in
theorem m_slices_IndexFunc_sint_int : ConOK Try.prog 144 c_slices_IndexFunc_sint_int := fn_ok (tyOK _) (E := mkE []) (consOK_nil rfl) Try.func144 (h := h_slices_IndexFunc_sint_int) (by kernel_rfl) eq_slices_IndexFunc_sint_int

/-- slices_ContainsFunc_sint_int -/
def pk_slices_ContainsFunc_sint_int : List PK := [.data (.sl (.int .i64)), .fn [(.int .i64)] .bool]
def rk_slices_ContainsFunc_sint_int : List (Ty × Bool) := [(.bool, false)]
def h_slices_ContainsFunc_sint_int : Hints := { loops := [] }
noncomputable def M_slices_ContainsFunc_sint_int (x : ((List Int) × (Int → (Option Bool)))) : (Option Bool) :=
  (bindO (M_slices_IndexFunc_sint_int (x.1, x.2)) (fun (a0 : Int) => (some (decide (a0 ≥ (0 : Int))))))

noncomputable def c_slices_ContainsFunc_sint_int : Con0 := ⟨pk_slices_ContainsFunc_sint_int, rk_slices_ContainsFunc_sint_int, M_slices_ContainsFunc_sint_int⟩

set_option maxRecDepth 100000 in
theorem eq_slices_ContainsFunc_sint_int (x : In pk_slices_ContainsFunc_sint_int) : semF (mkE [(144, c_slices_IndexFunc_sint_int)]) h_slices_ContainsFunc_sint_int (info Try.f130) pk_slices_ContainsFunc_sint_int rk_slices_ContainsFunc_sint_int x = M_slices_ContainsFunc_sint_int x := by kernel_rfl

set_option maxRecDepth 100000 in
theorem m_slices_ContainsFunc_sint_int : ConOK Try.prog 130 c_slices_ContainsFunc_sint_int := fn_ok (tyOK _) (E := mkE [(144, c_slices_IndexFunc_sint_int)]) (consOK_cons m_slices_IndexFunc_sint_int (consOK_nil rfl)) Try.func130 (h := h_slices_ContainsFunc_sint_int) (by kernel_rfl) eq_slices_ContainsFunc_sint_int

/-- I_areAll_1 -/
def pk_I_areAll_1 : List PK := [.data (.int .i64), .rfn [(.int .i64)] .bool]
def rk_I_areAll_1 : List (Ty × Bool) := [(.bool, false)]
def h_I_areAll_1 : Hints := { loops := [] }
noncomputable def M_I_areAll_1 (x : (Int × (Int → (Option Bool)))) : (Option Bool) :=
  (bindO (x.2 x.1) (fun (a0 : Bool) => (some (not a0))))

noncomputable def c_I_areAll_1 : Con0 := ⟨pk_I_areAll_1, rk_I_areAll_1, M_I_areAll_1⟩

set_option maxRecDepth 100000 in
theorem eq_I_areAll_1 (x : In pk_I_areAll_1) : semF (mkE []) h_I_areAll_1 (info Try.f131) pk_I_areAll_1 rk_I_areAll_1 x = M_I_areAll_1 x := by kernel_rfl

set_option maxRecDepth 100000 in
theorem m_I_areAll_1 : ConOK Try.prog 131 c_I_areAll_1 := fn_ok (tyOK _) (E := mkE []) (consOK_nil rfl) Try.func131 (h := h_I_areAll_1) (by kernel_rfl) eq_I_areAll_1

/-- I_areAll -/
def pk_I_areAll : List PK := [.data (.sl (.int .i64)), .fn [(.int .i64)] .bool]
def rk_I_areAll : List (Ty × Bool) := [(.bool, false)]
def h_I_areAll : Hints := { loops := [] }
noncomputable def M_I_areAll (x : ((List Int) × (Int → (Option Bool)))) : (Option Bool) :=
  (bindO (M_slices_ContainsFunc_sint_int (x.1, (fun (a0 : Int) => (bindO (M_I_areAll_1 (a0, x.2)) (fun (a1 : Bool) => (some a1)))))) (fun (a2 : Bool) => (some (not a2))))

noncomputable def c_I_areAll : Con0 := ⟨pk_I_areAll, rk_I_areAll, M_I_areAll⟩

set_option maxRecDepth 100000 in
theorem eq_I_areAll (x : In pk_I_areAll) : semF (mkE [(130, c_slices_ContainsFunc_sint_int), (131, c_I_areAll_1)]) h_I_areAll (info Try.f102) pk_I_areAll rk_I_areAll x = M_I_areAll x := by kernel_rfl

set_option maxRecDepth 100000 in
theorem m_I_areAll : ConOK Try.prog 102 c_I_areAll := fn_ok (tyOK _) (E := mkE [(130, c_slices_ContainsFunc_sint_int), (131, c_I_areAll_1)]) (consOK_cons m_slices_ContainsFunc_sint_int (consOK_cons m_I_areAll_1 (consOK_nil rfl))) Try.func102 (h := h_I_areAll) (by kernel_rfl) eq_I_areAll

/-- I_Group_isExp -/
def pk_I_Group_isExp : List PK := [.data (.cons (.int .i64) (.cons (.int .i64) (.one (.int .i64)))), .data (.int .i64)]
def rk_I_Group_isExp : List (Ty × Bool) := [(.bool, false)]
def h_I_Group_isExp : Hints := { loops := [] }
noncomputable def M_I_Group_isExp (x : ((Int × (Int × Int)) × Int)) : (Option Bool) :=
  (bindO (some (IntKind.wrap .i64 (x.1.2.1 - (1 : Int)))) (fun (a0 : Int) => (bindO (M_I_within (x.2, ((0 : Int), a0))) (fun (a1 : Bool) => (some a1)))))

noncomputable def c_I_Group_isExp : Con0 := ⟨pk_I_Group_isExp, rk_I_Group_isExp, M_I_Group_isExp⟩

set_option maxRecDepth 100000 in
theorem eq_I_Group_isExp (x : In pk_I_Group_isExp) : semF (mkE [(110, c_I_within)]) h_I_Group_isExp (info Try.f103) pk_I_Group_isExp rk_I_Group_isExp x = M_I_Group_isExp x := by kernel_rfl

set_option maxRecDepth 100000 in
theorem m_I_Group_isExp : ConOK Try.prog 103 c_I_Group_isExp := fn_ok (tyOK _) (E := mkE [(110, c_I_within)]) (consOK_cons m_I_within (consOK_nil rfl)) Try.func103 (h := h_I_Group_isExp) (by kernel_rfl) eq_I_Group_isExp

/-- I_Group_areExps -/
def pk_I_Group_areExps : List PK := [.data (.cons (.int .i64) (.cons (.int .i64) (.one (.int .i64)))), .data (.sl (.int .i64))]
def rk_I_Group_areExps : List (Ty × Bool) := [(.bool, false)]
def h_I_Group_areExps : Hints := { loops := [] }
noncomputable def M_I_Group_areExps (x : ((Int × (Int × Int)) × (List Int))) : (Option Bool) :=
  (bindO (M_I_areAll (x.2, (fun (a0 : Int) => (bindO (M_I_Group_isExp ((x.1.1, (x.1.2.1, x.1.2.2)), a0)) (fun (a1 : Bool) => (some a1)))))) (fun (a2 : Bool) => (some a2)))

noncomputable def c_I_Group_areExps : Con0 := ⟨pk_I_Group_areExps, rk_I_Group_areExps, M_I_Group_areExps⟩

set_option maxRecDepth 100000 in
theorem eq_I_Group_areExps (x : In pk_I_Group_areExps) : semF (mkE [(102, c_I_areAll), (103, c_I_Group_isExp)]) h_I_Group_areExps (info Try.f55) pk_I_Group_areExps rk_I_Group_areExps x = M_I_Group_areExps x := by kernel_rfl

set_option maxRecDepth 100000 in
theorem m_I_Group_areExps : ConOK Try.prog 55 c_I_Group_areExps := fn_ok (tyOK _) (E := mkE [(102, c_I_areAll), (103, c_I_Group_isExp)]) (consOK_cons m_I_areAll (consOK_cons m_I_Group_isExp (consOK_nil rfl))) Try.func55 (h := h_I_Group_areExps) (by kernel_rfl) eq_I_Group_areExps

/-- I_mod -/
def pk_I_mod : List PK := [.data (.int .i64), .data (.int .i64)]
def rk_I_mod : List (Ty × Bool) := [((.int .i64), false)]
def h_I_mod : Hints := { loops := [] }
noncomputable def M_I_mod (x : (Int × Int)) : (Option Int) :=
  (bindO (guardO (x.2 != (0 : Int))) (fun (a0 : Unit) => (bindO (some (Int.tmod x.1 x.2)) (fun (a1 : Int) => (bindO (some (IntKind.wrap .i64 (a1 + x.2))) (fun (a2 : Int) => (bindO (guardO (x.2 != (0 : Int))) (fun (a3 : Unit) => (bindO (some (Int.tmod a2 x.2)) (fun (a4 : Int) => (some a4)))))))))))

noncomputable def c_I_mod : Con0 := ⟨pk_I_mod, rk_I_mod, M_I_mod⟩

set_option maxRecDepth 100000 in
theorem eq_I_mod (x : In pk_I_mod) : semF (mkE []) h_I_mod (info Try.f108) pk_I_mod rk_I_mod x = M_I_mod x := by kernel_rfl

set_option maxRecDepth 100000 in
theorem m_I_mod : ConOK Try.prog 108 c_I_mod := fn_ok (tyOK _) (E := mkE []) (consOK_nil rfl) Try.func108 (h := h_I_mod) (by kernel_rfl) eq_I_mod

/-- I_Group_pow -/
def pk_I_Group_pow : List PK := [.data (.cons (.int .i64) (.cons (.int .i64) (.one (.int .i64)))), .data (.int .i64), .data (.int .i64)]
def rk_I_Group_pow : List (Ty × Bool) := [((.int .i64), false)]
def h_I_Group_pow : Hints := { loops := [] }
noncomputable def M_I_Group_pow (x : ((Int × (Int × Int)) × (Int × Int))) : (Option Int) :=
  (bindO (M_I_mod (x.2.2, x.1.2.1)) (fun (a0 : Int) => (bindO (M_I_power (x.2.1, (a0, x.1.1))) (fun (a1 : Int) => (some a1)))))

noncomputable def c_I_Group_pow : Con0 := ⟨pk_I_Group_pow, rk_I_Group_pow, M_I_Group_pow⟩

set_option maxRecDepth 100000 in
theorem eq_I_Group_pow (x : In pk_I_Group_pow) : semF (mkE [(108, c_I_mod), (107, c_I_power)]) h_I_Group_pow (info Try.f60) pk_I_Group_pow rk_I_Group_pow x = M_I_Group_pow x := by kernel_rfl

set_option maxRecDepth 100000 in
theorem m_I_Group_pow : ConOK Try.prog 60 c_I_Group_pow := fn_ok (tyOK _) (E := mkE [(108, c_I_mod), (107, c_I_power)]) (consOK_cons m_I_mod (consOK_cons m_I_power (consOK_nil rfl))) Try.func60 (h := h_I_Group_pow) (by kernel_rfl) eq_I_Group_pow

/-- I_Group_powCipher -/
def pk_I_Group_powCipher : List PK := [.data (.cons (.int .i64) (.cons (.int .i64) (.one (.int .i64)))), .data (.cons (.int .i64) (.one (.int .i64))), .data (.int .i64)]
def rk_I_Group_powCipher : List (Ty × Bool) := [((.cons (.int .i64) (.one (.int .i64))), false)]
def h_I_Group_powCipher : Hints := { loops := [] }
noncomputable def M_I_Group_powCipher (x : ((Int × (Int × Int)) × ((Int × Int) × Int))) : (Option (Int × Int)) :=
  (bindO (M_I_Group_pow ((x.1.1, (x.1.2.1, x.1.2.2)), (x.2.1.1, x.2.2))) (fun (a0 : Int) => (bindO (M_I_Group_pow ((x.1.1, (x.1.2.1, x.1.2.2)), (x.2.1.2, x.2.2))) (fun (a1 : Int) => (some (a0, a1))))))

noncomputable def c_I_Group_powCipher : Con0 := ⟨pk_I_Group_powCipher, rk_I_Group_powCipher, M_I_Group_powCipher⟩

set_option maxRecDepth 100000 in
theorem eq_I_Group_powCipher (x : In pk_I_Group_powCipher) : semF (mkE [(60, c_I_Group_pow)]) h_I_Group_powCipher (info Try.f85) pk_I_Group_powCipher rk_I_Group_powCipher x = M_I_Group_powCipher x := by kernel_rfl

set_option maxRecDepth 100000 in
theorem m_I_Group_powCipher : ConOK Try.prog 85 c_I_Group_powCipher := fn_ok (tyOK _) (E := mkE [(60, c_I_Group_pow)]) (consOK_cons m_I_Group_pow (consOK_nil rfl)) Try.func85 (h := h_I_Group_powCipher) (by kernel_rfl) eq_I_Group_powCipher

/-- I_blindStatement -/
def pk_I_blindStatement : List PK := [.data (.cons (.int .i64) (.one (.int .i64))), .data (.cons (.int .i64) (.one (.int .i64)))]
def rk_I_blindStatement : List (Ty × Bool) := [((.cons (.int .i64) (.cons (.int .i64) (.cons (.int .i64) (.one (.int .i64))))), false)]
def h_I_blindStatement : Hints := { loops := [] }
noncomputable def M_I_blindStatement (x : ((Int × Int) × (Int × Int))) : (Option (Int × (Int × (Int × Int)))) :=
  (some (x.1.1, (x.2.1, (x.1.2, x.2.2))))

noncomputable def c_I_blindStatement : Con0 := ⟨pk_I_blindStatement, rk_I_blindStatement, M_I_blindStatement⟩

set_option maxRecDepth 100000 in
theorem eq_I_blindStatement (x : In pk_I_blindStatement) : semF (mkE []) h_I_blindStatement (info Try.f87) pk_I_blindStatement rk_I_blindStatement x = M_I_blindStatement x := by kernel_rfl

set_option maxRecDepth 100000 in
theorem m_I_blindStatement : ConOK Try.prog 87 c_I_blindStatement := fn_ok (tyOK _) (E := mkE []) (consOK_nil rfl) Try.func87 (h := h_I_blindStatement) (by kernel_rfl) eq_I_blindStatement

/-- I_Group_hasAll -/
def pk_I_Group_hasAll : List PK := [.data (.cons (.int .i64) (.cons (.int .i64) (.one (.int .i64)))), .data (.sl (.int .i64))]
def rk_I_Group_hasAll : List (Ty × Bool) := [(.bool, false)]
def h_I_Group_hasAll : Hints := { loops := [] }
noncomputable def M_I_Group_hasAll (x : ((Int × (Int × Int)) × (List Int))) : (Option Bool) :=
  (bindO (M_I_areAll (x.2, (fun (a0 : Int) => (bindO (M_I_Group_has ((x.1.1, (x.1.2.1, x.1.2.2)), a0)) (fun (a1 : Bool) => (some a1)))))) (fun (a2 : Bool) => (some a2)))

noncomputable def c_I_Group_hasAll : Con0 := ⟨pk_I_Group_hasAll, rk_I_Group_hasAll, M_I_Group_hasAll⟩

set_option maxRecDepth 100000 in
theorem eq_I_Group_hasAll (x : In pk_I_Group_hasAll) : semF (mkE [(102, c_I_areAll), (68, c_I_Group_has)]) h_I_Group_hasAll (info Try.f54) pk_I_Group_hasAll rk_I_Group_hasAll x = M_I_Group_hasAll x := by kernel_rfl

set_option maxRecDepth 100000 in
theorem m_I_Group_hasAll : ConOK Try.prog 54 c_I_Group_hasAll := fn_ok (tyOK _) (E := mkE [(102, c_I_areAll), (68, c_I_Group_has)]) (consOK_cons m_I_areAll (consOK_cons m_I_Group_has (consOK_nil rfl))) Try.func54 (h := h_I_Group_hasAll) (by kernel_rfl) eq_I_Group_hasAll

/-- I_Group_hasEqual -/
def pk_I_Group_hasEqual : List PK := [.data (.cons (.int .i64) (.cons (.int .i64) (.one (.int .i64)))), .data (.cons (.int .i64) (.cons (.int .i64) (.cons (.int .i64) (.one (.int .i64)))))]
def rk_I_Group_hasEqual : List (Ty × Bool) := [(.bool, false)]
def h_I_Group_hasEqual : Hints := { loops := [] }
noncomputable def M_I_Group_hasEqual (x : ((Int × (Int × Int)) × (Int × (Int × (Int × Int))))) : (Option Bool) :=
  (bindO (M_I_Group_hasAll ((x.1.1, (x.1.2.1, x.1.2.2)), (x.2.1 :: (x.2.2.1 :: (x.2.2.2.1 :: (x.2.2.2.2 :: ([] : List Int))))))) (fun (a0 : Bool) => (some a0)))

noncomputable def c_I_Group_hasEqual : Con0 := ⟨pk_I_Group_hasEqual, rk_I_Group_hasEqual, M_I_Group_hasEqual⟩

set_option maxRecDepth 100000 in
theorem eq_I_Group_hasEqual (x : In pk_I_Group_hasEqual) : semF (mkE [(54, c_I_Group_hasAll)]) h_I_Group_hasEqual (info Try.f138) pk_I_Group_hasEqual rk_I_Group_hasEqual x = M_I_Group_hasEqual x := by kernel_rfl

set_option maxRecDepth 100000 in
theorem m_I_Group_hasEqual : ConOK Try.prog 138 c_I_Group_hasEqual := fn_ok (tyOK _) (E := mkE [(54, c_I_Group_hasAll)]) (consOK_cons m_I_Group_hasAll (consOK_nil rfl)) Try.func138 (h := h_I_Group_hasEqual) (by kernel_rfl) eq_I_Group_hasEqual

/-- I_Group_isTrue -/
def pk_I_Group_isTrue : List PK := [.data (.cons (.int .i64) (.cons (.int .i64) (.one (.int .i64)))), .data (.cons (.int .i64) (.cons (.int .i64) (.cons (.int .i64) (.one (.int .i64))))), .data (.int .i64)]
def rk_I_Group_isTrue : List (Ty × Bool) := [(.bool, false)]
def h_I_Group_isTrue : Hints := { loops := [] }
noncomputable def M_I_Group_isTrue (x : ((Int × (Int × Int)) × ((Int × (Int × (Int × Int))) × Int))) : (Option Bool) :=
  (bindO (M_I_Group_pow ((x.1.1, (x.1.2.1, x.1.2.2)), (x.2.1.1, x.2.2))) (fun (a0 : Int) => (cond (a0 == x.2.1.2.1) (bindO (M_I_Group_pow ((x.1.1, (x.1.2.1, x.1.2.2)), (x.2.1.2.2.1, x.2.2))) (fun (a1 : Int) => (some (a1 == x.2.1.2.2.2)))) (some false))))

noncomputable def c_I_Group_isTrue : Con0 := ⟨pk_I_Group_isTrue, rk_I_Group_isTrue, M_I_Group_isTrue⟩

set_option maxRecDepth 100000 in
theorem eq_I_Group_isTrue (x : In pk_I_Group_isTrue) : semF (mkE [(60, c_I_Group_pow)]) h_I_Group_isTrue (info Try.f139) pk_I_Group_isTrue rk_I_Group_isTrue x = M_I_Group_isTrue x := by kernel_rfl

set_option maxRecDepth 100000 in
theorem m_I_Group_isTrue : ConOK Try.prog 139 c_I_Group_isTrue := fn_ok (tyOK _) (E := mkE [(60, c_I_Group_pow)]) (consOK_cons m_I_Group_pow (consOK_nil rfl)) Try.func139 (h := h_I_Group_isTrue) (by kernel_rfl) eq_I_Group_isTrue

/-- I_IsTrueEqual -/
def pk_I_IsTrueEqual : List PK := [.data (.cons (.int .i64) (.cons (.int .i64) (.one (.int .i64)))), .data (.cons (.int .i64) (.cons (.int .i64) (.cons (.int .i64) (.one (.int .i64))))), .data (.int .i64)]
def rk_I_IsTrueEqual : List (Ty × Bool) := [(.bool, false), (.bool, false)]
def h_I_IsTrueEqual : Hints := { loops := [] }
noncomputable def M_I_IsTrueEqual (x : ((Int × (Int × Int)) × ((Int × (Int × (Int × Int))) × Int))) : (Option (Bool × Bool)) :=
  (bindO (M_I_IsValidGroup (x.1.1, (x.1.2.1, x.1.2.2))) (fun (a0 : Bool) => (cond (not a0) (some (false, false)) (bindO (M_I_Group_hasEqual ((x.1.1, (x.1.2.1, x.1.2.2)), (x.2.1.1, (x.2.1.2.1, (x.2.1.2.2.1, x.2.1.2.2.2))))) (fun (a1 : Bool) => (cond (not a1) (some (false, false)) (bindO (M_I_Group_isExp ((x.1.1, (x.1.2.1, x.1.2.2)), x.2.2)) (fun (a2 : Bool) => (cond (not a2) (some (false, false)) (bindO (M_I_Group_isTrue ((x.1.1, (x.1.2.1, x.1.2.2)), ((x.2.1.1, (x.2.1.2.1, (x.2.1.2.2.1, x.2.1.2.2.2))), x.2.2))) (fun (a3 : Bool) => (some (a3, true)))))))))))))

noncomputable def c_I_IsTrueEqual : Con0 := ⟨pk_I_IsTrueEqual, rk_I_IsTrueEqual, M_I_IsTrueEqual⟩

set_option maxRecDepth 100000 in
theorem eq_I_IsTrueEqual (x : In pk_I_IsTrueEqual) : semF (mkE [(67, c_I_IsValidGroup), (138, c_I_Group_hasEqual), (103, c_I_Group_isExp), (139, c_I_Group_isTrue)]) h_I_IsTrueEqual (info Try.f119) pk_I_IsTrueEqual rk_I_IsTrueEqual x = M_I_IsTrueEqual x := by kernel_rfl

set_option maxRecDepth 100000 in
theorem m_I_IsTrueEqual : ConOK Try.prog 119 c_I_IsTrueEqual := fn_ok (tyOK _) (E := mkE [(67, c_I_IsValidGroup), (138, c_I_Group_hasEqual), (103, c_I_Group_isExp), (139, c_I_Group_isTrue)]) (consOK_cons m_I_IsValidGroup (consOK_cons m_I_Group_hasEqual (consOK_cons m_I_Group_isExp (consOK_cons m_I_Group_isTrue (consOK_nil rfl))))) Try.func119 (h := h_I_IsTrueEqual) (by kernel_rfl) eq_I_IsTrueEqual

/-- I_equalRows -/
def pk_I_equalRows : List PK := [.data (.cons (.int .i64) (.cons (.int .i64) (.cons (.int .i64) (.one (.int .i64)))))]
def rk_I_equalRows : List (Ty × Bool) := [((.sl (.sl (.int .i64))), false)]
def h_I_equalRows : Hints := { loops := [] }
noncomputable def M_I_equalRows (x : (Int × (Int × (Int × Int)))) : (Option (List (List Int))) :=
  (some ((x.1 :: ([] : List Int)) :: ((x.2.2.1 :: ([] : List Int)) :: ([] : List (List Int)))))

noncomputable def c_I_equalRows : Con0 := ⟨pk_I_equalRows, rk_I_equalRows, M_I_equalRows⟩

set_option maxRecDepth 100000 in
theorem eq_I_equalRows (x : In pk_I_equalRows) : semF (mkE []) h_I_equalRows (info Try.f113) pk_I_equalRows rk_I_equalRows x = M_I_equalRows x := by kernel_rfl

set_option maxRecDepth 100000 in
theorem m_I_equalRows : ConOK Try.prog 113 c_I_equalRows := fn_ok (tyOK _) (E := mkE []) (consOK_nil rfl) Try.func113 (h := h_I_equalRows) (by kernel_rfl) eq_I_equalRows

/-- I_isLabel -/
def pk_I_isLabel : List PK := [.data .str]
def rk_I_isLabel : List (Ty × Bool) := [(.bool, false)]
def h_I_isLabel : Hints := { loops := [] }
noncomputable def M_I_isLabel (x : ByteArray) : (Option Bool) :=
  (some (decide ((((ByteArray.size x) : Nat) : Int) ≤ (40 : Int))))

noncomputable def c_I_isLabel : Con0 := ⟨pk_I_isLabel, rk_I_isLabel, M_I_isLabel⟩

set_option maxRecDepth 100000 in
theorem eq_I_isLabel (x : In pk_I_isLabel) : semF (mkE []) h_I_isLabel (info Try.f75) pk_I_isLabel rk_I_isLabel x = M_I_isLabel x := by kernel_rfl

set_option maxRecDepth 100000 in
theorem m_I_isLabel : ConOK Try.prog 75 c_I_isLabel := fn_ok (tyOK _) (E := mkE []) (consOK_nil rfl) Try.func75 (h := h_I_isLabel) (by kernel_rfl) eq_I_isLabel

/-- slices_IndexFunc_ssint_sint -/
def pk_slices_IndexFunc_ssint_sint : List PK := [.data (.sl (.sl (.int .i64))), .fn [(.sl (.int .i64))] .bool]
def rk_slices_IndexFunc_ssint_sint : List (Ty × Bool) := [((.int .i64), false)]
def h_slices_IndexFunc_ssint_sint : Hints := { loops := [(0, { items := [.slot 8 (.data (.int .i64) [])], kill := [2, 3, 4, 5, 6, 9, 10, 11, 12, 13, 14, 15, 16, 17, 18] })] }
noncomputable def M_slices_IndexFunc_ssint_sint (x : ((List (List Int)) × ((List Int) → (Option Bool)))) : (Option Int) :=
  (loopO (fun (again0 : (Int → (Option Int))) => (fun (s1 : Int) => (cond (decide (s1 < (((List.length x.1) : Nat) : Int))) (bindO (getI x.1 s1) (fun (a2 : (List Int)) => (bindO (x.2 a2) (fun (a3 : Bool) => (cond a3 (some s1) (bindO (some (IntKind.wrap .i64 (s1 + (1 : Int)))) (fun (a4 : Int) => (again0 a4)))))))) (some (- (1 : Int)))))) (0 : Int))

noncomputable def c_slices_IndexFunc_ssint_sint : Con0 := ⟨pk_slices_IndexFunc_ssint_sint, rk_slices_IndexFunc_ssint_sint, M_slices_IndexFunc_ssint_sint⟩

set_option maxRecDepth 100000 in
theorem eq_slices_IndexFunc_ssint_sint (x : In pk_slices_IndexFunc_ssint_sint) : semF (mkE []) h_slices_IndexFunc_ssint_sint (info Try.f152) pk_slices_IndexFunc_ssint_sint rk_slices_IndexFunc_ssint_sint x = M_slices_IndexFunc_ssint_sint x := by kernel_rfl

set_option maxRecDepth 100000 in
theorem m_slices_IndexFunc_ssint_sint : ConOK Try.prog 152 c_slices_IndexFunc_ssint_sint := fn_ok (tyOK _) (E := mkE []) (consOK_nil rfl) Try.func152 (h := h_slices_IndexFunc_ssint_sint) (by kernel_rfl) eq_slices_IndexFunc_ssint_sint

/-- slices_ContainsFunc_ssint_sint -/
def pk_slices_ContainsFunc_ssint_sint : List PK := [.data (.sl (.sl (.int .i64))), .fn [(.sl (.int .i64))] .bool]
def rk_slices_ContainsFunc_ssint_sint : List (Ty × Bool) := [(.bool, false)]
def h_slices_ContainsFunc_ssint_sint : Hints := { loops := [] }
noncomputable def M_slices_ContainsFunc_ssint_sint (x : ((List (List Int)) × ((List Int) → (Option Bool)))) : (Option Bool) :=
  (bindO (M_slices_IndexFunc_ssint_sint (x.1, x.2)) (fun (a0 : Int) => (some (decide (a0 ≥ (0 : Int))))))

noncomputable def c_slices_ContainsFunc_ssint_sint : Con0 := ⟨pk_slices_ContainsFunc_ssint_sint, rk_slices_ContainsFunc_ssint_sint, M_slices_ContainsFunc_ssint_sint⟩

set_option maxRecDepth 100000 in
theorem eq_slices_ContainsFunc_ssint_sint (x : In pk_slices_ContainsFunc_ssint_sint) : semF (mkE [(152, c_slices_IndexFunc_ssint_sint)]) h_slices_ContainsFunc_ssint_sint (info Try.f147) pk_slices_ContainsFunc_ssint_sint rk_slices_ContainsFunc_ssint_sint x = M_slices_ContainsFunc_ssint_sint x := by kernel_rfl

set_option maxRecDepth 100000 in
theorem m_slices_ContainsFunc_ssint_sint : ConOK Try.prog 147 c_slices_ContainsFunc_ssint_sint := fn_ok (tyOK _) (E := mkE [(152, c_slices_IndexFunc_ssint_sint)]) (consOK_cons m_slices_IndexFunc_ssint_sint (consOK_nil rfl)) Try.func147 (h := h_slices_ContainsFunc_ssint_sint) (by kernel_rfl) eq_slices_ContainsFunc_ssint_sint

/-- I_Group_areRows_1 -/
def pk_I_Group_areRows_1 : List PK := [.data (.sl (.int .i64)), .rp (.sl (.sl (.int .i64))), .rp (.cons (.int .i64) (.cons (.int .i64) (.one (.int .i64))))]
def rk_I_Group_areRows_1 : List (Ty × Bool) := [(.bool, false)]
def h_I_Group_areRows_1 : Hints := { loops := [] }
noncomputable def M_I_Group_areRows_1 (x : ((List Int) × ((List (List Int)) × (Int × (Int × Int))))) : (Option Bool) :=
  (bindO (getI x.2.1 (0 : Int)) (fun (a0 : (List Int)) => (cond ((((List.length x.1) : Nat) : Int) != (((List.length a0) : Nat) : Int)) (some true) (bindO (M_I_Group_hasAll ((x.2.2.1, (x.2.2.2.1, x.2.2.2.2)), x.1)) (fun (a1 : Bool) => (some (not a1)))))))

noncomputable def c_I_Group_areRows_1 : Con0 := ⟨pk_I_Group_areRows_1, rk_I_Group_areRows_1, M_I_Group_areRows_1⟩

set_option maxRecDepth 100000 in
theorem eq_I_Group_areRows_1 (x : In pk_I_Group_areRows_1) : semF (mkE [(54, c_I_Group_hasAll)]) h_I_Group_areRows_1 (info Try.f148) pk_I_Group_areRows_1 rk_I_Group_areRows_1 x = M_I_Group_areRows_1 x := by kernel_rfl

set_option maxRecDepth 100000 in
theorem m_I_Group_areRows_1 : ConOK Try.prog 148 c_I_Group_areRows_1 := fn_ok (tyOK _) (E := mkE [(54, c_I_Group_hasAll)]) (consOK_cons m_I_Group_hasAll (consOK_nil rfl)) Try.func148 (h := h_I_Group_areRows_1) (by kernel_rfl) eq_I_Group_areRows_1

/-- I_Group_areRows -/
def pk_I_Group_areRows : List PK := [.data (.cons (.int .i64) (.cons (.int .i64) (.one (.int .i64)))), .data (.sl (.sl (.int .i64)))]
def rk_I_Group_areRows : List (Ty × Bool) := [(.bool, false)]
def h_I_Group_areRows : Hints := { loops := [] }
noncomputable def M_I_Group_areRows (x : ((Int × (Int × Int)) × (List (List Int)))) : (Option Bool) :=
  (bindO (M_I_within ((((List.length x.2) : Nat) : Int), ((1 : Int), (8 : Int)))) (fun (a0 : Bool) => (cond (not a0) (some false) (bindO (getI x.2 (0 : Int)) (fun (a1 : (List Int)) => (bindO (M_I_within ((((List.length a1) : Nat) : Int), ((1 : Int), (8 : Int)))) (fun (a2 : Bool) => (cond (not a2) (some false) (bindO (M_slices_ContainsFunc_ssint_sint (x.2, (fun (a3 : (List Int)) => (bindO (M_I_Group_areRows_1 (a3, (x.2, (x.1.1, (x.1.2.1, x.1.2.2))))) (fun (a4 : Bool) => (some a4)))))) (fun (a5 : Bool) => (some (not a5))))))))))))

noncomputable def c_I_Group_areRows : Con0 := ⟨pk_I_Group_areRows, rk_I_Group_areRows, M_I_Group_areRows⟩

set_option maxRecDepth 100000 in
theorem eq_I_Group_areRows (x : In pk_I_Group_areRows) : semF (mkE [(110, c_I_within), (147, c_slices_ContainsFunc_ssint_sint), (148, c_I_Group_areRows_1)]) h_I_Group_areRows (info Try.f136) pk_I_Group_areRows rk_I_Group_areRows x = M_I_Group_areRows x := by kernel_rfl

set_option maxRecDepth 100000 in
theorem m_I_Group_areRows : ConOK Try.prog 136 c_I_Group_areRows := fn_ok (tyOK _) (E := mkE [(110, c_I_within), (147, c_slices_ContainsFunc_ssint_sint), (148, c_I_Group_areRows_1)]) (consOK_cons m_I_within (consOK_cons m_slices_ContainsFunc_ssint_sint (consOK_cons m_I_Group_areRows_1 (consOK_nil rfl)))) Try.func136 (h := h_I_Group_areRows) (by kernel_rfl) eq_I_Group_areRows

/-- I_Group_mul -/
def pk_I_Group_mul : List PK := [.data (.cons (.int .i64) (.cons (.int .i64) (.one (.int .i64)))), .data (.sl (.int .i64))]
def rk_I_Group_mul : List (Ty × Bool) := [((.int .i64), false)]
def h_I_Group_mul : Hints := { loops := [(0, { items := [.slot 5 (.data (.int .i64) []), .slot 10 (.data (.int .i64) [])], kill := [0, 1, 3, 4, 6, 7, 11, 12, 13, 14, 15, 16, 17, 18, 19, 20, 21] })] }
noncomputable def M_I_Group_mul (x : ((Int × (Int × Int)) × (List Int))) : (Option Int) :=
  (loopO (fun (again0 : ((Int × Int) → (Option Int))) => (fun (s1 : (Int × Int)) => (cond (decide (s1.2 < (((List.length x.2) : Nat) : Int))) (bindO (getI x.2 s1.2) (fun (a2 : Int) => (bindO (some (IntKind.wrap .i64 (s1.1 * a2))) (fun (a3 : Int) => (bindO (guardO (x.1.1 != (0 : Int))) (fun (a4 : Unit) => (bindO (some (Int.tmod a3 x.1.1)) (fun (a5 : Int) => (bindO (some (IntKind.wrap .i64 (s1.2 + (1 : Int)))) (fun (a6 : Int) => (again0 (a5, a6)))))))))))) (some s1.1)))) ((1 : Int), (0 : Int)))

noncomputable def c_I_Group_mul : Con0 := ⟨pk_I_Group_mul, rk_I_Group_mul, M_I_Group_mul⟩

set_option maxRecDepth 100000 in
theorem eq_I_Group_mul (x : In pk_I_Group_mul) : semF (mkE []) h_I_Group_mul (info Try.f61) pk_I_Group_mul rk_I_Group_mul x = M_I_Group_mul x := by kernel_rfl

set_option maxRecDepth 100000 in
theorem m_I_Group_mul : ConOK Try.prog 61 c_I_Group_mul := fn_ok (tyOK _) (E := mkE []) (consOK_nil rfl) Try.func61 (h := h_I_Group_mul) (by kernel_rfl) eq_I_Group_mul

/-- I_Group_powers -/
def pk_I_Group_powers : List PK := [.data (.cons (.int .i64) (.cons (.int .i64) (.one (.int .i64)))), .data (.sl (.int .i64)), .data (.sl (.int .i64))]
def rk_I_Group_powers : List (Ty × Bool) := [((.int .i64), false)]
def h_I_Group_powers : Hints := { loops := [(0, { items := [.slot 7 (.data (.int .i64) []), .slot 12 (.data (.int .i64) [])], kill := [0, 1, 4, 5, 6, 8, 9, 13, 14, 15, 16, 17, 18, 19, 20, 21, 22, 23, 24, 25, 26, 27, 28, 29] })] }
noncomputable def M_I_Group_powers (x : ((Int × (Int × Int)) × ((List Int) × (List Int)))) : (Option Int) :=
  (loopO (fun (again0 : ((Int × Int) → (Option Int))) => (fun (s1 : (Int × Int)) => (cond (decide (s1.2 < (((List.length x.2.1) : Nat) : Int))) (bindO (getI x.2.1 s1.2) (fun (a2 : Int) => (bindO (getI x.2.2 s1.2) (fun (a3 : Int) => (bindO (M_I_Group_pow ((x.1.1, (x.1.2.1, x.1.2.2)), (a2, a3))) (fun (a4 : Int) => (bindO (M_I_Group_mul ((x.1.1, (x.1.2.1, x.1.2.2)), (s1.1 :: (a4 :: ([] : List Int))))) (fun (a5 : Int) => (bindO (some (IntKind.wrap .i64 (s1.2 + (1 : Int)))) (fun (a6 : Int) => (again0 (a5, a6)))))))))))) (some s1.1)))) ((1 : Int), (0 : Int)))

noncomputable def c_I_Group_powers : Con0 := ⟨pk_I_Group_powers, rk_I_Group_powers, M_I_Group_powers⟩

set_option maxRecDepth 100000 in
theorem eq_I_Group_powers (x : In pk_I_Group_powers) : semF (mkE [(60, c_I_Group_pow), (61, c_I_Group_mul)]) h_I_Group_powers (info Try.f153) pk_I_Group_powers rk_I_Group_powers x = M_I_Group_powers x := by kernel_rfl

set_option maxRecDepth 100000 in
theorem m_I_Group_powers : ConOK Try.prog 153 c_I_Group_powers := fn_ok (tyOK _) (E := mkE [(60, c_I_Group_pow), (61, c_I_Group_mul)]) (consOK_cons m_I_Group_pow (consOK_cons m_I_Group_mul (consOK_nil rfl))) Try.func153 (h := h_I_Group_powers) (by kernel_rfl) eq_I_Group_powers

/-- I_Group_images -/
def pk_I_Group_images : List PK := [.data (.cons (.int .i64) (.cons (.int .i64) (.one (.int .i64)))), .data (.sl (.sl (.int .i64))), .data (.sl (.int .i64))]
def rk_I_Group_images : List (Ty × Bool) := [((.sl (.int .i64)), true)]
def h_I_Group_images : Hints := { loops := [(0, { items := [.slot 7 (.own (.int .i64) true), .slot 13 (.data (.int .i64) [])], kill := [0, 1, 4, 5, 6, 8, 9, 10, 14, 15, 16, 17, 18, 19, 20, 21, 22, 23, 24, 25] })] }
noncomputable def M_I_Group_images (x : ((Int × (Int × Int)) × ((List (List Int)) × (List Int)))) : (Option (List Int)) :=
  (loopO (fun (again0 : (((List Int) × Int) → (Option (List Int)))) => (fun (s1 : ((List Int) × Int)) => (cond (decide (s1.2 < (((List.length x.2.1) : Nat) : Int))) (bindO (getI x.2.1 s1.2) (fun (a2 : (List Int)) => (bindO (M_I_Group_powers ((x.1.1, (x.1.2.1, x.1.2.2)), (a2, x.2.2))) (fun (a3 : Int) => (bindO (guardO (lenOk ((List.length s1.1) + (List.length (a3 :: ([] : List Int)))))) (fun (a4 : Unit) => (bindO (some (s1.1 ++ (a3 :: ([] : List Int)))) (fun (a5 : (List Int)) => (bindO (some (IntKind.wrap .i64 (s1.2 + (1 : Int)))) (fun (a6 : Int) => (again0 (a5, a6)))))))))))) (some s1.1)))) (([] : List Int), (0 : Int)))

noncomputable def c_I_Group_images : Con0 := ⟨pk_I_Group_images, rk_I_Group_images, M_I_Group_images⟩

set_option maxRecDepth 100000 in
theorem eq_I_Group_images (x : In pk_I_Group_images) : semF (mkE [(153, c_I_Group_powers)]) h_I_Group_images (info Try.f149) pk_I_Group_images rk_I_Group_images x = M_I_Group_images x := by kernel_rfl

set_option maxRecDepth 100000 in
theorem m_I_Group_images : ConOK Try.prog 149 c_I_Group_images := fn_ok (tyOK _) (E := mkE [(153, c_I_Group_powers)]) (consOK_cons m_I_Group_powers (consOK_nil rfl)) Try.func149 (h := h_I_Group_images) (by kernel_rfl) eq_I_Group_images

/-- slices_Grow_sint_int -/
def pk_slices_Grow_sint_int : List PK := [.ow (.sl (.int .i64)), .data (.int .i64)]
def rk_slices_Grow_sint_int : List (Ty × Bool) := [((.sl (.int .i64)), true)]
noncomputable def M_slices_Grow_sint_int (x : ((List Int) × Int)) : (Option (List Int)) :=
  (if 0 ≤ x.2 ∧ (x.1.length : Int) + x.2 ≤ 68719476736 then some x.1 else Option.none)

noncomputable def c_slices_Grow_sint_int : Con0 := ⟨pk_slices_Grow_sint_int, rk_slices_Grow_sint_int, M_slices_Grow_sint_int⟩

def grow_ren : Go.Shelf.Ren := ⟨fun | 4 => 115 | n => n, fun | 0 => 0 | 3 => 3 | 4 => 4 | 9 => 9 | 20 => 20 | 22 => 24 | 25 => 3 | n => n, fun n => n⟩
set_option maxRecDepth 100000 in
theorem grow_lays : Go.Proofs.Lays8.n4 Try.prog grow_ren where
  mixed := by kernel_rfl
  f4 := ⟨Try.f115.name, of_decide_eq_true (by kernel_rfl), Try.func115.trans (congrArg some (by kernel_rfl))⟩
  t0 := Try.underlying0
  a0 := Try.isAgg0
  z0 := Try.sizeOf0
  v0 := Try.zeroValue0
  t3 := Try.underlying3
  a3 := Try.isAgg3
  z3 := Try.sizeOf3
  v3 := Try.zeroValue3
  t4 := Try.underlying4
  a4 := Try.isAgg4
  z4 := Try.sizeOf4
  v4 := Try.zeroValue4
  t9 := Try.underlying9
  a9 := Try.isAgg9
  z9 := Try.sizeOf9
  v9 := Try.zeroValue9
  t20 := Try.underlying20
  a20 := Try.isAgg20
  z20 := Try.sizeOf20
  v20 := Try.zeroValue20
  t22 := Try.underlying24
  a22 := Try.isAgg24
  z22 := Try.sizeOf24
  v22 := Try.zeroValue24

theorem m_slices_Grow_sint_int : ConOK Try.prog 115 c_slices_Grow_sint_int := grow_ok ⟨Try.f115, Try.func115, of_decide_eq_true (by kernel_rfl), by kernel_rfl⟩ (grow_room grow_lays) (grow_more grow_lays (tyOK []) (by kernel_rfl))

/-- slices_Concat_sint_int -/
def pk_slices_Concat_sint_int : List PK := [.data (.sl (.sl (.int .i64)))]
def rk_slices_Concat_sint_int : List (Ty × Bool) := [((.sl (.int .i64)), true)]
def h_slices_Concat_sint_int : Hints := { loops := [(0, { items := [.slot 3 (.data (.int .i64) []), .slot 11 (.data (.int .i64) [])], kill := [1, 2, 4, 5, 6, 7, 8, 12, 13, 14, 15, 16, 17, 18, 19, 20, 21, 22, 23, 24, 25, 26, 27, 28, 29, 30, 31, 32, 33, 34, 35] }), (2, { items := [.slot 6 (.own (.int .i64) true), .slot 27 (.data (.int .i64) [])], kill := [0, 1, 2, 3, 4, 5, 7, 8, 9, 10, 11, 12, 13, 14, 15, 16, 17, 18, 19, 20, 21, 22, 23, 24, 28, 29, 30, 31, 32, 33, 34, 35] })] }
noncomputable def M_slices_Concat_sint_int (x : (List (List Int))) : (Option (List Int)) :=
  (loopO (fun (again0 : ((Int × Int) → (Option (List Int)))) => (fun (s1 : (Int × Int)) => (cond (decide (s1.2 < (((List.length x) : Nat) : Int))) (bindO (getI x s1.2) (fun (a2 : (List Int)) => (bindO (some (IntKind.wrap .i64 (s1.1 + (((List.length a2) : Nat) : Int)))) (fun (a3 : Int) => (cond (decide (a3 < (0 : Int))) (none : Option (List Int)) (bindO (some (IntKind.wrap .i64 (s1.2 + (1 : Int)))) (fun (a4 : Int) => (again0 (a3, a4))))))))) (bindO (M_slices_Grow_sint_int (([] : List Int), s1.1)) (fun (a5 : (List Int)) => (loopO (fun (again6 : (((List Int) × Int) → (Option (List Int)))) => (fun (s7 : ((List Int) × Int)) => (cond (decide (s7.2 < (((List.length x) : Nat) : Int))) (bindO (getI x s7.2) (fun (a8 : (List Int)) => (bindO (guardO (lenOk ((List.length s7.1) + (List.length a8)))) (fun (a9 : Unit) => (bindO (some (s7.1 ++ a8)) (fun (a10 : (List Int)) => (bindO (some (IntKind.wrap .i64 (s7.2 + (1 : Int)))) (fun (a11 : Int) => (again6 (a10, a11)))))))))) (some s7.1)))) (a5, (0 : Int)))))))) ((0 : Int), (0 : Int)))

noncomputable def c_slices_Concat_sint_int : Con0 := ⟨pk_slices_Concat_sint_int, rk_slices_Concat_sint_int, M_slices_Concat_sint_int⟩

set_option maxRecDepth 100000 in
theorem eq_slices_Concat_sint_int (x : In pk_slices_Concat_sint_int) : semF (mkE [(115, c_slices_Grow_sint_int)]) h_slices_Concat_sint_int (info Try.f78) pk_slices_Concat_sint_int rk_slices_Concat_sint_int x = M_slices_Concat_sint_int x := by kernel_rfl

set_option maxRecDepth 100000 in
theorem m_slices_Concat_sint_int : ConOK Try.prog 78 c_slices_Concat_sint_int := fn_ok (tyOK _) (E := mkE [(115, c_slices_Grow_sint_int)]) (consOK_cons m_slices_Grow_sint_int (consOK_nil rfl)) Try.func78 (h := h_slices_Concat_sint_int) (by kernel_rfl) eq_slices_Concat_sint_int

/-- I_labelled -/
def pk_I_labelled : List PK := [.data .str, .data (.sl (.int .i64))]
def rk_I_labelled : List (Ty × Bool) := [((.sl (.int .i64)), true)]
def h_I_labelled : Hints := { loops := [(0, { items := [.slot 5 (.own (.int .i64) true), .slot 12 (.data (.int .i64) [])], kill := [2, 3, 4, 6, 7, 8, 9, 10, 13, 14, 15, 16, 17, 18, 19, 20, 21, 22, 23, 24, 25] })] }
noncomputable def M_I_labelled (x : (ByteArray × (List Int))) : (Option (List Int)) :=
  (loopO (fun (again0 : (((List Int) × Int) → (Option (List Int)))) => (fun (s1 : ((List Int) × Int)) => (cond (decide (s1.2 < (((ByteArray.size x.1) : Nat) : Int))) (bindO (if ((0 : Int) ≤ s1.2) then (x.1[(Int.toNat s1.2)]?) else (none : Option (UInt8))) (fun (a2 : (UInt8)) => (bindO (guardO (lenOk ((List.length s1.1) + (List.length ((IntKind.wrap .i64 (((UInt8.toNat a2) : Nat) : Int)) :: ([] : List Int)))))) (fun (a3 : Unit) => (bindO (some (s1.1 ++ ((IntKind.wrap .i64 (((UInt8.toNat a2) : Nat) : Int)) :: ([] : List Int)))) (fun (a4 : (List Int)) => (bindO (some (IntKind.wrap .i64 (s1.2 + (1 : Int)))) (fun (a5 : Int) => (again0 (a4, a5)))))))))) (bindO (guardO (lenOk ((List.length s1.1) + (List.length x.2)))) (fun (a6 : Unit) => (bindO (some (s1.1 ++ x.2)) (fun (a7 : (List Int)) => (some a7)))))))) (((((ByteArray.size x.1) : Nat) : Int) :: ([] : List Int)), (0 : Int)))

noncomputable def c_I_labelled : Con0 := ⟨pk_I_labelled, rk_I_labelled, M_I_labelled⟩

set_option maxRecDepth 100000 in
theorem eq_I_labelled (x : In pk_I_labelled) : semF (mkE []) h_I_labelled (info Try.f133) pk_I_labelled rk_I_labelled x = M_I_labelled x := by kernel_rfl

set_option maxRecDepth 100000 in
theorem m_I_labelled : ConOK Try.prog 133 c_I_labelled := fn_ok (tyOK _) (E := mkE []) (consOK_nil rfl) Try.func133 (h := h_I_labelled) (by kernel_rfl) eq_I_labelled

/-- I_isDigest -/
def pk_I_isDigest : List PK := [.data (.int .i64)]
def rk_I_isDigest : List (Ty × Bool) := [(.bool, false)]
def h_I_isDigest : Hints := { loops := [] }
noncomputable def M_I_isDigest (x : Int) : (Option Bool) :=
  (bindO (M_I_within (x, ((0 : Int), (4611686018427387903 : Int)))) (fun (a0 : Bool) => (some a0)))

noncomputable def c_I_isDigest : Con0 := ⟨pk_I_isDigest, rk_I_isDigest, M_I_isDigest⟩

set_option maxRecDepth 100000 in
theorem eq_I_isDigest (x : In pk_I_isDigest) : semF (mkE [(110, c_I_within)]) h_I_isDigest (info Try.f151) pk_I_isDigest rk_I_isDigest x = M_I_isDigest x := by kernel_rfl

set_option maxRecDepth 100000 in
theorem m_I_isDigest : ConOK Try.prog 151 c_I_isDigest := fn_ok (tyOK _) (E := mkE [(110, c_I_within)]) (consOK_cons m_I_within (consOK_nil rfl)) Try.func151 (h := h_I_isDigest) (by kernel_rfl) eq_I_isDigest

/-- I_areDigests -/
def pk_I_areDigests : List PK := [.data (.sl (.int .i64))]
def rk_I_areDigests : List (Ty × Bool) := [(.bool, false)]
def h_I_areDigests : Hints := { loops := [] }
noncomputable def M_I_areDigests (x : (List Int)) : (Option Bool) :=
  (cond (decide ((((List.length x) : Nat) : Int) ≤ (400 : Int))) (bindO (M_I_areAll (x, (fun (a0 : Int) => (bindO (M_I_isDigest a0) (fun (a1 : Bool) => (some a1)))))) (fun (a2 : Bool) => (some a2))) (some false))

noncomputable def c_I_areDigests : Con0 := ⟨pk_I_areDigests, rk_I_areDigests, M_I_areDigests⟩

set_option maxRecDepth 100000 in
theorem eq_I_areDigests (x : In pk_I_areDigests) : semF (mkE [(102, c_I_areAll), (151, c_I_isDigest)]) h_I_areDigests (info Try.f145) pk_I_areDigests rk_I_areDigests x = M_I_areDigests x := by kernel_rfl

set_option maxRecDepth 100000 in
theorem m_I_areDigests : ConOK Try.prog 145 c_I_areDigests := fn_ok (tyOK _) (E := mkE [(102, c_I_areAll), (151, c_I_isDigest)]) (consOK_cons m_I_areAll (consOK_cons m_I_isDigest (consOK_nil rfl))) Try.func145 (h := h_I_areDigests) (by kernel_rfl) eq_I_areDigests

/-- I_hash -/
def pk_I_hash : List PK := [.data (.sl (.int .i64))]
def rk_I_hash : List (Ty × Bool) := [((.int .i64), false)]
def h_I_hash : Hints := { loops := [(0, { items := [.slot 3 (.data (.int .i64) []), .slot 4 (.data (.int .i64) []), .slot 15 (.data (.int .i64) [])], kill := [0, 1, 2, 5, 6, 7, 8, 9, 10, 11, 12, 16, 17, 18, 19, 20, 21, 22, 23, 24, 25, 26, 27, 28, 29, 30, 31, 32, 33, 34, 35, 36, 37, 38, 39, 40, 41, 42, 43, 44, 45, 46, 47, 48, 49, 50, 51] })] }
noncomputable def M_I_hash (x : (List Int)) : (Option Int) :=
  (bindO (guardO (lenOk ((List.length ((((List.length x) : Nat) : Int) :: ([] : List Int))) + (List.length x)))) (fun (a0 : Unit) => (bindO (some (((((List.length x) : Nat) : Int) :: ([] : List Int)) ++ x)) (fun (a1 : (List Int)) => (loopO (fun (again2 : ((Int × (Int × Int)) → (Option Int))) => (fun (s3 : (Int × (Int × Int))) => (cond (decide (s3.2.2 < (((List.length a1) : Nat) : Int))) (bindO (getI a1 s3.2.2) (fun (a4 : Int) => (bindO (guardO (decide ((0 : Int) ≤ (31 : Int)))) (fun (a5 : Unit) => (bindO (some (shr .i64 a4 (31 : Int))) (fun (a6 : Int) => (bindO (some (bits .and .i64 a4 (2147483647 : Int))) (fun (a7 : Int) => (bindO (some (IntKind.wrap .i64 ((48271 : Int) * s3.1))) (fun (a8 : Int) => (bindO (some (IntKind.wrap .i64 (a8 + a7))) (fun (a9 : Int) => (bindO (some (IntKind.wrap .i64 (a9 + (1 : Int)))) (fun (a10 : Int) => (bindO (guardO ((2147483647 : Int) != (0 : Int))) (fun (a11 : Unit) => (bindO (some (Int.tmod a10 (2147483647 : Int))) (fun (a12 : Int) => (bindO (some (IntKind.wrap .i64 ((48271 : Int) * a12))) (fun (a13 : Int) => (bindO (some (IntKind.wrap .i64 (a13 + a6))) (fun (a14 : Int) => (bindO (some (IntKind.wrap .i64 (a14 + (1 : Int)))) (fun (a15 : Int) => (bindO (guardO ((2147483647 : Int) != (0 : Int))) (fun (a16 : Unit) => (bindO (some (Int.tmod a15 (2147483647 : Int))) (fun (a17 : Int) => (bindO (some (IntKind.wrap .i64 ((69621 : Int) * s3.2.1))) (fun (a18 : Int) => (bindO (some (IntKind.wrap .i64 (a18 + a7))) (fun (a19 : Int) => (bindO (some (IntKind.wrap .i64 (a19 + (1 : Int)))) (fun (a20 : Int) => (bindO (guardO ((2147483647 : Int) != (0 : Int))) (fun (a21 : Unit) => (bindO (some (Int.tmod a20 (2147483647 : Int))) (fun (a22 : Int) => (bindO (some (IntKind.wrap .i64 ((69621 : Int) * a22))) (fun (a23 : Int) => (bindO (some (IntKind.wrap .i64 (a23 + a6))) (fun (a24 : Int) => (bindO (some (IntKind.wrap .i64 (a24 + (1 : Int)))) (fun (a25 : Int) => (bindO (guardO ((2147483647 : Int) != (0 : Int))) (fun (a26 : Unit) => (bindO (some (Int.tmod a25 (2147483647 : Int))) (fun (a27 : Int) => (bindO (some (IntKind.wrap .i64 (s3.2.2 + (1 : Int)))) (fun (a28 : Int) => (again2 (a17, (a27, a28))))))))))))))))))))))))))))))))))))))))))))))))))))) (bindO (guardO (decide ((0 : Int) ≤ (31 : Int)))) (fun (a29 : Unit) => (bindO (some (shl .i64 s3.1 (31 : Int))) (fun (a30 : Int) => (bindO (some (IntKind.wrap .i64 (a30 + s3.2.1))) (fun (a31 : Int) => (some a31)))))))))) ((1 : Int), ((2 : Int), (0 : Int))))))))

noncomputable def c_I_hash : Con0 := ⟨pk_I_hash, rk_I_hash, M_I_hash⟩

set_option maxRecDepth 100000 in
theorem eq_I_hash (x : In pk_I_hash) : semF (mkE []) h_I_hash (info Try.f146) pk_I_hash rk_I_hash x = M_I_hash x := by kernel_rfl

set_option maxRecDepth 100000 in
theorem m_I_hash : ConOK Try.prog 146 c_I_hash := fn_ok (tyOK _) (E := mkE []) (consOK_nil rfl) Try.func146 (h := h_I_hash) (by kernel_rfl) eq_I_hash

/-- I_HashInts -/
def pk_I_HashInts : List PK := [.data (.sl (.int .i64))]
def rk_I_HashInts : List (Ty × Bool) := [((.int .i64), false), (.bool, false)]
def h_I_HashInts : Hints := { loops := [] }
noncomputable def M_I_HashInts (x : (List Int)) : (Option (Int × Bool)) :=
  (bindO (M_I_areDigests x) (fun (a0 : Bool) => (cond (not a0) (some ((0 : Int), false)) (bindO (M_I_hash x) (fun (a1 : Int) => (some (a1, true)))))))

noncomputable def c_I_HashInts : Con0 := ⟨pk_I_HashInts, rk_I_HashInts, M_I_HashInts⟩

set_option maxRecDepth 100000 in
theorem eq_I_HashInts (x : In pk_I_HashInts) : semF (mkE [(145, c_I_areDigests), (146, c_I_hash)]) h_I_HashInts (info Try.f132) pk_I_HashInts rk_I_HashInts x = M_I_HashInts x := by kernel_rfl

set_option maxRecDepth 100000 in
theorem m_I_HashInts : ConOK Try.prog 132 c_I_HashInts := fn_ok (tyOK _) (E := mkE [(145, c_I_areDigests), (146, c_I_hash)]) (consOK_cons m_I_areDigests (consOK_cons m_I_hash (consOK_nil rfl))) Try.func132 (h := h_I_HashInts) (by kernel_rfl) eq_I_HashInts

/-- I_HashLabelled -/
def pk_I_HashLabelled : List PK := [.data .str, .data (.sl (.int .i64))]
def rk_I_HashLabelled : List (Ty × Bool) := [((.int .i64), false), (.bool, false)]
def h_I_HashLabelled : Hints := { loops := [] }
noncomputable def M_I_HashLabelled (x : (ByteArray × (List Int))) : (Option (Int × Bool)) :=
  (cond (decide ((((ByteArray.size x.1) : Nat) : Int) > (40 : Int))) (some ((0 : Int), false)) (cond (decide ((((List.length x.2) : Nat) : Int) > (400 : Int))) (some ((0 : Int), false)) (bindO (M_I_labelled (x.1, x.2)) (fun (a0 : (List Int)) => (bindO (M_I_HashInts a0) (fun (a1 : (Int × Bool)) => (some (a1.1, a1.2))))))))

noncomputable def c_I_HashLabelled : Con0 := ⟨pk_I_HashLabelled, rk_I_HashLabelled, M_I_HashLabelled⟩

set_option maxRecDepth 100000 in
theorem eq_I_HashLabelled (x : In pk_I_HashLabelled) : semF (mkE [(133, c_I_labelled), (132, c_I_HashInts)]) h_I_HashLabelled (info Try.f104) pk_I_HashLabelled rk_I_HashLabelled x = M_I_HashLabelled x := by kernel_rfl

set_option maxRecDepth 100000 in
theorem m_I_HashLabelled : ConOK Try.prog 104 c_I_HashLabelled := fn_ok (tyOK _) (E := mkE [(133, c_I_labelled), (132, c_I_HashInts)]) (consOK_cons m_I_labelled (consOK_cons m_I_HashInts (consOK_nil rfl))) Try.func104 (h := h_I_HashLabelled) (by kernel_rfl) eq_I_HashLabelled

/-- I_Group_challenge -/
def pk_I_Group_challenge : List PK := [.data (.cons (.int .i64) (.cons (.int .i64) (.one (.int .i64)))), .data .str, .data (.sl (.int .i64))]
def rk_I_Group_challenge : List (Ty × Bool) := [((.int .i64), false), (.bool, false)]
def h_I_Group_challenge : Hints := { loops := [] }
noncomputable def M_I_Group_challenge (x : ((Int × (Int × Int)) × (ByteArray × (List Int)))) : (Option (Int × Bool)) :=
  (bindO (guardO (lenOk ((List.length (x.1.1 :: (x.1.2.1 :: (x.1.2.2 :: ([] : List Int))))) + (List.length x.2.2)))) (fun (a0 : Unit) => (bindO (some ((x.1.1 :: (x.1.2.1 :: (x.1.2.2 :: ([] : List Int)))) ++ x.2.2)) (fun (a1 : (List Int)) => (bindO (M_I_HashLabelled (x.2.1, a1)) (fun (a2 : (Int × Bool)) => (cond (not a2.2) (some ((0 : Int), false)) (bindO (guardO (x.1.2.1 != (0 : Int))) (fun (a3 : Unit) => (bindO (some (Int.tmod a2.1 x.1.2.1)) (fun (a4 : Int) => (some (a4, true)))))))))))))

noncomputable def c_I_Group_challenge : Con0 := ⟨pk_I_Group_challenge, rk_I_Group_challenge, M_I_Group_challenge⟩

set_option maxRecDepth 100000 in
theorem eq_I_Group_challenge (x : In pk_I_Group_challenge) : semF (mkE [(104, c_I_HashLabelled)]) h_I_Group_challenge (info Try.f56) pk_I_Group_challenge rk_I_Group_challenge x = M_I_Group_challenge x := by kernel_rfl

set_option maxRecDepth 100000 in
theorem m_I_Group_challenge : ConOK Try.prog 56 c_I_Group_challenge := fn_ok (tyOK _) (E := mkE [(104, c_I_HashLabelled)]) (consOK_cons m_I_HashLabelled (consOK_nil rfl)) Try.func56 (h := h_I_Group_challenge) (by kernel_rfl) eq_I_Group_challenge

/-- I_Group_exp -/
def pk_I_Group_exp : List PK := [.data (.cons (.int .i64) (.cons (.int .i64) (.one (.int .i64)))), .data (.int .i64)]
def rk_I_Group_exp : List (Ty × Bool) := [((.int .i64), false)]
def h_I_Group_exp : Hints := { loops := [] }
noncomputable def M_I_Group_exp (x : ((Int × (Int × Int)) × Int)) : (Option Int) :=
  (bindO (M_I_mod (x.2, x.1.2.1)) (fun (a0 : Int) => (some a0)))

noncomputable def c_I_Group_exp : Con0 := ⟨pk_I_Group_exp, rk_I_Group_exp, M_I_Group_exp⟩

set_option maxRecDepth 100000 in
theorem eq_I_Group_exp (x : In pk_I_Group_exp) : semF (mkE [(108, c_I_mod)]) h_I_Group_exp (info Try.f150) pk_I_Group_exp rk_I_Group_exp x = M_I_Group_exp x := by kernel_rfl

set_option maxRecDepth 100000 in
theorem m_I_Group_exp : ConOK Try.prog 150 c_I_Group_exp := fn_ok (tyOK _) (E := mkE [(108, c_I_mod)]) (consOK_cons m_I_mod (consOK_nil rfl)) Try.func150 (h := h_I_Group_exp) (by kernel_rfl) eq_I_Group_exp

/-- I_Group_proveLinear -/
def pk_I_Group_proveLinear : List PK := [.data (.cons (.int .i64) (.cons (.int .i64) (.one (.int .i64)))), .data .str, .data (.sl (.sl (.int .i64))), .data (.sl (.int .i64)), .data (.sl (.int .i64))]
def rk_I_Group_proveLinear : List (Ty × Bool) := [((.cons (.sl (.int .i64)) (.cons (.sl (.int .i64)) (.one (.sl (.int .i64))))), true), (.bool, false)]
def h_I_Group_proveLinear : Hints := { loops := [(0, { items := [.slot 46 (.data (.int .i64) []), .cell 12 0 (.own (.int .i64) true), .cell 12 1 (.own (.int .i64) true), .cell 12 2 (.own (.int .i64) true)], kill := [0, 1, 2, 4, 6, 7, 8, 9, 11, 14, 15, 16, 17, 18, 19, 20, 21, 22, 23, 24, 25, 26, 27, 28, 29, 30, 31, 32, 33, 34, 35, 36, 37, 38, 39, 40, 41, 42, 43, 47, 48, 49, 50, 51, 52, 53, 54, 55, 56, 57, 58, 59, 60, 61, 62, 63, 64, 65, 66, 67] })] }
noncomputable def M_I_Group_proveLinear (x : ((Int × (Int × Int)) × (ByteArray × ((List (List Int)) × ((List Int) × (List Int)))))) : (Option (((List Int) × ((List Int) × (List Int))) × Bool)) :=
  (bindO (M_I_Group_images ((x.1.1, (x.1.2.1, x.1.2.2)), (x.2.2.1, x.2.2.2.2))) (fun (a0 : (List Int)) => (bindO (M_slices_Concat_sint_int x.2.2.1) (fun (a1 : (List Int)) => (bindO (M_I_Group_images ((x.1.1, (x.1.2.1, x.1.2.2)), (x.2.2.1, x.2.2.2.1))) (fun (a2 : (List Int)) => (bindO (M_slices_Concat_sint_int (a1 :: (a2 :: (a0 :: ([] : List (List Int)))))) (fun (a3 : (List Int)) => (bindO (M_I_Group_challenge ((x.1.1, (x.1.2.1, x.1.2.2)), (x.2.1, a3))) (fun (a4 : (Int × Bool)) => (cond (not a4.2) (some ((([] : List Int), (([] : List Int), ([] : List Int))), false)) (loopO (fun (again5 : ((Int × ((List Int) × ((List Int) × (List Int)))) → (Option (((List Int) × ((List Int) × (List Int))) × Bool)))) => (fun (s6 : (Int × ((List Int) × ((List Int) × (List Int))))) => (cond (decide (s6.1 < (((List.length x.2.2.2.2) : Nat) : Int))) (bindO (getI x.2.2.2.2 s6.1) (fun (a7 : Int) => (bindO (getI x.2.2.2.1 s6.1) (fun (a8 : Int) => (bindO (some (IntKind.wrap .i64 (a4.1 * a8))) (fun (a9 : Int) => (bindO (some (IntKind.wrap .i64 (a7 + a9))) (fun (a10 : Int) => (bindO (M_I_Group_exp ((x.1.1, (x.1.2.1, x.1.2.2)), a10)) (fun (a11 : Int) => (bindO (guardO (lenOk ((List.length s6.2.2.2) + (List.length (a11 :: ([] : List Int)))))) (fun (a12 : Unit) => (bindO (some (s6.2.2.2 ++ (a11 :: ([] : List Int)))) (fun (a13 : (List Int)) => (bindO (some (IntKind.wrap .i64 (s6.1 + (1 : Int)))) (fun (a14 : Int) => (again5 (a14, (s6.2.1, (s6.2.2.1, a13)))))))))))))))))))) (some ((s6.2.1, (s6.2.2.1, s6.2.2.2)), true))))) ((0 : Int), (a0, ((a4.1 :: ([] : List Int)), ([] : List Int))))))))))))))))

noncomputable def c_I_Group_proveLinear : Con0 := ⟨pk_I_Group_proveLinear, rk_I_Group_proveLinear, M_I_Group_proveLinear⟩

set_option maxRecDepth 100000 in
theorem eq_I_Group_proveLinear (x : In pk_I_Group_proveLinear) : semF (mkE [(149, c_I_Group_images), (78, c_slices_Concat_sint_int), (56, c_I_Group_challenge), (150, c_I_Group_exp)]) h_I_Group_proveLinear (info Try.f140) pk_I_Group_proveLinear rk_I_Group_proveLinear x = M_I_Group_proveLinear x := by kernel_rfl

set_option maxRecDepth 100000 in
theorem m_I_Group_proveLinear : ConOK Try.prog 140 c_I_Group_proveLinear := fn_ok (tyOK _) (E := mkE [(149, c_I_Group_images), (78, c_slices_Concat_sint_int), (56, c_I_Group_challenge), (150, c_I_Group_exp)]) (consOK_cons m_I_Group_images (consOK_cons m_slices_Concat_sint_int (consOK_cons m_I_Group_challenge (consOK_cons m_I_Group_exp (consOK_nil rfl))))) Try.func140 (h := h_I_Group_proveLinear) (by kernel_rfl) eq_I_Group_proveLinear

/-- I_ProveLinear -/
def pk_I_ProveLinear : List PK := [.data (.cons (.int .i64) (.cons (.int .i64) (.one (.int .i64)))), .data .str, .data (.sl (.sl (.int .i64))), .data (.sl (.int .i64)), .data (.sl (.int .i64))]
def rk_I_ProveLinear : List (Ty × Bool) := [((.cons (.sl (.int .i64)) (.cons (.sl (.int .i64)) (.one (.sl (.int .i64))))), true), (.bool, false)]
def h_I_ProveLinear : Hints := { loops := [] }
noncomputable def M_I_ProveLinear (x : ((Int × (Int × Int)) × (ByteArray × ((List (List Int)) × ((List Int) × (List Int)))))) : (Option (((List Int) × ((List Int) × (List Int))) × Bool)) :=
  (bindO (M_I_IsValidGroup (x.1.1, (x.1.2.1, x.1.2.2))) (fun (a0 : Bool) => (cond (not a0) (some ((([] : List Int), (([] : List Int), ([] : List Int))), false)) (bindO (M_I_isLabel x.2.1) (fun (a1 : Bool) => (cond (not a1) (some ((([] : List Int), (([] : List Int), ([] : List Int))), false)) (bindO (M_I_Group_areRows ((x.1.1, (x.1.2.1, x.1.2.2)), x.2.2.1)) (fun (a2 : Bool) => (cond (not a2) (some ((([] : List Int), (([] : List Int), ([] : List Int))), false)) (bindO (getI x.2.2.1 (0 : Int)) (fun (a3 : (List Int)) => (cond ((((List.length x.2.2.2.1) : Nat) : Int) != (((List.length a3) : Nat) : Int)) (some ((([] : List Int), (([] : List Int), ([] : List Int))), false)) (cond ((((List.length x.2.2.2.2) : Nat) : Int) != (((List.length x.2.2.2.1) : Nat) : Int)) (some ((([] : List Int), (([] : List Int), ([] : List Int))), false)) (bindO (M_I_Group_areExps ((x.1.1, (x.1.2.1, x.1.2.2)), x.2.2.2.1)) (fun (a4 : Bool) => (cond (not a4) (some ((([] : List Int), (([] : List Int), ([] : List Int))), false)) (bindO (M_I_Group_areExps ((x.1.1, (x.1.2.1, x.1.2.2)), x.2.2.2.2)) (fun (a5 : Bool) => (cond (not a5) (some ((([] : List Int), (([] : List Int), ([] : List Int))), false)) (bindO (M_I_Group_proveLinear ((x.1.1, (x.1.2.1, x.1.2.2)), (x.2.1, (x.2.2.1, (x.2.2.2.1, x.2.2.2.2))))) (fun (a6 : (((List Int) × ((List Int) × (List Int))) × Bool)) => (some ((a6.1.1, (a6.1.2.1, a6.1.2.2)), a6.2)))))))))))))))))))))))

noncomputable def c_I_ProveLinear : Con0 := ⟨pk_I_ProveLinear, rk_I_ProveLinear, M_I_ProveLinear⟩

set_option maxRecDepth 100000 in
theorem eq_I_ProveLinear (x : In pk_I_ProveLinear) : semF (mkE [(67, c_I_IsValidGroup), (75, c_I_isLabel), (136, c_I_Group_areRows), (55, c_I_Group_areExps), (140, c_I_Group_proveLinear)]) h_I_ProveLinear (info Try.f120) pk_I_ProveLinear rk_I_ProveLinear x = M_I_ProveLinear x := by kernel_rfl

set_option maxRecDepth 100000 in
theorem m_I_ProveLinear : ConOK Try.prog 120 c_I_ProveLinear := fn_ok (tyOK _) (E := mkE [(67, c_I_IsValidGroup), (75, c_I_isLabel), (136, c_I_Group_areRows), (55, c_I_Group_areExps), (140, c_I_Group_proveLinear)]) (consOK_cons m_I_IsValidGroup (consOK_cons m_I_isLabel (consOK_cons m_I_Group_areRows (consOK_cons m_I_Group_areExps (consOK_cons m_I_Group_proveLinear (consOK_nil rfl)))))) Try.func120 (h := h_I_ProveLinear) (by kernel_rfl) eq_I_ProveLinear

/-- I_ProveEqual -/
def pk_I_ProveEqual : List PK := [.data (.cons (.int .i64) (.cons (.int .i64) (.one (.int .i64)))), .data .str, .data (.cons (.int .i64) (.cons (.int .i64) (.cons (.int .i64) (.one (.int .i64))))), .data (.int .i64), .data (.int .i64)]
def rk_I_ProveEqual : List (Ty × Bool) := [((.cons (.sl (.int .i64)) (.cons (.sl (.int .i64)) (.one (.sl (.int .i64))))), true), (.bool, false)]
def h_I_ProveEqual : Hints := { loops := [] }
noncomputable def M_I_ProveEqual (x : ((Int × (Int × Int)) × (ByteArray × ((Int × (Int × (Int × Int))) × (Int × Int))))) : (Option (((List Int) × ((List Int) × (List Int))) × Bool)) :=
  (bindO (M_I_IsTrueEqual ((x.1.1, (x.1.2.1, x.1.2.2)), ((x.2.2.1.1, (x.2.2.1.2.1, (x.2.2.1.2.2.1, x.2.2.1.2.2.2))), x.2.2.2.1))) (fun (a0 : (Bool × Bool)) => (cond (not a0.2) (some ((([] : List Int), (([] : List Int), ([] : List Int))), false)) (cond (not a0.1) (some ((([] : List Int), (([] : List Int), ([] : List Int))), false)) (bindO (M_I_equalRows (x.2.2.1.1, (x.2.2.1.2.1, (x.2.2.1.2.2.1, x.2.2.1.2.2.2)))) (fun (a1 : (List (List Int))) => (bindO (M_I_ProveLinear ((x.1.1, (x.1.2.1, x.1.2.2)), (x.2.1, (a1, ((x.2.2.2.1 :: ([] : List Int)), (x.2.2.2.2 :: ([] : List Int))))))) (fun (a2 : (((List Int) × ((List Int) × (List Int))) × Bool)) => (some ((a2.1.1, (a2.1.2.1, a2.1.2.2)), a2.2))))))))))

noncomputable def c_I_ProveEqual : Con0 := ⟨pk_I_ProveEqual, rk_I_ProveEqual, M_I_ProveEqual⟩

set_option maxRecDepth 100000 in
theorem eq_I_ProveEqual (x : In pk_I_ProveEqual) : semF (mkE [(119, c_I_IsTrueEqual), (113, c_I_equalRows), (120, c_I_ProveLinear)]) h_I_ProveEqual (info Try.f86) pk_I_ProveEqual rk_I_ProveEqual x = M_I_ProveEqual x := by kernel_rfl

set_option maxRecDepth 100000 in
theorem m_I_ProveEqual : ConOK Try.prog 86 c_I_ProveEqual := fn_ok (tyOK _) (E := mkE [(119, c_I_IsTrueEqual), (113, c_I_equalRows), (120, c_I_ProveLinear)]) (consOK_cons m_I_IsTrueEqual (consOK_cons m_I_equalRows (consOK_cons m_I_ProveLinear (consOK_nil rfl)))) Try.func86 (h := h_I_ProveEqual) (by kernel_rfl) eq_I_ProveEqual

/-- I_BlindBy -/
def pk_I_BlindBy : List PK := [.data (.cons (.int .i64) (.cons (.int .i64) (.one (.int .i64)))), .data (.cons (.int .i64) (.one (.int .i64))), .data (.int .i64), .data (.int .i64), .data (.int .i64)]
def rk_I_BlindBy : List (Ty × Bool) := [((.cons (.int .i64) (.cons (.cons (.int .i64) (.one (.int .i64))) (.one (.cons (.sl (.int .i64)) (.cons (.sl (.int .i64)) (.one (.sl (.int .i64)))))))), true), (.bool, false)]
def h_I_BlindBy : Hints := { loops := [] }
noncomputable def M_I_BlindBy (x : ((Int × (Int × Int)) × ((Int × Int) × (Int × (Int × Int))))) : (Option ((Int × ((Int × Int) × ((List Int) × ((List Int) × (List Int))))) × Bool)) :=
  (bindO (M_I_IsValidGroup (x.1.1, (x.1.2.1, x.1.2.2))) (fun (a0 : Bool) => (cond (not a0) (some (((0 : Int), (((0 : Int), (0 : Int)), (([] : List Int), (([] : List Int), ([] : List Int))))), false)) (bindO (M_I_Group_hasCipher ((x.1.1, (x.1.2.1, x.1.2.2)), (x.2.1.1, x.2.1.2))) (fun (a1 : Bool) => (cond (not a1) (some (((0 : Int), (((0 : Int), (0 : Int)), (([] : List Int), (([] : List Int), ([] : List Int))))), false)) (bindO (M_I_isTrustee x.2.2.1) (fun (a2 : Bool) => (cond (not a2) (some (((0 : Int), (((0 : Int), (0 : Int)), (([] : List Int), (([] : List Int), ([] : List Int))))), false)) (bindO (M_I_Group_areExps ((x.1.1, (x.1.2.1, x.1.2.2)), (x.2.2.2.1 :: (x.2.2.2.2 :: ([] : List Int))))) (fun (a3 : Bool) => (cond (not a3) (some (((0 : Int), (((0 : Int), (0 : Int)), (([] : List Int), (([] : List Int), ([] : List Int))))), false)) (cond (x.2.2.2.1 == (0 : Int)) (some (((0 : Int), (((0 : Int), (0 : Int)), (([] : List Int), (([] : List Int), ([] : List Int))))), false)) (bindO (M_I_Group_powCipher ((x.1.1, (x.1.2.1, x.1.2.2)), ((x.2.1.1, x.2.1.2), x.2.2.2.1))) (fun (a4 : (Int × Int)) => (bindO (M_I_blindStatement ((x.2.1.1, x.2.1.2), (a4.1, a4.2))) (fun (a5 : (Int × (Int × (Int × Int)))) => (bindO (M_I_ProveEqual ((x.1.1, (x.1.2.1, x.1.2.2)), ((bytesOf [98, 108, 105, 110, 100]), ((a5.1, (a5.2.1, (a5.2.2.1, a5.2.2.2))), (x.2.2.2.1, x.2.2.2.2))))) (fun (a6 : (((List Int) × ((List Int) × (List Int))) × Bool)) => (cond (not a6.2) (some (((0 : Int), (((0 : Int), (0 : Int)), (([] : List Int), (([] : List Int), ([] : List Int))))), false)) (some ((x.2.2.1, ((a4.1, a4.2), (a6.1.1, (a6.1.2.1, a6.1.2.2)))), true))))))))))))))))))))))

noncomputable def c_I_BlindBy : Con0 := ⟨pk_I_BlindBy, rk_I_BlindBy, M_I_BlindBy⟩

set_option maxRecDepth 100000 in
theorem eq_I_BlindBy (x : In pk_I_BlindBy) : semF (mkE [(67, c_I_IsValidGroup), (69, c_I_Group_hasCipher), (84, c_I_isTrustee), (55, c_I_Group_areExps), (85, c_I_Group_powCipher), (87, c_I_blindStatement), (86, c_I_ProveEqual)]) h_I_BlindBy (info Try.f29) pk_I_BlindBy rk_I_BlindBy x = M_I_BlindBy x := by kernel_rfl

set_option maxRecDepth 100000 in
theorem m_I_BlindBy : ConOK Try.prog 29 c_I_BlindBy := fn_ok (tyOK _) (E := mkE [(67, c_I_IsValidGroup), (69, c_I_Group_hasCipher), (84, c_I_isTrustee), (55, c_I_Group_areExps), (85, c_I_Group_powCipher), (87, c_I_blindStatement), (86, c_I_ProveEqual)]) (consOK_cons m_I_IsValidGroup (consOK_cons m_I_Group_hasCipher (consOK_cons m_I_isTrustee (consOK_cons m_I_Group_areExps (consOK_cons m_I_Group_powCipher (consOK_cons m_I_blindStatement (consOK_cons m_I_ProveEqual (consOK_nil rfl)))))))) Try.func29 (h := h_I_BlindBy) (by kernel_rfl) eq_I_BlindBy

/-- L_eqCipher -/
def pk_L_eqCipher : List PK := [.data (.cons (.int .i64) (.one (.int .i64))), .data (.cons (.int .i64) (.one (.int .i64)))]
def rk_L_eqCipher : List (Ty × Bool) := [(.bool, false)]
def h_L_eqCipher : Hints := { loops := [] }
noncomputable def M_L_eqCipher (x : ((Int × Int) × (Int × Int))) : (Option Bool) :=
  (cond (x.1.1 != x.2.1) (some false) (cond (x.1.2 != x.2.2) (some false) (some true)))

noncomputable def c_L_eqCipher : Con0 := ⟨pk_L_eqCipher, rk_L_eqCipher, M_L_eqCipher⟩

set_option maxRecDepth 100000 in
theorem eq_L_eqCipher (x : In pk_L_eqCipher) : semF (mkE []) h_L_eqCipher (info Try.f39) pk_L_eqCipher rk_L_eqCipher x = M_L_eqCipher x := by kernel_rfl

set_option maxRecDepth 100000 in
theorem m_L_eqCipher : ConOK Try.prog 39 c_L_eqCipher := fn_ok (tyOK _) (E := mkE []) (consOK_nil rfl) Try.func39 (h := h_L_eqCipher) (by kernel_rfl) eq_L_eqCipher

/-- L_eqIntS -/
def pk_L_eqIntS : List PK := [.data (.sl (.int .i64)), .data (.sl (.int .i64))]
def rk_L_eqIntS : List (Ty × Bool) := [(.bool, false)]
def h_L_eqIntS : Hints := { loops := [(0, { items := [.slot 5 (.data (.int .i64) [])], kill := [2, 3, 4, 6, 7, 8, 9, 10, 11, 12, 13, 14, 15, 16, 17, 18, 19, 20, 21, 22, 23, 24, 25] })] }
noncomputable def M_L_eqIntS (x : ((List Int) × (List Int))) : (Option Bool) :=
  (cond ((((List.length x.1) : Nat) : Int) != (((List.length x.2) : Nat) : Int)) (some false) (loopO (fun (again0 : (Int → (Option Bool))) => (fun (s1 : Int) => (cond (decide (s1 < (((List.length x.1) : Nat) : Int))) (bindO (getI x.1 s1) (fun (a2 : Int) => (bindO (getI x.2 s1) (fun (a3 : Int) => (cond (a2 != a3) (some false) (bindO (some (IntKind.wrap .i64 (s1 + (1 : Int)))) (fun (a4 : Int) => (again0 a4)))))))) (some true)))) (0 : Int)))

noncomputable def c_L_eqIntS : Con0 := ⟨pk_L_eqIntS, rk_L_eqIntS, M_L_eqIntS⟩

set_option maxRecDepth 100000 in
theorem eq_L_eqIntS (x : In pk_L_eqIntS) : semF (mkE []) h_L_eqIntS (info Try.f18) pk_L_eqIntS rk_L_eqIntS x = M_L_eqIntS x := by kernel_rfl

set_option maxRecDepth 100000 in
theorem m_L_eqIntS : ConOK Try.prog 18 c_L_eqIntS := fn_ok (tyOK _) (E := mkE []) (consOK_nil rfl) Try.func18 (h := h_L_eqIntS) (by kernel_rfl) eq_L_eqIntS

/-- L_eqProof -/
def pk_L_eqProof : List PK := [.data (.cons (.sl (.int .i64)) (.cons (.sl (.int .i64)) (.one (.sl (.int .i64))))), .data (.cons (.sl (.int .i64)) (.cons (.sl (.int .i64)) (.one (.sl (.int .i64)))))]
def rk_L_eqProof : List (Ty × Bool) := [(.bool, false)]
def h_L_eqProof : Hints := { loops := [] }
noncomputable def M_L_eqProof (x : (((List Int) × ((List Int) × (List Int))) × ((List Int) × ((List Int) × (List Int))))) : (Option Bool) :=
  (bindO (M_L_eqIntS (x.1.1, x.2.1)) (fun (a0 : Bool) => (cond (not a0) (some false) (bindO (M_L_eqIntS (x.1.2.1, x.2.2.1)) (fun (a1 : Bool) => (cond (not a1) (some false) (bindO (M_L_eqIntS (x.1.2.2, x.2.2.2)) (fun (a2 : Bool) => (cond (not a2) (some false) (some true))))))))))

noncomputable def c_L_eqProof : Con0 := ⟨pk_L_eqProof, rk_L_eqProof, M_L_eqProof⟩

set_option maxRecDepth 100000 in
theorem eq_L_eqProof (x : In pk_L_eqProof) : semF (mkE [(18, c_L_eqIntS)]) h_L_eqProof (info Try.f25) pk_L_eqProof rk_L_eqProof x = M_L_eqProof x := by kernel_rfl

set_option maxRecDepth 100000 in
theorem m_L_eqProof : ConOK Try.prog 25 c_L_eqProof := fn_ok (tyOK _) (E := mkE [(18, c_L_eqIntS)]) (consOK_cons m_L_eqIntS (consOK_nil rfl)) Try.func25 (h := h_L_eqProof) (by kernel_rfl) eq_L_eqProof

/-- L_eqBlind -/
def pk_L_eqBlind : List PK := [.data (.cons (.int .i64) (.cons (.cons (.int .i64) (.one (.int .i64))) (.one (.cons (.sl (.int .i64)) (.cons (.sl (.int .i64)) (.one (.sl (.int .i64)))))))), .data (.cons (.int .i64) (.cons (.cons (.int .i64) (.one (.int .i64))) (.one (.cons (.sl (.int .i64)) (.cons (.sl (.int .i64)) (.one (.sl (.int .i64))))))))]
def rk_L_eqBlind : List (Ty × Bool) := [(.bool, false)]
def h_L_eqBlind : Hints := { loops := [] }
noncomputable def M_L_eqBlind (x : ((Int × ((Int × Int) × ((List Int) × ((List Int) × (List Int))))) × (Int × ((Int × Int) × ((List Int) × ((List Int) × (List Int))))))) : (Option Bool) :=
  (cond (x.1.1 != x.2.1) (some false) (bindO (M_L_eqCipher ((x.1.2.1.1, x.1.2.1.2), (x.2.2.1.1, x.2.2.1.2))) (fun (a0 : Bool) => (cond (not a0) (some false) (bindO (M_L_eqProof ((x.1.2.2.1, (x.1.2.2.2.1, x.1.2.2.2.2)), (x.2.2.2.1, (x.2.2.2.2.1, x.2.2.2.2.2)))) (fun (a1 : Bool) => (cond (not a1) (some false) (some true))))))))

noncomputable def c_L_eqBlind : Con0 := ⟨pk_L_eqBlind, rk_L_eqBlind, M_L_eqBlind⟩

set_option maxRecDepth 100000 in
theorem eq_L_eqBlind (x : In pk_L_eqBlind) : semF (mkE [(39, c_L_eqCipher), (25, c_L_eqProof)]) h_L_eqBlind (info Try.f30) pk_L_eqBlind rk_L_eqBlind x = M_L_eqBlind x := by kernel_rfl

set_option maxRecDepth 100000 in
theorem m_L_eqBlind : ConOK Try.prog 30 c_L_eqBlind := fn_ok (tyOK _) (E := mkE [(39, c_L_eqCipher), (25, c_L_eqProof)]) (consOK_cons m_L_eqCipher (consOK_cons m_L_eqProof (consOK_nil rfl))) Try.func30 (h := h_L_eqBlind) (by kernel_rfl) eq_L_eqBlind

/-- L_markIntS -/
def pk_L_markIntS : List PK := [.mv (.sl (.int .i64)), .data (.int .i64)]
def rk_L_markIntS : List (Ty × Bool) := [((.int .i64), false)]
def h_L_markIntS : Hints := { loops := [(0, { items := [.slot 1 (.data (.int .i64) []), .slot 5 (.data (.int .i64) []), .arr 0 (.int .i64) true], kill := [2, 3, 4, 6, 7, 8, 9, 10, 11, 12, 13, 14, 15, 16, 17, 18] })] }
noncomputable def M_L_markIntS (x : ((List Int) × Int)) : (Option (Int × (List Int))) :=
  (loopO (fun (again0 : ((Int × (Int × (List Int))) → (Option (Int × (List Int))))) => (fun (s1 : (Int × (Int × (List Int)))) => (cond (decide (s1.2.1 < (((List.length s1.2.2) : Nat) : Int))) (bindO (getI s1.2.2 s1.2.1) (fun (a2 : Int) => (bindO (some (List.set s1.2.2 (Int.toNat s1.2.1) s1.1)) (fun (a3 : (List Int)) => (bindO (some (IntKind.wrap .i64 (s1.1 + (1 : Int)))) (fun (a4 : Int) => (bindO (some (IntKind.wrap .i64 (s1.2.1 + (1 : Int)))) (fun (a5 : Int) => (again0 (a4, (a5, a3))))))))))) (some (s1.1, s1.2.2))))) (x.2, ((0 : Int), x.1)))

noncomputable def c_L_markIntS : Con0 := ⟨pk_L_markIntS, rk_L_markIntS, M_L_markIntS⟩

set_option maxRecDepth 100000 in
theorem eq_L_markIntS (x : In pk_L_markIntS) : semF (mkE []) h_L_markIntS (info Try.f93) pk_L_markIntS rk_L_markIntS x = M_L_markIntS x := by kernel_rfl

set_option maxRecDepth 100000 in
theorem m_L_markIntS : ConOK Try.prog 93 c_L_markIntS := fn_ok (tyOK _) (E := mkE []) (consOK_nil rfl) Try.func93 (h := h_L_markIntS) (by kernel_rfl) eq_L_markIntS

/-- L_markProof -/
def pk_L_markProof : List PK := [.mv (.cons (.sl (.int .i64)) (.cons (.sl (.int .i64)) (.one (.sl (.int .i64))))), .data (.int .i64)]
def rk_L_markProof : List (Ty × Bool) := [((.int .i64), false)]
def h_L_markProof : Hints := { loops := [] }
noncomputable def M_L_markProof (x : (((List Int) × ((List Int) × (List Int))) × Int)) : (Option (Int × ((List Int) × ((List Int) × (List Int))))) :=
  (bindO (M_L_markIntS (x.1.1, x.2)) (fun (a0 : (Int × (List Int))) => (bindO (M_L_markIntS (x.1.2.1, a0.1)) (fun (a1 : (Int × (List Int))) => (bindO (M_L_markIntS (x.1.2.2, a1.1)) (fun (a2 : (Int × (List Int))) => (some (a2.1, (a0.2, (a1.2, a2.2))))))))))

noncomputable def c_L_markProof : Con0 := ⟨pk_L_markProof, rk_L_markProof, M_L_markProof⟩

set_option maxRecDepth 100000 in
theorem eq_L_markProof (x : In pk_L_markProof) : semF (mkE [(93, c_L_markIntS)]) h_L_markProof (info Try.f40) pk_L_markProof rk_L_markProof x = M_L_markProof x := by kernel_rfl

set_option maxRecDepth 100000 in
theorem m_L_markProof : ConOK Try.prog 40 c_L_markProof := fn_ok (tyOK _) (E := mkE [(93, c_L_markIntS)]) (consOK_cons m_L_markIntS (consOK_nil rfl)) Try.func40 (h := h_L_markProof) (by kernel_rfl) eq_L_markProof

/-- L_markBlind -/
def pk_L_markBlind : List PK := [.mv (.cons (.int .i64) (.cons (.cons (.int .i64) (.one (.int .i64))) (.one (.cons (.sl (.int .i64)) (.cons (.sl (.int .i64)) (.one (.sl (.int .i64)))))))), .data (.int .i64)]
def rk_L_markBlind : List (Ty × Bool) := [((.int .i64), false)]
def h_L_markBlind : Hints := { loops := [] }
noncomputable def M_L_markBlind (x : ((Int × ((Int × Int) × ((List Int) × ((List Int) × (List Int))))) × Int)) : (Option (Int × (Int × ((Int × Int) × ((List Int) × ((List Int) × (List Int))))))) :=
  (bindO (M_L_markProof ((x.1.2.2.1, (x.1.2.2.2.1, x.1.2.2.2.2)), x.2)) (fun (a0 : (Int × ((List Int) × ((List Int) × (List Int))))) => (some (a0.1, (x.1.1, ((x.1.2.1.1, x.1.2.1.2), (a0.2.1, (a0.2.2.1, a0.2.2.2))))))))

noncomputable def c_L_markBlind : Con0 := ⟨pk_L_markBlind, rk_L_markBlind, M_L_markBlind⟩

set_option maxRecDepth 100000 in
theorem eq_L_markBlind (x : In pk_L_markBlind) : semF (mkE [(40, c_L_markProof)]) h_L_markBlind (info Try.f31) pk_L_markBlind rk_L_markBlind x = M_L_markBlind x := by kernel_rfl

set_option maxRecDepth 100000 in
theorem m_L_markBlind : ConOK Try.prog 31 c_L_markBlind := fn_ok (tyOK _) (E := mkE [(40, c_L_markProof)]) (consOK_cons m_L_markProof (consOK_nil rfl)) Try.func31 (h := h_L_markBlind) (by kernel_rfl) eq_L_markBlind

/-- L_heldIntS -/
def pk_L_heldIntS : List PK := [.data (.sl (.int .i64)), .data (.int .i64)]
def rk_L_heldIntS : List (Ty × Bool) := [((.int .i64), false)]
def h_L_heldIntS : Hints := { loops := [(0, { items := [.slot 1 (.data (.int .i64) []), .slot 5 (.data (.int .i64) [])], kill := [2, 3, 4, 6, 7, 8, 9, 10, 11, 12, 13, 14, 15, 16, 17, 18, 19, 20] })] }
noncomputable def M_L_heldIntS (x : ((List Int) × Int)) : (Option Int) :=
  (loopO (fun (again0 : ((Int × Int) → (Option Int))) => (fun (s1 : (Int × Int)) => (cond (decide (s1.2 < (((List.length x.1) : Nat) : Int))) (bindO (getI x.1 s1.2) (fun (a2 : Int) => (cond (a2 != s1.1) (some (- (1 : Int))) (bindO (some (IntKind.wrap .i64 (s1.1 + (1 : Int)))) (fun (a3 : Int) => (bindO (some (IntKind.wrap .i64 (s1.2 + (1 : Int)))) (fun (a4 : Int) => (again0 (a3, a4))))))))) (some s1.1)))) (x.2, (0 : Int)))

noncomputable def c_L_heldIntS : Con0 := ⟨pk_L_heldIntS, rk_L_heldIntS, M_L_heldIntS⟩

set_option maxRecDepth 100000 in
theorem eq_L_heldIntS (x : In pk_L_heldIntS) : semF (mkE []) h_L_heldIntS (info Try.f94) pk_L_heldIntS rk_L_heldIntS x = M_L_heldIntS x := by kernel_rfl

set_option maxRecDepth 100000 in
theorem m_L_heldIntS : ConOK Try.prog 94 c_L_heldIntS := fn_ok (tyOK _) (E := mkE []) (consOK_nil rfl) Try.func94 (h := h_L_heldIntS) (by kernel_rfl) eq_L_heldIntS

/-- L_heldProof -/
def pk_L_heldProof : List PK := [.data (.cons (.sl (.int .i64)) (.cons (.sl (.int .i64)) (.one (.sl (.int .i64))))), .data (.int .i64)]
def rk_L_heldProof : List (Ty × Bool) := [((.int .i64), false)]
def h_L_heldProof : Hints := { loops := [] }
noncomputable def M_L_heldProof (x : (((List Int) × ((List Int) × (List Int))) × Int)) : (Option Int) :=
  (bindO (M_L_heldIntS (x.1.1, x.2)) (fun (a0 : Int) => (cond (decide (a0 < (0 : Int))) (some (- (1 : Int))) (bindO (M_L_heldIntS (x.1.2.1, a0)) (fun (a1 : Int) => (cond (decide (a1 < (0 : Int))) (some (- (1 : Int))) (bindO (M_L_heldIntS (x.1.2.2, a1)) (fun (a2 : Int) => (cond (decide (a2 < (0 : Int))) (some (- (1 : Int))) (some a2))))))))))

noncomputable def c_L_heldProof : Con0 := ⟨pk_L_heldProof, rk_L_heldProof, M_L_heldProof⟩

set_option maxRecDepth 100000 in
theorem eq_L_heldProof (x : In pk_L_heldProof) : semF (mkE [(94, c_L_heldIntS)]) h_L_heldProof (info Try.f41) pk_L_heldProof rk_L_heldProof x = M_L_heldProof x := by kernel_rfl

set_option maxRecDepth 100000 in
theorem m_L_heldProof : ConOK Try.prog 41 c_L_heldProof := fn_ok (tyOK _) (E := mkE [(94, c_L_heldIntS)]) (consOK_cons m_L_heldIntS (consOK_nil rfl)) Try.func41 (h := h_L_heldProof) (by kernel_rfl) eq_L_heldProof

/-- L_heldBlind -/
def pk_L_heldBlind : List PK := [.data (.cons (.int .i64) (.cons (.cons (.int .i64) (.one (.int .i64))) (.one (.cons (.sl (.int .i64)) (.cons (.sl (.int .i64)) (.one (.sl (.int .i64)))))))), .data (.int .i64)]
def rk_L_heldBlind : List (Ty × Bool) := [((.int .i64), false)]
def h_L_heldBlind : Hints := { loops := [] }
noncomputable def M_L_heldBlind (x : ((Int × ((Int × Int) × ((List Int) × ((List Int) × (List Int))))) × Int)) : (Option Int) :=
  (bindO (M_L_heldProof ((x.1.2.2.1, (x.1.2.2.2.1, x.1.2.2.2.2)), x.2)) (fun (a0 : Int) => (cond (decide (a0 < (0 : Int))) (some (- (1 : Int))) (some a0))))

noncomputable def c_L_heldBlind : Con0 := ⟨pk_L_heldBlind, rk_L_heldBlind, M_L_heldBlind⟩

set_option maxRecDepth 100000 in
theorem eq_L_heldBlind (x : In pk_L_heldBlind) : semF (mkE [(41, c_L_heldProof)]) h_L_heldBlind (info Try.f32) pk_L_heldBlind rk_L_heldBlind x = M_L_heldBlind x := by kernel_rfl

set_option maxRecDepth 100000 in
theorem m_L_heldBlind : ConOK Try.prog 32 c_L_heldBlind := fn_ok (tyOK _) (E := mkE [(41, c_L_heldProof)]) (consOK_cons m_L_heldProof (consOK_nil rfl)) Try.func32 (h := h_L_heldBlind) (by kernel_rfl) eq_L_heldBlind

/-- L_FnExactBlindBy -/
def pk_L_FnExactBlindBy : List PK := [.data (.cons (.int .i64) (.cons (.int .i64) (.one (.int .i64)))), .data (.cons (.int .i64) (.one (.int .i64))), .data (.int .i64), .data (.int .i64), .data (.int .i64)]
def rk_L_FnExactBlindBy : List (Ty × Bool) := [(.bool, false)]
def h_L_FnExactBlindBy : Hints := { loops := [] }
noncomputable def M_L_FnExactBlindBy (x : ((Int × (Int × Int)) × ((Int × Int) × (Int × (Int × Int))))) : (Option Bool) :=
  (bindO (M_L_toGroup (x.1.1, (x.1.2.1, x.1.2.2))) (fun (a0 : (Int × (Int × Int))) => (bindO (M_L_toCipher (x.2.1.1, x.2.1.2)) (fun (a1 : (Int × Int)) => (bindO (M_S_BlindBy ((a0.1, (a0.2.1, a0.2.2)), ((a1.1, a1.2), (x.2.2.1, (x.2.2.2.1, x.2.2.2.2))))) (fun (a2 : ((Int × ((Int × Int) × ((List Int) × ((List Int) × (List Int))))) × Bool)) => (bindO (M_L_toGroup (x.1.1, (x.1.2.1, x.1.2.2))) (fun (a3 : (Int × (Int × Int))) => (bindO (M_L_toCipher (x.2.1.1, x.2.1.2)) (fun (a4 : (Int × Int)) => (bindO (M_I_BlindBy ((a3.1, (a3.2.1, a3.2.2)), ((a4.1, a4.2), (x.2.2.1, (x.2.2.2.1, x.2.2.2.2))))) (fun (a5 : ((Int × ((Int × Int) × ((List Int) × ((List Int) × (List Int))))) × Bool)) => (bindO (M_L_eqBlind ((a5.1.1, ((a5.1.2.1.1, a5.1.2.1.2), (a5.1.2.2.1, (a5.1.2.2.2.1, a5.1.2.2.2.2)))), (a2.1.1, ((a2.1.2.1.1, a2.1.2.1.2), (a2.1.2.2.1, (a2.1.2.2.2.1, a2.1.2.2.2.2)))))) (fun (a6 : Bool) => (cond (not a6) (some false) (cond (not (a5.2 == a2.2)) (some false) (bindO (M_L_markBlind ((a5.1.1, ((a5.1.2.1.1, a5.1.2.1.2), (a5.1.2.2.1, (a5.1.2.2.2.1, a5.1.2.2.2.2)))), (1 : Int))) (fun (a7 : (Int × (Int × ((Int × Int) × ((List Int) × ((List Int) × (List Int))))))) => (bindO (M_L_heldBlind ((a5.1.1, ((a5.1.2.1.1, a5.1.2.1.2), (a7.2.2.2.1, (a7.2.2.2.2.1, a7.2.2.2.2.2)))), (1 : Int))) (fun (a8 : Int) => (cond (decide (a8 < (0 : Int))) (some false) (cond (a8 != a7.1) (some false) (bindO (M_L_toGroup (x.1.1, (x.1.2.1, x.1.2.2))) (fun (a9 : (Int × (Int × Int))) => (bindO (M_L_toCipher (x.2.1.1, x.2.1.2)) (fun (a10 : (Int × Int)) => (bindO (M_I_BlindBy ((a9.1, (a9.2.1, a9.2.2)), ((a10.1, a10.2), (x.2.2.1, (x.2.2.2.1, x.2.2.2.2))))) (fun (a11 : ((Int × ((Int × Int) × ((List Int) × ((List Int) × (List Int))))) × Bool)) => (bindO (M_L_eqBlind ((a11.1.1, ((a11.1.2.1.1, a11.1.2.1.2), (a11.1.2.2.1, (a11.1.2.2.2.1, a11.1.2.2.2.2)))), (a2.1.1, ((a2.1.2.1.1, a2.1.2.1.2), (a2.1.2.2.1, (a2.1.2.2.2.1, a2.1.2.2.2.2)))))) (fun (a12 : Bool) => (cond (not a12) (some false) (cond (not (a11.2 == a2.2)) (some false) (bindO (M_L_heldBlind ((a5.1.1, ((a5.1.2.1.1, a5.1.2.1.2), (a7.2.2.2.1, (a7.2.2.2.2.1, a7.2.2.2.2.2)))), (1 : Int))) (fun (a13 : Int) => (cond (decide (a13 < (0 : Int))) (some false) (cond (a13 != a7.1) (some false) (some true)))))))))))))))))))))))))))))))))))))

noncomputable def c_L_FnExactBlindBy : Con0 := ⟨pk_L_FnExactBlindBy, rk_L_FnExactBlindBy, M_L_FnExactBlindBy⟩

set_option maxRecDepth 100000 in
theorem eq_L_FnExactBlindBy (x : In pk_L_FnExactBlindBy) : semF (mkE [(12, c_L_toGroup), (22, c_L_toCipher), (28, c_S_BlindBy), (29, c_I_BlindBy), (30, c_L_eqBlind), (31, c_L_markBlind), (32, c_L_heldBlind)]) h_L_FnExactBlindBy (info Try.f6) pk_L_FnExactBlindBy rk_L_FnExactBlindBy x = M_L_FnExactBlindBy x := by kernel_rfl

set_option maxRecDepth 100000 in
theorem m_L_FnExactBlindBy : ConOK Try.prog 6 c_L_FnExactBlindBy := fn_ok (tyOK _) (E := mkE [(12, c_L_toGroup), (22, c_L_toCipher), (28, c_S_BlindBy), (29, c_I_BlindBy), (30, c_L_eqBlind), (31, c_L_markBlind), (32, c_L_heldBlind)]) (consOK_cons m_L_toGroup (consOK_cons m_L_toCipher (consOK_cons m_S_BlindBy (consOK_cons m_I_BlindBy (consOK_cons m_L_eqBlind (consOK_cons m_L_markBlind (consOK_cons m_L_heldBlind (consOK_nil rfl)))))))) Try.func6 (h := h_L_FnExactBlindBy) (by kernel_rfl) eq_L_FnExactBlindBy

end Go.Proofs.Ytffknfalfklleaa.Vd
