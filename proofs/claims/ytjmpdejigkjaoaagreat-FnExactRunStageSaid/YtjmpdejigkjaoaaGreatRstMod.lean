/- The functions of the law as plain functions on data, and that the program's functions are these. No conditions. -/
import Derived.Test.YtjmpdejigkjaoaaGreatVdS
import Derived.Test.YtjmpdejigkjaoaaGreatChecked
import Derived.KernelRfl
set_option linter.unusedVariables false
namespace Go.Proofs.YtjmpdejigkjaoaaGreat.Vd
def tys : List (Option Ty) := [none, none, some (.int .i64), some (.int .i64), some .bool, some (.int .u8), some (.int .u8), some (.cons (.int .i64) (.cons (.int .i64) (.cons .bool (.one (.int .u8))))), some (.cons (.int .i64) (.cons (.int .i64) (.cons .bool (.one (.int .u8))))), some .str, some .str, some .str, some (.int .u64), some (.cons .str (.one (.int .u64))), some (.cons .str (.one (.int .u64))), none, none, none, none, none, none, some (.int .i32), some (.cons (.int .i64) (.cons (.int .i64) (.one (.int .i64)))), some (.cons (.int .i64) (.cons (.int .i64) (.one (.int .i64)))), some (.sl (.cons (.int .i64) (.one (.int .i64)))), some (.sl (.cons (.int .i64) (.cons (.sl (.cons (.int .i64) (.one (.int .i64)))) (.cons (.cons (.sl (.int .i64)) (.cons (.sl (.int .i64)) (.one (.cons (.sl (.int .i64)) (.cons (.sl (.int .i64)) (.one (.sl (.int .i64)))))))) (.one (.cons (.sl (.int .i64)) (.cons (.sl (.int .i64)) (.cons (.sl (.int .i64)) (.one (.cons (.sl (.int .i64)) (.cons (.sl (.int .i64)) (.one (.sl (.int .i64)))))))))))))), none, none, some (.sl (.int .i64)), some (.sl (.cons (.int .i64) (.one (.int .i64)))), none, none, some (.cons (.int .i64) (.cons (.int .i64) (.one (.int .i64)))), none, none, some (.sl (.cons (.int .i64) (.cons (.sl (.cons (.int .i64) (.one (.int .i64)))) (.cons (.cons (.sl (.int .i64)) (.cons (.sl (.int .i64)) (.one (.cons (.sl (.int .i64)) (.cons (.sl (.int .i64)) (.one (.sl (.int .i64)))))))) (.one (.cons (.sl (.int .i64)) (.cons (.sl (.int .i64)) (.cons (.sl (.int .i64)) (.one (.cons (.sl (.int .i64)) (.cons (.sl (.int .i64)) (.one (.sl (.int .i64)))))))))))))), none, none, none, none, none, none, none, none, some (.cons (.sl (.int .i64)) (.cons (.sl (.int .i64)) (.one (.sl (.int .i64))))), some (.cons (.sl (.int .i64)) (.cons (.sl (.int .i64)) (.one (.sl (.int .i64))))), some (.cons (.sl (.int .i64)) (.cons (.sl (.int .i64)) (.one (.cons (.sl (.int .i64)) (.cons (.sl (.int .i64)) (.one (.sl (.int .i64)))))))), some (.cons (.sl (.int .i64)) (.cons (.sl (.int .i64)) (.one (.cons (.sl (.int .i64)) (.cons (.sl (.int .i64)) (.one (.sl (.int .i64)))))))), some (.cons (.sl (.int .i64)) (.cons (.sl (.int .i64)) (.cons (.sl (.int .i64)) (.one (.cons (.sl (.int .i64)) (.cons (.sl (.int .i64)) (.one (.sl (.int .i64))))))))), some (.cons (.sl (.int .i64)) (.cons (.sl (.int .i64)) (.cons (.sl (.int .i64)) (.one (.cons (.sl (.int .i64)) (.cons (.sl (.int .i64)) (.one (.sl (.int .i64))))))))), some (.cons (.int .i64) (.cons (.sl (.cons (.int .i64) (.one (.int .i64)))) (.cons (.cons (.sl (.int .i64)) (.cons (.sl (.int .i64)) (.one (.cons (.sl (.int .i64)) (.cons (.sl (.int .i64)) (.one (.sl (.int .i64)))))))) (.one (.cons (.sl (.int .i64)) (.cons (.sl (.int .i64)) (.cons (.sl (.int .i64)) (.one (.cons (.sl (.int .i64)) (.cons (.sl (.int .i64)) (.one (.sl (.int .i64))))))))))))), some (.cons (.int .i64) (.cons (.sl (.cons (.int .i64) (.one (.int .i64)))) (.cons (.cons (.sl (.int .i64)) (.cons (.sl (.int .i64)) (.one (.cons (.sl (.int .i64)) (.cons (.sl (.int .i64)) (.one (.sl (.int .i64)))))))) (.one (.cons (.sl (.int .i64)) (.cons (.sl (.int .i64)) (.cons (.sl (.int .i64)) (.one (.cons (.sl (.int .i64)) (.cons (.sl (.int .i64)) (.one (.sl (.int .i64))))))))))))), none, none, none, some (.cons (.sl (.int .i64)) (.cons (.sl (.int .i64)) (.one (.sl (.int .i64))))), some (.cons (.sl (.int .i64)) (.cons (.sl (.int .i64)) (.one (.cons (.sl (.int .i64)) (.cons (.sl (.int .i64)) (.one (.sl (.int .i64)))))))), some (.cons (.sl (.int .i64)) (.cons (.sl (.int .i64)) (.one (.cons (.sl (.int .i64)) (.cons (.sl (.int .i64)) (.one (.sl (.int .i64)))))))), some (.cons (.sl (.int .i64)) (.cons (.sl (.int .i64)) (.cons (.sl (.int .i64)) (.one (.cons (.sl (.int .i64)) (.cons (.sl (.int .i64)) (.one (.sl (.int .i64))))))))), some (.cons (.sl (.int .i64)) (.cons (.sl (.int .i64)) (.cons (.sl (.int .i64)) (.one (.cons (.sl (.int .i64)) (.cons (.sl (.int .i64)) (.one (.sl (.int .i64))))))))), some (.cons (.int .i64) (.cons (.sl (.cons (.int .i64) (.one (.int .i64)))) (.cons (.cons (.sl (.int .i64)) (.cons (.sl (.int .i64)) (.one (.cons (.sl (.int .i64)) (.cons (.sl (.int .i64)) (.one (.sl (.int .i64)))))))) (.one (.cons (.sl (.int .i64)) (.cons (.sl (.int .i64)) (.cons (.sl (.int .i64)) (.one (.cons (.sl (.int .i64)) (.cons (.sl (.int .i64)) (.one (.sl (.int .i64))))))))))))), some (.cons (.int .i64) (.cons (.sl (.cons (.int .i64) (.one (.int .i64)))) (.cons (.cons (.sl (.int .i64)) (.cons (.sl (.int .i64)) (.one (.cons (.sl (.int .i64)) (.cons (.sl (.int .i64)) (.one (.sl (.int .i64)))))))) (.one (.cons (.sl (.int .i64)) (.cons (.sl (.int .i64)) (.cons (.sl (.int .i64)) (.one (.cons (.sl (.int .i64)) (.cons (.sl (.int .i64)) (.one (.sl (.int .i64))))))))))))), none, none, none, none, none, none, none, none, none, none, some (.sl (.sl (.int .i64))), none, none, none, none, none, none, none, none, some (.cons (.int .i64) (.one (.int .i64))), some (.cons (.int .i64) (.one (.int .i64))), none, some (.cons (.int .i64) (.one (.int .i64))), some (.cons (.int .i64) (.one (.sl (.int .i64)))), some (.cons (.int .i64) (.one (.sl (.int .i64)))), none, none, none, none, none, none, none, none, none, none, none, none, none, none, none, none, none, none, none, none, none, none, none, none, none, none, none, none, none, none, none, none, none, none, none, none, none, none, none, none, none, none, none, none, none, none, none, none, none, none, none, none, none, none, none, none, none, none, none, none, none, none, none, none, none, none, none, none, none, none, none, none, some (.one (.sl (.int .i64))), some (.one (.sl (.int .i64))), none, none, none, none, none, none, none, none, none, none, none, none, none, none, none, none, none, some (.cons (.sl (.int .i64)) (.cons (.sl (.int .i64)) (.cons (.sl (.int .i64)) (.cons (.sl (.int .i64)) (.one (.sl (.int .i64))))))), none, none, none, none, none, none, none, none, none, none, none, none, none, none, none, none, none, none, some (.int .u64), none, none, none, none, none, none, none, none, none, none, none, none, some (.cons (.int .i64) (.one (.int .i64))), some (.cons (.int .i64) (.one (.int .i64))), none, none, none, none, none, none, none, some (.int .u32), some (.int .u8), some (.int .u8), none, none, some (.int .i32), some (.int .i32), none, none, none]
def others : List Nat := [1, 15, 16, 17, 26, 27, 31, 33, 34, 36, 37, 38, 39, 40, 41, 42, 43, 52, 54, 62, 63, 64, 66, 68, 69, 70, 71, 73, 75, 76, 77, 78, 79, 80, 83, 88, 89, 90, 91, 92, 93, 94, 95, 96, 97, 98, 99, 100, 101, 102, 103, 104, 105, 106, 107, 108, 110, 112, 113, 114, 115, 116, 117, 118, 119, 120, 121, 122, 123, 124, 125, 126, 127, 128, 129, 130, 131, 132, 133, 134, 135, 137, 138, 139, 140, 141, 142, 143, 144, 145, 146, 147, 148, 149, 150, 152, 153, 154, 155, 157, 158, 161, 162, 163, 164, 165, 166, 167, 168, 169, 170, 171, 172, 173, 174, 175, 176, 177, 179, 180, 181, 182, 183, 184, 185, 186, 187, 188, 189, 190, 192, 193, 194, 195, 196, 198, 199, 200, 201, 202, 203, 204, 205, 206, 207, 208, 209, 212, 213, 222, 223]
def pairs : List Nat := [81, 82, 84, 210, 211]
def sgN : Nat → Nat → List Nat
  | _, 0 => []
  | a, n + 1 => a :: sgN (a + 1) n

noncomputable def mkE (con : List (Nat × Con0)) : Env := ⟨[], tys, others, pairs, con⟩

set_option maxRecDepth 100000 in
theorem tyOK (con : List (Nat × Con0)) : TyOK Tryz.prog (mkE con) := tyOK_of (E := mkE con) (by kernel_rfl) (by kernel_rfl) (by kernel_rfl)

/-- L_szCipherS -/
def pk_L_szCipherS : List PK := [.data (.sl (.cons (.int .i64) (.one (.int .i64)))), .data (.int .i64)]
def rk_L_szCipherS : List (Ty × Bool) := [((.int .i64), false)]
def h_L_szCipherS : Hints := { loops := [] }
noncomputable def M_L_szCipherS (x : ((List (Int × Int)) × Int)) : (Option Int) :=
  (bindO (some (IntKind.wrap .i64 (x.2 - (((List.length x.1) : Nat) : Int)))) (fun (a0 : Int) => (cond (decide (a0 < (0 : Int))) (some (- (1 : Int))) (some a0))))

noncomputable def c_L_szCipherS : Con0 := ⟨pk_L_szCipherS, rk_L_szCipherS, M_L_szCipherS⟩

set_option maxRecDepth 100000 in
theorem eq_L_szCipherS (x : In pk_L_szCipherS) : semF (mkE []) h_L_szCipherS (info Tryz.f8) pk_L_szCipherS rk_L_szCipherS x = M_L_szCipherS x := (semFF_eq _ _ _ _ _ _).symm.trans (by kernel_rfl)

set_option maxRecDepth 100000 in
theorem m_L_szCipherS : ConOK Tryz.prog 8 c_L_szCipherS := fn_ok (tyOK _) (E := mkE []) (consOK_nil rfl) Tryz.func8 (h := h_L_szCipherS) (by kernel_rfl) eq_L_szCipherS

/-- L_toGroup -/
def pk_L_toGroup : List PK := [.data (.cons (.int .i64) (.cons (.int .i64) (.one (.int .i64))))]
def rk_L_toGroup : List (Ty × Bool) := [((.cons (.int .i64) (.cons (.int .i64) (.one (.int .i64)))), false)]
def h_L_toGroup : Hints := { loops := [] }
noncomputable def M_L_toGroup (x : (Int × (Int × Int))) : (Option (Int × (Int × Int))) :=
  (some (x.1, (x.2.1, x.2.2)))

noncomputable def c_L_toGroup : Con0 := ⟨pk_L_toGroup, rk_L_toGroup, M_L_toGroup⟩

set_option maxRecDepth 100000 in
theorem eq_L_toGroup (x : In pk_L_toGroup) : semF (mkE []) h_L_toGroup (info Tryz.f11) pk_L_toGroup rk_L_toGroup x = M_L_toGroup x := (semFF_eq _ _ _ _ _ _).symm.trans (by kernel_rfl)

set_option maxRecDepth 100000 in
theorem m_L_toGroup : ConOK Tryz.prog 11 c_L_toGroup := fn_ok (tyOK _) (E := mkE []) (consOK_nil rfl) Tryz.func11 (h := h_L_toGroup) (by kernel_rfl) eq_L_toGroup

/-- L_toCipher -/
def pk_L_toCipher : List PK := [.data (.cons (.int .i64) (.one (.int .i64)))]
def rk_L_toCipher : List (Ty × Bool) := [((.cons (.int .i64) (.one (.int .i64))), false)]
def h_L_toCipher : Hints := { loops := [] }
noncomputable def M_L_toCipher (x : (Int × Int)) : (Option (Int × Int)) :=
  (some (x.1, x.2))

noncomputable def c_L_toCipher : Con0 := ⟨pk_L_toCipher, rk_L_toCipher, M_L_toCipher⟩

set_option maxRecDepth 100000 in
theorem eq_L_toCipher (x : In pk_L_toCipher) : semF (mkE []) h_L_toCipher (info Tryz.f44) pk_L_toCipher rk_L_toCipher x = M_L_toCipher x := (semFF_eq _ _ _ _ _ _).symm.trans (by kernel_rfl)

set_option maxRecDepth 100000 in
theorem m_L_toCipher : ConOK Tryz.prog 44 c_L_toCipher := fn_ok (tyOK _) (E := mkE []) (consOK_nil rfl) Tryz.func44 (h := h_L_toCipher) (by kernel_rfl) eq_L_toCipher

/-- L_toCipherS -/
def pk_L_toCipherS : List PK := [.data (.sl (.cons (.int .i64) (.one (.int .i64))))]
def rk_L_toCipherS : List (Ty × Bool) := [((.sl (.cons (.int .i64) (.one (.int .i64)))), true)]
def h_L_toCipherS : Hints := { loops := [(0, { items := [.slot 4 (.data (.int .i64) []), .arr 3 (.cons (.int .i64) (.one (.int .i64))) true], kill := [1, 2] ++ (sgN 5 18) })] }
noncomputable def M_L_toCipherS (x : (List (Int × Int))) : (Option (List (Int × Int))) :=
  (bindO (guardO (((decide ((0 : Int) ≤ (((List.length x) : Nat) : Int))) && (decide ((((List.length x) : Nat) : Int) ≤ (((List.length x) : Nat) : Int)))) && (decide ((((List.length x) : Nat) : Int) ≤ ((lim : Nat) : Int))))) (fun (a0 : Unit) => (loopO (fun (again1 : ((Int × (List (Int × Int))) → (Option (List (Int × Int))))) => (fun (s2 : (Int × (List (Int × Int)))) => (cond (decide (s2.1 < (((List.length x) : Nat) : Int))) (bindO (getI x s2.1) (fun (a3 : (Int × Int)) => (bindO (M_L_toCipher (a3.1, a3.2)) (fun (a4 : (Int × Int)) => (bindO (getI s2.2 s2.1) (fun (a5 : (Int × Int)) => (bindO (some (List.set s2.2 (Int.toNat s2.1) (a4.1, a4.2))) (fun (a6 : (List (Int × Int))) => (bindO (some (IntKind.wrap .i64 (s2.1 + (1 : Int)))) (fun (a7 : Int) => (again1 (a7, a6)))))))))))) (some s2.2)))) ((0 : Int), (List.replicate (Int.toNat (((List.length x) : Nat) : Int)) ((0 : Int), (0 : Int)))))))

noncomputable def c_L_toCipherS : Con0 := ⟨pk_L_toCipherS, rk_L_toCipherS, M_L_toCipherS⟩

set_option maxRecDepth 100000 in
theorem eq_L_toCipherS (x : In pk_L_toCipherS) : semF (mkE [(44, c_L_toCipher)]) h_L_toCipherS (info Tryz.f12) pk_L_toCipherS rk_L_toCipherS x = M_L_toCipherS x := (semFF_eq _ _ _ _ _ _).symm.trans (by kernel_rfl)

set_option maxRecDepth 100000 in
theorem m_L_toCipherS : ConOK Tryz.prog 12 c_L_toCipherS := fn_ok (tyOK _) (E := mkE [(44, c_L_toCipher)]) (consOK_cons m_L_toCipher (consOK_nil rfl)) Tryz.func12 (h := h_L_toCipherS) (by kernel_rfl) eq_L_toCipherS

/-- L_toIntS -/
def pk_L_toIntS : List PK := [.data (.sl (.int .i64))]
def rk_L_toIntS : List (Ty × Bool) := [((.sl (.int .i64)), true)]
def h_L_toIntS : Hints := { loops := [(0, { items := [.slot 4 (.data (.int .i64) []), .arr 3 (.int .i64) true], kill := [1, 2] ++ (sgN 5 17) })] }
noncomputable def M_L_toIntS (x : (List Int)) : (Option (List Int)) :=
  (bindO (guardO (((decide ((0 : Int) ≤ (((List.length x) : Nat) : Int))) && (decide ((((List.length x) : Nat) : Int) ≤ (((List.length x) : Nat) : Int)))) && (decide ((((List.length x) : Nat) : Int) ≤ ((lim : Nat) : Int))))) (fun (a0 : Unit) => (loopO (fun (again1 : ((Int × (List Int)) → (Option (List Int)))) => (fun (s2 : (Int × (List Int))) => (cond (decide (s2.1 < (((List.length x) : Nat) : Int))) (bindO (getI x s2.1) (fun (a3 : Int) => (bindO (getI s2.2 s2.1) (fun (a4 : Int) => (bindO (some (List.set s2.2 (Int.toNat s2.1) a3)) (fun (a5 : (List Int)) => (bindO (some (IntKind.wrap .i64 (s2.1 + (1 : Int)))) (fun (a6 : Int) => (again1 (a6, a5)))))))))) (some s2.2)))) ((0 : Int), (List.replicate (Int.toNat (((List.length x) : Nat) : Int)) (0 : Int))))))

noncomputable def c_L_toIntS : Con0 := ⟨pk_L_toIntS, rk_L_toIntS, M_L_toIntS⟩

set_option maxRecDepth 100000 in
theorem eq_L_toIntS (x : In pk_L_toIntS) : semF (mkE []) h_L_toIntS (info Tryz.f31) pk_L_toIntS rk_L_toIntS x = M_L_toIntS x := (semFF_eq _ _ _ _ _ _).symm.trans (by kernel_rfl)

set_option maxRecDepth 100000 in
theorem m_L_toIntS : ConOK Tryz.prog 31 c_L_toIntS := fn_ok (tyOK _) (E := mkE []) (consOK_nil rfl) Tryz.func31 (h := h_L_toIntS) (by kernel_rfl) eq_L_toIntS

/-- S_l1In -/
def pk_S_l1In : List PK := [.data (.int .i64), .data (.int .i64), .data (.int .i64)]
def rk_S_l1In : List (Ty × Bool) := [(.bool, false)]
def h_S_l1In : Hints := { loops := [] }
noncomputable def M_S_l1In (x : (Int × (Int × Int))) : (Option Bool) :=
  (cond (decide (x.1 ≥ x.2.1)) (some (decide (x.1 ≤ x.2.2))) (some false))

noncomputable def c_S_l1In : Con0 := ⟨pk_S_l1In, rk_S_l1In, M_S_l1In⟩

set_option maxRecDepth 100000 in
theorem eq_S_l1In (x : In pk_S_l1In) : semF (mkE []) h_S_l1In (info Tryz.f91) pk_S_l1In rk_S_l1In x = M_S_l1In x := (semFF_eq _ _ _ _ _ _).symm.trans (by kernel_rfl)

set_option maxRecDepth 100000 in
theorem m_S_l1In : ConOK Tryz.prog 91 c_S_l1In := fn_ok (tyOK _) (E := mkE []) (consOK_nil rfl) Tryz.func91 (h := h_S_l1In) (by kernel_rfl) eq_S_l1In

/-- S_CoinsForStage -/
def pk_S_CoinsForStage : List PK := [.data (.int .i64), .data (.int .i64)]
def rk_S_CoinsForStage : List (Ty × Bool) := [((.int .i64), false), (.bool, false)]
def h_S_CoinsForStage : Hints := { loops := [] }
noncomputable def M_S_CoinsForStage (x : (Int × Int)) : (Option (Int × Bool)) :=
  (bindO (M_S_l1In (x.2, ((1 : Int), (12 : Int)))) (fun (a0 : Bool) => (cond (not a0) (some ((0 : Int), false)) (cond (x.1 == (1 : Int)) (bindO (some (IntKind.wrap .i64 ((5 : Int) * x.2))) (fun (a1 : Int) => (bindO (some (IntKind.wrap .i64 (a1 + (4 : Int)))) (fun (a2 : Int) => (some (a2, true)))))) (cond (x.1 == (2 : Int)) (bindO (some (IntKind.wrap .i64 ((9 : Int) * x.2))) (fun (a3 : Int) => (bindO (some (IntKind.wrap .i64 (a3 + (2 : Int)))) (fun (a4 : Int) => (some (a4, true)))))) (some ((0 : Int), false)))))))

noncomputable def c_S_CoinsForStage : Con0 := ⟨pk_S_CoinsForStage, rk_S_CoinsForStage, M_S_CoinsForStage⟩

set_option maxRecDepth 100000 in
theorem eq_S_CoinsForStage (x : In pk_S_CoinsForStage) : semF (mkE [(91, c_S_l1In)]) h_S_CoinsForStage (info Tryz.f59) pk_S_CoinsForStage rk_S_CoinsForStage x = M_S_CoinsForStage x := (semFF_eq _ _ _ _ _ _).symm.trans (by kernel_rfl)

set_option maxRecDepth 100000 in
theorem m_S_CoinsForStage : ConOK Tryz.prog 59 c_S_CoinsForStage := fn_ok (tyOK _) (E := mkE [(91, c_S_l1In)]) (consOK_cons m_S_l1In (consOK_nil rfl)) Tryz.func59 (h := h_S_CoinsForStage) (by kernel_rfl) eq_S_CoinsForStage

/-- S_nPower -/
def pk_S_nPower : List PK := [.data (.int .i64), .data (.int .i64), .data (.int .i64)]
def rk_S_nPower : List (Ty × Bool) := [((.int .i64), false)]
def h_S_nPower : Hints := { loops := [(0, { items := [.slot 0 (.data (.int .i64) []), .slot 1 (.data (.int .i64) []), .slot 7 (.data (.int .i64) [])], kill := sgN 3 4 ++ (sgN 8 20) })] }
noncomputable def M_S_nPower (x : (Int × (Int × Int))) : (Option Int) :=
  (bindO (guardO (x.2.2 != (0 : Int))) (fun (a0 : Unit) => (bindO (some (Int.tmod (1 : Int) x.2.2)) (fun (a1 : Int) => (loopO (fun (again2 : ((Int × (Int × Int)) → (Option Int))) => (fun (s3 : (Int × (Int × Int))) => (cond (decide (s3.2.1 > (0 : Int))) (bindO (guardO ((2 : Int) != (0 : Int))) (fun (a4 : Unit) => (bindO (some (Int.tmod s3.2.1 (2 : Int))) (fun (a5 : Int) => (cond (a5 == (1 : Int)) (bindO (some (IntKind.wrap .i64 (s3.2.2 * s3.1))) (fun (a6 : Int) => (bindO (guardO (x.2.2 != (0 : Int))) (fun (a7 : Unit) => (bindO (some (Int.tmod a6 x.2.2)) (fun (a8 : Int) => (bindO (some (IntKind.wrap .i64 (s3.1 * s3.1))) (fun (a9 : Int) => (bindO (guardO (x.2.2 != (0 : Int))) (fun (a10 : Unit) => (bindO (some (Int.tmod a9 x.2.2)) (fun (a11 : Int) => (bindO (guardO ((2 : Int) != (0 : Int))) (fun (a12 : Unit) => (bindO (some (IntKind.wrap .i64 (Int.tdiv s3.2.1 (2 : Int)))) (fun (a13 : Int) => (again2 (a11, (a13, a8))))))))))))))))))) (bindO (some (IntKind.wrap .i64 (s3.1 * s3.1))) (fun (a14 : Int) => (bindO (guardO (x.2.2 != (0 : Int))) (fun (a15 : Unit) => (bindO (some (Int.tmod a14 x.2.2)) (fun (a16 : Int) => (bindO (guardO ((2 : Int) != (0 : Int))) (fun (a17 : Unit) => (bindO (some (IntKind.wrap .i64 (Int.tdiv s3.2.1 (2 : Int)))) (fun (a18 : Int) => (again2 (a16, (a18, s3.2.2)))))))))))))))))) (some s3.2.2)))) (x.1, (x.2.1, a1)))))))

noncomputable def c_S_nPower : Con0 := ⟨pk_S_nPower, rk_S_nPower, M_S_nPower⟩

set_option maxRecDepth 100000 in
theorem eq_S_nPower (x : In pk_S_nPower) : semF (mkE []) h_S_nPower (info Tryz.f158) pk_S_nPower rk_S_nPower x = M_S_nPower x := (semFF_eq _ _ _ _ _ _).symm.trans (by kernel_rfl)

set_option maxRecDepth 100000 in
theorem m_S_nPower : ConOK Tryz.prog 158 c_S_nPower := fn_ok (tyOK _) (E := mkE []) (consOK_nil rfl) Tryz.func158 (h := h_S_nPower) (by kernel_rfl) eq_S_nPower

/-- S_nPrime -/
def pk_S_nPrime : List PK := [.data (.int .i64)]
def rk_S_nPrime : List (Ty × Bool) := [(.bool, false)]
def h_S_nPrime : Hints := { loops := [(0, { items := [.slot 3 (.data (.int .i64) [])], kill := [1, 2] ++ (sgN 4 13) })] }
noncomputable def M_S_nPrime (x : Int) : (Option Bool) :=
  (cond (decide (x < (2 : Int))) (some false) (loopO (fun (again0 : (Int → (Option Bool))) => (fun (s1 : Int) => (bindO (some (IntKind.wrap .i64 (s1 * s1))) (fun (a2 : Int) => (cond (decide (a2 ≤ x)) (bindO (guardO (s1 != (0 : Int))) (fun (a3 : Unit) => (bindO (some (Int.tmod x s1)) (fun (a4 : Int) => (cond (a4 == (0 : Int)) (some false) (bindO (some (IntKind.wrap .i64 (s1 + (1 : Int)))) (fun (a5 : Int) => (again0 a5)))))))) (some true)))))) (2 : Int)))

noncomputable def c_S_nPrime : Con0 := ⟨pk_S_nPrime, rk_S_nPrime, M_S_nPrime⟩

set_option maxRecDepth 100000 in
theorem eq_S_nPrime (x : In pk_S_nPrime) : semF (mkE []) h_S_nPrime (info Tryz.f159) pk_S_nPrime rk_S_nPrime x = M_S_nPrime x := (semFF_eq _ _ _ _ _ _).symm.trans (by kernel_rfl)

set_option maxRecDepth 100000 in
theorem m_S_nPrime : ConOK Tryz.prog 159 c_S_nPrime := fn_ok (tyOK _) (E := mkE []) (consOK_nil rfl) Tryz.func159 (h := h_S_nPrime) (by kernel_rfl) eq_S_nPrime

/-- S_l2Good -/
def pk_S_l2Good : List PK := [.data (.cons (.int .i64) (.cons (.int .i64) (.one (.int .i64))))]
def rk_S_l2Good : List (Ty × Bool) := [(.bool, false)]
def h_S_l2Good : Hints := { loops := [] }
noncomputable def M_S_l2Good (x : (Int × (Int × Int))) : (Option Bool) :=
  (bindO (M_S_l1In (x.1, ((3 : Int), (2000000000 : Int)))) (fun (a0 : Bool) => (cond a0 (bindO (some (IntKind.wrap .i64 (x.1 - (1 : Int)))) (fun (a1 : Int) => (bindO (M_S_l1In (x.2.1, ((2 : Int), a1))) (fun (a2 : Bool) => (cond a2 (bindO (some (IntKind.wrap .i64 (x.1 - (1 : Int)))) (fun (a3 : Int) => (bindO (guardO (x.2.1 != (0 : Int))) (fun (a4 : Unit) => (bindO (some (Int.tmod a3 x.2.1)) (fun (a5 : Int) => (cond (a5 == (0 : Int)) (bindO (some (IntKind.wrap .i64 (x.1 - (1 : Int)))) (fun (a6 : Int) => (bindO (M_S_l1In (x.2.2, ((2 : Int), a6))) (fun (a7 : Bool) => (cond a7 (bindO (M_S_nPower (x.2.2, (x.2.1, x.1))) (fun (a8 : Int) => (cond (a8 == (1 : Int)) (bindO (M_S_nPrime x.2.1) (fun (a9 : Bool) => (cond a9 (bindO (M_S_nPrime x.1) (fun (a10 : Bool) => (some a10))) (some false)))) (some false)))) (some false)))))) (some false)))))))) (some false)))))) (some false))))

noncomputable def c_S_l2Good : Con0 := ⟨pk_S_l2Good, rk_S_l2Good, M_S_l2Good⟩

set_option maxRecDepth 100000 in
theorem eq_S_l2Good (x : In pk_S_l2Good) : semF (mkE [(91, c_S_l1In), (158, c_S_nPower), (159, c_S_nPrime)]) h_S_l2Good (info Tryz.f107) pk_S_l2Good rk_S_l2Good x = M_S_l2Good x := (semFF_eq _ _ _ _ _ _).symm.trans (by kernel_rfl)

set_option maxRecDepth 100000 in
theorem m_S_l2Good : ConOK Tryz.prog 107 c_S_l2Good := fn_ok (tyOK _) (E := mkE [(91, c_S_l1In), (158, c_S_nPower), (159, c_S_nPrime)]) (consOK_cons m_S_l1In (consOK_cons m_S_nPower (consOK_cons m_S_nPrime (consOK_nil rfl)))) Tryz.func107 (h := h_S_l2Good) (by kernel_rfl) eq_S_l2Good

/-- S_gIs -/
def pk_S_gIs : List PK := [.data (.cons (.int .i64) (.cons (.int .i64) (.one (.int .i64)))), .data (.sl (.int .i64))]
def rk_S_gIs : List (Ty × Bool) := [(.bool, false)]
def h_S_gIs : Hints := { loops := [(0, { items := [.slot 9 (.data (.int .i64) [])], kill := [0, 1] ++ (sgN 3 4 ++ (sgN 10 19)) })] }
noncomputable def M_S_gIs (x : ((Int × (Int × Int)) × (List Int))) : (Option Bool) :=
  (loopO (fun (again0 : (Int → (Option Bool))) => (fun (s1 : Int) => (cond (decide (s1 < (((List.length x.2) : Nat) : Int))) (bindO (getI x.2 s1) (fun (a2 : Int) => (bindO (some (IntKind.wrap .i64 (x.1.1 - (1 : Int)))) (fun (a3 : Int) => (bindO (M_S_l1In (a2, ((1 : Int), a3))) (fun (a4 : Bool) => (cond (not a4) (some false) (bindO (M_S_nPower (a2, (x.1.2.1, x.1.1))) (fun (a5 : Int) => (cond (a5 != (1 : Int)) (some false) (bindO (some (IntKind.wrap .i64 (s1 + (1 : Int)))) (fun (a6 : Int) => (again0 a6))))))))))))) (some true)))) (0 : Int))

noncomputable def c_S_gIs : Con0 := ⟨pk_S_gIs, rk_S_gIs, M_S_gIs⟩

set_option maxRecDepth 100000 in
theorem eq_S_gIs (x : In pk_S_gIs) : semF (mkE [(91, c_S_l1In), (158, c_S_nPower)]) h_S_gIs (info Tryz.f110) pk_S_gIs rk_S_gIs x = M_S_gIs x := (semFF_eq _ _ _ _ _ _).symm.trans (by kernel_rfl)

set_option maxRecDepth 100000 in
theorem m_S_gIs : ConOK Tryz.prog 110 c_S_gIs := fn_ok (tyOK _) (E := mkE [(91, c_S_l1In), (158, c_S_nPower)]) (consOK_cons m_S_l1In (consOK_cons m_S_nPower (consOK_nil rfl))) Tryz.func110 (h := h_S_gIs) (by kernel_rfl) eq_S_gIs

/-- S_eKey -/
def pk_S_eKey : List PK := [.data (.cons (.int .i64) (.cons (.int .i64) (.one (.int .i64)))), .data (.int .i64)]
def rk_S_eKey : List (Ty × Bool) := [(.bool, false)]
def h_S_eKey : Hints := { loops := [] }
noncomputable def M_S_eKey (x : ((Int × (Int × Int)) × Int)) : (Option Bool) :=
  (bindO (M_S_l2Good (x.1.1, (x.1.2.1, x.1.2.2))) (fun (a0 : Bool) => (cond a0 (bindO (M_S_gIs ((x.1.1, (x.1.2.1, x.1.2.2)), (x.2 :: ([] : List Int)))) (fun (a1 : Bool) => (some a1))) (some false))))

noncomputable def c_S_eKey : Con0 := ⟨pk_S_eKey, rk_S_eKey, M_S_eKey⟩

set_option maxRecDepth 100000 in
theorem eq_S_eKey (x : In pk_S_eKey) : semF (mkE [(107, c_S_l2Good), (110, c_S_gIs)]) h_S_eKey (info Tryz.f106) pk_S_eKey rk_S_eKey x = M_S_eKey x := (semFF_eq _ _ _ _ _ _).symm.trans (by kernel_rfl)

set_option maxRecDepth 100000 in
theorem m_S_eKey : ConOK Tryz.prog 106 c_S_eKey := fn_ok (tyOK _) (E := mkE [(107, c_S_l2Good), (110, c_S_gIs)]) (consOK_cons m_S_l2Good (consOK_cons m_S_gIs (consOK_nil rfl))) Tryz.func106 (h := h_S_eKey) (by kernel_rfl) eq_S_eKey

/-- S_eGood -/
def pk_S_eGood : List PK := [.data (.cons (.int .i64) (.cons (.int .i64) (.one (.int .i64)))), .data (.sl (.cons (.int .i64) (.one (.int .i64))))]
def rk_S_eGood : List (Ty × Bool) := [(.bool, false)]
def h_S_eGood : Hints := { loops := [(0, { items := [.slot 12 (.data (.int .i64) [])], kill := [0, 1] ++ (sgN 3 7 ++ (sgN 13 12)) })] }
noncomputable def M_S_eGood (x : ((Int × (Int × Int)) × (List (Int × Int)))) : (Option Bool) :=
  (cond (decide ((((List.length x.2) : Nat) : Int) > (24 : Int))) (some false) (loopO (fun (again0 : (Int → (Option Bool))) => (fun (s1 : Int) => (cond (decide (s1 < (((List.length x.2) : Nat) : Int))) (bindO (getI x.2 s1) (fun (a2 : (Int × Int)) => (bindO (M_S_gIs ((x.1.1, (x.1.2.1, x.1.2.2)), (a2.1 :: (a2.2 :: ([] : List Int))))) (fun (a3 : Bool) => (cond (not a3) (some false) (bindO (some (IntKind.wrap .i64 (s1 + (1 : Int)))) (fun (a4 : Int) => (again0 a4)))))))) (some true)))) (0 : Int)))

noncomputable def c_S_eGood : Con0 := ⟨pk_S_eGood, rk_S_eGood, M_S_eGood⟩

set_option maxRecDepth 100000 in
theorem eq_S_eGood (x : In pk_S_eGood) : semF (mkE [(110, c_S_gIs)]) h_S_eGood (info Tryz.f77) pk_S_eGood rk_S_eGood x = M_S_eGood x := (semFF_eq _ _ _ _ _ _).symm.trans (by kernel_rfl)

set_option maxRecDepth 100000 in
theorem m_S_eGood : ConOK Tryz.prog 77 c_S_eGood := fn_ok (tyOK _) (E := mkE [(110, c_S_gIs)]) (consOK_cons m_S_gIs (consOK_nil rfl)) Tryz.func77 (h := h_S_eGood) (by kernel_rfl) eq_S_eGood

/-- S_mList -/
def pk_S_mList : List PK := [.data (.cons (.int .i64) (.cons (.int .i64) (.one (.int .i64)))), .data (.int .i64), .data (.sl (.cons (.int .i64) (.one (.int .i64))))]
def rk_S_mList : List (Ty × Bool) := [(.bool, false)]
def h_S_mList : Hints := { loops := [] }
noncomputable def M_S_mList (x : ((Int × (Int × Int)) × (Int × (List (Int × Int))))) : (Option Bool) :=
  (bindO (M_S_eKey ((x.1.1, (x.1.2.1, x.1.2.2)), x.2.1)) (fun (a0 : Bool) => (cond a0 (bindO (M_S_l1In ((((List.length x.2.2) : Nat) : Int), ((1 : Int), (12 : Int)))) (fun (a1 : Bool) => (cond a1 (bindO (M_S_eGood ((x.1.1, (x.1.2.1, x.1.2.2)), x.2.2)) (fun (a2 : Bool) => (some a2))) (some false)))) (some false))))

noncomputable def c_S_mList : Con0 := ⟨pk_S_mList, rk_S_mList, M_S_mList⟩

set_option maxRecDepth 100000 in
theorem eq_S_mList (x : In pk_S_mList) : semF (mkE [(106, c_S_eKey), (91, c_S_l1In), (77, c_S_eGood)]) h_S_mList (info Tryz.f75) pk_S_mList rk_S_mList x = M_S_mList x := (semFF_eq _ _ _ _ _ _).symm.trans (by kernel_rfl)

set_option maxRecDepth 100000 in
theorem m_S_mList : ConOK Tryz.prog 75 c_S_mList := fn_ok (tyOK _) (E := mkE [(106, c_S_eKey), (91, c_S_l1In), (77, c_S_eGood)]) (consOK_cons m_S_eKey (consOK_cons m_S_l1In (consOK_cons m_S_eGood (consOK_nil rfl)))) Tryz.func75 (h := h_S_mList) (by kernel_rfl) eq_S_mList

/-- S_l3Digest -/
def pk_S_l3Digest : List PK := [.data (.int .i64)]
def rk_S_l3Digest : List (Ty × Bool) := [(.bool, false)]
def h_S_l3Digest : Hints := { loops := [] }
noncomputable def M_S_l3Digest (x : Int) : (Option Bool) :=
  (bindO (M_S_l1In (x, ((0 : Int), (4611686018427387903 : Int)))) (fun (a0 : Bool) => (some a0)))

noncomputable def c_S_l3Digest : Con0 := ⟨pk_S_l3Digest, rk_S_l3Digest, M_S_l3Digest⟩

set_option maxRecDepth 100000 in
theorem eq_S_l3Digest (x : In pk_S_l3Digest) : semF (mkE [(91, c_S_l1In)]) h_S_l3Digest (info Tryz.f160) pk_S_l3Digest rk_S_l3Digest x = M_S_l3Digest x := (semFF_eq _ _ _ _ _ _).symm.trans (by kernel_rfl)

set_option maxRecDepth 100000 in
theorem m_S_l3Digest : ConOK Tryz.prog 160 c_S_l3Digest := fn_ok (tyOK _) (E := mkE [(91, c_S_l1In)]) (consOK_cons m_S_l1In (consOK_nil rfl)) Tryz.func160 (h := h_S_l3Digest) (by kernel_rfl) eq_S_l3Digest

/-- S_l3With -/
def pk_S_l3With : List PK := [.data .str, .data (.sl (.int .i64))]
def rk_S_l3With : List (Ty × Bool) := [((.sl (.int .i64)), true)]
def h_S_l3With : Hints := { loops := [(0, { items := [.slot 5 (.own (.int .i64) true), .slot 6 (.data (.int .i64) [])], kill := [2, 3, 4] ++ (sgN 7 19) })] }
noncomputable def M_S_l3With (x : (ByteArray × (List Int))) : (Option (List Int)) :=
  (loopO (fun (again0 : (((List Int) × Int) → (Option (List Int)))) => (fun (s1 : ((List Int) × Int)) => (cond (decide (s1.2 < (((ByteArray.size x.1) : Nat) : Int))) (bindO (if ((0 : Int) ≤ s1.2) then (x.1[(Int.toNat s1.2)]?) else (none : Option (UInt8))) (fun (a2 : (UInt8)) => (bindO (guardO (lenOk ((List.length s1.1) + (List.length ((IntKind.wrap .i64 (((UInt8.toNat a2) : Nat) : Int)) :: ([] : List Int)))))) (fun (a3 : Unit) => (bindO (some (s1.1 ++ ((IntKind.wrap .i64 (((UInt8.toNat a2) : Nat) : Int)) :: ([] : List Int)))) (fun (a4 : (List Int)) => (bindO (some (IntKind.wrap .i64 (s1.2 + (1 : Int)))) (fun (a5 : Int) => (again0 (a4, a5)))))))))) (bindO (guardO (lenOk ((List.length s1.1) + (List.length x.2)))) (fun (a6 : Unit) => (bindO (some (s1.1 ++ x.2)) (fun (a7 : (List Int)) => (some a7)))))))) (((((ByteArray.size x.1) : Nat) : Int) :: ([] : List Int)), (0 : Int)))

noncomputable def c_S_l3With : Con0 := ⟨pk_S_l3With, rk_S_l3With, M_S_l3With⟩

set_option maxRecDepth 100000 in
theorem eq_S_l3With (x : In pk_S_l3With) : semF (mkE []) h_S_l3With (info Tryz.f205) pk_S_l3With rk_S_l3With x = M_S_l3With x := (semFF_eq _ _ _ _ _ _).symm.trans (by kernel_rfl)

set_option maxRecDepth 100000 in
theorem m_S_l3With : ConOK Tryz.prog 205 c_S_l3With := fn_ok (tyOK _) (E := mkE []) (consOK_nil rfl) Tryz.func205 (h := h_S_l3With) (by kernel_rfl) eq_S_l3With

/-- S_l3State_absorb -/
def pk_S_l3State_absorb : List PK := [.mp (.cons (.int .i64) (.one (.int .i64))) false, .data (.int .i64)]
def rk_S_l3State_absorb : List (Ty × Bool) := []
def h_S_l3State_absorb : Hints := { loops := [(0, { items := [.slot 12 (.data (.int .i64) []), .cell 0 0 (.data (.int .i64) []), .cell 0 1 (.data (.int .i64) [])], kill := sgN 1 9 ++ (sgN 13 28) })] }
noncomputable def M_S_l3State_absorb (x : ((Int × Int) × Int)) : (Option (Int × Int)) :=
  (bindO (guardO ((2147483648 : Int) != (0 : Int))) (fun (a0 : Unit) => (bindO (some (Int.tmod x.2 (2147483648 : Int))) (fun (a1 : Int) => (bindO (guardO ((2147483648 : Int) != (0 : Int))) (fun (a2 : Unit) => (bindO (some (IntKind.wrap .i64 (Int.tdiv x.2 (2147483648 : Int)))) (fun (a3 : Int) => (loopO (fun (again4 : ((Int × (Int × Int)) → (Option (Int × Int)))) => (fun (s5 : (Int × (Int × Int))) => (cond (decide (s5.1 < (((List.length (a1 :: (a3 :: ([] : List Int)))) : Nat) : Int))) (bindO (getI (a1 :: (a3 :: ([] : List Int))) s5.1) (fun (a6 : Int) => (bindO (some (IntKind.wrap .i64 ((48271 : Int) * s5.2.1))) (fun (a7 : Int) => (bindO (some (IntKind.wrap .i64 (a7 + a6))) (fun (a8 : Int) => (bindO (some (IntKind.wrap .i64 (a8 + (1 : Int)))) (fun (a9 : Int) => (bindO (guardO ((2147483647 : Int) != (0 : Int))) (fun (a10 : Unit) => (bindO (some (Int.tmod a9 (2147483647 : Int))) (fun (a11 : Int) => (bindO (some (IntKind.wrap .i64 ((69621 : Int) * s5.2.2))) (fun (a12 : Int) => (bindO (some (IntKind.wrap .i64 (a12 + a6))) (fun (a13 : Int) => (bindO (some (IntKind.wrap .i64 (a13 + (1 : Int)))) (fun (a14 : Int) => (bindO (guardO ((2147483647 : Int) != (0 : Int))) (fun (a15 : Unit) => (bindO (some (Int.tmod a14 (2147483647 : Int))) (fun (a16 : Int) => (bindO (some (IntKind.wrap .i64 (s5.1 + (1 : Int)))) (fun (a17 : Int) => (again4 (a17, (a11, a16))))))))))))))))))))))))))) (some (s5.2.1, s5.2.2))))) ((0 : Int), (x.1.1, x.1.2)))))))))))

noncomputable def c_S_l3State_absorb : Con0 := ⟨pk_S_l3State_absorb, rk_S_l3State_absorb, M_S_l3State_absorb⟩

set_option maxRecDepth 100000 in
theorem eq_S_l3State_absorb (x : In pk_S_l3State_absorb) : semF (mkE []) h_S_l3State_absorb (info Tryz.f209) pk_S_l3State_absorb rk_S_l3State_absorb x = M_S_l3State_absorb x := (semFF_eq _ _ _ _ _ _).symm.trans (by kernel_rfl)

set_option maxRecDepth 100000 in
theorem m_S_l3State_absorb : ConOK Tryz.prog 209 c_S_l3State_absorb := fn_ok (tyOK _) (E := mkE []) (consOK_nil rfl) Tryz.func209 (h := h_S_l3State_absorb) (by kernel_rfl) eq_S_l3State_absorb

/-- S_hInts -/
def pk_S_hInts : List PK := [.data (.sl (.int .i64))]
def rk_S_hInts : List (Ty × Bool) := [((.int .i64), false)]
def h_S_hInts : Hints := { loops := [(0, { items := [.slot 14 (.data (.int .i64) []), .cell 7 0 (.data (.int .i64) []), .cell 7 1 (.data (.int .i64) [])], kill := [0, 1, 2, 4, 5, 6] ++ (sgN 8 4 ++ (sgN 15 17)) })] }
noncomputable def M_S_hInts (x : (List Int)) : (Option Int) :=
  (bindO (M_S_l3State_absorb (((1 : Int), (2 : Int)), (((List.length x) : Nat) : Int))) (fun (a0 : (Int × Int)) => (loopO (fun (again1 : ((Int × (Int × Int)) → (Option Int))) => (fun (s2 : (Int × (Int × Int))) => (cond (decide (s2.1 < (((List.length x) : Nat) : Int))) (bindO (getI x s2.1) (fun (a3 : Int) => (bindO (M_S_l3State_absorb ((s2.2.1, s2.2.2), a3)) (fun (a4 : (Int × Int)) => (bindO (some (IntKind.wrap .i64 (s2.1 + (1 : Int)))) (fun (a5 : Int) => (again1 (a5, (a4.1, a4.2))))))))) (bindO (some (IntKind.wrap .i64 (s2.2.1 * (2147483648 : Int)))) (fun (a6 : Int) => (bindO (some (IntKind.wrap .i64 (a6 + s2.2.2))) (fun (a7 : Int) => (some a7)))))))) ((0 : Int), (a0.1, a0.2)))))

noncomputable def c_S_hInts : Con0 := ⟨pk_S_hInts, rk_S_hInts, M_S_hInts⟩

set_option maxRecDepth 100000 in
theorem eq_S_hInts (x : In pk_S_hInts) : semF (mkE [(209, c_S_l3State_absorb)]) h_S_hInts (info Tryz.f204) pk_S_hInts rk_S_hInts x = M_S_hInts x := (semFF_eq _ _ _ _ _ _).symm.trans (by kernel_rfl)

set_option maxRecDepth 100000 in
theorem m_S_hInts : ConOK Tryz.prog 204 c_S_hInts := fn_ok (tyOK _) (E := mkE [(209, c_S_l3State_absorb)]) (consOK_cons m_S_l3State_absorb (consOK_nil rfl)) Tryz.func204 (h := h_S_hInts) (by kernel_rfl) eq_S_hInts

/-- S_hLabelled -/
def pk_S_hLabelled : List PK := [.data .str, .data (.sl (.int .i64))]
def rk_S_hLabelled : List (Ty × Bool) := [((.int .i64), false)]
def h_S_hLabelled : Hints := { loops := [] }
noncomputable def M_S_hLabelled (x : (ByteArray × (List Int))) : (Option Int) :=
  (bindO (M_S_l3With (x.1, x.2)) (fun (a0 : (List Int)) => (bindO (M_S_hInts a0) (fun (a1 : Int) => (some a1)))))

noncomputable def c_S_hLabelled : Con0 := ⟨pk_S_hLabelled, rk_S_hLabelled, M_S_hLabelled⟩

set_option maxRecDepth 100000 in
theorem eq_S_hLabelled (x : In pk_S_hLabelled) : semF (mkE [(205, c_S_l3With), (204, c_S_hInts)]) h_S_hLabelled (info Tryz.f198) pk_S_hLabelled rk_S_hLabelled x = M_S_hLabelled x := (semFF_eq _ _ _ _ _ _).symm.trans (by kernel_rfl)

set_option maxRecDepth 100000 in
theorem m_S_hLabelled : ConOK Tryz.prog 198 c_S_hLabelled := fn_ok (tyOK _) (E := mkE [(205, c_S_l3With), (204, c_S_hInts)]) (consOK_cons m_S_l3With (consOK_cons m_S_hInts (consOK_nil rfl))) Tryz.func198 (h := h_S_hLabelled) (by kernel_rfl) eq_S_hLabelled

/-- S_hDerived -/
def pk_S_hDerived : List PK := [.data (.cons (.int .i64) (.cons (.int .i64) (.one (.int .i64)))), .data .str, .data (.int .i64)]
def rk_S_hDerived : List (Ty × Bool) := [((.int .i64), false)]
def h_S_hDerived : Hints := { loops := [(0, { items := [.slot 7 (.data (.int .i64) [])], kill := [0, 4, 5, 6] ++ (sgN 8 35) })] }
noncomputable def M_S_hDerived (x : ((Int × (Int × Int)) × (ByteArray × Int))) : (Option Int) :=
  (loopO (fun (again0 : (Int → (Option Int))) => (fun (s1 : Int) => (cond (decide (s1 < (1000 : Int))) (bindO (M_S_hLabelled (x.2.1, (x.1.1 :: (x.1.2.1 :: (x.1.2.2 :: (x.2.2 :: (s1 :: ([] : List Int)))))))) (fun (a2 : Int) => (bindO (some (IntKind.wrap .i64 (x.1.1 - (1 : Int)))) (fun (a3 : Int) => (bindO (guardO (a3 != (0 : Int))) (fun (a4 : Unit) => (bindO (some (Int.tmod a2 a3)) (fun (a5 : Int) => (bindO (some (IntKind.wrap .i64 ((1 : Int) + a5))) (fun (a6 : Int) => (bindO (some (IntKind.wrap .i64 (x.1.1 - (1 : Int)))) (fun (a7 : Int) => (bindO (guardO (x.1.2.1 != (0 : Int))) (fun (a8 : Unit) => (bindO (some (IntKind.wrap .i64 (Int.tdiv a7 x.1.2.1))) (fun (a9 : Int) => (bindO (M_S_nPower (a6, (a9, x.1.1))) (fun (a10 : Int) => (cond (a10 != (1 : Int)) (some a10) (bindO (some (IntKind.wrap .i64 (s1 + (1 : Int)))) (fun (a11 : Int) => (again0 a11)))))))))))))))))))))) (some (0 : Int))))) (0 : Int))

noncomputable def c_S_hDerived : Con0 := ⟨pk_S_hDerived, rk_S_hDerived, M_S_hDerived⟩

set_option maxRecDepth 100000 in
theorem eq_S_hDerived (x : In pk_S_hDerived) : semF (mkE [(198, c_S_hLabelled), (158, c_S_nPower)]) h_S_hDerived (info Tryz.f161) pk_S_hDerived rk_S_hDerived x = M_S_hDerived x := (semFF_eq _ _ _ _ _ _).symm.trans (by kernel_rfl)

set_option maxRecDepth 100000 in
theorem m_S_hDerived : ConOK Tryz.prog 161 c_S_hDerived := fn_ok (tyOK _) (E := mkE [(198, c_S_hLabelled), (158, c_S_nPower)]) (consOK_cons m_S_hLabelled (consOK_cons m_S_nPower (consOK_nil rfl))) Tryz.func161 (h := h_S_hDerived) (by kernel_rfl) eq_S_hDerived

/-- S_DeriveElement -/
def pk_S_DeriveElement : List PK := [.data (.cons (.int .i64) (.cons (.int .i64) (.one (.int .i64)))), .data .str, .data (.int .i64)]
def rk_S_DeriveElement : List (Ty × Bool) := [((.int .i64), false), (.bool, false)]
def h_S_DeriveElement : Hints := { loops := [] }
noncomputable def M_S_DeriveElement (x : ((Int × (Int × Int)) × (ByteArray × Int))) : (Option (Int × Bool)) :=
  (bindO (M_S_l2Good (x.1.1, (x.1.2.1, x.1.2.2))) (fun (a0 : Bool) => (cond (not a0) (some ((0 : Int), false)) (cond (decide ((((ByteArray.size x.2.1) : Nat) : Int) > (40 : Int))) (some ((0 : Int), false)) (bindO (M_S_l3Digest x.2.2) (fun (a1 : Bool) => (cond (not a1) (some ((0 : Int), false)) (bindO (M_S_hDerived ((x.1.1, (x.1.2.1, x.1.2.2)), (x.2.1, x.2.2))) (fun (a2 : Int) => (some (a2, (decide (a2 > (0 : Int))))))))))))))

noncomputable def c_S_DeriveElement : Con0 := ⟨pk_S_DeriveElement, rk_S_DeriveElement, M_S_DeriveElement⟩

set_option maxRecDepth 100000 in
theorem eq_S_DeriveElement (x : In pk_S_DeriveElement) : semF (mkE [(107, c_S_l2Good), (160, c_S_l3Digest), (161, c_S_hDerived)]) h_S_DeriveElement (info Tryz.f108) pk_S_DeriveElement rk_S_DeriveElement x = M_S_DeriveElement x := (semFF_eq _ _ _ _ _ _).symm.trans (by kernel_rfl)

set_option maxRecDepth 100000 in
theorem m_S_DeriveElement : ConOK Tryz.prog 108 c_S_DeriveElement := fn_ok (tyOK _) (E := mkE [(107, c_S_l2Good), (160, c_S_l3Digest), (161, c_S_hDerived)]) (consOK_cons m_S_l2Good (consOK_cons m_S_l3Digest (consOK_cons m_S_hDerived (consOK_nil rfl)))) Tryz.func108 (h := h_S_DeriveElement) (by kernel_rfl) eq_S_DeriveElement

/-- S_DeriveElements -/
def pk_S_DeriveElements : List PK := [.data (.cons (.int .i64) (.cons (.int .i64) (.one (.int .i64)))), .data .str, .data (.int .i64)]
def rk_S_DeriveElements : List (Ty × Bool) := [((.sl (.int .i64)), true), (.bool, false)]
def h_S_DeriveElements : Hints := { loops := [(0, { items := [.slot 8 (.own (.int .i64) true), .slot 9 (.data (.int .i64) [])], kill := [0] ++ (sgN 4 4 ++ (sgN 10 30)) })] }
noncomputable def M_S_DeriveElements (x : ((Int × (Int × Int)) × (ByteArray × Int))) : (Option ((List Int) × Bool)) :=
  (bindO (M_S_l2Good (x.1.1, (x.1.2.1, x.1.2.2))) (fun (a0 : Bool) => (cond (not a0) (some (([] : List Int), false)) (cond (decide ((((ByteArray.size x.2.1) : Nat) : Int) > (40 : Int))) (some (([] : List Int), false)) (bindO (M_S_l1In (x.2.2, ((0 : Int), (100 : Int)))) (fun (a1 : Bool) => (cond (not a1) (some (([] : List Int), false)) (loopO (fun (again2 : (((List Int) × Int) → (Option ((List Int) × Bool)))) => (fun (s3 : ((List Int) × Int)) => (cond (decide (s3.2 < x.2.2)) (bindO (M_S_hDerived ((x.1.1, (x.1.2.1, x.1.2.2)), (x.2.1, s3.2))) (fun (a4 : Int) => (cond (a4 == (0 : Int)) (some (([] : List Int), false)) (bindO (guardO (lenOk ((List.length s3.1) + (List.length (a4 :: ([] : List Int)))))) (fun (a5 : Unit) => (bindO (some (s3.1 ++ (a4 :: ([] : List Int)))) (fun (a6 : (List Int)) => (bindO (some (IntKind.wrap .i64 (s3.2 + (1 : Int)))) (fun (a7 : Int) => (again2 (a6, a7))))))))))) (some (s3.1, true))))) (([] : List Int), (0 : Int))))))))))

noncomputable def c_S_DeriveElements : Con0 := ⟨pk_S_DeriveElements, rk_S_DeriveElements, M_S_DeriveElements⟩

set_option maxRecDepth 100000 in
theorem eq_S_DeriveElements (x : In pk_S_DeriveElements) : semF (mkE [(107, c_S_l2Good), (91, c_S_l1In), (161, c_S_hDerived)]) h_S_DeriveElements (info Tryz.f109) pk_S_DeriveElements rk_S_DeriveElements x = M_S_DeriveElements x := (semFF_eq _ _ _ _ _ _).symm.trans (by kernel_rfl)

set_option maxRecDepth 100000 in
theorem m_S_DeriveElements : ConOK Tryz.prog 109 c_S_DeriveElements := fn_ok (tyOK _) (E := mkE [(107, c_S_l2Good), (91, c_S_l1In), (161, c_S_hDerived)]) (consOK_cons m_S_l2Good (consOK_cons m_S_l1In (consOK_cons m_S_hDerived (consOK_nil rfl)))) Tryz.func109 (h := h_S_DeriveElements) (by kernel_rfl) eq_S_DeriveElements

/-- S_BasesOf -/
def pk_S_BasesOf : List PK := [.data (.cons (.int .i64) (.cons (.int .i64) (.one (.int .i64)))), .data (.int .i64)]
def rk_S_BasesOf : List (Ty × Bool) := [((.cons (.int .i64) (.one (.sl (.int .i64)))), true), (.bool, false)]
def h_S_BasesOf : Hints := { loops := [] }
noncomputable def M_S_BasesOf (x : ((Int × (Int × Int)) × Int)) : (Option ((Int × (List Int)) × Bool)) :=
  (bindO (M_S_l2Good (x.1.1, (x.1.2.1, x.1.2.2))) (fun (a0 : Bool) => (cond (not a0) (some (((0 : Int), ([] : List Int)), false)) (bindO (M_S_l1In (x.2, ((0 : Int), (24 : Int)))) (fun (a1 : Bool) => (cond (not a1) (some (((0 : Int), ([] : List Int)), false)) (bindO (M_S_DeriveElement ((x.1.1, (x.1.2.1, x.1.2.2)), ((bytesOf [104]), (0 : Int)))) (fun (a2 : (Int × Bool)) => (bindO (M_S_DeriveElements ((x.1.1, (x.1.2.1, x.1.2.2)), ((bytesOf [104, 115]), x.2))) (fun (a3 : ((List Int) × Bool)) => (cond (not a2.2) (some (((0 : Int), ([] : List Int)), false)) (cond (not a3.2) (some (((0 : Int), ([] : List Int)), false)) (some ((a2.1, a3.1), true))))))))))))))

noncomputable def c_S_BasesOf : Con0 := ⟨pk_S_BasesOf, rk_S_BasesOf, M_S_BasesOf⟩

set_option maxRecDepth 100000 in
theorem eq_S_BasesOf (x : In pk_S_BasesOf) : semF (mkE [(107, c_S_l2Good), (91, c_S_l1In), (108, c_S_DeriveElement), (109, c_S_DeriveElements)]) h_S_BasesOf (info Tryz.f76) pk_S_BasesOf rk_S_BasesOf x = M_S_BasesOf x := (semFF_eq _ _ _ _ _ _).symm.trans (by kernel_rfl)

set_option maxRecDepth 100000 in
theorem m_S_BasesOf : ConOK Tryz.prog 76 c_S_BasesOf := fn_ok (tyOK _) (E := mkE [(107, c_S_l2Good), (91, c_S_l1In), (108, c_S_DeriveElement), (109, c_S_DeriveElements)]) (consOK_cons m_S_l2Good (consOK_cons m_S_l1In (consOK_cons m_S_DeriveElement (consOK_cons m_S_DeriveElements (consOK_nil rfl))))) Tryz.func76 (h := h_S_BasesOf) (by kernel_rfl) eq_S_BasesOf

/-- S_xReady -/
def pk_S_xReady : List PK := [.data (.cons (.int .i64) (.cons (.int .i64) (.one (.int .i64)))), .data (.int .i64), .data (.sl (.cons (.int .i64) (.one (.int .i64))))]
def rk_S_xReady : List (Ty × Bool) := [(.bool, false)]
def h_S_xReady : Hints := { loops := [] }
noncomputable def M_S_xReady (x : ((Int × (Int × Int)) × (Int × (List (Int × Int))))) : (Option Bool) :=
  (bindO (M_S_mList ((x.1.1, (x.1.2.1, x.1.2.2)), (x.2.1, x.2.2))) (fun (a0 : Bool) => (cond (not a0) (some false) (bindO (M_S_BasesOf ((x.1.1, (x.1.2.1, x.1.2.2)), (((List.length x.2.2) : Nat) : Int))) (fun (a1 : ((Int × (List Int)) × Bool)) => (some a1.2))))))

noncomputable def c_S_xReady : Con0 := ⟨pk_S_xReady, rk_S_xReady, M_S_xReady⟩

set_option maxRecDepth 100000 in
theorem eq_S_xReady (x : In pk_S_xReady) : semF (mkE [(75, c_S_mList), (76, c_S_BasesOf)]) h_S_xReady (info Tryz.f42) pk_S_xReady rk_S_xReady x = M_S_xReady x := (semFF_eq _ _ _ _ _ _).symm.trans (by kernel_rfl)

set_option maxRecDepth 100000 in
theorem m_S_xReady : ConOK Tryz.prog 42 c_S_xReady := fn_ok (tyOK _) (E := mkE [(75, c_S_mList), (76, c_S_BasesOf)]) (consOK_cons m_S_mList (consOK_cons m_S_BasesOf (consOK_nil rfl))) Tryz.func42 (h := h_S_xReady) (by kernel_rfl) eq_S_xReady

/-- S_l1All -/
def pk_S_l1All : List PK := [.data (.sl (.int .i64)), .data (.int .i64), .data (.int .i64)]
def rk_S_l1All : List (Ty × Bool) := [(.bool, false)]
def h_S_l1All : Hints := { loops := [(0, { items := [.slot 11 (.data (.int .i64) [])], kill := [0] ++ (sgN 3 6 ++ (sgN 12 9)) })] }
noncomputable def M_S_l1All (x : ((List Int) × (Int × Int))) : (Option Bool) :=
  (loopO (fun (again0 : (Int → (Option Bool))) => (fun (s1 : Int) => (cond (decide (s1 < (((List.length x.1) : Nat) : Int))) (bindO (getI x.1 s1) (fun (a2 : Int) => (bindO (M_S_l1In (a2, (x.2.1, x.2.2))) (fun (a3 : Bool) => (cond (not a3) (some false) (bindO (some (IntKind.wrap .i64 (s1 + (1 : Int)))) (fun (a4 : Int) => (again0 a4)))))))) (some true)))) (0 : Int))

noncomputable def c_S_l1All : Con0 := ⟨pk_S_l1All, rk_S_l1All, M_S_l1All⟩

set_option maxRecDepth 100000 in
theorem eq_S_l1All (x : In pk_S_l1All) : semF (mkE [(91, c_S_l1In)]) h_S_l1All (info Tryz.f92) pk_S_l1All rk_S_l1All x = M_S_l1All x := (semFF_eq _ _ _ _ _ _).symm.trans (by kernel_rfl)

set_option maxRecDepth 100000 in
theorem m_S_l1All : ConOK Tryz.prog 92 c_S_l1All := fn_ok (tyOK _) (E := mkE [(91, c_S_l1In)]) (consOK_cons m_S_l1In (consOK_nil rfl)) Tryz.func92 (h := h_S_l1All) (by kernel_rfl) eq_S_l1All

/-- S_l1Has -/
def pk_S_l1Has : List PK := [.data (.sl (.int .i64)), .data (.int .i64)]
def rk_S_l1Has : List (Ty × Bool) := [(.bool, false)]
def h_S_l1Has : Hints := { loops := [(0, { items := [.slot 9 (.data (.int .i64) [])], kill := [0] ++ (sgN 2 5 ++ (sgN 10 7)) })] }
noncomputable def M_S_l1Has (x : ((List Int) × Int)) : (Option Bool) :=
  (loopO (fun (again0 : (Int → (Option Bool))) => (fun (s1 : Int) => (cond (decide (s1 < (((List.length x.1) : Nat) : Int))) (bindO (getI x.1 s1) (fun (a2 : Int) => (cond (a2 == x.2) (some true) (bindO (some (IntKind.wrap .i64 (s1 + (1 : Int)))) (fun (a3 : Int) => (again0 a3)))))) (some false)))) (0 : Int))

noncomputable def c_S_l1Has : Con0 := ⟨pk_S_l1Has, rk_S_l1Has, M_S_l1Has⟩

set_option maxRecDepth 100000 in
theorem eq_S_l1Has (x : In pk_S_l1Has) : semF (mkE []) h_S_l1Has (info Tryz.f140) pk_S_l1Has rk_S_l1Has x = M_S_l1Has x := (semFF_eq _ _ _ _ _ _).symm.trans (by kernel_rfl)

set_option maxRecDepth 100000 in
theorem m_S_l1Has : ConOK Tryz.prog 140 c_S_l1Has := fn_ok (tyOK _) (E := mkE []) (consOK_nil rfl) Tryz.func140 (h := h_S_l1Has) (by kernel_rfl) eq_S_l1Has

/-- S_vDifferent -/
def pk_S_vDifferent : List PK := [.data (.sl (.int .i64))]
def rk_S_vDifferent : List (Ty × Bool) := [(.bool, false)]
def h_S_vDifferent : Hints := { loops := [(0, { items := [.slot 7 (.data (.int .i64) [])], kill := sgN 1 4 ++ (sgN 8 10) })] }
noncomputable def M_S_vDifferent (x : (List Int)) : (Option Bool) :=
  (loopO (fun (again0 : (Int → (Option Bool))) => (fun (s1 : Int) => (cond (decide (s1 < (((List.length x) : Nat) : Int))) (bindO (getI x s1) (fun (a2 : Int) => (bindO (sliceNH s1 (List.length x)) (fun (a3 : (Nat × Nat)) => (bindO (M_S_l1Has ((List.drop a3.1 (List.take a3.2 x)), a2)) (fun (a4 : Bool) => (cond a4 (some false) (bindO (some (IntKind.wrap .i64 (s1 + (1 : Int)))) (fun (a5 : Int) => (again0 a5)))))))))) (some true)))) (0 : Int))

noncomputable def c_S_vDifferent : Con0 := ⟨pk_S_vDifferent, rk_S_vDifferent, M_S_vDifferent⟩

set_option maxRecDepth 100000 in
theorem eq_S_vDifferent (x : In pk_S_vDifferent) : semF (mkE [(140, c_S_l1Has)]) h_S_vDifferent (info Tryz.f93) pk_S_vDifferent rk_S_vDifferent x = M_S_vDifferent x := (semFF_eq _ _ _ _ _ _).symm.trans (by kernel_rfl)

set_option maxRecDepth 100000 in
theorem m_S_vDifferent : ConOK Tryz.prog 93 c_S_vDifferent := fn_ok (tyOK _) (E := mkE [(140, c_S_l1Has)]) (consOK_cons m_S_l1Has (consOK_nil rfl)) Tryz.func93 (h := h_S_vDifferent) (by kernel_rfl) eq_S_vDifferent

/-- S_mGood -/
def pk_S_mGood : List PK := [.data (.sl (.int .i64))]
def rk_S_mGood : List (Ty × Bool) := [(.bool, false)]
def h_S_mGood : Hints := { loops := [] }
noncomputable def M_S_mGood (x : (List Int)) : (Option Bool) :=
  (cond (decide ((((List.length x) : Nat) : Int) ≤ (24 : Int))) (bindO (some (IntKind.wrap .i64 ((((List.length x) : Nat) : Int) - (1 : Int)))) (fun (a0 : Int) => (bindO (M_S_l1All (x, ((0 : Int), a0))) (fun (a1 : Bool) => (cond a1 (bindO (M_S_vDifferent x) (fun (a2 : Bool) => (some a2))) (some false)))))) (some false))

noncomputable def c_S_mGood : Con0 := ⟨pk_S_mGood, rk_S_mGood, M_S_mGood⟩

set_option maxRecDepth 100000 in
theorem eq_S_mGood (x : In pk_S_mGood) : semF (mkE [(92, c_S_l1All), (93, c_S_vDifferent)]) h_S_mGood (info Tryz.f60) pk_S_mGood rk_S_mGood x = M_S_mGood x := (semFF_eq _ _ _ _ _ _).symm.trans (by kernel_rfl)

set_option maxRecDepth 100000 in
theorem m_S_mGood : ConOK Tryz.prog 60 c_S_mGood := fn_ok (tyOK _) (E := mkE [(92, c_S_l1All), (93, c_S_vDifferent)]) (consOK_cons m_S_l1All (consOK_cons m_S_vDifferent (consOK_nil rfl))) Tryz.func60 (h := h_S_mGood) (by kernel_rfl) eq_S_mGood

/-- S_gExps -/
def pk_S_gExps : List PK := [.data (.cons (.int .i64) (.cons (.int .i64) (.one (.int .i64)))), .data (.sl (.int .i64))]
def rk_S_gExps : List (Ty × Bool) := [(.bool, false)]
def h_S_gExps : Hints := { loops := [] }
noncomputable def M_S_gExps (x : ((Int × (Int × Int)) × (List Int))) : (Option Bool) :=
  (bindO (some (IntKind.wrap .i64 (x.1.2.1 - (1 : Int)))) (fun (a0 : Int) => (bindO (M_S_l1All (x.2, ((0 : Int), a0))) (fun (a1 : Bool) => (some a1)))))

noncomputable def c_S_gExps : Con0 := ⟨pk_S_gExps, rk_S_gExps, M_S_gExps⟩

set_option maxRecDepth 100000 in
theorem eq_S_gExps (x : In pk_S_gExps) : semF (mkE [(92, c_S_l1All)]) h_S_gExps (info Tryz.f61) pk_S_gExps rk_S_gExps x = M_S_gExps x := (semFF_eq _ _ _ _ _ _).symm.trans (by kernel_rfl)

set_option maxRecDepth 100000 in
theorem m_S_gExps : ConOK Tryz.prog 61 c_S_gExps := fn_ok (tyOK _) (E := mkE [(92, c_S_l1All)]) (consOK_cons m_S_l1All (consOK_nil rfl)) Tryz.func61 (h := h_S_gExps) (by kernel_rfl) eq_S_gExps

/-- S_nMod -/
def pk_S_nMod : List PK := [.data (.int .i64), .data (.int .i64)]
def rk_S_nMod : List (Ty × Bool) := [((.int .i64), false)]
def h_S_nMod : Hints := { loops := [] }
noncomputable def M_S_nMod (x : (Int × Int)) : (Option Int) :=
  (bindO (guardO (x.2 != (0 : Int))) (fun (a0 : Unit) => (bindO (some (Int.tmod x.1 x.2)) (fun (a1 : Int) => (bindO (some (IntKind.wrap .i64 (a1 + x.2))) (fun (a2 : Int) => (bindO (guardO (x.2 != (0 : Int))) (fun (a3 : Unit) => (bindO (some (Int.tmod a2 x.2)) (fun (a4 : Int) => (some a4)))))))))))

noncomputable def c_S_nMod : Con0 := ⟨pk_S_nMod, rk_S_nMod, M_S_nMod⟩

set_option maxRecDepth 100000 in
theorem eq_S_nMod (x : In pk_S_nMod) : semF (mkE []) h_S_nMod (info Tryz.f193) pk_S_nMod rk_S_nMod x = M_S_nMod x := (semFF_eq _ _ _ _ _ _).symm.trans (by kernel_rfl)

set_option maxRecDepth 100000 in
theorem m_S_nMod : ConOK Tryz.prog 193 c_S_nMod := fn_ok (tyOK _) (E := mkE []) (consOK_nil rfl) Tryz.func193 (h := h_S_nMod) (by kernel_rfl) eq_S_nMod

/-- S_gExp -/
def pk_S_gExp : List PK := [.data (.cons (.int .i64) (.cons (.int .i64) (.one (.int .i64)))), .data (.int .i64), .data (.int .i64)]
def rk_S_gExp : List (Ty × Bool) := [((.int .i64), false)]
def h_S_gExp : Hints := { loops := [] }
noncomputable def M_S_gExp (x : ((Int × (Int × Int)) × (Int × Int))) : (Option Int) :=
  (bindO (M_S_nMod (x.2.2, x.1.2.1)) (fun (a0 : Int) => (bindO (M_S_nPower (x.2.1, (a0, x.1.1))) (fun (a1 : Int) => (some a1)))))

noncomputable def c_S_gExp : Con0 := ⟨pk_S_gExp, rk_S_gExp, M_S_gExp⟩

set_option maxRecDepth 100000 in
theorem eq_S_gExp (x : In pk_S_gExp) : semF (mkE [(193, c_S_nMod), (158, c_S_nPower)]) h_S_gExp (info Tryz.f169) pk_S_gExp rk_S_gExp x = M_S_gExp x := (semFF_eq _ _ _ _ _ _).symm.trans (by kernel_rfl)

set_option maxRecDepth 100000 in
theorem m_S_gExp : ConOK Tryz.prog 169 c_S_gExp := fn_ok (tyOK _) (E := mkE [(193, c_S_nMod), (158, c_S_nPower)]) (consOK_cons m_S_nMod (consOK_cons m_S_nPower (consOK_nil rfl))) Tryz.func169 (h := h_S_gExp) (by kernel_rfl) eq_S_gExp

/-- S_gMul -/
def pk_S_gMul : List PK := [.data (.cons (.int .i64) (.cons (.int .i64) (.one (.int .i64)))), .data (.sl (.int .i64))]
def rk_S_gMul : List (Ty × Bool) := [((.int .i64), false)]
def h_S_gMul : Hints := { loops := [(0, { items := [.slot 5 (.data (.int .i64) []), .slot 10 (.data (.int .i64) [])], kill := [0, 1, 3, 4, 6, 7] ++ (sgN 11 11) })] }
noncomputable def M_S_gMul (x : ((Int × (Int × Int)) × (List Int))) : (Option Int) :=
  (loopO (fun (again0 : ((Int × Int) → (Option Int))) => (fun (s1 : (Int × Int)) => (cond (decide (s1.2 < (((List.length x.2) : Nat) : Int))) (bindO (getI x.2 s1.2) (fun (a2 : Int) => (bindO (some (IntKind.wrap .i64 (s1.1 * a2))) (fun (a3 : Int) => (bindO (guardO (x.1.1 != (0 : Int))) (fun (a4 : Unit) => (bindO (some (Int.tmod a3 x.1.1)) (fun (a5 : Int) => (bindO (some (IntKind.wrap .i64 (s1.2 + (1 : Int)))) (fun (a6 : Int) => (again0 (a5, a6)))))))))))) (some s1.1)))) ((1 : Int), (0 : Int)))

noncomputable def c_S_gMul : Con0 := ⟨pk_S_gMul, rk_S_gMul, M_S_gMul⟩

set_option maxRecDepth 100000 in
theorem eq_S_gMul (x : In pk_S_gMul) : semF (mkE []) h_S_gMul (info Tryz.f166) pk_S_gMul rk_S_gMul x = M_S_gMul x := (semFF_eq _ _ _ _ _ _).symm.trans (by kernel_rfl)

set_option maxRecDepth 100000 in
theorem m_S_gMul : ConOK Tryz.prog 166 c_S_gMul := fn_ok (tyOK _) (E := mkE []) (consOK_nil rfl) Tryz.func166 (h := h_S_gMul) (by kernel_rfl) eq_S_gMul

/-- S_eEnc -/
def pk_S_eEnc : List PK := [.data (.cons (.int .i64) (.cons (.int .i64) (.one (.int .i64)))), .data (.int .i64), .data (.int .i64), .data (.int .i64)]
def rk_S_eEnc : List (Ty × Bool) := [((.cons (.int .i64) (.one (.int .i64))), false)]
def h_S_eEnc : Hints := { loops := [] }
noncomputable def M_S_eEnc (x : ((Int × (Int × Int)) × (Int × (Int × Int)))) : (Option (Int × Int)) :=
  (bindO (M_S_gExp ((x.1.1, (x.1.2.1, x.1.2.2)), (x.1.2.2, x.2.2.2))) (fun (a0 : Int) => (bindO (M_S_gExp ((x.1.1, (x.1.2.1, x.1.2.2)), (x.2.1, x.2.2.2))) (fun (a1 : Int) => (bindO (M_S_gMul ((x.1.1, (x.1.2.1, x.1.2.2)), (x.2.2.1 :: (a1 :: ([] : List Int))))) (fun (a2 : Int) => (some (a0, a2))))))))

noncomputable def c_S_eEnc : Con0 := ⟨pk_S_eEnc, rk_S_eEnc, M_S_eEnc⟩

set_option maxRecDepth 100000 in
theorem eq_S_eEnc (x : In pk_S_eEnc) : semF (mkE [(169, c_S_gExp), (166, c_S_gMul)]) h_S_eEnc (info Tryz.f185) pk_S_eEnc rk_S_eEnc x = M_S_eEnc x := (semFF_eq _ _ _ _ _ _).symm.trans (by kernel_rfl)

set_option maxRecDepth 100000 in
theorem m_S_eEnc : ConOK Tryz.prog 185 c_S_eEnc := fn_ok (tyOK _) (E := mkE [(169, c_S_gExp), (166, c_S_gMul)]) (consOK_cons m_S_gExp (consOK_cons m_S_gMul (consOK_nil rfl))) Tryz.func185 (h := h_S_eEnc) (by kernel_rfl) eq_S_eEnc

/-- S_eMul -/
def pk_S_eMul : List PK := [.data (.cons (.int .i64) (.cons (.int .i64) (.one (.int .i64)))), .data (.sl (.cons (.int .i64) (.one (.int .i64))))]
def rk_S_eMul : List (Ty × Bool) := [((.cons (.int .i64) (.one (.int .i64))), false)]
def h_S_eMul : Hints := { loops := [(0, { items := [.slot 11 (.data (.int .i64) []), .cell 5 0 (.data (.int .i64) []), .cell 5 1 (.data (.int .i64) [])], kill := [0, 1, 3, 6, 7, 8] ++ (sgN 12 20) })] }
noncomputable def M_S_eMul (x : ((Int × (Int × Int)) × (List (Int × Int)))) : (Option (Int × Int)) :=
  (loopO (fun (again0 : ((Int × (Int × Int)) → (Option (Int × Int)))) => (fun (s1 : (Int × (Int × Int))) => (cond (decide (s1.1 < (((List.length x.2) : Nat) : Int))) (bindO (getI x.2 s1.1) (fun (a2 : (Int × Int)) => (bindO (M_S_gMul ((x.1.1, (x.1.2.1, x.1.2.2)), (s1.2.1 :: (a2.1 :: ([] : List Int))))) (fun (a3 : Int) => (bindO (M_S_gMul ((x.1.1, (x.1.2.1, x.1.2.2)), (s1.2.2 :: (a2.2 :: ([] : List Int))))) (fun (a4 : Int) => (bindO (some (IntKind.wrap .i64 (s1.1 + (1 : Int)))) (fun (a5 : Int) => (again0 (a5, (a3, a4))))))))))) (some (s1.2.1, s1.2.2))))) ((0 : Int), ((1 : Int), (1 : Int))))

noncomputable def c_S_eMul : Con0 := ⟨pk_S_eMul, rk_S_eMul, M_S_eMul⟩

set_option maxRecDepth 100000 in
theorem eq_S_eMul (x : In pk_S_eMul) : semF (mkE [(166, c_S_gMul)]) h_S_eMul (info Tryz.f184) pk_S_eMul rk_S_eMul x = M_S_eMul x := (semFF_eq _ _ _ _ _ _).symm.trans (by kernel_rfl)

set_option maxRecDepth 100000 in
theorem m_S_eMul : ConOK Tryz.prog 184 c_S_eMul := fn_ok (tyOK _) (E := mkE [(166, c_S_gMul)]) (consOK_cons m_S_gMul (consOK_nil rfl)) Tryz.func184 (h := h_S_eMul) (by kernel_rfl) eq_S_eMul

/-- S_eRe -/
def pk_S_eRe : List PK := [.data (.cons (.int .i64) (.cons (.int .i64) (.one (.int .i64)))), .data (.int .i64), .data (.cons (.int .i64) (.one (.int .i64))), .data (.int .i64)]
def rk_S_eRe : List (Ty × Bool) := [((.cons (.int .i64) (.one (.int .i64))), false)]
def h_S_eRe : Hints := { loops := [] }
noncomputable def M_S_eRe (x : ((Int × (Int × Int)) × (Int × ((Int × Int) × Int)))) : (Option (Int × Int)) :=
  (bindO (M_S_eEnc ((x.1.1, (x.1.2.1, x.1.2.2)), (x.2.1, ((1 : Int), x.2.2.2)))) (fun (a0 : (Int × Int)) => (bindO (M_S_eMul ((x.1.1, (x.1.2.1, x.1.2.2)), ((x.2.2.1.1, x.2.2.1.2) :: ((a0.1, a0.2) :: ([] : List (Int × Int)))))) (fun (a1 : (Int × Int)) => (some (a1.1, a1.2))))))

noncomputable def c_S_eRe : Con0 := ⟨pk_S_eRe, rk_S_eRe, M_S_eRe⟩

set_option maxRecDepth 100000 in
theorem eq_S_eRe (x : In pk_S_eRe) : semF (mkE [(185, c_S_eEnc), (184, c_S_eMul)]) h_S_eRe (info Tryz.f141) pk_S_eRe rk_S_eRe x = M_S_eRe x := (semFF_eq _ _ _ _ _ _).symm.trans (by kernel_rfl)

set_option maxRecDepth 100000 in
theorem m_S_eRe : ConOK Tryz.prog 141 c_S_eRe := fn_ok (tyOK _) (E := mkE [(185, c_S_eEnc), (184, c_S_eMul)]) (consOK_cons m_S_eEnc (consOK_cons m_S_eMul (consOK_nil rfl))) Tryz.func141 (h := h_S_eRe) (by kernel_rfl) eq_S_eRe

/-- S_mMix -/
def pk_S_mMix : List PK := [.data (.cons (.int .i64) (.cons (.int .i64) (.one (.int .i64)))), .data (.int .i64), .data (.sl (.cons (.int .i64) (.one (.int .i64)))), .data (.sl (.int .i64)), .data (.sl (.int .i64))]
def rk_S_mMix : List (Ty × Bool) := [((.sl (.cons (.int .i64) (.one (.int .i64)))), true)]
def h_S_mMix : Hints := { loops := [(0, { items := [.slot 11 (.own (.cons (.int .i64) (.one (.int .i64))) true), .slot 16 (.data (.int .i64) [])], kill := [0, 3] ++ (sgN 6 5 ++ ([12, 13] ++ (sgN 17 20))) })] }
noncomputable def M_S_mMix (x : ((Int × (Int × Int)) × (Int × ((List (Int × Int)) × ((List Int) × (List Int)))))) : (Option (List (Int × Int))) :=
  (loopO (fun (again0 : (((List (Int × Int)) × Int) → (Option (List (Int × Int))))) => (fun (s1 : ((List (Int × Int)) × Int)) => (cond (decide (s1.2 < (((List.length x.2.2.2.1) : Nat) : Int))) (bindO (getI x.2.2.2.1 s1.2) (fun (a2 : Int) => (bindO (getI x.2.2.1 a2) (fun (a3 : (Int × Int)) => (bindO (getI x.2.2.2.2 s1.2) (fun (a4 : Int) => (bindO (M_S_eRe ((x.1.1, (x.1.2.1, x.1.2.2)), (x.2.1, ((a3.1, a3.2), a4)))) (fun (a5 : (Int × Int)) => (bindO (guardO (lenOk ((List.length s1.1) + (List.length ((a5.1, a5.2) :: ([] : List (Int × Int))))))) (fun (a6 : Unit) => (bindO (some (s1.1 ++ ((a5.1, a5.2) :: ([] : List (Int × Int))))) (fun (a7 : (List (Int × Int))) => (bindO (some (IntKind.wrap .i64 (s1.2 + (1 : Int)))) (fun (a8 : Int) => (again0 (a7, a8)))))))))))))))) (some s1.1)))) (([] : List (Int × Int)), (0 : Int)))

noncomputable def c_S_mMix : Con0 := ⟨pk_S_mMix, rk_S_mMix, M_S_mMix⟩

set_option maxRecDepth 100000 in
theorem eq_S_mMix (x : In pk_S_mMix) : semF (mkE [(141, c_S_eRe)]) h_S_mMix (info Tryz.f94) pk_S_mMix rk_S_mMix x = M_S_mMix x := (semFF_eq _ _ _ _ _ _).symm.trans (by kernel_rfl)

set_option maxRecDepth 100000 in
theorem m_S_mMix : ConOK Tryz.prog 94 c_S_mMix := fn_ok (tyOK _) (E := mkE [(141, c_S_eRe)]) (consOK_cons m_S_eRe (consOK_nil rfl)) Tryz.func94 (h := h_S_mMix) (by kernel_rfl) eq_S_mMix

/-- S_yPoints -/
def pk_S_yPoints : List PK := [.data (.sl (.int .i64))]
def rk_S_yPoints : List (Ty × Bool) := [(.bool, false)]
def h_S_yPoints : Hints := { loops := [(0, { items := [.slot 7 (.data (.int .i64) [])], kill := sgN 1 4 ++ (sgN 8 10) })] }
noncomputable def M_S_yPoints (x : (List Int)) : (Option Bool) :=
  (loopO (fun (again0 : (Int → (Option Bool))) => (fun (s1 : Int) => (cond (decide (s1 < (((List.length x) : Nat) : Int))) (bindO (getI x s1) (fun (a2 : Int) => (bindO (sliceNH s1 (List.length x)) (fun (a3 : (Nat × Nat)) => (bindO (M_S_l1Has ((List.drop a3.1 (List.take a3.2 x)), a2)) (fun (a4 : Bool) => (cond a4 (some false) (bindO (some (IntKind.wrap .i64 (s1 + (1 : Int)))) (fun (a5 : Int) => (again0 a5)))))))))) (some true)))) (0 : Int))

noncomputable def c_S_yPoints : Con0 := ⟨pk_S_yPoints, rk_S_yPoints, M_S_yPoints⟩

set_option maxRecDepth 100000 in
theorem eq_S_yPoints (x : In pk_S_yPoints) : semF (mkE [(140, c_S_l1Has)]) h_S_yPoints (info Tryz.f186) pk_S_yPoints rk_S_yPoints x = M_S_yPoints x := (semFF_eq _ _ _ _ _ _).symm.trans (by kernel_rfl)

set_option maxRecDepth 100000 in
theorem m_S_yPoints : ConOK Tryz.prog 186 c_S_yPoints := fn_ok (tyOK _) (E := mkE [(140, c_S_l1Has)]) (consOK_cons m_S_l1Has (consOK_nil rfl)) Tryz.func186 (h := h_S_yPoints) (by kernel_rfl) eq_S_yPoints

/-- S_mPerm -/
def pk_S_mPerm : List PK := [.data (.sl (.int .i64)), .data (.int .i64)]
def rk_S_mPerm : List (Ty × Bool) := [(.bool, false)]
def h_S_mPerm : Hints := { loops := [] }
noncomputable def M_S_mPerm (x : ((List Int) × Int)) : (Option Bool) :=
  (cond ((((List.length x.1) : Nat) : Int) == x.2) (bindO (some (IntKind.wrap .i64 (x.2 - (1 : Int)))) (fun (a0 : Int) => (bindO (M_S_l1All (x.1, ((0 : Int), a0))) (fun (a1 : Bool) => (cond a1 (bindO (M_S_yPoints x.1) (fun (a2 : Bool) => (some a2))) (some false)))))) (some false))

noncomputable def c_S_mPerm : Con0 := ⟨pk_S_mPerm, rk_S_mPerm, M_S_mPerm⟩

set_option maxRecDepth 100000 in
theorem eq_S_mPerm (x : In pk_S_mPerm) : semF (mkE [(92, c_S_l1All), (186, c_S_yPoints)]) h_S_mPerm (info Tryz.f142) pk_S_mPerm rk_S_mPerm x = M_S_mPerm x := (semFF_eq _ _ _ _ _ _).symm.trans (by kernel_rfl)

set_option maxRecDepth 100000 in
theorem m_S_mPerm : ConOK Tryz.prog 142 c_S_mPerm := fn_ok (tyOK _) (E := mkE [(92, c_S_l1All), (186, c_S_yPoints)]) (consOK_cons m_S_l1All (consOK_cons m_S_yPoints (consOK_nil rfl))) Tryz.func142 (h := h_S_mPerm) (by kernel_rfl) eq_S_mPerm

/-- S_mColumns -/
def pk_S_mColumns : List PK := [.data (.cons (.int .i64) (.cons (.int .i64) (.one (.int .i64)))), .data (.cons (.int .i64) (.one (.sl (.int .i64)))), .data (.sl (.int .i64)), .data (.sl (.int .i64))]
def rk_S_mColumns : List (Ty × Bool) := [((.sl (.int .i64)), true)]
def h_S_mColumns : Hints := { loops := [(0, { items := [.slot 17 (.data (.int .i64) []), .arr 9 (.int .i64) true], kill := [0, 1, 2, 6, 7, 8] ++ (sgN 10 5 ++ (sgN 18 25)) })] }
noncomputable def M_S_mColumns (x : ((Int × (Int × Int)) × ((Int × (List Int)) × ((List Int) × (List Int))))) : (Option (List Int)) :=
  (bindO (guardO (((decide ((0 : Int) ≤ (((List.length x.2.2.1) : Nat) : Int))) && (decide ((((List.length x.2.2.1) : Nat) : Int) ≤ (((List.length x.2.2.1) : Nat) : Int)))) && (decide ((((List.length x.2.2.1) : Nat) : Int) ≤ ((lim : Nat) : Int))))) (fun (a0 : Unit) => (loopO (fun (again1 : ((Int × (List Int)) → (Option (List Int)))) => (fun (s2 : (Int × (List Int))) => (cond (decide (s2.1 < (((List.length x.2.2.1) : Nat) : Int))) (bindO (getI x.2.2.1 s2.1) (fun (a3 : Int) => (bindO (getI x.2.2.2 a3) (fun (a4 : Int) => (bindO (M_S_gExp ((x.1.1, (x.1.2.1, x.1.2.2)), (x.1.2.2, a4))) (fun (a5 : Int) => (bindO (getI x.2.1.2 s2.1) (fun (a6 : Int) => (bindO (M_S_gMul ((x.1.1, (x.1.2.1, x.1.2.2)), (a5 :: (a6 :: ([] : List Int))))) (fun (a7 : Int) => (bindO (getI s2.2 a3) (fun (a8 : Int) => (bindO (some (List.set s2.2 (Int.toNat a3) a7)) (fun (a9 : (List Int)) => (bindO (some (IntKind.wrap .i64 (s2.1 + (1 : Int)))) (fun (a10 : Int) => (again1 (a10, a9)))))))))))))))))) (some s2.2)))) ((0 : Int), (List.replicate (Int.toNat (((List.length x.2.2.1) : Nat) : Int)) (0 : Int))))))

noncomputable def c_S_mColumns : Con0 := ⟨pk_S_mColumns, rk_S_mColumns, M_S_mColumns⟩

set_option maxRecDepth 100000 in
theorem eq_S_mColumns (x : In pk_S_mColumns) : semF (mkE [(169, c_S_gExp), (166, c_S_gMul)]) h_S_mColumns (info Tryz.f187) pk_S_mColumns rk_S_mColumns x = M_S_mColumns x := (semFF_eq _ _ _ _ _ _).symm.trans (by kernel_rfl)

set_option maxRecDepth 100000 in
theorem m_S_mColumns : ConOK Tryz.prog 187 c_S_mColumns := fn_ok (tyOK _) (E := mkE [(169, c_S_gExp), (166, c_S_gMul)]) (consOK_cons m_S_gExp (consOK_cons m_S_gMul (consOK_nil rfl))) Tryz.func187 (h := h_S_mColumns) (by kernel_rfl) eq_S_mColumns

/-- S_mListed -/
def pk_S_mListed : List PK := [.data (.int .i64), .data (.sl (.cons (.int .i64) (.one (.int .i64)))), .data (.sl (.cons (.int .i64) (.one (.int .i64)))), .data (.sl (.int .i64))]
def rk_S_mListed : List (Ty × Bool) := [((.sl (.int .i64)), true)]
def h_S_mListed : Hints := { loops := [(0, { items := [.slot 9 (.own (.int .i64) true), .slot 18 (.data (.int .i64) [])], kill := [0, 1] ++ (sgN 4 5 ++ (sgN 10 6 ++ (sgN 19 28))) }), (2, { items := [.slot 9 (.own (.int .i64) true), .slot 32 (.data (.int .i64) [])], kill := [0, 1, 2] ++ (sgN 4 5 ++ (sgN 10 20 ++ (sgN 33 14))) })] }
noncomputable def M_S_mListed (x : (Int × ((List (Int × Int)) × ((List (Int × Int)) × (List Int))))) : (Option (List Int)) :=
  (loopO (fun (again0 : (((List Int) × Int) → (Option (List Int)))) => (fun (s1 : ((List Int) × Int)) => (cond (decide (s1.2 < (((List.length x.2.1) : Nat) : Int))) (bindO (getI x.2.1 s1.2) (fun (a2 : (Int × Int)) => (bindO (guardO (lenOk ((List.length s1.1) + (List.length (a2.1 :: (a2.2 :: ([] : List Int))))))) (fun (a3 : Unit) => (bindO (some (s1.1 ++ (a2.1 :: (a2.2 :: ([] : List Int))))) (fun (a4 : (List Int)) => (bindO (some (IntKind.wrap .i64 (s1.2 + (1 : Int)))) (fun (a5 : Int) => (again0 (a4, a5)))))))))) (loopO (fun (again6 : (((List Int) × Int) → (Option (List Int)))) => (fun (s7 : ((List Int) × Int)) => (cond (decide (s7.2 < (((List.length x.2.2.1) : Nat) : Int))) (bindO (getI x.2.2.1 s7.2) (fun (a8 : (Int × Int)) => (bindO (guardO (lenOk ((List.length s7.1) + (List.length (a8.1 :: (a8.2 :: ([] : List Int))))))) (fun (a9 : Unit) => (bindO (some (s7.1 ++ (a8.1 :: (a8.2 :: ([] : List Int))))) (fun (a10 : (List Int)) => (bindO (some (IntKind.wrap .i64 (s7.2 + (1 : Int)))) (fun (a11 : Int) => (again6 (a10, a11)))))))))) (bindO (guardO (lenOk ((List.length s7.1) + (List.length x.2.2.2)))) (fun (a12 : Unit) => (bindO (some (s7.1 ++ x.2.2.2)) (fun (a13 : (List Int)) => (some a13)))))))) (s1.1, (0 : Int)))))) ((x.1 :: ([] : List Int)), (0 : Int)))

noncomputable def c_S_mListed : Con0 := ⟨pk_S_mListed, rk_S_mListed, M_S_mListed⟩

set_option maxRecDepth 100000 in
theorem eq_S_mListed (x : In pk_S_mListed) : semF (mkE []) h_S_mListed (info Tryz.f173) pk_S_mListed rk_S_mListed x = M_S_mListed x := (semFF_eq _ _ _ _ _ _).symm.trans (by kernel_rfl)

set_option maxRecDepth 100000 in
theorem m_S_mListed : ConOK Tryz.prog 173 c_S_mListed := fn_ok (tyOK _) (E := mkE []) (consOK_nil rfl) Tryz.func173 (h := h_S_mListed) (by kernel_rfl) eq_S_mListed

/-- S_l1Own -/
def pk_S_l1Own : List PK := [.data (.sl (.int .i64))]
def rk_S_l1Own : List (Ty × Bool) := [((.sl (.int .i64)), true)]
def h_S_l1Own : Hints := { loops := [] }
noncomputable def M_S_l1Own (x : (List Int)) : (Option (List Int)) :=
  (bindO (guardO (lenOk ((List.length ([] : List Int)) + (List.length x)))) (fun (a0 : Unit) => (bindO (some (([] : List Int) ++ x)) (fun (a1 : (List Int)) => (some a1)))))

noncomputable def c_S_l1Own : Con0 := ⟨pk_S_l1Own, rk_S_l1Own, M_S_l1Own⟩

set_option maxRecDepth 100000 in
theorem eq_S_l1Own (x : In pk_S_l1Own) : semF (mkE []) h_S_l1Own (info Tryz.f206) pk_S_l1Own rk_S_l1Own x = M_S_l1Own x := (semFF_eq _ _ _ _ _ _).symm.trans (by kernel_rfl)

set_option maxRecDepth 100000 in
theorem m_S_l1Own : ConOK Tryz.prog 206 c_S_l1Own := fn_ok (tyOK _) (E := mkE []) (consOK_nil rfl) Tryz.func206 (h := h_S_l1Own) (by kernel_rfl) eq_S_l1Own

/-- S_hChallenge -/
def pk_S_hChallenge : List PK := [.data (.cons (.int .i64) (.cons (.int .i64) (.one (.int .i64)))), .data .str, .data (.sl (.int .i64))]
def rk_S_hChallenge : List (Ty × Bool) := [((.int .i64), false)]
def h_S_hChallenge : Hints := { loops := [] }
noncomputable def M_S_hChallenge (x : ((Int × (Int × Int)) × (ByteArray × (List Int)))) : (Option Int) :=
  (bindO (guardO (lenOk ((List.length (x.1.1 :: (x.1.2.1 :: (x.1.2.2 :: ([] : List Int))))) + (List.length x.2.2)))) (fun (a0 : Unit) => (bindO (some ((x.1.1 :: (x.1.2.1 :: (x.1.2.2 :: ([] : List Int)))) ++ x.2.2)) (fun (a1 : (List Int)) => (bindO (M_S_hLabelled (x.2.1, a1)) (fun (a2 : Int) => (bindO (guardO (x.1.2.1 != (0 : Int))) (fun (a3 : Unit) => (bindO (some (Int.tmod a2 x.1.2.1)) (fun (a4 : Int) => (some a4)))))))))))

noncomputable def c_S_hChallenge : Con0 := ⟨pk_S_hChallenge, rk_S_hChallenge, M_S_hChallenge⟩

set_option maxRecDepth 100000 in
theorem eq_S_hChallenge (x : In pk_S_hChallenge) : semF (mkE [(198, c_S_hLabelled)]) h_S_hChallenge (info Tryz.f172) pk_S_hChallenge rk_S_hChallenge x = M_S_hChallenge x := (semFF_eq _ _ _ _ _ _).symm.trans (by kernel_rfl)

set_option maxRecDepth 100000 in
theorem m_S_hChallenge : ConOK Tryz.prog 172 c_S_hChallenge := fn_ok (tyOK _) (E := mkE [(198, c_S_hLabelled)]) (consOK_cons m_S_hLabelled (consOK_nil rfl)) Tryz.func172 (h := h_S_hChallenge) (by kernel_rfl) eq_S_hChallenge

/-- S_hChallenges -/
def pk_S_hChallenges : List PK := [.data (.cons (.int .i64) (.cons (.int .i64) (.one (.int .i64)))), .data .str, .data (.sl (.int .i64)), .data (.int .i64)]
def rk_S_hChallenges : List (Ty × Bool) := [((.sl (.int .i64)), true)]
def h_S_hChallenges : Hints := { loops := [(0, { items := [.slot 9 (.own (.int .i64) true), .slot 10 (.data (.int .i64) [])], kill := [0] ++ (sgN 5 4 ++ (sgN 11 17)) })] }
noncomputable def M_S_hChallenges (x : ((Int × (Int × Int)) × (ByteArray × ((List Int) × Int)))) : (Option (List Int)) :=
  (loopO (fun (again0 : (((List Int) × Int) → (Option (List Int)))) => (fun (s1 : ((List Int) × Int)) => (cond (decide (s1.2 < x.2.2.2)) (bindO (M_S_l1Own x.2.2.1) (fun (a2 : (List Int)) => (bindO (guardO (lenOk ((List.length a2) + (List.length (s1.2 :: ([] : List Int)))))) (fun (a3 : Unit) => (bindO (some (a2 ++ (s1.2 :: ([] : List Int)))) (fun (a4 : (List Int)) => (bindO (M_S_hChallenge ((x.1.1, (x.1.2.1, x.1.2.2)), (x.2.1, a4))) (fun (a5 : Int) => (bindO (guardO (lenOk ((List.length s1.1) + (List.length (a5 :: ([] : List Int)))))) (fun (a6 : Unit) => (bindO (some (s1.1 ++ (a5 :: ([] : List Int)))) (fun (a7 : (List Int)) => (bindO (some (IntKind.wrap .i64 (s1.2 + (1 : Int)))) (fun (a8 : Int) => (again0 (a7, a8)))))))))))))))) (some s1.1)))) (([] : List Int), (0 : Int)))

noncomputable def c_S_hChallenges : Con0 := ⟨pk_S_hChallenges, rk_S_hChallenges, M_S_hChallenges⟩

set_option maxRecDepth 100000 in
theorem eq_S_hChallenges (x : In pk_S_hChallenges) : semF (mkE [(206, c_S_l1Own), (172, c_S_hChallenge)]) h_S_hChallenges (info Tryz.f199) pk_S_hChallenges rk_S_hChallenges x = M_S_hChallenges x := (semFF_eq _ _ _ _ _ _).symm.trans (by kernel_rfl)

set_option maxRecDepth 100000 in
theorem m_S_hChallenges : ConOK Tryz.prog 199 c_S_hChallenges := fn_ok (tyOK _) (E := mkE [(206, c_S_l1Own), (172, c_S_hChallenge)]) (consOK_cons m_S_l1Own (consOK_cons m_S_hChallenge (consOK_nil rfl))) Tryz.func199 (h := h_S_hChallenges) (by kernel_rfl) eq_S_hChallenges

/-- S_mChallenges -/
def pk_S_mChallenges : List PK := [.data (.cons (.int .i64) (.cons (.int .i64) (.one (.int .i64)))), .data (.int .i64), .data (.sl (.cons (.int .i64) (.one (.int .i64)))), .data (.sl (.cons (.int .i64) (.one (.int .i64)))), .data (.sl (.int .i64))]
def rk_S_mChallenges : List (Ty × Bool) := [((.sl (.int .i64)), true)]
def h_S_mChallenges : Hints := { loops := [] }
noncomputable def M_S_mChallenges (x : ((Int × (Int × Int)) × (Int × ((List (Int × Int)) × ((List (Int × Int)) × (List Int)))))) : (Option (List Int)) :=
  (bindO (M_S_mListed (x.2.1, (x.2.2.1, (x.2.2.2.1, x.2.2.2.2)))) (fun (a0 : (List Int)) => (bindO (M_S_hChallenges ((x.1.1, (x.1.2.1, x.1.2.2)), ((bytesOf [109, 105, 120, 32, 99, 111, 108, 117, 109, 110, 115]), (a0, (((List.length x.2.2.1) : Nat) : Int))))) (fun (a1 : (List Int)) => (some a1)))))

noncomputable def c_S_mChallenges : Con0 := ⟨pk_S_mChallenges, rk_S_mChallenges, M_S_mChallenges⟩

set_option maxRecDepth 100000 in
theorem eq_S_mChallenges (x : In pk_S_mChallenges) : semF (mkE [(173, c_S_mListed), (199, c_S_hChallenges)]) h_S_mChallenges (info Tryz.f164) pk_S_mChallenges rk_S_mChallenges x = M_S_mChallenges x := (semFF_eq _ _ _ _ _ _).symm.trans (by kernel_rfl)

set_option maxRecDepth 100000 in
theorem m_S_mChallenges : ConOK Tryz.prog 164 c_S_mChallenges := fn_ok (tyOK _) (E := mkE [(173, c_S_mListed), (199, c_S_hChallenges)]) (consOK_cons m_S_mListed (consOK_cons m_S_hChallenges (consOK_nil rfl))) Tryz.func164 (h := h_S_mChallenges) (by kernel_rfl) eq_S_mChallenges

/-- S_mChain -/
def pk_S_mChain : List PK := [.data (.cons (.int .i64) (.cons (.int .i64) (.one (.int .i64)))), .data (.cons (.int .i64) (.one (.sl (.int .i64)))), .data (.sl (.int .i64)), .data (.sl (.int .i64))]
def rk_S_mChain : List (Ty × Bool) := [((.sl (.int .i64)), true)]
def h_S_mChain : Hints := { loops := [(0, { items := [.slot 9 (.own (.int .i64) true), .slot 10 (.data (.int .i64) []), .slot 17 (.data (.int .i64) [])], kill := [0, 1, 2] ++ (sgN 5 4 ++ (sgN 11 4 ++ (sgN 18 25))) })] }
noncomputable def M_S_mChain (x : ((Int × (Int × Int)) × ((Int × (List Int)) × ((List Int) × (List Int))))) : (Option (List Int)) :=
  (loopO (fun (again0 : (((List Int) × (Int × Int)) → (Option (List Int)))) => (fun (s1 : ((List Int) × (Int × Int))) => (cond (decide (s1.2.2 < (((List.length x.2.2.1) : Nat) : Int))) (bindO (getI x.2.2.1 s1.2.2) (fun (a2 : Int) => (bindO (getI x.2.2.2 s1.2.2) (fun (a3 : Int) => (bindO (M_S_gExp ((x.1.1, (x.1.2.1, x.1.2.2)), (x.1.2.2, a3))) (fun (a4 : Int) => (bindO (M_S_gExp ((x.1.1, (x.1.2.1, x.1.2.2)), (s1.2.1, a2))) (fun (a5 : Int) => (bindO (M_S_gMul ((x.1.1, (x.1.2.1, x.1.2.2)), (a4 :: (a5 :: ([] : List Int))))) (fun (a6 : Int) => (bindO (guardO (lenOk ((List.length s1.1) + (List.length (a6 :: ([] : List Int)))))) (fun (a7 : Unit) => (bindO (some (s1.1 ++ (a6 :: ([] : List Int)))) (fun (a8 : (List Int)) => (bindO (some (IntKind.wrap .i64 (s1.2.2 + (1 : Int)))) (fun (a9 : Int) => (again0 (a8, (a6, a9))))))))))))))))))) (some s1.1)))) (([] : List Int), (x.2.1.1, (0 : Int))))

noncomputable def c_S_mChain : Con0 := ⟨pk_S_mChain, rk_S_mChain, M_S_mChain⟩

set_option maxRecDepth 100000 in
theorem eq_S_mChain (x : In pk_S_mChain) : semF (mkE [(169, c_S_gExp), (166, c_S_gMul)]) h_S_mChain (info Tryz.f188) pk_S_mChain rk_S_mChain x = M_S_mChain x := (semFF_eq _ _ _ _ _ _).symm.trans (by kernel_rfl)

set_option maxRecDepth 100000 in
theorem m_S_mChain : ConOK Tryz.prog 188 c_S_mChain := fn_ok (tyOK _) (E := mkE [(169, c_S_gExp), (166, c_S_gMul)]) (consOK_cons m_S_gExp (consOK_cons m_S_gMul (consOK_nil rfl))) Tryz.func188 (h := h_S_mChain) (by kernel_rfl) eq_S_mChain

/-- S_mSides -/
def pk_S_mSides : List PK := [.data (.sl (.cons (.int .i64) (.one (.int .i64))))]
def rk_S_mSides : List (Ty × Bool) := [((.sl (.int .i64)), true), ((.sl (.int .i64)), true)]
def h_S_mSides : Hints := { loops := [(0, { items := [.slot 4 (.own (.int .i64) true), .slot 5 (.own (.int .i64) true), .slot 10 (.data (.int .i64) [])], kill := sgN 0 4 ++ ([6, 7] ++ (sgN 11 16)) })] }
noncomputable def M_S_mSides (x : (List (Int × Int))) : (Option ((List Int) × (List Int))) :=
  (loopO (fun (again0 : (((List Int) × ((List Int) × Int)) → (Option ((List Int) × (List Int))))) => (fun (s1 : ((List Int) × ((List Int) × Int))) => (cond (decide (s1.2.2 < (((List.length x) : Nat) : Int))) (bindO (getI x s1.2.2) (fun (a2 : (Int × Int)) => (bindO (guardO (lenOk ((List.length s1.1) + (List.length (a2.1 :: ([] : List Int)))))) (fun (a3 : Unit) => (bindO (some (s1.1 ++ (a2.1 :: ([] : List Int)))) (fun (a4 : (List Int)) => (bindO (guardO (lenOk ((List.length s1.2.1) + (List.length (a2.2 :: ([] : List Int)))))) (fun (a5 : Unit) => (bindO (some (s1.2.1 ++ (a2.2 :: ([] : List Int)))) (fun (a6 : (List Int)) => (bindO (some (IntKind.wrap .i64 (s1.2.2 + (1 : Int)))) (fun (a7 : Int) => (again0 (a4, (a6, a7))))))))))))))) (some (s1.1, s1.2.1))))) (([] : List Int), (([] : List Int), (0 : Int))))

noncomputable def c_S_mSides : Con0 := ⟨pk_S_mSides, rk_S_mSides, M_S_mSides⟩

set_option maxRecDepth 100000 in
theorem eq_S_mSides (x : In pk_S_mSides) : semF (mkE []) h_S_mSides (info Tryz.f165) pk_S_mSides rk_S_mSides x = M_S_mSides x := (semFF_eq _ _ _ _ _ _).symm.trans (by kernel_rfl)

set_option maxRecDepth 100000 in
theorem m_S_mSides : ConOK Tryz.prog 165 c_S_mSides := fn_ok (tyOK _) (E := mkE []) (consOK_nil rfl) Tryz.func165 (h := h_S_mSides) (by kernel_rfl) eq_S_mSides

/-- S_gProd -/
def pk_S_gProd : List PK := [.data (.cons (.int .i64) (.cons (.int .i64) (.one (.int .i64)))), .data (.sl (.int .i64)), .data (.sl (.int .i64))]
def rk_S_gProd : List (Ty × Bool) := [((.int .i64), false)]
def h_S_gProd : Hints := { loops := [(0, { items := [.slot 7 (.data (.int .i64) []), .slot 12 (.data (.int .i64) [])], kill := [0, 1, 4, 5, 6, 8, 9] ++ (sgN 13 18) })] }
noncomputable def M_S_gProd (x : ((Int × (Int × Int)) × ((List Int) × (List Int)))) : (Option Int) :=
  (loopO (fun (again0 : ((Int × Int) → (Option Int))) => (fun (s1 : (Int × Int)) => (cond (decide (s1.2 < (((List.length x.2.1) : Nat) : Int))) (bindO (getI x.2.1 s1.2) (fun (a2 : Int) => (bindO (getI x.2.2 s1.2) (fun (a3 : Int) => (bindO (M_S_gExp ((x.1.1, (x.1.2.1, x.1.2.2)), (a2, a3))) (fun (a4 : Int) => (bindO (some (IntKind.wrap .i64 (s1.1 * a4))) (fun (a5 : Int) => (bindO (guardO (x.1.1 != (0 : Int))) (fun (a6 : Unit) => (bindO (some (Int.tmod a5 x.1.1)) (fun (a7 : Int) => (bindO (some (IntKind.wrap .i64 (s1.2 + (1 : Int)))) (fun (a8 : Int) => (again0 (a7, a8)))))))))))))))) (some s1.1)))) ((1 : Int), (0 : Int)))

noncomputable def c_S_gProd : Con0 := ⟨pk_S_gProd, rk_S_gProd, M_S_gProd⟩

set_option maxRecDepth 100000 in
theorem eq_S_gProd (x : In pk_S_gProd) : semF (mkE [(169, c_S_gExp)]) h_S_gProd (info Tryz.f168) pk_S_gProd rk_S_gProd x = M_S_gProd x := (semFF_eq _ _ _ _ _ _).symm.trans (by kernel_rfl)

set_option maxRecDepth 100000 in
theorem m_S_gProd : ConOK Tryz.prog 168 c_S_gProd := fn_ok (tyOK _) (E := mkE [(169, c_S_gExp)]) (consOK_cons m_S_gExp (consOK_nil rfl)) Tryz.func168 (h := h_S_gProd) (by kernel_rfl) eq_S_gProd

/-- S_mChallenge -/
def pk_S_mChallenge : List PK := [.data (.cons (.int .i64) (.cons (.int .i64) (.one (.int .i64)))), .data (.int .i64), .data (.sl (.cons (.int .i64) (.one (.int .i64)))), .data (.sl (.cons (.int .i64) (.one (.int .i64)))), .data (.cons (.sl (.int .i64)) (.cons (.sl (.int .i64)) (.one (.cons (.sl (.int .i64)) (.cons (.sl (.int .i64)) (.one (.sl (.int .i64))))))))]
def rk_S_mChallenge : List (Ty × Bool) := [((.int .i64), false)]
def h_S_mChallenge : Hints := { loops := [] }
noncomputable def M_S_mChallenge (x : ((Int × (Int × Int)) × (Int × ((List (Int × Int)) × ((List (Int × Int)) × ((List Int) × ((List Int) × ((List Int) × ((List Int) × (List Int)))))))))) : (Option Int) :=
  (bindO (M_S_mListed (x.2.1, (x.2.2.1, (x.2.2.2.1, x.2.2.2.2.1)))) (fun (a0 : (List Int)) => (bindO (guardO (lenOk ((List.length a0) + (List.length x.2.2.2.2.2.1)))) (fun (a1 : Unit) => (bindO (some (a0 ++ x.2.2.2.2.2.1)) (fun (a2 : (List Int)) => (bindO (guardO (lenOk ((List.length a2) + (List.length x.2.2.2.2.2.2.1)))) (fun (a3 : Unit) => (bindO (some (a2 ++ x.2.2.2.2.2.2.1)) (fun (a4 : (List Int)) => (bindO (M_S_hChallenge ((x.1.1, (x.1.2.1, x.1.2.2)), ((bytesOf [109, 105, 120, 32, 112, 114, 111, 111, 102]), a4))) (fun (a5 : Int) => (some a5)))))))))))))

noncomputable def c_S_mChallenge : Con0 := ⟨pk_S_mChallenge, rk_S_mChallenge, M_S_mChallenge⟩

set_option maxRecDepth 100000 in
theorem eq_S_mChallenge (x : In pk_S_mChallenge) : semF (mkE [(173, c_S_mListed), (172, c_S_hChallenge)]) h_S_mChallenge (info Tryz.f163) pk_S_mChallenge rk_S_mChallenge x = M_S_mChallenge x := (semFF_eq _ _ _ _ _ _).symm.trans (by kernel_rfl)

set_option maxRecDepth 100000 in
theorem m_S_mChallenge : ConOK Tryz.prog 163 c_S_mChallenge := fn_ok (tyOK _) (E := mkE [(173, c_S_mListed), (172, c_S_hChallenge)]) (consOK_cons m_S_mListed (consOK_cons m_S_hChallenge (consOK_nil rfl))) Tryz.func163 (h := h_S_mChallenge) (by kernel_rfl) eq_S_mChallenge

/-- S_nSum -/
def pk_S_nSum : List PK := [.data (.sl (.int .i64)), .data (.int .i64)]
def rk_S_nSum : List (Ty × Bool) := [((.int .i64), false)]
def h_S_nSum : Hints := { loops := [(0, { items := [.slot 5 (.data (.int .i64) []), .slot 10 (.data (.int .i64) [])], kill := [0, 2, 3, 4, 6, 7] ++ (sgN 11 10) })] }
noncomputable def M_S_nSum (x : ((List Int) × Int)) : (Option Int) :=
  (loopO (fun (again0 : ((Int × Int) → (Option Int))) => (fun (s1 : (Int × Int)) => (cond (decide (s1.2 < (((List.length x.1) : Nat) : Int))) (bindO (getI x.1 s1.2) (fun (a2 : Int) => (bindO (some (IntKind.wrap .i64 (s1.1 + a2))) (fun (a3 : Int) => (bindO (guardO (x.2 != (0 : Int))) (fun (a4 : Unit) => (bindO (some (Int.tmod a3 x.2)) (fun (a5 : Int) => (bindO (some (IntKind.wrap .i64 (s1.2 + (1 : Int)))) (fun (a6 : Int) => (again0 (a5, a6)))))))))))) (some s1.1)))) ((0 : Int), (0 : Int)))

noncomputable def c_S_nSum : Con0 := ⟨pk_S_nSum, rk_S_nSum, M_S_nSum⟩

set_option maxRecDepth 100000 in
theorem eq_S_nSum (x : In pk_S_nSum) : semF (mkE []) h_S_nSum (info Tryz.f189) pk_S_nSum rk_S_nSum x = M_S_nSum x := (semFF_eq _ _ _ _ _ _).symm.trans (by kernel_rfl)

set_option maxRecDepth 100000 in
theorem m_S_nSum : ConOK Tryz.prog 189 c_S_nSum := fn_ok (tyOK _) (E := mkE []) (consOK_nil rfl) Tryz.func189 (h := h_S_nSum) (by kernel_rfl) eq_S_nSum

/-- S_nDot -/
def pk_S_nDot : List PK := [.data (.sl (.int .i64)), .data (.sl (.int .i64)), .data (.int .i64)]
def rk_S_nDot : List (Ty × Bool) := [((.int .i64), false)]
def h_S_nDot : Hints := { loops := [(0, { items := [.slot 7 (.data (.int .i64) []), .slot 12 (.data (.int .i64) [])], kill := [0] ++ (sgN 3 4 ++ ([8, 9] ++ (sgN 13 16))) })] }
noncomputable def M_S_nDot (x : ((List Int) × ((List Int) × Int))) : (Option Int) :=
  (loopO (fun (again0 : ((Int × Int) → (Option Int))) => (fun (s1 : (Int × Int)) => (cond (decide (s1.2 < (((List.length x.1) : Nat) : Int))) (bindO (getI x.1 s1.2) (fun (a2 : Int) => (bindO (getI x.2.1 s1.2) (fun (a3 : Int) => (bindO (some (IntKind.wrap .i64 (a2 * a3))) (fun (a4 : Int) => (bindO (some (IntKind.wrap .i64 (s1.1 + a4))) (fun (a5 : Int) => (bindO (guardO (x.2.2 != (0 : Int))) (fun (a6 : Unit) => (bindO (some (Int.tmod a5 x.2.2)) (fun (a7 : Int) => (bindO (some (IntKind.wrap .i64 (s1.2 + (1 : Int)))) (fun (a8 : Int) => (again0 (a7, a8)))))))))))))))) (some s1.1)))) ((0 : Int), (0 : Int)))

noncomputable def c_S_nDot : Con0 := ⟨pk_S_nDot, rk_S_nDot, M_S_nDot⟩

set_option maxRecDepth 100000 in
theorem eq_S_nDot (x : In pk_S_nDot) : semF (mkE []) h_S_nDot (info Tryz.f190) pk_S_nDot rk_S_nDot x = M_S_nDot x := (semFF_eq _ _ _ _ _ _).symm.trans (by kernel_rfl)

set_option maxRecDepth 100000 in
theorem m_S_nDot : ConOK Tryz.prog 190 c_S_nDot := fn_ok (tyOK _) (E := mkE []) (consOK_nil rfl) Tryz.func190 (h := h_S_nDot) (by kernel_rfl) eq_S_nDot

/-- S_mProve -/
def pk_S_mProve : List PK := [.data (.cons (.int .i64) (.cons (.int .i64) (.one (.int .i64)))), .data (.int .i64), .data (.cons (.int .i64) (.one (.sl (.int .i64)))), .data (.sl (.cons (.int .i64) (.one (.int .i64)))), .data (.sl (.int .i64)), .data (.sl (.int .i64)), .data (.sl (.int .i64))]
def rk_S_mProve : List (Ty × Bool) := [((.cons (.sl (.int .i64)) (.cons (.sl (.int .i64)) (.one (.cons (.sl (.int .i64)) (.cons (.sl (.int .i64)) (.one (.sl (.int .i64)))))))), true)]
def h_S_mProve : Hints := { loops := [(0, { items := [.slot 27 (.own (.int .i64) true), .slot 28 (.data (.int .i64) []), .slot 105 (.data (.int .i64) [])], kill := [0, 2, 4, 6, 8] ++ (sgN 10 4 ++ ([15] ++ (sgN 29 74 ++ (sgN 106 237)))) }), (2, { items := [.slot 33 (.data (.int .i64) []), .slot 198 (.data (.int .i64) []), .cell 25 0 (.own (.int .i64) true), .cell 25 1 (.own (.int .i64) true), .cell 25 2 (.own (.int .i64) true), .cell 25 3 (.own (.int .i64) true), .cell 25 4 (.own (.int .i64) true)], kill := [0, 2, 4, 6] ++ (sgN 8 6 ++ ([15] ++ (sgN 29 4 ++ (sgN 34 163 ++ (sgN 199 144))))) }), (4, { items := [.slot 290 (.data (.int .i64) []), .cell 25 0 (.own (.int .i64) true), .cell 25 1 (.own (.int .i64) true), .cell 25 2 (.own (.int .i64) true), .cell 25 3 (.own (.int .i64) true), .cell 25 4 (.own (.int .i64) true)], kill := [0, 1, 2, 4, 5, 6] ++ (sgN 8 6 ++ ([15, 16, 17] ++ (sgN 19 4 ++ ([26] ++ (sgN 28 7 ++ (sgN 36 253 ++ (sgN 291 52))))))) }), (6, { items := [.slot 317 (.data (.int .i64) []), .cell 25 0 (.own (.int .i64) true), .cell 25 1 (.own (.int .i64) true), .cell 25 2 (.own (.int .i64) true), .cell 25 3 (.own (.int .i64) true), .cell 25 4 (.own (.int .i64) true)], kill := sgN 0 7 ++ (sgN 8 6 ++ (sgN 15 9 ++ ([26] ++ (sgN 28 7 ++ (sgN 36 280 ++ (sgN 318 25)))))) })] }
noncomputable def M_S_mProve (x : ((Int × (Int × Int)) × (Int × ((Int × (List Int)) × ((List (Int × Int)) × ((List Int) × ((List Int) × (List Int)))))))) : (Option ((List Int) × ((List Int) × ((List Int) × ((List Int) × (List Int)))))) :=
  (bindO (M_S_mMix (x.1, (x.2.1, (x.2.2.2.1, (x.2.2.2.2.1, x.2.2.2.2.2.1))))) (fun (a0 : (List (Int × Int))) => (bindO (sliceNH (((List.length x.2.2.2.1) : Nat) : Int) (List.length x.2.2.2.2.2.2)) (fun (a1 : (Nat × Nat)) => (bindO (some (IntKind.wrap .i64 ((2 : Int) * (((List.length x.2.2.2.1) : Nat) : Int)))) (fun (a2 : Int) => (bindO (sliceLH (((List.length x.2.2.2.1) : Nat) : Int) a2 (List.length x.2.2.2.2.2.2)) (fun (a3 : (Nat × Nat)) => (bindO (some (IntKind.wrap .i64 ((2 : Int) * (((List.length x.2.2.2.1) : Nat) : Int)))) (fun (a4 : Int) => (bindO (getI x.2.2.2.2.2.2 a4) (fun (a5 : Int) => (bindO (some (IntKind.wrap .i64 ((2 : Int) * (((List.length x.2.2.2.1) : Nat) : Int)))) (fun (a6 : Int) => (bindO (some (IntKind.wrap .i64 (a6 + (1 : Int)))) (fun (a7 : Int) => (bindO (getI x.2.2.2.2.2.2 a7) (fun (a8 : Int) => (bindO (some (IntKind.wrap .i64 ((2 : Int) * (((List.length x.2.2.2.1) : Nat) : Int)))) (fun (a9 : Int) => (bindO (some (IntKind.wrap .i64 (a9 + (2 : Int)))) (fun (a10 : Int) => (bindO (getI x.2.2.2.2.2.2 a10) (fun (a11 : Int) => (bindO (some (IntKind.wrap .i64 ((2 : Int) * (((List.length x.2.2.2.1) : Nat) : Int)))) (fun (a12 : Int) => (bindO (some (IntKind.wrap .i64 (a12 + (3 : Int)))) (fun (a13 : Int) => (bindO (getI x.2.2.2.2.2.2 a13) (fun (a14 : Int) => (bindO (some (IntKind.wrap .i64 ((2 : Int) * (((List.length x.2.2.2.1) : Nat) : Int)))) (fun (a15 : Int) => (bindO (some (IntKind.wrap .i64 (a15 + (4 : Int)))) (fun (a16 : Int) => (bindO (some (IntKind.wrap .i64 ((3 : Int) * (((List.length x.2.2.2.1) : Nat) : Int)))) (fun (a17 : Int) => (bindO (some (IntKind.wrap .i64 (a17 + (4 : Int)))) (fun (a18 : Int) => (bindO (sliceLH a16 a18 (List.length x.2.2.2.2.2.2)) (fun (a19 : (Nat × Nat)) => (bindO (some (IntKind.wrap .i64 ((3 : Int) * (((List.length x.2.2.2.1) : Nat) : Int)))) (fun (a20 : Int) => (bindO (some (IntKind.wrap .i64 (a20 + (4 : Int)))) (fun (a21 : Int) => (bindO (sliceLN a21 (List.length x.2.2.2.2.2.2)) (fun (a22 : (Nat × Nat)) => (bindO (M_S_mColumns (x.1, (x.2.2.1, (x.2.2.2.2.1, (List.drop a1.1 (List.take a1.2 x.2.2.2.2.2.2)))))) (fun (a23 : (List Int)) => (bindO (M_S_mChallenges (x.1, (x.2.1, (x.2.2.2.1, (a0, a23))))) (fun (a24 : (List Int)) => (loopO (fun (again25 : (((List Int) × (Int × Int)) → (Option ((List Int) × ((List Int) × ((List Int) × ((List Int) × (List Int)))))))) => (fun (s26 : ((List Int) × (Int × Int))) => (cond (decide (s26.2.2 < (((List.length x.2.2.2.2.1) : Nat) : Int))) (bindO (getI x.2.2.2.2.1 s26.2.2) (fun (a27 : Int) => (bindO (getI a24 a27) (fun (a28 : Int) => (bindO (guardO (lenOk ((List.length s26.1) + (List.length (a28 :: ([] : List Int)))))) (fun (a29 : Unit) => (bindO (some (s26.1 ++ (a28 :: ([] : List Int)))) (fun (a30 : (List Int)) => (bindO (getI (List.drop a3.1 (List.take a3.2 x.2.2.2.2.2.2)) s26.2.2) (fun (a31 : Int) => (bindO (getI a24 a27) (fun (a32 : Int) => (bindO (some (IntKind.wrap .i64 (a32 * s26.2.1))) (fun (a33 : Int) => (bindO (some (IntKind.wrap .i64 (a31 + a33))) (fun (a34 : Int) => (bindO (guardO (x.1.2.1 != (0 : Int))) (fun (a35 : Unit) => (bindO (some (Int.tmod a34 x.1.2.1)) (fun (a36 : Int) => (bindO (some (IntKind.wrap .i64 (s26.2.2 + (1 : Int)))) (fun (a37 : Int) => (again25 (a30, (a36, a37))))))))))))))))))))))))) (bindO (M_S_mChain (x.1, (x.2.2.1, (s26.1, (List.drop a3.1 (List.take a3.2 x.2.2.2.2.2.2)))))) (fun (a38 : (List Int)) => (bindO (M_S_mSides a0) (fun (a39 : ((List Int) × (List Int))) => (bindO (M_S_gExp (x.1, (x.1.2.2, a5))) (fun (a40 : Int) => (bindO (M_S_gExp (x.1, (x.1.2.2, a8))) (fun (a41 : Int) => (bindO (M_S_gProd (x.1, (x.2.2.1.2, (List.drop a22.1 (List.take a22.2 x.2.2.2.2.2.2))))) (fun (a42 : Int) => (bindO (M_S_gMul (x.1, (a41 :: (a42 :: ([] : List Int))))) (fun (a43 : Int) => (bindO (M_S_gExp (x.1, (x.1.2.2, a11))) (fun (a44 : Int) => (bindO (some (IntKind.wrap .i64 ((0 : Int) - a14))) (fun (a45 : Int) => (bindO (M_S_gExp (x.1, (x.1.2.2, a45))) (fun (a46 : Int) => (bindO (M_S_gProd (x.1, (a39.1, (List.drop a22.1 (List.take a22.2 x.2.2.2.2.2.2))))) (fun (a47 : Int) => (bindO (M_S_gMul (x.1, (a46 :: (a47 :: ([] : List Int))))) (fun (a48 : Int) => (bindO (some (IntKind.wrap .i64 ((0 : Int) - a14))) (fun (a49 : Int) => (bindO (M_S_gExp (x.1, (x.2.1, a49))) (fun (a50 : Int) => (bindO (M_S_gProd (x.1, (a39.2, (List.drop a22.1 (List.take a22.2 x.2.2.2.2.2.2))))) (fun (a51 : Int) => (bindO (M_S_gMul (x.1, (a50 :: (a51 :: ([] : List Int))))) (fun (a52 : Int) => (loopO (fun (again53 : ((Int × (Int × ((List Int) × ((List Int) × ((List Int) × ((List Int) × (List Int))))))) → (Option ((List Int) × ((List Int) × ((List Int) × ((List Int) × (List Int)))))))) => (fun (s54 : (Int × (Int × ((List Int) × ((List Int) × ((List Int) × ((List Int) × (List Int)))))))) => (cond (decide (s54.2.1 < (((List.length x.2.2.2.1) : Nat) : Int))) (bindO (getI (List.drop a19.1 (List.take a19.2 x.2.2.2.2.2.2)) s54.2.1) (fun (a55 : Int) => (bindO (M_S_gExp (x.1, (x.1.2.2, a55))) (fun (a56 : Int) => (bindO (getI (List.drop a22.1 (List.take a22.2 x.2.2.2.2.2.2)) s54.2.1) (fun (a57 : Int) => (bindO (M_S_gExp (x.1, (s54.1, a57))) (fun (a58 : Int) => (bindO (M_S_gMul (x.1, (a56 :: (a58 :: ([] : List Int))))) (fun (a59 : Int) => (bindO (guardO (lenOk ((List.length s54.2.2.2.2.1) + (List.length (a59 :: ([] : List Int)))))) (fun (a60 : Unit) => (bindO (some (s54.2.2.2.2.1 ++ (a59 :: ([] : List Int)))) (fun (a61 : (List Int)) => (bindO (getI s54.2.2.2.1 s54.2.1) (fun (a62 : Int) => (bindO (some (IntKind.wrap .i64 (s54.2.1 + (1 : Int)))) (fun (a63 : Int) => (again53 (a62, (a63, (s54.2.2.1, (s54.2.2.2.1, (a61, s54.2.2.2.2.2)))))))))))))))))))))))) (bindO (M_S_mChallenge (x.1, (x.2.1, (x.2.2.2.1, (a0, s54.2.2))))) (fun (a64 : Int) => (bindO (M_S_nSum ((List.drop a1.1 (List.take a1.2 x.2.2.2.2.2.2)), x.1.2.1)) (fun (a65 : Int) => (bindO (some (IntKind.wrap .i64 (a64 * a65))) (fun (a66 : Int) => (bindO (some (IntKind.wrap .i64 (a5 + a66))) (fun (a67 : Int) => (bindO (guardO (x.1.2.1 != (0 : Int))) (fun (a68 : Unit) => (bindO (some (Int.tmod a67 x.1.2.1)) (fun (a69 : Int) => (bindO (M_S_nDot ((List.drop a1.1 (List.take a1.2 x.2.2.2.2.2.2)), (a24, x.1.2.1))) (fun (a70 : Int) => (bindO (some (IntKind.wrap .i64 (a64 * a70))) (fun (a71 : Int) => (bindO (some (IntKind.wrap .i64 (a8 + a71))) (fun (a72 : Int) => (bindO (guardO (x.1.2.1 != (0 : Int))) (fun (a73 : Unit) => (bindO (some (Int.tmod a72 x.1.2.1)) (fun (a74 : Int) => (bindO (some (IntKind.wrap .i64 (a64 * s26.2.1))) (fun (a75 : Int) => (bindO (some (IntKind.wrap .i64 (a11 + a75))) (fun (a76 : Int) => (bindO (guardO (x.1.2.1 != (0 : Int))) (fun (a77 : Unit) => (bindO (some (Int.tmod a76 x.1.2.1)) (fun (a78 : Int) => (bindO (M_S_nDot (x.2.2.2.2.2.1, (s26.1, x.1.2.1))) (fun (a79 : Int) => (bindO (some (IntKind.wrap .i64 (a64 * a79))) (fun (a80 : Int) => (bindO (some (IntKind.wrap .i64 (a14 + a80))) (fun (a81 : Int) => (bindO (guardO (x.1.2.1 != (0 : Int))) (fun (a82 : Unit) => (bindO (some (Int.tmod a81 x.1.2.1)) (fun (a83 : Int) => (loopO (fun (again84 : ((Int × ((List Int) × ((List Int) × ((List Int) × ((List Int) × (List Int)))))) → (Option ((List Int) × ((List Int) × ((List Int) × ((List Int) × (List Int)))))))) => (fun (s85 : (Int × ((List Int) × ((List Int) × ((List Int) × ((List Int) × (List Int))))))) => (cond (decide (s85.1 < (((List.length x.2.2.2.1) : Nat) : Int))) (bindO (getI (List.drop a19.1 (List.take a19.2 x.2.2.2.2.2.2)) s85.1) (fun (a86 : Int) => (bindO (getI (List.drop a3.1 (List.take a3.2 x.2.2.2.2.2.2)) s85.1) (fun (a87 : Int) => (bindO (some (IntKind.wrap .i64 (a64 * a87))) (fun (a88 : Int) => (bindO (some (IntKind.wrap .i64 (a86 + a88))) (fun (a89 : Int) => (bindO (guardO (x.1.2.1 != (0 : Int))) (fun (a90 : Unit) => (bindO (some (Int.tmod a89 x.1.2.1)) (fun (a91 : Int) => (bindO (guardO (lenOk ((List.length s85.2.2.2.2.2) + (List.length (a91 :: ([] : List Int)))))) (fun (a92 : Unit) => (bindO (some (s85.2.2.2.2.2 ++ (a91 :: ([] : List Int)))) (fun (a93 : (List Int)) => (bindO (some (IntKind.wrap .i64 (s85.1 + (1 : Int)))) (fun (a94 : Int) => (again84 (a94, (s85.2.1, (s85.2.2.1, (s85.2.2.2.1, (s85.2.2.2.2.1, a93)))))))))))))))))))))))) (loopO (fun (again95 : ((Int × ((List Int) × ((List Int) × ((List Int) × ((List Int) × (List Int)))))) → (Option ((List Int) × ((List Int) × ((List Int) × ((List Int) × (List Int)))))))) => (fun (s96 : (Int × ((List Int) × ((List Int) × ((List Int) × ((List Int) × (List Int))))))) => (cond (decide (s96.1 < (((List.length x.2.2.2.1) : Nat) : Int))) (bindO (getI (List.drop a22.1 (List.take a22.2 x.2.2.2.2.2.2)) s96.1) (fun (a97 : Int) => (bindO (getI s26.1 s96.1) (fun (a98 : Int) => (bindO (some (IntKind.wrap .i64 (a64 * a98))) (fun (a99 : Int) => (bindO (some (IntKind.wrap .i64 (a97 + a99))) (fun (a100 : Int) => (bindO (guardO (x.1.2.1 != (0 : Int))) (fun (a101 : Unit) => (bindO (some (Int.tmod a100 x.1.2.1)) (fun (a102 : Int) => (bindO (guardO (lenOk ((List.length s96.2.2.2.2.2) + (List.length (a102 :: ([] : List Int)))))) (fun (a103 : Unit) => (bindO (some (s96.2.2.2.2.2 ++ (a102 :: ([] : List Int)))) (fun (a104 : (List Int)) => (bindO (some (IntKind.wrap .i64 (s96.1 + (1 : Int)))) (fun (a105 : Int) => (again95 (a105, (s96.2.1, (s96.2.2.1, (s96.2.2.2.1, (s96.2.2.2.2.1, a104)))))))))))))))))))))))) (some s96.2)))) ((0 : Int), s85.2))))) ((0 : Int), (s54.2.2.1, (s54.2.2.2.1, (s54.2.2.2.2.1, ((a64 :: ([] : List Int)), (a69 :: (a74 :: (a78 :: (a83 :: ([] : List Int)))))))))))))))))))))))))))))))))))))))))))))))))))))) (x.2.2.1.1, ((0 : Int), (a23, (a38, ((a40 :: (a43 :: (a44 :: (a48 :: (a52 :: ([] : List Int)))))), (([] : List Int), ([] : List Int))))))))))))))))))))))))))))))))))))))))) (([] : List Int), ((0 : Int), (0 : Int))))))))))))))))))))))))))))))))))))))))))))))))))))))

noncomputable def c_S_mProve : Con0 := ⟨pk_S_mProve, rk_S_mProve, M_S_mProve⟩

set_option maxRecDepth 100000 in
theorem eq_S_mProve (x : In pk_S_mProve) : semF (mkE [(94, c_S_mMix), (187, c_S_mColumns), (164, c_S_mChallenges), (188, c_S_mChain), (165, c_S_mSides), (169, c_S_gExp), (168, c_S_gProd), (166, c_S_gMul), (163, c_S_mChallenge), (189, c_S_nSum), (190, c_S_nDot)]) h_S_mProve (info Tryz.f143) pk_S_mProve rk_S_mProve x = M_S_mProve x := (semFF_eq _ _ _ _ _ _).symm.trans (by kernel_rfl)

set_option maxRecDepth 100000 in
theorem m_S_mProve : ConOK Tryz.prog 143 c_S_mProve := fn_ok (tyOK _) (E := mkE [(94, c_S_mMix), (187, c_S_mColumns), (164, c_S_mChallenges), (188, c_S_mChain), (165, c_S_mSides), (169, c_S_gExp), (168, c_S_gProd), (166, c_S_gMul), (163, c_S_mChallenge), (189, c_S_nSum), (190, c_S_nDot)]) (consOK_cons m_S_mMix (consOK_cons m_S_mColumns (consOK_cons m_S_mChallenges (consOK_cons m_S_mChain (consOK_cons m_S_mSides (consOK_cons m_S_gExp (consOK_cons m_S_gProd (consOK_cons m_S_gMul (consOK_cons m_S_mChallenge (consOK_cons m_S_nSum (consOK_cons m_S_nDot (consOK_nil rfl)))))))))))) Tryz.func143 (h := h_S_mProve) (by kernel_rfl) eq_S_mProve

/-- S_ProveMatrix -/
def pk_S_ProveMatrix : List PK := [.data (.cons (.int .i64) (.cons (.int .i64) (.one (.int .i64)))), .data (.int .i64), .data (.sl (.cons (.int .i64) (.one (.int .i64)))), .data (.sl (.int .i64)), .data (.sl (.int .i64)), .data (.sl (.int .i64))]
def rk_S_ProveMatrix : List (Ty × Bool) := [((.cons (.sl (.int .i64)) (.cons (.sl (.int .i64)) (.one (.cons (.sl (.int .i64)) (.cons (.sl (.int .i64)) (.one (.sl (.int .i64)))))))), true), (.bool, false)]
def h_S_ProveMatrix : Hints := { loops := [] }
noncomputable def M_S_ProveMatrix (x : ((Int × (Int × Int)) × (Int × ((List (Int × Int)) × ((List Int) × ((List Int) × (List Int))))))) : (Option (((List Int) × ((List Int) × ((List Int) × ((List Int) × (List Int))))) × Bool)) :=
  (bindO (M_S_mList ((x.1.1, (x.1.2.1, x.1.2.2)), (x.2.1, x.2.2.1))) (fun (a0 : Bool) => (cond (not a0) (some ((([] : List Int), (([] : List Int), (([] : List Int), (([] : List Int), ([] : List Int))))), false)) (bindO (M_S_mPerm (x.2.2.2.1, (((List.length x.2.2.1) : Nat) : Int))) (fun (a1 : Bool) => (cond (not a1) (some ((([] : List Int), (([] : List Int), (([] : List Int), (([] : List Int), ([] : List Int))))), false)) (cond ((((List.length x.2.2.2.2.1) : Nat) : Int) != (((List.length x.2.2.1) : Nat) : Int)) (some ((([] : List Int), (([] : List Int), (([] : List Int), (([] : List Int), ([] : List Int))))), false)) (bindO (M_S_gExps ((x.1.1, (x.1.2.1, x.1.2.2)), x.2.2.2.2.1)) (fun (a2 : Bool) => (cond (not a2) (some ((([] : List Int), (([] : List Int), (([] : List Int), (([] : List Int), ([] : List Int))))), false)) (bindO (some (IntKind.wrap .i64 ((4 : Int) * (((List.length x.2.2.1) : Nat) : Int)))) (fun (a3 : Int) => (bindO (some (IntKind.wrap .i64 (a3 + (4 : Int)))) (fun (a4 : Int) => (cond ((((List.length x.2.2.2.2.2) : Nat) : Int) != a4) (some ((([] : List Int), (([] : List Int), (([] : List Int), (([] : List Int), ([] : List Int))))), false)) (bindO (M_S_gExps ((x.1.1, (x.1.2.1, x.1.2.2)), x.2.2.2.2.2)) (fun (a5 : Bool) => (cond (not a5) (some ((([] : List Int), (([] : List Int), (([] : List Int), (([] : List Int), ([] : List Int))))), false)) (bindO (M_S_BasesOf ((x.1.1, (x.1.2.1, x.1.2.2)), (((List.length x.2.2.1) : Nat) : Int))) (fun (a6 : ((Int × (List Int)) × Bool)) => (cond (not a6.2) (some ((([] : List Int), (([] : List Int), (([] : List Int), (([] : List Int), ([] : List Int))))), false)) (bindO (M_S_mProve ((x.1.1, (x.1.2.1, x.1.2.2)), (x.2.1, ((a6.1.1, a6.1.2), (x.2.2.1, (x.2.2.2.1, (x.2.2.2.2.1, x.2.2.2.2.2))))))) (fun (a7 : ((List Int) × ((List Int) × ((List Int) × ((List Int) × (List Int)))))) => (some ((a7.1, (a7.2.1, (a7.2.2.1, (a7.2.2.2.1, a7.2.2.2.2)))), true)))))))))))))))))))))))))

noncomputable def c_S_ProveMatrix : Con0 := ⟨pk_S_ProveMatrix, rk_S_ProveMatrix, M_S_ProveMatrix⟩

set_option maxRecDepth 100000 in
theorem eq_S_ProveMatrix (x : In pk_S_ProveMatrix) : semF (mkE [(75, c_S_mList), (142, c_S_mPerm), (61, c_S_gExps), (76, c_S_BasesOf), (143, c_S_mProve)]) h_S_ProveMatrix (info Tryz.f95) pk_S_ProveMatrix rk_S_ProveMatrix x = M_S_ProveMatrix x := (semFF_eq _ _ _ _ _ _).symm.trans (by kernel_rfl)

set_option maxRecDepth 100000 in
theorem m_S_ProveMatrix : ConOK Tryz.prog 95 c_S_ProveMatrix := fn_ok (tyOK _) (E := mkE [(75, c_S_mList), (142, c_S_mPerm), (61, c_S_gExps), (76, c_S_BasesOf), (143, c_S_mProve)]) (consOK_cons m_S_mList (consOK_cons m_S_mPerm (consOK_cons m_S_gExps (consOK_cons m_S_BasesOf (consOK_cons m_S_mProve (consOK_nil rfl)))))) Tryz.func95 (h := h_S_ProveMatrix) (by kernel_rfl) eq_S_ProveMatrix

/-- S_vBase -/
def pk_S_vBase : List PK := [.data (.cons (.int .i64) (.cons (.int .i64) (.one (.int .i64))))]
def rk_S_vBase : List (Ty × Bool) := [((.int .i64), false), (.bool, false)]
def h_S_vBase : Hints := { loops := [] }
noncomputable def M_S_vBase (x : (Int × (Int × Int))) : (Option (Int × Bool)) :=
  (bindO (M_S_BasesOf ((x.1, (x.2.1, x.2.2)), (0 : Int))) (fun (a0 : ((Int × (List Int)) × Bool)) => (some (a0.1.1, a0.2))))

noncomputable def c_S_vBase : Con0 := ⟨pk_S_vBase, rk_S_vBase, M_S_vBase⟩

set_option maxRecDepth 100000 in
theorem eq_S_vBase (x : In pk_S_vBase) : semF (mkE [(76, c_S_BasesOf)]) h_S_vBase (info Tryz.f113) pk_S_vBase rk_S_vBase x = M_S_vBase x := (semFF_eq _ _ _ _ _ _).symm.trans (by kernel_rfl)

set_option maxRecDepth 100000 in
theorem m_S_vBase : ConOK Tryz.prog 113 c_S_vBase := fn_ok (tyOK _) (E := mkE [(76, c_S_BasesOf)]) (consOK_cons m_S_BasesOf (consOK_nil rfl)) Tryz.func113 (h := h_S_vBase) (by kernel_rfl) eq_S_vBase

/-- S_vC -/
def pk_S_vC : List PK := [.data (.cons (.int .i64) (.cons (.int .i64) (.one (.int .i64)))), .data (.int .i64), .data (.int .i64), .data (.int .i64)]
def rk_S_vC : List (Ty × Bool) := [((.int .i64), false)]
def h_S_vC : Hints := { loops := [] }
noncomputable def M_S_vC (x : ((Int × (Int × Int)) × (Int × (Int × Int)))) : (Option Int) :=
  (bindO (M_S_gExp ((x.1.1, (x.1.2.1, x.1.2.2)), (x.1.2.2, x.2.2.1))) (fun (a0 : Int) => (bindO (M_S_gExp ((x.1.1, (x.1.2.1, x.1.2.2)), (x.2.1, x.2.2.2))) (fun (a1 : Int) => (bindO (M_S_gMul ((x.1.1, (x.1.2.1, x.1.2.2)), (a0 :: (a1 :: ([] : List Int))))) (fun (a2 : Int) => (some a2)))))))

noncomputable def c_S_vC : Con0 := ⟨pk_S_vC, rk_S_vC, M_S_vC⟩

set_option maxRecDepth 100000 in
theorem eq_S_vC (x : In pk_S_vC) : semF (mkE [(169, c_S_gExp), (166, c_S_gMul)]) h_S_vC (info Tryz.f175) pk_S_vC rk_S_vC x = M_S_vC x := (semFF_eq _ _ _ _ _ _).symm.trans (by kernel_rfl)

set_option maxRecDepth 100000 in
theorem m_S_vC : ConOK Tryz.prog 175 c_S_vC := fn_ok (tyOK _) (E := mkE [(169, c_S_gExp), (166, c_S_gMul)]) (consOK_cons m_S_gExp (consOK_cons m_S_gMul (consOK_nil rfl))) Tryz.func175 (h := h_S_vC) (by kernel_rfl) eq_S_vC

/-- S_vPlaces -/
def pk_S_vPlaces : List PK := [.data (.cons (.int .i64) (.cons (.int .i64) (.one (.int .i64)))), .data (.int .i64), .data (.sl (.int .i64)), .data (.sl (.int .i64))]
def rk_S_vPlaces : List (Ty × Bool) := [((.sl (.int .i64)), true)]
def h_S_vPlaces : Hints := { loops := [(0, { items := [.slot 9 (.own (.int .i64) true), .slot 14 (.data (.int .i64) [])], kill := [0, 2] ++ (sgN 5 4 ++ ([10, 11] ++ (sgN 15 18))) })] }
noncomputable def M_S_vPlaces (x : ((Int × (Int × Int)) × (Int × ((List Int) × (List Int))))) : (Option (List Int)) :=
  (loopO (fun (again0 : (((List Int) × Int) → (Option (List Int)))) => (fun (s1 : ((List Int) × Int)) => (cond (decide (s1.2 < (((List.length x.2.2.1) : Nat) : Int))) (bindO (getI x.2.2.1 s1.2) (fun (a2 : Int) => (bindO (some (IntKind.wrap .i64 (a2 + (1 : Int)))) (fun (a3 : Int) => (bindO (getI x.2.2.2 s1.2) (fun (a4 : Int) => (bindO (M_S_vC ((x.1.1, (x.1.2.1, x.1.2.2)), (x.2.1, (a3, a4)))) (fun (a5 : Int) => (bindO (guardO (lenOk ((List.length s1.1) + (List.length (a5 :: ([] : List Int)))))) (fun (a6 : Unit) => (bindO (some (s1.1 ++ (a5 :: ([] : List Int)))) (fun (a7 : (List Int)) => (bindO (some (IntKind.wrap .i64 (s1.2 + (1 : Int)))) (fun (a8 : Int) => (again0 (a7, a8)))))))))))))))) (some s1.1)))) (([] : List Int), (0 : Int)))

noncomputable def c_S_vPlaces : Con0 := ⟨pk_S_vPlaces, rk_S_vPlaces, M_S_vPlaces⟩

set_option maxRecDepth 100000 in
theorem eq_S_vPlaces (x : In pk_S_vPlaces) : semF (mkE [(175, c_S_vC)]) h_S_vPlaces (info Tryz.f191) pk_S_vPlaces rk_S_vPlaces x = M_S_vPlaces x := (semFF_eq _ _ _ _ _ _).symm.trans (by kernel_rfl)

set_option maxRecDepth 100000 in
theorem m_S_vPlaces : ConOK Tryz.prog 191 c_S_vPlaces := fn_ok (tyOK _) (E := mkE [(175, c_S_vC)]) (consOK_cons m_S_vC (consOK_nil rfl)) Tryz.func191 (h := h_S_vPlaces) (by kernel_rfl) eq_S_vPlaces

/-- S_vPowers -/
def pk_S_vPowers : List PK := [.data (.cons (.int .i64) (.cons (.int .i64) (.one (.int .i64)))), .data (.sl (.int .i64)), .data (.int .i64)]
def rk_S_vPowers : List (Ty × Bool) := [((.sl (.int .i64)), true)]
def h_S_vPowers : Hints := { loops := [(0, { items := [.slot 7 (.own (.int .i64) true), .slot 12 (.data (.int .i64) [])], kill := [0, 1, 4, 5, 6, 8, 9] ++ (sgN 13 14) })] }
noncomputable def M_S_vPowers (x : ((Int × (Int × Int)) × ((List Int) × Int))) : (Option (List Int)) :=
  (loopO (fun (again0 : (((List Int) × Int) → (Option (List Int)))) => (fun (s1 : ((List Int) × Int)) => (cond (decide (s1.2 < (((List.length x.2.1) : Nat) : Int))) (bindO (getI x.2.1 s1.2) (fun (a2 : Int) => (bindO (some (IntKind.wrap .i64 (a2 + (1 : Int)))) (fun (a3 : Int) => (bindO (M_S_nPower (x.2.2, (a3, x.1.2.1))) (fun (a4 : Int) => (bindO (guardO (lenOk ((List.length s1.1) + (List.length (a4 :: ([] : List Int)))))) (fun (a5 : Unit) => (bindO (some (s1.1 ++ (a4 :: ([] : List Int)))) (fun (a6 : (List Int)) => (bindO (some (IntKind.wrap .i64 (s1.2 + (1 : Int)))) (fun (a7 : Int) => (again0 (a6, a7)))))))))))))) (some s1.1)))) (([] : List Int), (0 : Int)))

noncomputable def c_S_vPowers : Con0 := ⟨pk_S_vPowers, rk_S_vPowers, M_S_vPowers⟩

set_option maxRecDepth 100000 in
theorem eq_S_vPowers (x : In pk_S_vPowers) : semF (mkE [(158, c_S_nPower)]) h_S_vPowers (info Tryz.f192) pk_S_vPowers rk_S_vPowers x = M_S_vPowers x := (semFF_eq _ _ _ _ _ _).symm.trans (by kernel_rfl)

set_option maxRecDepth 100000 in
theorem m_S_vPowers : ConOK Tryz.prog 192 c_S_vPowers := fn_ok (tyOK _) (E := mkE [(158, c_S_nPower)]) (consOK_cons m_S_nPower (consOK_nil rfl)) Tryz.func192 (h := h_S_vPowers) (by kernel_rfl) eq_S_vPowers

/-- S_vPoints -/
def pk_S_vPoints : List PK := [.data (.cons (.int .i64) (.cons (.int .i64) (.one (.int .i64)))), .data (.int .i64), .data (.sl (.cons (.int .i64) (.one (.int .i64)))), .data (.sl (.cons (.int .i64) (.one (.int .i64)))), .data (.sl (.int .i64)), .data (.sl (.int .i64))]
def rk_S_vPoints : List (Ty × Bool) := [((.int .i64), false), ((.int .i64), false)]
def h_S_vPoints : Hints := { loops := [] }
noncomputable def M_S_vPoints (x : ((Int × (Int × Int)) × (Int × ((List (Int × Int)) × ((List (Int × Int)) × ((List Int) × (List Int))))))) : (Option (Int × Int)) :=
  (bindO (M_S_mListed (x.2.1, (x.2.2.1, (x.2.2.2.1, x.2.2.2.2.1)))) (fun (a0 : (List Int)) => (bindO (guardO (lenOk ((List.length a0) + (List.length x.2.2.2.2.2)))) (fun (a1 : Unit) => (bindO (some (a0 ++ x.2.2.2.2.2)) (fun (a2 : (List Int)) => (bindO (M_S_hChallenge ((x.1.1, (x.1.2.1, x.1.2.2)), ((bytesOf [109, 105, 120, 32, 121]), a2))) (fun (a3 : Int) => (bindO (M_S_hChallenge ((x.1.1, (x.1.2.1, x.1.2.2)), ((bytesOf [109, 105, 120, 32, 122]), a2))) (fun (a4 : Int) => (some (a3, a4))))))))))))

noncomputable def c_S_vPoints : Con0 := ⟨pk_S_vPoints, rk_S_vPoints, M_S_vPoints⟩

set_option maxRecDepth 100000 in
theorem eq_S_vPoints (x : In pk_S_vPoints) : semF (mkE [(173, c_S_mListed), (172, c_S_hChallenge)]) h_S_vPoints (info Tryz.f174) pk_S_vPoints rk_S_vPoints x = M_S_vPoints x := (semFF_eq _ _ _ _ _ _).symm.trans (by kernel_rfl)

set_option maxRecDepth 100000 in
theorem m_S_vPoints : ConOK Tryz.prog 174 c_S_vPoints := fn_ok (tyOK _) (E := mkE [(173, c_S_mListed), (172, c_S_hChallenge)]) (consOK_cons m_S_mListed (consOK_cons m_S_hChallenge (consOK_nil rfl))) Tryz.func174 (h := h_S_vPoints) (by kernel_rfl) eq_S_vPoints

/-- S_vEnd -/
def pk_S_vEnd : List PK := [.data (.cons (.int .i64) (.cons (.int .i64) (.one (.int .i64)))), .data (.int .i64), .data (.sl (.cons (.int .i64) (.one (.int .i64)))), .data (.sl (.cons (.int .i64) (.one (.int .i64)))), .data (.cons (.sl (.int .i64)) (.cons (.sl (.int .i64)) (.cons (.sl (.int .i64)) (.one (.cons (.sl (.int .i64)) (.cons (.sl (.int .i64)) (.one (.sl (.int .i64)))))))))]
def rk_S_vEnd : List (Ty × Bool) := [((.int .i64), false)]
def h_S_vEnd : Hints := { loops := [] }
noncomputable def M_S_vEnd (x : ((Int × (Int × Int)) × (Int × ((List (Int × Int)) × ((List (Int × Int)) × ((List Int) × ((List Int) × ((List Int) × ((List Int) × ((List Int) × (List Int))))))))))) : (Option Int) :=
  (bindO (M_S_mListed (x.2.1, (x.2.2.1, (x.2.2.2.1, x.2.2.2.2.1)))) (fun (a0 : (List Int)) => (bindO (guardO (lenOk ((List.length a0) + (List.length x.2.2.2.2.2.1)))) (fun (a1 : Unit) => (bindO (some (a0 ++ x.2.2.2.2.2.1)) (fun (a2 : (List Int)) => (bindO (guardO (lenOk ((List.length a2) + (List.length x.2.2.2.2.2.2.1)))) (fun (a3 : Unit) => (bindO (some (a2 ++ x.2.2.2.2.2.2.1)) (fun (a4 : (List Int)) => (bindO (guardO (lenOk ((List.length a4) + (List.length x.2.2.2.2.2.2.2.1)))) (fun (a5 : Unit) => (bindO (some (a4 ++ x.2.2.2.2.2.2.2.1)) (fun (a6 : (List Int)) => (bindO (M_S_hChallenge ((x.1.1, (x.1.2.1, x.1.2.2)), ((bytesOf [109, 105, 120, 32, 101, 110, 100]), a6))) (fun (a7 : Int) => (some a7)))))))))))))))))

noncomputable def c_S_vEnd : Con0 := ⟨pk_S_vEnd, rk_S_vEnd, M_S_vEnd⟩

set_option maxRecDepth 100000 in
theorem eq_S_vEnd (x : In pk_S_vEnd) : semF (mkE [(173, c_S_mListed), (172, c_S_hChallenge)]) h_S_vEnd (info Tryz.f171) pk_S_vEnd rk_S_vEnd x = M_S_vEnd x := (semFF_eq _ _ _ _ _ _).symm.trans (by kernel_rfl)

set_option maxRecDepth 100000 in
theorem m_S_vEnd : ConOK Tryz.prog 171 c_S_vEnd := fn_ok (tyOK _) (E := mkE [(173, c_S_mListed), (172, c_S_hChallenge)]) (consOK_cons m_S_mListed (consOK_cons m_S_hChallenge (consOK_nil rfl))) Tryz.func171 (h := h_S_vEnd) (by kernel_rfl) eq_S_vEnd

/-- S_vProve -/
def pk_S_vProve : List PK := [.data (.cons (.int .i64) (.cons (.int .i64) (.one (.int .i64)))), .data (.int .i64), .data (.int .i64), .data (.sl (.cons (.int .i64) (.one (.int .i64)))), .data (.sl (.int .i64)), .data (.sl (.int .i64)), .data (.sl (.int .i64))]
def rk_S_vProve : List (Ty × Bool) := [((.cons (.sl (.int .i64)) (.cons (.sl (.int .i64)) (.cons (.sl (.int .i64)) (.one (.cons (.sl (.int .i64)) (.cons (.sl (.int .i64)) (.one (.sl (.int .i64))))))))), true)]
def h_S_vProve : Hints := { loops := [(0, { items := [.slot 141 (.data (.int .i64) []), .cell 28 0 (.own (.int .i64) true), .cell 28 1 (.own (.int .i64) true), .cell 28 2 (.own (.int .i64) true), .cell 28 3 (.own (.int .i64) true), .cell 28 4 (.own (.int .i64) true), .cell 28 5 (.own (.int .i64) true)], kill := [0, 6] ++ (sgN 8 6 ++ (sgN 30 110 ++ (sgN 142 385))) }), (2, { items := [.slot 33 (.own (.int .i64) true), .slot 34 (.own (.int .i64) true), .slot 35 (.data (.int .i64) []), .slot 36 (.data (.int .i64) []), .slot 175 (.data (.int .i64) []), .cell 28 0 (.own (.int .i64) true), .cell 28 1 (.own (.int .i64) true), .cell 28 2 (.own (.int .i64) true), .cell 28 3 (.own (.int .i64) true), .cell 28 4 (.own (.int .i64) true), .cell 28 5 (.own (.int .i64) true)], kill := [0, 4, 6] ++ (sgN 8 6 ++ ([30] ++ (sgN 37 136 ++ (sgN 176 351)))) }), (4, { items := [.slot 242 (.data (.int .i64) []), .cell 28 0 (.own (.int .i64) true), .cell 28 1 (.own (.int .i64) true), .cell 28 2 (.own (.int .i64) true), .cell 28 3 (.own (.int .i64) true), .cell 28 4 (.own (.int .i64) true), .cell 28 5 (.own (.int .i64) true)], kill := [0, 4, 6] ++ (sgN 8 6 ++ ([30, 32] ++ (sgN 35 5 ++ (sgN 42 199 ++ (sgN 243 284))))) }), (6, { items := [.slot 43 (.data (.int .i64) []), .slot 268 (.data (.int .i64) []), .cell 28 0 (.own (.int .i64) true), .cell 28 1 (.own (.int .i64) true), .cell 28 2 (.own (.int .i64) true), .cell 28 3 (.own (.int .i64) true), .cell 28 4 (.own (.int .i64) true), .cell 28 5 (.own (.int .i64) true)], kill := [0, 4, 6] ++ (sgN 8 6 ++ ([30, 32] ++ (sgN 35 5 ++ ([42] ++ (sgN 44 223 ++ (sgN 269 258)))))) }), (8, { items := [.slot 314 (.data (.int .i64) []), .cell 28 0 (.own (.int .i64) true), .cell 28 1 (.own (.int .i64) true), .cell 28 2 (.own (.int .i64) true), .cell 28 3 (.own (.int .i64) true), .cell 28 4 (.own (.int .i64) true), .cell 28 5 (.own (.int .i64) true)], kill := [0, 4, 6] ++ (sgN 8 6 ++ ([30, 32] ++ (sgN 35 5 ++ (sgN 42 271 ++ (sgN 315 212))))) }), (10, { items := [.slot 47 (.own (.int .i64) true), .slot 380 (.data (.int .i64) [])], kill := sgN 0 5 ++ (sgN 6 8 ++ ([17, 30, 32] ++ (sgN 35 11 ++ (sgN 48 331 ++ (sgN 381 146))))) }), (12, { items := [.slot 47 (.own (.int .i64) true), .slot 402 (.data (.int .i64) [])], kill := sgN 0 5 ++ (sgN 6 8 ++ ([17, 30, 32, 33] ++ (sgN 35 11 ++ (sgN 48 353 ++ (sgN 403 124))))) }), (14, { items := [.slot 47 (.own (.int .i64) true), .slot 433 (.data (.int .i64) [])], kill := sgN 0 5 ++ (sgN 6 8 ++ ([17, 18, 21, 22] ++ (sgN 30 4 ++ (sgN 35 11 ++ (sgN 48 384 ++ (sgN 434 93)))))) }), (16, { items := [.slot 47 (.own (.int .i64) true), .slot 469 (.data (.int .i64) [])], kill := sgN 0 5 ++ (sgN 6 8 ++ ([15, 17, 18] ++ (sgN 20 5 ++ (sgN 30 16 ++ (sgN 48 420 ++ (sgN 470 57)))))) }), (18, { items := [.slot 47 (.own (.int .i64) true), .slot 491 (.data (.int .i64) [])], kill := sgN 0 5 ++ (sgN 6 8 ++ ([15, 17, 18] ++ (sgN 20 6 ++ (sgN 30 16 ++ (sgN 48 442 ++ (sgN 492 35)))))) })] }
noncomputable def M_S_vProve (x : ((Int × (Int × Int)) × (Int × (Int × ((List (Int × Int)) × ((List Int) × ((List Int) × (List Int)))))))) : (Option ((List Int) × ((List Int) × ((List Int) × ((List Int) × ((List Int) × (List Int))))))) :=
  (bindO (M_S_mMix (x.1, (x.2.1, (x.2.2.2.1, (x.2.2.2.2.1, x.2.2.2.2.2.1))))) (fun (a0 : (List (Int × Int))) => (bindO (sliceNH (((List.length x.2.2.2.1) : Nat) : Int) (List.length x.2.2.2.2.2.2)) (fun (a1 : (Nat × Nat)) => (bindO (some (IntKind.wrap .i64 ((2 : Int) * (((List.length x.2.2.2.1) : Nat) : Int)))) (fun (a2 : Int) => (bindO (sliceLH (((List.length x.2.2.2.1) : Nat) : Int) a2 (List.length x.2.2.2.2.2.2)) (fun (a3 : (Nat × Nat)) => (bindO (some (IntKind.wrap .i64 ((2 : Int) * (((List.length x.2.2.2.1) : Nat) : Int)))) (fun (a4 : Int) => (bindO (some (IntKind.wrap .i64 ((3 : Int) * (((List.length x.2.2.2.1) : Nat) : Int)))) (fun (a5 : Int) => (bindO (sliceLH a4 a5 (List.length x.2.2.2.2.2.2)) (fun (a6 : (Nat × Nat)) => (bindO (some (IntKind.wrap .i64 ((3 : Int) * (((List.length x.2.2.2.1) : Nat) : Int)))) (fun (a7 : Int) => (bindO (some (IntKind.wrap .i64 ((4 : Int) * (((List.length x.2.2.2.1) : Nat) : Int)))) (fun (a8 : Int) => (bindO (sliceLH a7 a8 (List.length x.2.2.2.2.2.2)) (fun (a9 : (Nat × Nat)) => (bindO (some (IntKind.wrap .i64 ((4 : Int) * (((List.length x.2.2.2.1) : Nat) : Int)))) (fun (a10 : Int) => (bindO (some (IntKind.wrap .i64 ((5 : Int) * (((List.length x.2.2.2.1) : Nat) : Int)))) (fun (a11 : Int) => (bindO (sliceLH a10 a11 (List.length x.2.2.2.2.2.2)) (fun (a12 : (Nat × Nat)) => (bindO (some (IntKind.wrap .i64 ((5 : Int) * (((List.length x.2.2.2.1) : Nat) : Int)))) (fun (a13 : Int) => (bindO (some (IntKind.wrap .i64 ((6 : Int) * (((List.length x.2.2.2.1) : Nat) : Int)))) (fun (a14 : Int) => (bindO (sliceLH a13 a14 (List.length x.2.2.2.2.2.2)) (fun (a15 : (Nat × Nat)) => (bindO (some (IntKind.wrap .i64 ((6 : Int) * (((List.length x.2.2.2.1) : Nat) : Int)))) (fun (a16 : Int) => (bindO (getI x.2.2.2.2.2.2 a16) (fun (a17 : Int) => (bindO (some (IntKind.wrap .i64 ((6 : Int) * (((List.length x.2.2.2.1) : Nat) : Int)))) (fun (a18 : Int) => (bindO (some (IntKind.wrap .i64 (a18 + (1 : Int)))) (fun (a19 : Int) => (bindO (some (IntKind.wrap .i64 ((7 : Int) * (((List.length x.2.2.2.1) : Nat) : Int)))) (fun (a20 : Int) => (bindO (some (IntKind.wrap .i64 (a20 + (1 : Int)))) (fun (a21 : Int) => (bindO (sliceLH a19 a21 (List.length x.2.2.2.2.2.2)) (fun (a22 : (Nat × Nat)) => (bindO (some (IntKind.wrap .i64 ((7 : Int) * (((List.length x.2.2.2.1) : Nat) : Int)))) (fun (a23 : Int) => (bindO (some (IntKind.wrap .i64 (a23 + (1 : Int)))) (fun (a24 : Int) => (bindO (some (IntKind.wrap .i64 ((8 : Int) * (((List.length x.2.2.2.1) : Nat) : Int)))) (fun (a25 : Int) => (bindO (some (IntKind.wrap .i64 (a25 + (1 : Int)))) (fun (a26 : Int) => (bindO (sliceLH a24 a26 (List.length x.2.2.2.2.2.2)) (fun (a27 : (Nat × Nat)) => (bindO (some (IntKind.wrap .i64 ((8 : Int) * (((List.length x.2.2.2.1) : Nat) : Int)))) (fun (a28 : Int) => (bindO (some (IntKind.wrap .i64 (a28 + (1 : Int)))) (fun (a29 : Int) => (bindO (getI x.2.2.2.2.2.2 a29) (fun (a30 : Int) => (bindO (M_S_vPlaces (x.1, (x.2.2.1, (x.2.2.2.2.1, (List.drop a1.1 (List.take a1.2 x.2.2.2.2.2.2)))))) (fun (a31 : (List Int)) => (bindO (M_S_mListed (x.2.1, (x.2.2.2.1, (a0, a31)))) (fun (a32 : (List Int)) => (bindO (M_S_hChallenge (x.1, ((bytesOf [109, 105, 120, 32, 120]), a32))) (fun (a33 : Int) => (bindO (M_S_vPowers (x.1, (x.2.2.2.2.1, a33))) (fun (a34 : (List Int)) => (loopO (fun (again35 : ((Int × ((List Int) × ((List Int) × ((List Int) × ((List Int) × ((List Int) × (List Int))))))) → (Option ((List Int) × ((List Int) × ((List Int) × ((List Int) × ((List Int) × (List Int))))))))) => (fun (s36 : (Int × ((List Int) × ((List Int) × ((List Int) × ((List Int) × ((List Int) × (List Int)))))))) => (cond (decide (s36.1 < (((List.length a34) : Nat) : Int))) (bindO (getI a34 s36.1) (fun (a37 : Int) => (bindO (getI (List.drop a3.1 (List.take a3.2 x.2.2.2.2.2.2)) s36.1) (fun (a38 : Int) => (bindO (M_S_vC (x.1, (x.2.2.1, (a37, a38)))) (fun (a39 : Int) => (bindO (guardO (lenOk ((List.length s36.2.2.1) + (List.length (a39 :: ([] : List Int)))))) (fun (a40 : Unit) => (bindO (some (s36.2.2.1 ++ (a39 :: ([] : List Int)))) (fun (a41 : (List Int)) => (bindO (some (IntKind.wrap .i64 (s36.1 + (1 : Int)))) (fun (a42 : Int) => (again35 (a42, (s36.2.1, (a41, s36.2.2.2)))))))))))))))) (bindO (M_S_vPoints (x.1, (x.2.1, (x.2.2.2.1, (a0, (s36.2.1, s36.2.2.1)))))) (fun (a43 : (Int × Int)) => (loopO (fun (again44 : (((List Int) × ((List Int) × (Int × (Int × (Int × ((List Int) × ((List Int) × ((List Int) × ((List Int) × ((List Int) × (List Int))))))))))) → (Option ((List Int) × ((List Int) × ((List Int) × ((List Int) × ((List Int) × (List Int))))))))) => (fun (s45 : ((List Int) × ((List Int) × (Int × (Int × (Int × ((List Int) × ((List Int) × ((List Int) × ((List Int) × ((List Int) × (List Int)))))))))))) => (cond (decide (s45.2.2.2.2.1 < (((List.length x.2.2.2.2.1) : Nat) : Int))) (bindO (getI x.2.2.2.2.1 s45.2.2.2.2.1) (fun (a46 : Int) => (bindO (some (IntKind.wrap .i64 (a46 + (1 : Int)))) (fun (a47 : Int) => (bindO (guardO (x.1.2.1 != (0 : Int))) (fun (a48 : Unit) => (bindO (some (Int.tmod a47 x.1.2.1)) (fun (a49 : Int) => (bindO (some (IntKind.wrap .i64 (a43.1 * a49))) (fun (a50 : Int) => (bindO (getI a34 s45.2.2.2.2.1) (fun (a51 : Int) => (bindO (some (IntKind.wrap .i64 (a50 + a51))) (fun (a52 : Int) => (bindO (some (IntKind.wrap .i64 (a52 - a43.2))) (fun (a53 : Int) => (bindO (M_S_nMod (a53, x.1.2.1)) (fun (a54 : Int) => (bindO (guardO (lenOk ((List.length s45.1) + (List.length (a54 :: ([] : List Int)))))) (fun (a55 : Unit) => (bindO (some (s45.1 ++ (a54 :: ([] : List Int)))) (fun (a56 : (List Int)) => (bindO (some (IntKind.wrap .i64 (s45.2.2.1 * a54))) (fun (a57 : Int) => (bindO (guardO (x.1.2.1 != (0 : Int))) (fun (a58 : Unit) => (bindO (some (Int.tmod a57 x.1.2.1)) (fun (a59 : Int) => (bindO (getI (List.drop a6.1 (List.take a6.2 x.2.2.2.2.2.2)) s45.2.2.2.2.1) (fun (a60 : Int) => (bindO (M_S_vC (x.1, (x.2.2.1, (a59, a60)))) (fun (a61 : Int) => (bindO (guardO (lenOk ((List.length s45.2.2.2.2.2.2.2.1) + (List.length (a61 :: ([] : List Int)))))) (fun (a62 : Unit) => (bindO (some (s45.2.2.2.2.2.2.2.1 ++ (a61 :: ([] : List Int)))) (fun (a63 : (List Int)) => (bindO (getI (List.drop a6.1 (List.take a6.2 x.2.2.2.2.2.2)) s45.2.2.2.2.1) (fun (a64 : Int) => (bindO (some (IntKind.wrap .i64 (s45.2.2.2.1 * a54))) (fun (a65 : Int) => (bindO (some (IntKind.wrap .i64 (a64 - a65))) (fun (a66 : Int) => (bindO (M_S_nMod (a66, x.1.2.1)) (fun (a67 : Int) => (bindO (guardO (lenOk ((List.length s45.2.1) + (List.length (a67 :: ([] : List Int)))))) (fun (a68 : Unit) => (bindO (some (s45.2.1 ++ (a67 :: ([] : List Int)))) (fun (a69 : (List Int)) => (bindO (getI (List.drop a6.1 (List.take a6.2 x.2.2.2.2.2.2)) s45.2.2.2.2.1) (fun (a70 : Int) => (bindO (some (IntKind.wrap .i64 (s45.2.2.2.2.1 + (1 : Int)))) (fun (a71 : Int) => (again44 (a56, (a69, (a59, (a70, (a71, (s45.2.2.2.2.2.1, (s45.2.2.2.2.2.2.1, (a63, s45.2.2.2.2.2.2.2.2))))))))))))))))))))))))))))))))))))))))))))))))))))))))))))) (bindO (M_S_mSides a0) (fun (a72 : ((List Int) × (List Int))) => (loopO (fun (again73 : ((Int × ((List Int) × ((List Int) × ((List Int) × ((List Int) × ((List Int) × (List Int))))))) → (Option ((List Int) × ((List Int) × ((List Int) × ((List Int) × ((List Int) × (List Int))))))))) => (fun (s74 : (Int × ((List Int) × ((List Int) × ((List Int) × ((List Int) × ((List Int) × (List Int)))))))) => (cond (decide (s74.1 < (((List.length (List.drop a9.1 (List.take a9.2 x.2.2.2.2.2.2))) : Nat) : Int))) (bindO (getI (List.drop a9.1 (List.take a9.2 x.2.2.2.2.2.2)) s74.1) (fun (a75 : Int) => (bindO (getI (List.drop a12.1 (List.take a12.2 x.2.2.2.2.2.2)) s74.1) (fun (a76 : Int) => (bindO (M_S_vC (x.1, (x.2.2.1, (a75, a76)))) (fun (a77 : Int) => (bindO (guardO (lenOk ((List.length s74.2.2.2.2.1) + (List.length (a77 :: ([] : List Int)))))) (fun (a78 : Unit) => (bindO (some (s74.2.2.2.2.1 ++ (a77 :: ([] : List Int)))) (fun (a79 : (List Int)) => (bindO (some (IntKind.wrap .i64 (s74.1 + (1 : Int)))) (fun (a80 : Int) => (again73 (a80, (s74.2.1, (s74.2.2.1, (s74.2.2.2.1, (a79, s74.2.2.2.2.2)))))))))))))))))) (loopO (fun (again81 : ((Int × (Int × ((List Int) × ((List Int) × ((List Int) × ((List Int) × ((List Int) × (List Int)))))))) → (Option ((List Int) × ((List Int) × ((List Int) × ((List Int) × ((List Int) × (List Int))))))))) => (fun (s82 : (Int × (Int × ((List Int) × ((List Int) × ((List Int) × ((List Int) × ((List Int) × (List Int))))))))) => (cond (decide (s82.2.1 < (((List.length (List.drop a9.1 (List.take a9.2 x.2.2.2.2.2.2))) : Nat) : Int))) (bindO (getI (List.drop a9.1 (List.take a9.2 x.2.2.2.2.2.2)) s82.2.1) (fun (a83 : Int) => (bindO (M_S_gExp (x.1, (s82.1, a83))) (fun (a84 : Int) => (bindO (getI (List.drop a15.1 (List.take a15.2 x.2.2.2.2.2.2)) s82.2.1) (fun (a85 : Int) => (bindO (M_S_gExp (x.1, (x.2.2.1, a85))) (fun (a86 : Int) => (bindO (M_S_gMul (x.1, (a84 :: (a86 :: ([] : List Int))))) (fun (a87 : Int) => (bindO (guardO (lenOk ((List.length s82.2.2.2.2.2.1) + (List.length (a87 :: ([] : List Int)))))) (fun (a88 : Unit) => (bindO (some (s82.2.2.2.2.2.1 ++ (a87 :: ([] : List Int)))) (fun (a89 : (List Int)) => (bindO (getI s82.2.2.2.2.1 s82.2.1) (fun (a90 : Int) => (bindO (some (IntKind.wrap .i64 (s82.2.1 + (1 : Int)))) (fun (a91 : Int) => (again81 (a90, (a91, (s82.2.2.1, (s82.2.2.2.1, (s82.2.2.2.2.1, (a89, s82.2.2.2.2.2.2))))))))))))))))))))))))) (bindO (M_S_gExp (x.1, (x.2.2.1, a17))) (fun (a92 : Int) => (bindO (guardO (lenOk ((List.length s82.2.2.2.2.2.1) + (List.length (a92 :: ([] : List Int)))))) (fun (a93 : Unit) => (bindO (some (s82.2.2.2.2.2.1 ++ (a92 :: ([] : List Int)))) (fun (a94 : (List Int)) => (loopO (fun (again95 : ((Int × ((List Int) × ((List Int) × ((List Int) × ((List Int) × ((List Int) × (List Int))))))) → (Option ((List Int) × ((List Int) × ((List Int) × ((List Int) × ((List Int) × (List Int))))))))) => (fun (s96 : (Int × ((List Int) × ((List Int) × ((List Int) × ((List Int) × ((List Int) × (List Int)))))))) => (cond (decide (s96.1 < (((List.length (List.drop a22.1 (List.take a22.2 x.2.2.2.2.2.2))) : Nat) : Int))) (bindO (getI (List.drop a22.1 (List.take a22.2 x.2.2.2.2.2.2)) s96.1) (fun (a97 : Int) => (bindO (getI (List.drop a27.1 (List.take a27.2 x.2.2.2.2.2.2)) s96.1) (fun (a98 : Int) => (bindO (M_S_vC (x.1, (x.2.2.1, (a97, a98)))) (fun (a99 : Int) => (bindO (guardO (lenOk ((List.length s96.2.2.2.2.1) + (List.length (a99 :: ([] : List Int)))))) (fun (a100 : Unit) => (bindO (some (s96.2.2.2.2.1 ++ (a99 :: ([] : List Int)))) (fun (a101 : (List Int)) => (bindO (some (IntKind.wrap .i64 (s96.1 + (1 : Int)))) (fun (a102 : Int) => (again95 (a102, (s96.2.1, (s96.2.2.1, (s96.2.2.2.1, (a101, s96.2.2.2.2.2)))))))))))))))))) (bindO (some (IntKind.wrap .i64 ((0 : Int) - a30))) (fun (a103 : Int) => (bindO (M_S_gExp (x.1, (x.1.2.2, a103))) (fun (a104 : Int) => (bindO (M_S_gProd (x.1, (a72.1, (List.drop a22.1 (List.take a22.2 x.2.2.2.2.2.2))))) (fun (a105 : Int) => (bindO (M_S_gMul (x.1, (a104 :: (a105 :: ([] : List Int))))) (fun (a106 : Int) => (bindO (some (IntKind.wrap .i64 ((0 : Int) - a30))) (fun (a107 : Int) => (bindO (M_S_gExp (x.1, (x.2.1, a107))) (fun (a108 : Int) => (bindO (M_S_gProd (x.1, (a72.2, (List.drop a22.1 (List.take a22.2 x.2.2.2.2.2.2))))) (fun (a109 : Int) => (bindO (M_S_gMul (x.1, (a108 :: (a109 :: ([] : List Int))))) (fun (a110 : Int) => (bindO (guardO (lenOk ((List.length s96.2.2.2.2.1) + (List.length (a106 :: (a110 :: ([] : List Int))))))) (fun (a111 : Unit) => (bindO (some (s96.2.2.2.2.1 ++ (a106 :: (a110 :: ([] : List Int))))) (fun (a112 : (List Int)) => (bindO (M_S_vEnd (x.1, (x.2.1, (x.2.2.2.1, (a0, (s96.2.1, (s96.2.2.1, (s96.2.2.2.1, (a112, s96.2.2.2.2.2))))))))) (fun (a113 : Int) => (loopO (fun (again114 : (((List Int) × Int) → (Option ((List Int) × ((List Int) × ((List Int) × ((List Int) × ((List Int) × (List Int))))))))) => (fun (s115 : ((List Int) × Int)) => (cond (decide (s115.2 < (((List.length (List.drop a9.1 (List.take a9.2 x.2.2.2.2.2.2))) : Nat) : Int))) (bindO (getI (List.drop a9.1 (List.take a9.2 x.2.2.2.2.2.2)) s115.2) (fun (a116 : Int) => (bindO (getI s45.1 s115.2) (fun (a117 : Int) => (bindO (some (IntKind.wrap .i64 (a113 * a117))) (fun (a118 : Int) => (bindO (some (IntKind.wrap .i64 (a116 + a118))) (fun (a119 : Int) => (bindO (guardO (x.1.2.1 != (0 : Int))) (fun (a120 : Unit) => (bindO (some (Int.tmod a119 x.1.2.1)) (fun (a121 : Int) => (bindO (guardO (lenOk ((List.length s115.1) + (List.length (a121 :: ([] : List Int)))))) (fun (a122 : Unit) => (bindO (some (s115.1 ++ (a121 :: ([] : List Int)))) (fun (a123 : (List Int)) => (bindO (some (IntKind.wrap .i64 (s115.2 + (1 : Int)))) (fun (a124 : Int) => (again114 (a123, a124)))))))))))))))))))) (loopO (fun (again125 : (((List Int) × Int) → (Option ((List Int) × ((List Int) × ((List Int) × ((List Int) × ((List Int) × (List Int))))))))) => (fun (s126 : ((List Int) × Int)) => (cond (decide (s126.2 < (((List.length (List.drop a9.1 (List.take a9.2 x.2.2.2.2.2.2))) : Nat) : Int))) (bindO (getI (List.drop a12.1 (List.take a12.2 x.2.2.2.2.2.2)) s126.2) (fun (a127 : Int) => (bindO (getI (List.drop a1.1 (List.take a1.2 x.2.2.2.2.2.2)) s126.2) (fun (a128 : Int) => (bindO (some (IntKind.wrap .i64 (a43.1 * a128))) (fun (a129 : Int) => (bindO (getI (List.drop a3.1 (List.take a3.2 x.2.2.2.2.2.2)) s126.2) (fun (a130 : Int) => (bindO (some (IntKind.wrap .i64 (a129 + a130))) (fun (a131 : Int) => (bindO (guardO (x.1.2.1 != (0 : Int))) (fun (a132 : Unit) => (bindO (some (Int.tmod a131 x.1.2.1)) (fun (a133 : Int) => (bindO (some (IntKind.wrap .i64 (a113 * a133))) (fun (a134 : Int) => (bindO (some (IntKind.wrap .i64 (a127 + a134))) (fun (a135 : Int) => (bindO (guardO (x.1.2.1 != (0 : Int))) (fun (a136 : Unit) => (bindO (some (Int.tmod a135 x.1.2.1)) (fun (a137 : Int) => (bindO (guardO (lenOk ((List.length s126.1) + (List.length (a137 :: ([] : List Int)))))) (fun (a138 : Unit) => (bindO (some (s126.1 ++ (a137 :: ([] : List Int)))) (fun (a139 : (List Int)) => (bindO (some (IntKind.wrap .i64 (s126.2 + (1 : Int)))) (fun (a140 : Int) => (again125 (a139, a140)))))))))))))))))))))))))))))) (loopO (fun (again141 : (((List Int) × Int) → (Option ((List Int) × ((List Int) × ((List Int) × ((List Int) × ((List Int) × (List Int))))))))) => (fun (s142 : ((List Int) × Int)) => (cond (decide (s142.2 < (((List.length (List.drop a9.1 (List.take a9.2 x.2.2.2.2.2.2))) : Nat) : Int))) (bindO (getI (List.drop a15.1 (List.take a15.2 x.2.2.2.2.2.2)) s142.2) (fun (a143 : Int) => (bindO (getI s45.2.1 s142.2) (fun (a144 : Int) => (bindO (some (IntKind.wrap .i64 (a113 * a144))) (fun (a145 : Int) => (bindO (some (IntKind.wrap .i64 (a143 + a145))) (fun (a146 : Int) => (bindO (guardO (x.1.2.1 != (0 : Int))) (fun (a147 : Unit) => (bindO (some (Int.tmod a146 x.1.2.1)) (fun (a148 : Int) => (bindO (guardO (lenOk ((List.length s142.1) + (List.length (a148 :: ([] : List Int)))))) (fun (a149 : Unit) => (bindO (some (s142.1 ++ (a148 :: ([] : List Int)))) (fun (a150 : (List Int)) => (bindO (some (IntKind.wrap .i64 (s142.2 + (1 : Int)))) (fun (a151 : Int) => (again141 (a150, a151)))))))))))))))))))) (bindO (some (IntKind.wrap .i64 ((((List.length x.2.2.2.1) : Nat) : Int) - (1 : Int)))) (fun (a152 : Int) => (bindO (getI (List.drop a6.1 (List.take a6.2 x.2.2.2.2.2.2)) a152) (fun (a153 : Int) => (bindO (some (IntKind.wrap .i64 (a113 * a153))) (fun (a154 : Int) => (bindO (some (IntKind.wrap .i64 (a17 + a154))) (fun (a155 : Int) => (bindO (guardO (x.1.2.1 != (0 : Int))) (fun (a156 : Unit) => (bindO (some (Int.tmod a155 x.1.2.1)) (fun (a157 : Int) => (bindO (guardO (lenOk ((List.length s142.1) + (List.length (a157 :: ([] : List Int)))))) (fun (a158 : Unit) => (bindO (some (s142.1 ++ (a157 :: ([] : List Int)))) (fun (a159 : (List Int)) => (loopO (fun (again160 : (((List Int) × Int) → (Option ((List Int) × ((List Int) × ((List Int) × ((List Int) × ((List Int) × (List Int))))))))) => (fun (s161 : ((List Int) × Int)) => (cond (decide (s161.2 < (((List.length (List.drop a22.1 (List.take a22.2 x.2.2.2.2.2.2))) : Nat) : Int))) (bindO (getI (List.drop a22.1 (List.take a22.2 x.2.2.2.2.2.2)) s161.2) (fun (a162 : Int) => (bindO (getI a34 s161.2) (fun (a163 : Int) => (bindO (some (IntKind.wrap .i64 (a113 * a163))) (fun (a164 : Int) => (bindO (some (IntKind.wrap .i64 (a162 + a164))) (fun (a165 : Int) => (bindO (guardO (x.1.2.1 != (0 : Int))) (fun (a166 : Unit) => (bindO (some (Int.tmod a165 x.1.2.1)) (fun (a167 : Int) => (bindO (guardO (lenOk ((List.length s161.1) + (List.length (a167 :: ([] : List Int)))))) (fun (a168 : Unit) => (bindO (some (s161.1 ++ (a167 :: ([] : List Int)))) (fun (a169 : (List Int)) => (bindO (some (IntKind.wrap .i64 (s161.2 + (1 : Int)))) (fun (a170 : Int) => (again160 (a169, a170)))))))))))))))))))) (loopO (fun (again171 : (((List Int) × Int) → (Option ((List Int) × ((List Int) × ((List Int) × ((List Int) × ((List Int) × (List Int))))))))) => (fun (s172 : ((List Int) × Int)) => (cond (decide (s172.2 < (((List.length (List.drop a22.1 (List.take a22.2 x.2.2.2.2.2.2))) : Nat) : Int))) (bindO (getI (List.drop a27.1 (List.take a27.2 x.2.2.2.2.2.2)) s172.2) (fun (a173 : Int) => (bindO (getI (List.drop a3.1 (List.take a3.2 x.2.2.2.2.2.2)) s172.2) (fun (a174 : Int) => (bindO (some (IntKind.wrap .i64 (a113 * a174))) (fun (a175 : Int) => (bindO (some (IntKind.wrap .i64 (a173 + a175))) (fun (a176 : Int) => (bindO (guardO (x.1.2.1 != (0 : Int))) (fun (a177 : Unit) => (bindO (some (Int.tmod a176 x.1.2.1)) (fun (a178 : Int) => (bindO (guardO (lenOk ((List.length s172.1) + (List.length (a178 :: ([] : List Int)))))) (fun (a179 : Unit) => (bindO (some (s172.1 ++ (a178 :: ([] : List Int)))) (fun (a180 : (List Int)) => (bindO (some (IntKind.wrap .i64 (s172.2 + (1 : Int)))) (fun (a181 : Int) => (again171 (a180, a181)))))))))))))))))))) (bindO (M_S_nDot (x.2.2.2.2.2.1, (a34, x.1.2.1))) (fun (a182 : Int) => (bindO (some (IntKind.wrap .i64 (a113 * a182))) (fun (a183 : Int) => (bindO (some (IntKind.wrap .i64 (a30 + a183))) (fun (a184 : Int) => (bindO (guardO (x.1.2.1 != (0 : Int))) (fun (a185 : Unit) => (bindO (some (Int.tmod a184 x.1.2.1)) (fun (a186 : Int) => (bindO (guardO (lenOk ((List.length s172.1) + (List.length (a186 :: ([] : List Int)))))) (fun (a187 : Unit) => (bindO (some (s172.1 ++ (a186 :: ([] : List Int)))) (fun (a188 : (List Int)) => (some (s96.2.1, (s96.2.2.1, (s96.2.2.2.1, (a112, ((a113 :: ([] : List Int)), a188))))))))))))))))))))))) (s161.1, (0 : Int)))))) (a159, (0 : Int)))))))))))))))))))))) (s126.1, (0 : Int)))))) (s115.1, (0 : Int)))))) (([] : List Int), (0 : Int)))))))))))))))))))))))))))) ((0 : Int), (s82.2.2.1, (s82.2.2.2.1, (s82.2.2.2.2.1, (a94, s82.2.2.2.2.2.2))))))))))))))) (x.1.2.2, ((0 : Int), s74.2)))))) ((0 : Int), s45.2.2.2.2.2))))))) (([] : List Int), (([] : List Int), ((1 : Int), ((0 : Int), ((0 : Int), s36.2))))))))))) ((0 : Int), (a31, (([] : List Int), (([] : List Int), (([] : List Int), (([] : List Int), ([] : List Int))))))))))))))))))))))))))))))))))))))))))))))))))))))))))))))))))))))))))))))

noncomputable def c_S_vProve : Con0 := ⟨pk_S_vProve, rk_S_vProve, M_S_vProve⟩

set_option maxRecDepth 100000 in
theorem eq_S_vProve (x : In pk_S_vProve) : semF (mkE [(94, c_S_mMix), (191, c_S_vPlaces), (173, c_S_mListed), (172, c_S_hChallenge), (192, c_S_vPowers), (175, c_S_vC), (174, c_S_vPoints), (193, c_S_nMod), (165, c_S_mSides), (169, c_S_gExp), (166, c_S_gMul), (168, c_S_gProd), (171, c_S_vEnd), (190, c_S_nDot)]) h_S_vProve (info Tryz.f144) pk_S_vProve rk_S_vProve x = M_S_vProve x := (semFF_eq _ _ _ _ _ _).symm.trans (by kernel_rfl)

set_option maxRecDepth 100000 in
theorem m_S_vProve : ConOK Tryz.prog 144 c_S_vProve := fn_ok (tyOK _) (E := mkE [(94, c_S_mMix), (191, c_S_vPlaces), (173, c_S_mListed), (172, c_S_hChallenge), (192, c_S_vPowers), (175, c_S_vC), (174, c_S_vPoints), (193, c_S_nMod), (165, c_S_mSides), (169, c_S_gExp), (166, c_S_gMul), (168, c_S_gProd), (171, c_S_vEnd), (190, c_S_nDot)]) (consOK_cons m_S_mMix (consOK_cons m_S_vPlaces (consOK_cons m_S_mListed (consOK_cons m_S_hChallenge (consOK_cons m_S_vPowers (consOK_cons m_S_vC (consOK_cons m_S_vPoints (consOK_cons m_S_nMod (consOK_cons m_S_mSides (consOK_cons m_S_gExp (consOK_cons m_S_gMul (consOK_cons m_S_gProd (consOK_cons m_S_vEnd (consOK_cons m_S_nDot (consOK_nil rfl))))))))))))))) Tryz.func144 (h := h_S_vProve) (by kernel_rfl) eq_S_vProve

/-- S_ProvePoly -/
def pk_S_ProvePoly : List PK := [.data (.cons (.int .i64) (.cons (.int .i64) (.one (.int .i64)))), .data (.int .i64), .data (.sl (.cons (.int .i64) (.one (.int .i64)))), .data (.sl (.int .i64)), .data (.sl (.int .i64)), .data (.sl (.int .i64))]
def rk_S_ProvePoly : List (Ty × Bool) := [((.cons (.sl (.int .i64)) (.cons (.sl (.int .i64)) (.cons (.sl (.int .i64)) (.one (.cons (.sl (.int .i64)) (.cons (.sl (.int .i64)) (.one (.sl (.int .i64))))))))), true), (.bool, false)]
def h_S_ProvePoly : Hints := { loops := [] }
noncomputable def M_S_ProvePoly (x : ((Int × (Int × Int)) × (Int × ((List (Int × Int)) × ((List Int) × ((List Int) × (List Int))))))) : (Option (((List Int) × ((List Int) × ((List Int) × ((List Int) × ((List Int) × (List Int)))))) × Bool)) :=
  (bindO (M_S_mList ((x.1.1, (x.1.2.1, x.1.2.2)), (x.2.1, x.2.2.1))) (fun (a0 : Bool) => (cond (not a0) (some ((([] : List Int), (([] : List Int), (([] : List Int), (([] : List Int), (([] : List Int), ([] : List Int)))))), false)) (bindO (M_S_mPerm (x.2.2.2.1, (((List.length x.2.2.1) : Nat) : Int))) (fun (a1 : Bool) => (cond (not a1) (some ((([] : List Int), (([] : List Int), (([] : List Int), (([] : List Int), (([] : List Int), ([] : List Int)))))), false)) (cond ((((List.length x.2.2.2.2.1) : Nat) : Int) != (((List.length x.2.2.1) : Nat) : Int)) (some ((([] : List Int), (([] : List Int), (([] : List Int), (([] : List Int), (([] : List Int), ([] : List Int)))))), false)) (bindO (M_S_gExps ((x.1.1, (x.1.2.1, x.1.2.2)), x.2.2.2.2.1)) (fun (a2 : Bool) => (cond (not a2) (some ((([] : List Int), (([] : List Int), (([] : List Int), (([] : List Int), (([] : List Int), ([] : List Int)))))), false)) (bindO (some (IntKind.wrap .i64 ((8 : Int) * (((List.length x.2.2.1) : Nat) : Int)))) (fun (a3 : Int) => (bindO (some (IntKind.wrap .i64 (a3 + (2 : Int)))) (fun (a4 : Int) => (cond ((((List.length x.2.2.2.2.2) : Nat) : Int) != a4) (some ((([] : List Int), (([] : List Int), (([] : List Int), (([] : List Int), (([] : List Int), ([] : List Int)))))), false)) (bindO (M_S_gExps ((x.1.1, (x.1.2.1, x.1.2.2)), x.2.2.2.2.2)) (fun (a5 : Bool) => (cond (not a5) (some ((([] : List Int), (([] : List Int), (([] : List Int), (([] : List Int), (([] : List Int), ([] : List Int)))))), false)) (bindO (M_S_vBase (x.1.1, (x.1.2.1, x.1.2.2))) (fun (a6 : (Int × Bool)) => (cond (not a6.2) (some ((([] : List Int), (([] : List Int), (([] : List Int), (([] : List Int), (([] : List Int), ([] : List Int)))))), false)) (bindO (M_S_vProve ((x.1.1, (x.1.2.1, x.1.2.2)), (x.2.1, (a6.1, (x.2.2.1, (x.2.2.2.1, (x.2.2.2.2.1, x.2.2.2.2.2))))))) (fun (a7 : ((List Int) × ((List Int) × ((List Int) × ((List Int) × ((List Int) × (List Int))))))) => (some ((a7.1, (a7.2.1, (a7.2.2.1, (a7.2.2.2.1, (a7.2.2.2.2.1, a7.2.2.2.2.2))))), true)))))))))))))))))))))))))

noncomputable def c_S_ProvePoly : Con0 := ⟨pk_S_ProvePoly, rk_S_ProvePoly, M_S_ProvePoly⟩

set_option maxRecDepth 100000 in
theorem eq_S_ProvePoly (x : In pk_S_ProvePoly) : semF (mkE [(75, c_S_mList), (142, c_S_mPerm), (61, c_S_gExps), (113, c_S_vBase), (144, c_S_vProve)]) h_S_ProvePoly (info Tryz.f96) pk_S_ProvePoly rk_S_ProvePoly x = M_S_ProvePoly x := (semFF_eq _ _ _ _ _ _).symm.trans (by kernel_rfl)

set_option maxRecDepth 100000 in
theorem m_S_ProvePoly : ConOK Tryz.prog 96 c_S_ProvePoly := fn_ok (tyOK _) (E := mkE [(75, c_S_mList), (142, c_S_mPerm), (61, c_S_gExps), (113, c_S_vBase), (144, c_S_vProve)]) (consOK_cons m_S_mList (consOK_cons m_S_mPerm (consOK_cons m_S_gExps (consOK_cons m_S_vBase (consOK_cons m_S_vProve (consOK_nil rfl)))))) Tryz.func96 (h := h_S_ProvePoly) (by kernel_rfl) eq_S_ProvePoly

/-- S_xStage -/
def pk_S_xStage : List PK := [.data (.cons (.int .i64) (.cons (.int .i64) (.one (.int .i64)))), .data (.int .i64), .data (.sl (.cons (.int .i64) (.one (.int .i64)))), .data (.int .i64), .data (.sl (.int .i64)), .data (.sl (.int .i64))]
def rk_S_xStage : List (Ty × Bool) := [((.cons (.int .i64) (.cons (.sl (.cons (.int .i64) (.one (.int .i64)))) (.cons (.cons (.sl (.int .i64)) (.cons (.sl (.int .i64)) (.one (.cons (.sl (.int .i64)) (.cons (.sl (.int .i64)) (.one (.sl (.int .i64)))))))) (.one (.cons (.sl (.int .i64)) (.cons (.sl (.int .i64)) (.cons (.sl (.int .i64)) (.one (.cons (.sl (.int .i64)) (.cons (.sl (.int .i64)) (.one (.sl (.int .i64))))))))))))), true)]
def h_S_xStage : Hints := { loops := [] }
noncomputable def M_S_xStage (x : ((Int × (Int × Int)) × (Int × ((List (Int × Int)) × (Int × ((List Int) × (List Int))))))) : (Option (Int × ((List (Int × Int)) × (((List Int) × ((List Int) × ((List Int) × ((List Int) × (List Int))))) × ((List Int) × ((List Int) × ((List Int) × ((List Int) × ((List Int) × (List Int)))))))))) :=
  (bindO (sliceNH (((List.length x.2.2.1) : Nat) : Int) (List.length x.2.2.2.2.2)) (fun (a0 : (Nat × Nat)) => (bindO (M_S_mMix ((x.1.1, (x.1.2.1, x.1.2.2)), (x.2.1, (x.2.2.1, (x.2.2.2.2.1, (List.drop a0.1 (List.take a0.2 x.2.2.2.2.2))))))) (fun (a1 : (List (Int × Int))) => (cond (x.2.2.2.1 == (1 : Int)) (bindO (sliceNH (((List.length x.2.2.1) : Nat) : Int) (List.length x.2.2.2.2.2)) (fun (a2 : (Nat × Nat)) => (bindO (sliceLN (((List.length x.2.2.1) : Nat) : Int) (List.length x.2.2.2.2.2)) (fun (a3 : (Nat × Nat)) => (bindO (M_S_ProveMatrix ((x.1.1, (x.1.2.1, x.1.2.2)), (x.2.1, (x.2.2.1, (x.2.2.2.2.1, ((List.drop a2.1 (List.take a2.2 x.2.2.2.2.2)), (List.drop a3.1 (List.take a3.2 x.2.2.2.2.2)))))))) (fun (a4 : (((List Int) × ((List Int) × ((List Int) × ((List Int) × (List Int))))) × Bool)) => (some (x.2.2.2.1, (a1, ((a4.1.1, (a4.1.2.1, (a4.1.2.2.1, (a4.1.2.2.2.1, a4.1.2.2.2.2)))), (([] : List Int), (([] : List Int), (([] : List Int), (([] : List Int), (([] : List Int), ([] : List Int)))))))))))))))) (bindO (sliceNH (((List.length x.2.2.1) : Nat) : Int) (List.length x.2.2.2.2.2)) (fun (a5 : (Nat × Nat)) => (bindO (sliceLN (((List.length x.2.2.1) : Nat) : Int) (List.length x.2.2.2.2.2)) (fun (a6 : (Nat × Nat)) => (bindO (M_S_ProvePoly ((x.1.1, (x.1.2.1, x.1.2.2)), (x.2.1, (x.2.2.1, (x.2.2.2.2.1, ((List.drop a5.1 (List.take a5.2 x.2.2.2.2.2)), (List.drop a6.1 (List.take a6.2 x.2.2.2.2.2)))))))) (fun (a7 : (((List Int) × ((List Int) × ((List Int) × ((List Int) × ((List Int) × (List Int)))))) × Bool)) => (some (x.2.2.2.1, (a1, ((([] : List Int), (([] : List Int), (([] : List Int), (([] : List Int), ([] : List Int))))), (a7.1.1, (a7.1.2.1, (a7.1.2.2.1, (a7.1.2.2.2.1, (a7.1.2.2.2.2.1, a7.1.2.2.2.2.2))))))))))))))))))))

noncomputable def c_S_xStage : Con0 := ⟨pk_S_xStage, rk_S_xStage, M_S_xStage⟩

set_option maxRecDepth 100000 in
theorem eq_S_xStage (x : In pk_S_xStage) : semF (mkE [(94, c_S_mMix), (95, c_S_ProveMatrix), (96, c_S_ProvePoly)]) h_S_xStage (info Tryz.f62) pk_S_xStage rk_S_xStage x = M_S_xStage x := (semFF_eq _ _ _ _ _ _).symm.trans (by kernel_rfl)

set_option maxRecDepth 100000 in
theorem m_S_xStage : ConOK Tryz.prog 62 c_S_xStage := fn_ok (tyOK _) (E := mkE [(94, c_S_mMix), (95, c_S_ProveMatrix), (96, c_S_ProvePoly)]) (consOK_cons m_S_mMix (consOK_cons m_S_ProveMatrix (consOK_cons m_S_ProvePoly (consOK_nil rfl)))) Tryz.func62 (h := h_S_xStage) (by kernel_rfl) eq_S_xStage

/-- S_RunStage -/
def pk_S_RunStage : List PK := [.data (.cons (.int .i64) (.cons (.int .i64) (.one (.int .i64)))), .data (.int .i64), .data (.sl (.cons (.int .i64) (.one (.int .i64)))), .data (.int .i64), .data (.sl (.int .i64)), .data (.sl (.int .i64))]
def rk_S_RunStage : List (Ty × Bool) := [((.cons (.int .i64) (.cons (.sl (.cons (.int .i64) (.one (.int .i64)))) (.cons (.cons (.sl (.int .i64)) (.cons (.sl (.int .i64)) (.one (.cons (.sl (.int .i64)) (.cons (.sl (.int .i64)) (.one (.sl (.int .i64)))))))) (.one (.cons (.sl (.int .i64)) (.cons (.sl (.int .i64)) (.cons (.sl (.int .i64)) (.one (.cons (.sl (.int .i64)) (.cons (.sl (.int .i64)) (.one (.sl (.int .i64))))))))))))), true), (.bool, false)]
def h_S_RunStage : Hints := { loops := [] }
noncomputable def M_S_RunStage (x : ((Int × (Int × Int)) × (Int × ((List (Int × Int)) × (Int × ((List Int) × (List Int))))))) : (Option ((Int × ((List (Int × Int)) × (((List Int) × ((List Int) × ((List Int) × ((List Int) × (List Int))))) × ((List Int) × ((List Int) × ((List Int) × ((List Int) × ((List Int) × (List Int))))))))) × Bool)) :=
  (bindO (M_S_CoinsForStage (x.2.2.2.1, (((List.length x.2.2.1) : Nat) : Int))) (fun (a0 : (Int × Bool)) => (cond (not a0.2) (some (((0 : Int), (([] : List (Int × Int)), ((([] : List Int), (([] : List Int), (([] : List Int), (([] : List Int), ([] : List Int))))), (([] : List Int), (([] : List Int), (([] : List Int), (([] : List Int), (([] : List Int), ([] : List Int))))))))), false)) (bindO (M_S_xReady ((x.1.1, (x.1.2.1, x.1.2.2)), (x.2.1, x.2.2.1))) (fun (a1 : Bool) => (cond (not a1) (some (((0 : Int), (([] : List (Int × Int)), ((([] : List Int), (([] : List Int), (([] : List Int), (([] : List Int), ([] : List Int))))), (([] : List Int), (([] : List Int), (([] : List Int), (([] : List Int), (([] : List Int), ([] : List Int))))))))), false)) (cond ((((List.length x.2.2.2.2.1) : Nat) : Int) != (((List.length x.2.2.1) : Nat) : Int)) (some (((0 : Int), (([] : List (Int × Int)), ((([] : List Int), (([] : List Int), (([] : List Int), (([] : List Int), ([] : List Int))))), (([] : List Int), (([] : List Int), (([] : List Int), (([] : List Int), (([] : List Int), ([] : List Int))))))))), false)) (bindO (M_S_mGood x.2.2.2.2.1) (fun (a2 : Bool) => (cond (not a2) (some (((0 : Int), (([] : List (Int × Int)), ((([] : List Int), (([] : List Int), (([] : List Int), (([] : List Int), ([] : List Int))))), (([] : List Int), (([] : List Int), (([] : List Int), (([] : List Int), (([] : List Int), ([] : List Int))))))))), false)) (cond ((((List.length x.2.2.2.2.2) : Nat) : Int) != a0.1) (some (((0 : Int), (([] : List (Int × Int)), ((([] : List Int), (([] : List Int), (([] : List Int), (([] : List Int), ([] : List Int))))), (([] : List Int), (([] : List Int), (([] : List Int), (([] : List Int), (([] : List Int), ([] : List Int))))))))), false)) (bindO (M_S_gExps ((x.1.1, (x.1.2.1, x.1.2.2)), x.2.2.2.2.2)) (fun (a3 : Bool) => (cond (not a3) (some (((0 : Int), (([] : List (Int × Int)), ((([] : List Int), (([] : List Int), (([] : List Int), (([] : List Int), ([] : List Int))))), (([] : List Int), (([] : List Int), (([] : List Int), (([] : List Int), (([] : List Int), ([] : List Int))))))))), false)) (bindO (M_S_xStage ((x.1.1, (x.1.2.1, x.1.2.2)), (x.2.1, (x.2.2.1, (x.2.2.2.1, (x.2.2.2.2.1, x.2.2.2.2.2)))))) (fun (a4 : (Int × ((List (Int × Int)) × (((List Int) × ((List Int) × ((List Int) × ((List Int) × (List Int))))) × ((List Int) × ((List Int) × ((List Int) × ((List Int) × ((List Int) × (List Int)))))))))) => (some ((a4.1, (a4.2.1, ((a4.2.2.1.1, (a4.2.2.1.2.1, (a4.2.2.1.2.2.1, (a4.2.2.1.2.2.2.1, a4.2.2.1.2.2.2.2)))), (a4.2.2.2.1, (a4.2.2.2.2.1, (a4.2.2.2.2.2.1, (a4.2.2.2.2.2.2.1, (a4.2.2.2.2.2.2.2.1, a4.2.2.2.2.2.2.2.2)))))))), true))))))))))))))))))

noncomputable def c_S_RunStage : Con0 := ⟨pk_S_RunStage, rk_S_RunStage, M_S_RunStage⟩

set_option maxRecDepth 100000 in
theorem eq_S_RunStage (x : In pk_S_RunStage) : semF (mkE [(59, c_S_CoinsForStage), (42, c_S_xReady), (60, c_S_mGood), (61, c_S_gExps), (62, c_S_xStage)]) h_S_RunStage (info Tryz.f30) pk_S_RunStage rk_S_RunStage x = M_S_RunStage x := (semFF_eq _ _ _ _ _ _).symm.trans (by kernel_rfl)

set_option maxRecDepth 100000 in
theorem m_S_RunStage : ConOK Tryz.prog 30 c_S_RunStage := fn_ok (tyOK _) (E := mkE [(59, c_S_CoinsForStage), (42, c_S_xReady), (60, c_S_mGood), (61, c_S_gExps), (62, c_S_xStage)]) (consOK_cons m_S_CoinsForStage (consOK_cons m_S_xReady (consOK_cons m_S_mGood (consOK_cons m_S_gExps (consOK_cons m_S_xStage (consOK_nil rfl)))))) Tryz.func30 (h := h_S_RunStage) (by kernel_rfl) eq_S_RunStage

/-- I_within -/
def pk_I_within : List PK := [.data (.int .i64), .data (.int .i64), .data (.int .i64)]
def rk_I_within : List (Ty × Bool) := [(.bool, false)]
def h_I_within : Hints := { loops := [] }
noncomputable def M_I_within (x : (Int × (Int × Int))) : (Option Bool) :=
  (cond (decide (x.1 ≥ x.2.1)) (some (decide (x.1 ≤ x.2.2))) (some false))

noncomputable def c_I_within : Con0 := ⟨pk_I_within, rk_I_within, M_I_within⟩

set_option maxRecDepth 100000 in
theorem eq_I_within (x : In pk_I_within) : semF (mkE []) h_I_within (info Tryz.f85) pk_I_within rk_I_within x = M_I_within x := (semFF_eq _ _ _ _ _ _).symm.trans (by kernel_rfl)

set_option maxRecDepth 100000 in
theorem m_I_within : ConOK Tryz.prog 85 c_I_within := fn_ok (tyOK _) (E := mkE []) (consOK_nil rfl) Tryz.func85 (h := h_I_within) (by kernel_rfl) eq_I_within

/-- I_isModulus -/
def pk_I_isModulus : List PK := [.data (.int .i64)]
def rk_I_isModulus : List (Ty × Bool) := [(.bool, false)]
def h_I_isModulus : Hints := { loops := [] }
noncomputable def M_I_isModulus (x : Int) : (Option Bool) :=
  (bindO (M_I_within (x, ((2 : Int), (2000000000 : Int)))) (fun (a0 : Bool) => (some a0)))

noncomputable def c_I_isModulus : Con0 := ⟨pk_I_isModulus, rk_I_isModulus, M_I_isModulus⟩

set_option maxRecDepth 100000 in
theorem eq_I_isModulus (x : In pk_I_isModulus) : semF (mkE [(85, c_I_within)]) h_I_isModulus (info Tryz.f194) pk_I_isModulus rk_I_isModulus x = M_I_isModulus x := (semFF_eq _ _ _ _ _ _).symm.trans (by kernel_rfl)

set_option maxRecDepth 100000 in
theorem m_I_isModulus : ConOK Tryz.prog 194 c_I_isModulus := fn_ok (tyOK _) (E := mkE [(85, c_I_within)]) (consOK_cons m_I_within (consOK_nil rfl)) Tryz.func194 (h := h_I_isModulus) (by kernel_rfl) eq_I_isModulus

/-- I_isPrime -/
def pk_I_isPrime : List PK := [.data (.int .i64)]
def rk_I_isPrime : List (Ty × Bool) := [(.bool, false)]
def h_I_isPrime : Hints := { loops := [(0, { items := [.slot 3 (.data (.int .i64) [])], kill := [1, 2] ++ (sgN 4 23) })] }
noncomputable def M_I_isPrime (x : Int) : (Option Bool) :=
  (bindO (M_I_isModulus x) (fun (a0 : Bool) => (cond (not a0) (some false) (bindO (guardO ((2 : Int) != (0 : Int))) (fun (a1 : Unit) => (bindO (some (Int.tmod x (2 : Int))) (fun (a2 : Int) => (cond (a2 == (0 : Int)) (cond (x != (2 : Int)) (some false) (loopO (fun (again3 : (Int → (Option Bool))) => (fun (s4 : Int) => (bindO (some (IntKind.wrap .i64 (s4 * s4))) (fun (a5 : Int) => (cond (decide (a5 ≤ x)) (bindO (guardO (s4 != (0 : Int))) (fun (a6 : Unit) => (bindO (some (Int.tmod x s4)) (fun (a7 : Int) => (cond (a7 == (0 : Int)) (some false) (bindO (some (IntKind.wrap .i64 (s4 + (2 : Int)))) (fun (a8 : Int) => (again3 a8)))))))) (some true)))))) (3 : Int))) (loopO (fun (again9 : (Int → (Option Bool))) => (fun (s10 : Int) => (bindO (some (IntKind.wrap .i64 (s10 * s10))) (fun (a11 : Int) => (cond (decide (a11 ≤ x)) (bindO (guardO (s10 != (0 : Int))) (fun (a12 : Unit) => (bindO (some (Int.tmod x s10)) (fun (a13 : Int) => (cond (a13 == (0 : Int)) (some false) (bindO (some (IntKind.wrap .i64 (s10 + (2 : Int)))) (fun (a14 : Int) => (again9 a14)))))))) (some true)))))) (3 : Int))))))))))

noncomputable def c_I_isPrime : Con0 := ⟨pk_I_isPrime, rk_I_isPrime, M_I_isPrime⟩

set_option maxRecDepth 100000 in
theorem eq_I_isPrime (x : In pk_I_isPrime) : semF (mkE [(194, c_I_isModulus)]) h_I_isPrime (info Tryz.f145) pk_I_isPrime rk_I_isPrime x = M_I_isPrime x := (semFF_eq _ _ _ _ _ _).symm.trans (by kernel_rfl)

set_option maxRecDepth 100000 in
theorem m_I_isPrime : ConOK Tryz.prog 145 c_I_isPrime := fn_ok (tyOK _) (E := mkE [(194, c_I_isModulus)]) (consOK_cons m_I_isModulus (consOK_nil rfl)) Tryz.func145 (h := h_I_isPrime) (by kernel_rfl) eq_I_isPrime

/-- I_power -/
def pk_I_power : List PK := [.data (.int .i64), .data (.int .i64), .data (.int .i64)]
def rk_I_power : List (Ty × Bool) := [((.int .i64), false)]
def h_I_power : Hints := { loops := [(0, { items := [.slot 0 (.data (.int .i64) []), .slot 1 (.data (.int .i64) []), .slot 7 (.data (.int .i64) [])], kill := sgN 3 4 ++ (sgN 8 20) })] }
noncomputable def M_I_power (x : (Int × (Int × Int))) : (Option Int) :=
  (bindO (guardO (x.2.2 != (0 : Int))) (fun (a0 : Unit) => (bindO (some (Int.tmod (1 : Int) x.2.2)) (fun (a1 : Int) => (loopO (fun (again2 : ((Int × (Int × Int)) → (Option Int))) => (fun (s3 : (Int × (Int × Int))) => (cond (decide (s3.2.1 > (0 : Int))) (bindO (some (bits .and .i64 s3.2.1 (1 : Int))) (fun (a4 : Int) => (cond (a4 == (1 : Int)) (bindO (some (IntKind.wrap .i64 (s3.2.2 * s3.1))) (fun (a5 : Int) => (bindO (guardO (x.2.2 != (0 : Int))) (fun (a6 : Unit) => (bindO (some (Int.tmod a5 x.2.2)) (fun (a7 : Int) => (bindO (some (IntKind.wrap .i64 (s3.1 * s3.1))) (fun (a8 : Int) => (bindO (guardO (x.2.2 != (0 : Int))) (fun (a9 : Unit) => (bindO (some (Int.tmod a8 x.2.2)) (fun (a10 : Int) => (bindO (guardO (decide ((0 : Int) ≤ (1 : Int)))) (fun (a11 : Unit) => (bindO (some (shr .i64 s3.2.1 (1 : Int))) (fun (a12 : Int) => (again2 (a10, (a12, a7))))))))))))))))))) (bindO (some (IntKind.wrap .i64 (s3.1 * s3.1))) (fun (a13 : Int) => (bindO (guardO (x.2.2 != (0 : Int))) (fun (a14 : Unit) => (bindO (some (Int.tmod a13 x.2.2)) (fun (a15 : Int) => (bindO (guardO (decide ((0 : Int) ≤ (1 : Int)))) (fun (a16 : Unit) => (bindO (some (shr .i64 s3.2.1 (1 : Int))) (fun (a17 : Int) => (again2 (a15, (a17, s3.2.2)))))))))))))))) (some s3.2.2)))) (x.1, (x.2.1, a1)))))))

noncomputable def c_I_power : Con0 := ⟨pk_I_power, rk_I_power, M_I_power⟩

set_option maxRecDepth 100000 in
theorem eq_I_power (x : In pk_I_power) : semF (mkE []) h_I_power (info Tryz.f137) pk_I_power rk_I_power x = M_I_power x := (semFF_eq _ _ _ _ _ _).symm.trans (by kernel_rfl)

set_option maxRecDepth 100000 in
theorem m_I_power : ConOK Tryz.prog 137 c_I_power := fn_ok (tyOK _) (E := mkE []) (consOK_nil rfl) Tryz.func137 (h := h_I_power) (by kernel_rfl) eq_I_power

/-- I_IsValidGroup -/
def pk_I_IsValidGroup : List PK := [.data (.cons (.int .i64) (.cons (.int .i64) (.one (.int .i64))))]
def rk_I_IsValidGroup : List (Ty × Bool) := [(.bool, false)]
def h_I_IsValidGroup : Hints := { loops := [] }
noncomputable def M_I_IsValidGroup (x : (Int × (Int × Int))) : (Option Bool) :=
  (bindO (M_I_within (x.1, ((3 : Int), (2000000000 : Int)))) (fun (a0 : Bool) => (cond a0 (bindO (some (IntKind.wrap .i64 (x.1 - (1 : Int)))) (fun (a1 : Int) => (bindO (M_I_within (x.2.1, ((2 : Int), a1))) (fun (a2 : Bool) => (cond a2 (bindO (some (IntKind.wrap .i64 (x.1 - (1 : Int)))) (fun (a3 : Int) => (bindO (guardO (x.2.1 != (0 : Int))) (fun (a4 : Unit) => (bindO (some (Int.tmod a3 x.2.1)) (fun (a5 : Int) => (cond (a5 == (0 : Int)) (bindO (some (IntKind.wrap .i64 (x.1 - (1 : Int)))) (fun (a6 : Int) => (bindO (M_I_within (x.2.2, ((2 : Int), a6))) (fun (a7 : Bool) => (cond a7 (bindO (M_I_isPrime x.1) (fun (a8 : Bool) => (cond a8 (bindO (M_I_isPrime x.2.1) (fun (a9 : Bool) => (cond a9 (bindO (M_I_power (x.2.2, (x.2.1, x.1))) (fun (a10 : Int) => (some (a10 == (1 : Int))))) (some false)))) (some false)))) (some false)))))) (some false)))))))) (some false)))))) (some false))))

noncomputable def c_I_IsValidGroup : Con0 := ⟨pk_I_IsValidGroup, rk_I_IsValidGroup, M_I_IsValidGroup⟩

set_option maxRecDepth 100000 in
theorem eq_I_IsValidGroup (x : In pk_I_IsValidGroup) : semF (mkE [(85, c_I_within), (145, c_I_isPrime), (137, c_I_power)]) h_I_IsValidGroup (info Tryz.f97) pk_I_IsValidGroup rk_I_IsValidGroup x = M_I_IsValidGroup x := (semFF_eq _ _ _ _ _ _).symm.trans (by kernel_rfl)

set_option maxRecDepth 100000 in
theorem m_I_IsValidGroup : ConOK Tryz.prog 97 c_I_IsValidGroup := fn_ok (tyOK _) (E := mkE [(85, c_I_within), (145, c_I_isPrime), (137, c_I_power)]) (consOK_cons m_I_within (consOK_cons m_I_isPrime (consOK_cons m_I_power (consOK_nil rfl)))) Tryz.func97 (h := h_I_IsValidGroup) (by kernel_rfl) eq_I_IsValidGroup

/-- I_Group_has -/
def pk_I_Group_has : List PK := [.data (.cons (.int .i64) (.cons (.int .i64) (.one (.int .i64)))), .data (.int .i64)]
def rk_I_Group_has : List (Ty × Bool) := [(.bool, false)]
def h_I_Group_has : Hints := { loops := [] }
noncomputable def M_I_Group_has (x : ((Int × (Int × Int)) × Int)) : (Option Bool) :=
  (bindO (some (IntKind.wrap .i64 (x.1.1 - (1 : Int)))) (fun (a0 : Int) => (bindO (M_I_within (x.2, ((1 : Int), a0))) (fun (a1 : Bool) => (cond a1 (bindO (M_I_power (x.2, (x.1.2.1, x.1.1))) (fun (a2 : Int) => (some (a2 == (1 : Int))))) (some false))))))

noncomputable def c_I_Group_has : Con0 := ⟨pk_I_Group_has, rk_I_Group_has, M_I_Group_has⟩

set_option maxRecDepth 100000 in
theorem eq_I_Group_has (x : In pk_I_Group_has) : semF (mkE [(85, c_I_within), (137, c_I_power)]) h_I_Group_has (info Tryz.f98) pk_I_Group_has rk_I_Group_has x = M_I_Group_has x := (semFF_eq _ _ _ _ _ _).symm.trans (by kernel_rfl)

set_option maxRecDepth 100000 in
theorem m_I_Group_has : ConOK Tryz.prog 98 c_I_Group_has := fn_ok (tyOK _) (E := mkE [(85, c_I_within), (137, c_I_power)]) (consOK_cons m_I_within (consOK_cons m_I_power (consOK_nil rfl))) Tryz.func98 (h := h_I_Group_has) (by kernel_rfl) eq_I_Group_has

/-- slices_IndexFunc_sI_Cipher_I_Cipher -/
def pk_slices_IndexFunc_sI_Cipher_I_Cipher : List PK := [.data (.sl (.cons (.int .i64) (.one (.int .i64)))), .fn [(.cons (.int .i64) (.one (.int .i64)))] .bool]
def rk_slices_IndexFunc_sI_Cipher_I_Cipher : List (Ty × Bool) := [((.int .i64), false)]
def h_slices_IndexFunc_sI_Cipher_I_Cipher : Hints := { loops := [(0, { items := [.slot 8 (.data (.int .i64) [])], kill := sgN 2 5 ++ (sgN 9 10) })] }
noncomputable def M_slices_IndexFunc_sI_Cipher_I_Cipher (x : ((List (Int × Int)) × ((Int × Int) → (Option Bool)))) : (Option Int) :=
  (loopO (fun (again0 : (Int → (Option Int))) => (fun (s1 : Int) => (cond (decide (s1 < (((List.length x.1) : Nat) : Int))) (bindO (getI x.1 s1) (fun (a2 : (Int × Int)) => (bindO (x.2 (a2.1, a2.2)) (fun (a3 : Bool) => (cond a3 (some s1) (bindO (some (IntKind.wrap .i64 (s1 + (1 : Int)))) (fun (a4 : Int) => (again0 a4)))))))) (some (- (1 : Int)))))) (0 : Int))

noncomputable def c_slices_IndexFunc_sI_Cipher_I_Cipher : Con0 := ⟨pk_slices_IndexFunc_sI_Cipher_I_Cipher, rk_slices_IndexFunc_sI_Cipher_I_Cipher, M_slices_IndexFunc_sI_Cipher_I_Cipher⟩

set_option maxRecDepth 100000 in
theorem eq_slices_IndexFunc_sI_Cipher_I_Cipher (x : In pk_slices_IndexFunc_sI_Cipher_I_Cipher) : semF (mkE []) h_slices_IndexFunc_sI_Cipher_I_Cipher (info Tryz.f179) pk_slices_IndexFunc_sI_Cipher_I_Cipher rk_slices_IndexFunc_sI_Cipher_I_Cipher x = M_slices_IndexFunc_sI_Cipher_I_Cipher x := (semFF_eq _ _ _ _ _ _).symm.trans (by kernel_rfl)

set_option maxRecDepth 100000 in
theorem m_slices_IndexFunc_sI_Cipher_I_Cipher : ConOK Tryz.prog 179 c_slices_IndexFunc_sI_Cipher_I_Cipher := fn_ok (tyOK _) (E := mkE []) (consOK_nil rfl) Tryz.func179 (h := h_slices_IndexFunc_sI_Cipher_I_Cipher) (by kernel_rfl) eq_slices_IndexFunc_sI_Cipher_I_Cipher

/-- slices_ContainsFunc_sI_Cipher_I_Cipher -/
def pk_slices_ContainsFunc_sI_Cipher_I_Cipher : List PK := [.data (.sl (.cons (.int .i64) (.one (.int .i64)))), .fn [(.cons (.int .i64) (.one (.int .i64)))] .bool]
def rk_slices_ContainsFunc_sI_Cipher_I_Cipher : List (Ty × Bool) := [(.bool, false)]
def h_slices_ContainsFunc_sI_Cipher_I_Cipher : Hints := { loops := [] }
noncomputable def M_slices_ContainsFunc_sI_Cipher_I_Cipher (x : ((List (Int × Int)) × ((Int × Int) → (Option Bool)))) : (Option Bool) :=
  (bindO (M_slices_IndexFunc_sI_Cipher_I_Cipher (x.1, x.2)) (fun (a0 : Int) => (some (decide (a0 ≥ (0 : Int))))))

noncomputable def c_slices_ContainsFunc_sI_Cipher_I_Cipher : Con0 := ⟨pk_slices_ContainsFunc_sI_Cipher_I_Cipher, rk_slices_ContainsFunc_sI_Cipher_I_Cipher, M_slices_ContainsFunc_sI_Cipher_I_Cipher⟩

set_option maxRecDepth 100000 in
theorem eq_slices_ContainsFunc_sI_Cipher_I_Cipher (x : In pk_slices_ContainsFunc_sI_Cipher_I_Cipher) : semF (mkE [(179, c_slices_IndexFunc_sI_Cipher_I_Cipher)]) h_slices_ContainsFunc_sI_Cipher_I_Cipher (info Tryz.f116) pk_slices_ContainsFunc_sI_Cipher_I_Cipher rk_slices_ContainsFunc_sI_Cipher_I_Cipher x = M_slices_ContainsFunc_sI_Cipher_I_Cipher x := (semFF_eq _ _ _ _ _ _).symm.trans (by kernel_rfl)

set_option maxRecDepth 100000 in
theorem m_slices_ContainsFunc_sI_Cipher_I_Cipher : ConOK Tryz.prog 116 c_slices_ContainsFunc_sI_Cipher_I_Cipher := fn_ok (tyOK _) (E := mkE [(179, c_slices_IndexFunc_sI_Cipher_I_Cipher)]) (consOK_cons m_slices_IndexFunc_sI_Cipher_I_Cipher (consOK_nil rfl)) Tryz.func116 (h := h_slices_ContainsFunc_sI_Cipher_I_Cipher) (by kernel_rfl) eq_slices_ContainsFunc_sI_Cipher_I_Cipher

/-- I_Group_hasCipher -/
def pk_I_Group_hasCipher : List PK := [.data (.cons (.int .i64) (.cons (.int .i64) (.one (.int .i64)))), .data (.cons (.int .i64) (.one (.int .i64)))]
def rk_I_Group_hasCipher : List (Ty × Bool) := [(.bool, false)]
def h_I_Group_hasCipher : Hints := { loops := [] }
noncomputable def M_I_Group_hasCipher (x : ((Int × (Int × Int)) × (Int × Int))) : (Option Bool) :=
  (bindO (M_I_Group_has ((x.1.1, (x.1.2.1, x.1.2.2)), x.2.1)) (fun (a0 : Bool) => (cond a0 (bindO (M_I_Group_has ((x.1.1, (x.1.2.1, x.1.2.2)), x.2.2)) (fun (a1 : Bool) => (some a1))) (some false))))

noncomputable def c_I_Group_hasCipher : Con0 := ⟨pk_I_Group_hasCipher, rk_I_Group_hasCipher, M_I_Group_hasCipher⟩

set_option maxRecDepth 100000 in
theorem eq_I_Group_hasCipher (x : In pk_I_Group_hasCipher) : semF (mkE [(98, c_I_Group_has)]) h_I_Group_hasCipher (info Tryz.f118) pk_I_Group_hasCipher rk_I_Group_hasCipher x = M_I_Group_hasCipher x := (semFF_eq _ _ _ _ _ _).symm.trans (by kernel_rfl)

set_option maxRecDepth 100000 in
theorem m_I_Group_hasCipher : ConOK Tryz.prog 118 c_I_Group_hasCipher := fn_ok (tyOK _) (E := mkE [(98, c_I_Group_has)]) (consOK_cons m_I_Group_has (consOK_nil rfl)) Tryz.func118 (h := h_I_Group_hasCipher) (by kernel_rfl) eq_I_Group_hasCipher

/-- I_Group_hasCiphers_1 -/
def pk_I_Group_hasCiphers_1 : List PK := [.data (.cons (.int .i64) (.one (.int .i64))), .rp (.cons (.int .i64) (.cons (.int .i64) (.one (.int .i64))))]
def rk_I_Group_hasCiphers_1 : List (Ty × Bool) := [(.bool, false)]
def h_I_Group_hasCiphers_1 : Hints := { loops := [] }
noncomputable def M_I_Group_hasCiphers_1 (x : ((Int × Int) × (Int × (Int × Int)))) : (Option Bool) :=
  (bindO (M_I_Group_hasCipher ((x.2.1, (x.2.2.1, x.2.2.2)), (x.1.1, x.1.2))) (fun (a0 : Bool) => (some (not a0))))

noncomputable def c_I_Group_hasCiphers_1 : Con0 := ⟨pk_I_Group_hasCiphers_1, rk_I_Group_hasCiphers_1, M_I_Group_hasCiphers_1⟩

set_option maxRecDepth 100000 in
theorem eq_I_Group_hasCiphers_1 (x : In pk_I_Group_hasCiphers_1) : semF (mkE [(118, c_I_Group_hasCipher)]) h_I_Group_hasCiphers_1 (info Tryz.f117) pk_I_Group_hasCiphers_1 rk_I_Group_hasCiphers_1 x = M_I_Group_hasCiphers_1 x := (semFF_eq _ _ _ _ _ _).symm.trans (by kernel_rfl)

set_option maxRecDepth 100000 in
theorem m_I_Group_hasCiphers_1 : ConOK Tryz.prog 117 c_I_Group_hasCiphers_1 := fn_ok (tyOK _) (E := mkE [(118, c_I_Group_hasCipher)]) (consOK_cons m_I_Group_hasCipher (consOK_nil rfl)) Tryz.func117 (h := h_I_Group_hasCiphers_1) (by kernel_rfl) eq_I_Group_hasCiphers_1

/-- I_Group_hasCiphers -/
def pk_I_Group_hasCiphers : List PK := [.data (.cons (.int .i64) (.cons (.int .i64) (.one (.int .i64)))), .data (.sl (.cons (.int .i64) (.one (.int .i64))))]
def rk_I_Group_hasCiphers : List (Ty × Bool) := [(.bool, false)]
def h_I_Group_hasCiphers : Hints := { loops := [] }
noncomputable def M_I_Group_hasCiphers (x : ((Int × (Int × Int)) × (List (Int × Int)))) : (Option Bool) :=
  (cond (decide ((((List.length x.2) : Nat) : Int) ≤ (24 : Int))) (bindO (M_slices_ContainsFunc_sI_Cipher_I_Cipher (x.2, (fun (a0 : (Int × Int)) => (bindO (M_I_Group_hasCiphers_1 (a0, (x.1.1, (x.1.2.1, x.1.2.2)))) (fun (a1 : Bool) => (some a1)))))) (fun (a2 : Bool) => (some (not a2)))) (some false))

noncomputable def c_I_Group_hasCiphers : Con0 := ⟨pk_I_Group_hasCiphers, rk_I_Group_hasCiphers, M_I_Group_hasCiphers⟩

set_option maxRecDepth 100000 in
theorem eq_I_Group_hasCiphers (x : In pk_I_Group_hasCiphers) : semF (mkE [(116, c_slices_ContainsFunc_sI_Cipher_I_Cipher), (117, c_I_Group_hasCiphers_1)]) h_I_Group_hasCiphers (info Tryz.f86) pk_I_Group_hasCiphers rk_I_Group_hasCiphers x = M_I_Group_hasCiphers x := (semFF_eq _ _ _ _ _ _).symm.trans (by kernel_rfl)

set_option maxRecDepth 100000 in
theorem m_I_Group_hasCiphers : ConOK Tryz.prog 86 c_I_Group_hasCiphers := fn_ok (tyOK _) (E := mkE [(116, c_slices_ContainsFunc_sI_Cipher_I_Cipher), (117, c_I_Group_hasCiphers_1)]) (consOK_cons m_slices_ContainsFunc_sI_Cipher_I_Cipher (consOK_cons m_I_Group_hasCiphers_1 (consOK_nil rfl))) Tryz.func86 (h := h_I_Group_hasCiphers) (by kernel_rfl) eq_I_Group_hasCiphers

/-- I_Group_areMixed -/
def pk_I_Group_areMixed : List PK := [.data (.cons (.int .i64) (.cons (.int .i64) (.one (.int .i64)))), .data (.sl (.cons (.int .i64) (.one (.int .i64))))]
def rk_I_Group_areMixed : List (Ty × Bool) := [(.bool, false)]
def h_I_Group_areMixed : Hints := { loops := [] }
noncomputable def M_I_Group_areMixed (x : ((Int × (Int × Int)) × (List (Int × Int)))) : (Option Bool) :=
  (bindO (M_I_within ((((List.length x.2) : Nat) : Int), ((1 : Int), (12 : Int)))) (fun (a0 : Bool) => (cond a0 (bindO (M_I_Group_hasCiphers ((x.1.1, (x.1.2.1, x.1.2.2)), x.2)) (fun (a1 : Bool) => (some a1))) (some false))))

noncomputable def c_I_Group_areMixed : Con0 := ⟨pk_I_Group_areMixed, rk_I_Group_areMixed, M_I_Group_areMixed⟩

set_option maxRecDepth 100000 in
theorem eq_I_Group_areMixed (x : In pk_I_Group_areMixed) : semF (mkE [(85, c_I_within), (86, c_I_Group_hasCiphers)]) h_I_Group_areMixed (info Tryz.f52) pk_I_Group_areMixed rk_I_Group_areMixed x = M_I_Group_areMixed x := (semFF_eq _ _ _ _ _ _).symm.trans (by kernel_rfl)

set_option maxRecDepth 100000 in
theorem m_I_Group_areMixed : ConOK Tryz.prog 52 c_I_Group_areMixed := fn_ok (tyOK _) (E := mkE [(85, c_I_within), (86, c_I_Group_hasCiphers)]) (consOK_cons m_I_within (consOK_cons m_I_Group_hasCiphers (consOK_nil rfl))) Tryz.func52 (h := h_I_Group_areMixed) (by kernel_rfl) eq_I_Group_areMixed

/-- I_labelled -/
def pk_I_labelled : List PK := [.data .str, .data (.sl (.int .i64))]
def rk_I_labelled : List (Ty × Bool) := [((.sl (.int .i64)), true)]
def h_I_labelled : Hints := { loops := [(0, { items := [.slot 5 (.own (.int .i64) true), .slot 12 (.data (.int .i64) [])], kill := [2, 3, 4] ++ (sgN 6 5 ++ (sgN 13 13)) })] }
noncomputable def M_I_labelled (x : (ByteArray × (List Int))) : (Option (List Int)) :=
  (loopO (fun (again0 : (((List Int) × Int) → (Option (List Int)))) => (fun (s1 : ((List Int) × Int)) => (cond (decide (s1.2 < (((ByteArray.size x.1) : Nat) : Int))) (bindO (if ((0 : Int) ≤ s1.2) then (x.1[(Int.toNat s1.2)]?) else (none : Option (UInt8))) (fun (a2 : (UInt8)) => (bindO (guardO (lenOk ((List.length s1.1) + (List.length ((IntKind.wrap .i64 (((UInt8.toNat a2) : Nat) : Int)) :: ([] : List Int)))))) (fun (a3 : Unit) => (bindO (some (s1.1 ++ ((IntKind.wrap .i64 (((UInt8.toNat a2) : Nat) : Int)) :: ([] : List Int)))) (fun (a4 : (List Int)) => (bindO (some (IntKind.wrap .i64 (s1.2 + (1 : Int)))) (fun (a5 : Int) => (again0 (a4, a5)))))))))) (bindO (guardO (lenOk ((List.length s1.1) + (List.length x.2)))) (fun (a6 : Unit) => (bindO (some (s1.1 ++ x.2)) (fun (a7 : (List Int)) => (some a7)))))))) (((((ByteArray.size x.1) : Nat) : Int) :: ([] : List Int)), (0 : Int)))

noncomputable def c_I_labelled : Con0 := ⟨pk_I_labelled, rk_I_labelled, M_I_labelled⟩

set_option maxRecDepth 100000 in
theorem eq_I_labelled (x : In pk_I_labelled) : semF (mkE []) h_I_labelled (info Tryz.f201) pk_I_labelled rk_I_labelled x = M_I_labelled x := (semFF_eq _ _ _ _ _ _).symm.trans (by kernel_rfl)

set_option maxRecDepth 100000 in
theorem m_I_labelled : ConOK Tryz.prog 201 c_I_labelled := fn_ok (tyOK _) (E := mkE []) (consOK_nil rfl) Tryz.func201 (h := h_I_labelled) (by kernel_rfl) eq_I_labelled

/-- slices_IndexFunc_sint_int -/
def pk_slices_IndexFunc_sint_int : List PK := [.data (.sl (.int .i64)), .fn [(.int .i64)] .bool]
def rk_slices_IndexFunc_sint_int : List (Ty × Bool) := [((.int .i64), false)]
def h_slices_IndexFunc_sint_int : Hints := { loops := [(0, { items := [.slot 8 (.data (.int .i64) [])], kill := sgN 2 5 ++ (sgN 9 10) })] }
noncomputable def M_slices_IndexFunc_sint_int (x : ((List Int) × (Int → (Option Bool)))) : (Option Int) :=
  (loopO (fun (again0 : (Int → (Option Int))) => (fun (s1 : Int) => (cond (decide (s1 < (((List.length x.1) : Nat) : Int))) (bindO (getI x.1 s1) (fun (a2 : Int) => (bindO (x.2 a2) (fun (a3 : Bool) => (cond a3 (some s1) (bindO (some (IntKind.wrap .i64 (s1 + (1 : Int)))) (fun (a4 : Int) => (again0 a4)))))))) (some (- (1 : Int)))))) (0 : Int))

noncomputable def c_slices_IndexFunc_sint_int : Con0 := ⟨pk_slices_IndexFunc_sint_int, rk_slices_IndexFunc_sint_int, M_slices_IndexFunc_sint_int⟩

set_option maxRecDepth 100000 in
theorem eq_slices_IndexFunc_sint_int (x : In pk_slices_IndexFunc_sint_int) : semF (mkE []) h_slices_IndexFunc_sint_int (info Tryz.f202) pk_slices_IndexFunc_sint_int rk_slices_IndexFunc_sint_int x = M_slices_IndexFunc_sint_int x := (semFF_eq _ _ _ _ _ _).symm.trans (by kernel_rfl)

set_option maxRecDepth 100000 in
theorem m_slices_IndexFunc_sint_int : ConOK Tryz.prog 202 c_slices_IndexFunc_sint_int := fn_ok (tyOK _) (E := mkE []) (consOK_nil rfl) Tryz.func202 (h := h_slices_IndexFunc_sint_int) (by kernel_rfl) eq_slices_IndexFunc_sint_int

/-- slices_ContainsFunc_sint_int -/
def pk_slices_ContainsFunc_sint_int : List PK := [.data (.sl (.int .i64)), .fn [(.int .i64)] .bool]
def rk_slices_ContainsFunc_sint_int : List (Ty × Bool) := [(.bool, false)]
def h_slices_ContainsFunc_sint_int : Hints := { loops := [] }
noncomputable def M_slices_ContainsFunc_sint_int (x : ((List Int) × (Int → (Option Bool)))) : (Option Bool) :=
  (bindO (M_slices_IndexFunc_sint_int (x.1, x.2)) (fun (a0 : Int) => (some (decide (a0 ≥ (0 : Int))))))

noncomputable def c_slices_ContainsFunc_sint_int : Con0 := ⟨pk_slices_ContainsFunc_sint_int, rk_slices_ContainsFunc_sint_int, M_slices_ContainsFunc_sint_int⟩

set_option maxRecDepth 100000 in
theorem eq_slices_ContainsFunc_sint_int (x : In pk_slices_ContainsFunc_sint_int) : semF (mkE [(202, c_slices_IndexFunc_sint_int)]) h_slices_ContainsFunc_sint_int (info Tryz.f195) pk_slices_ContainsFunc_sint_int rk_slices_ContainsFunc_sint_int x = M_slices_ContainsFunc_sint_int x := (semFF_eq _ _ _ _ _ _).symm.trans (by kernel_rfl)

set_option maxRecDepth 100000 in
theorem m_slices_ContainsFunc_sint_int : ConOK Tryz.prog 195 c_slices_ContainsFunc_sint_int := fn_ok (tyOK _) (E := mkE [(202, c_slices_IndexFunc_sint_int)]) (consOK_cons m_slices_IndexFunc_sint_int (consOK_nil rfl)) Tryz.func195 (h := h_slices_ContainsFunc_sint_int) (by kernel_rfl) eq_slices_ContainsFunc_sint_int

/-- I_areAll_1 -/
def pk_I_areAll_1 : List PK := [.data (.int .i64), .rfn [(.int .i64)] .bool]
def rk_I_areAll_1 : List (Ty × Bool) := [(.bool, false)]
def h_I_areAll_1 : Hints := { loops := [] }
noncomputable def M_I_areAll_1 (x : (Int × (Int → (Option Bool)))) : (Option Bool) :=
  (bindO (x.2 x.1) (fun (a0 : Bool) => (some (not a0))))

noncomputable def c_I_areAll_1 : Con0 := ⟨pk_I_areAll_1, rk_I_areAll_1, M_I_areAll_1⟩

set_option maxRecDepth 100000 in
theorem eq_I_areAll_1 (x : In pk_I_areAll_1) : semF (mkE []) h_I_areAll_1 (info Tryz.f196) pk_I_areAll_1 rk_I_areAll_1 x = M_I_areAll_1 x := (semFF_eq _ _ _ _ _ _).symm.trans (by kernel_rfl)

set_option maxRecDepth 100000 in
theorem m_I_areAll_1 : ConOK Tryz.prog 196 c_I_areAll_1 := fn_ok (tyOK _) (E := mkE []) (consOK_nil rfl) Tryz.func196 (h := h_I_areAll_1) (by kernel_rfl) eq_I_areAll_1

/-- I_areAll -/
def pk_I_areAll : List PK := [.data (.sl (.int .i64)), .fn [(.int .i64)] .bool]
def rk_I_areAll : List (Ty × Bool) := [(.bool, false)]
def h_I_areAll : Hints := { loops := [] }
noncomputable def M_I_areAll (x : ((List Int) × (Int → (Option Bool)))) : (Option Bool) :=
  (bindO (M_slices_ContainsFunc_sint_int (x.1, (fun (a0 : Int) => (bindO (M_I_areAll_1 (a0, x.2)) (fun (a1 : Bool) => (some a1)))))) (fun (a2 : Bool) => (some (not a2))))

noncomputable def c_I_areAll : Con0 := ⟨pk_I_areAll, rk_I_areAll, M_I_areAll⟩

set_option maxRecDepth 100000 in
theorem eq_I_areAll (x : In pk_I_areAll) : semF (mkE [(195, c_slices_ContainsFunc_sint_int), (196, c_I_areAll_1)]) h_I_areAll (info Tryz.f146) pk_I_areAll rk_I_areAll x = M_I_areAll x := (semFF_eq _ _ _ _ _ _).symm.trans (by kernel_rfl)

set_option maxRecDepth 100000 in
theorem m_I_areAll : ConOK Tryz.prog 146 c_I_areAll := fn_ok (tyOK _) (E := mkE [(195, c_slices_ContainsFunc_sint_int), (196, c_I_areAll_1)]) (consOK_cons m_slices_ContainsFunc_sint_int (consOK_cons m_I_areAll_1 (consOK_nil rfl))) Tryz.func146 (h := h_I_areAll) (by kernel_rfl) eq_I_areAll

/-- I_isDigest -/
def pk_I_isDigest : List PK := [.data (.int .i64)]
def rk_I_isDigest : List (Ty × Bool) := [(.bool, false)]
def h_I_isDigest : Hints := { loops := [] }
noncomputable def M_I_isDigest (x : Int) : (Option Bool) :=
  (bindO (M_I_within (x, ((0 : Int), (4611686018427387903 : Int)))) (fun (a0 : Bool) => (some a0)))

noncomputable def c_I_isDigest : Con0 := ⟨pk_I_isDigest, rk_I_isDigest, M_I_isDigest⟩

set_option maxRecDepth 100000 in
theorem eq_I_isDigest (x : In pk_I_isDigest) : semF (mkE [(85, c_I_within)]) h_I_isDigest (info Tryz.f210) pk_I_isDigest rk_I_isDigest x = M_I_isDigest x := (semFF_eq _ _ _ _ _ _).symm.trans (by kernel_rfl)

set_option maxRecDepth 100000 in
theorem m_I_isDigest : ConOK Tryz.prog 210 c_I_isDigest := fn_ok (tyOK _) (E := mkE [(85, c_I_within)]) (consOK_cons m_I_within (consOK_nil rfl)) Tryz.func210 (h := h_I_isDigest) (by kernel_rfl) eq_I_isDigest

/-- I_areDigests -/
def pk_I_areDigests : List PK := [.data (.sl (.int .i64))]
def rk_I_areDigests : List (Ty × Bool) := [(.bool, false)]
def h_I_areDigests : Hints := { loops := [] }
noncomputable def M_I_areDigests (x : (List Int)) : (Option Bool) :=
  (cond (decide ((((List.length x) : Nat) : Int) ≤ (400 : Int))) (bindO (M_I_areAll (x, (fun (a0 : Int) => (bindO (M_I_isDigest a0) (fun (a1 : Bool) => (some a1)))))) (fun (a2 : Bool) => (some a2))) (some false))

noncomputable def c_I_areDigests : Con0 := ⟨pk_I_areDigests, rk_I_areDigests, M_I_areDigests⟩

set_option maxRecDepth 100000 in
theorem eq_I_areDigests (x : In pk_I_areDigests) : semF (mkE [(146, c_I_areAll), (210, c_I_isDigest)]) h_I_areDigests (info Tryz.f207) pk_I_areDigests rk_I_areDigests x = M_I_areDigests x := (semFF_eq _ _ _ _ _ _).symm.trans (by kernel_rfl)

set_option maxRecDepth 100000 in
theorem m_I_areDigests : ConOK Tryz.prog 207 c_I_areDigests := fn_ok (tyOK _) (E := mkE [(146, c_I_areAll), (210, c_I_isDigest)]) (consOK_cons m_I_areAll (consOK_cons m_I_isDigest (consOK_nil rfl))) Tryz.func207 (h := h_I_areDigests) (by kernel_rfl) eq_I_areDigests

/-- I_hash -/
def pk_I_hash : List PK := [.data (.sl (.int .i64))]
def rk_I_hash : List (Ty × Bool) := [((.int .i64), false)]
def h_I_hash : Hints := { loops := [(0, { items := [.slot 3 (.data (.int .i64) []), .slot 4 (.data (.int .i64) []), .slot 15 (.data (.int .i64) [])], kill := [0, 1, 2] ++ (sgN 5 8 ++ (sgN 16 36)) })] }
noncomputable def M_I_hash (x : (List Int)) : (Option Int) :=
  (bindO (guardO (lenOk ((List.length ((((List.length x) : Nat) : Int) :: ([] : List Int))) + (List.length x)))) (fun (a0 : Unit) => (bindO (some (((((List.length x) : Nat) : Int) :: ([] : List Int)) ++ x)) (fun (a1 : (List Int)) => (loopO (fun (again2 : ((Int × (Int × Int)) → (Option Int))) => (fun (s3 : (Int × (Int × Int))) => (cond (decide (s3.2.2 < (((List.length a1) : Nat) : Int))) (bindO (getI a1 s3.2.2) (fun (a4 : Int) => (bindO (guardO (decide ((0 : Int) ≤ (31 : Int)))) (fun (a5 : Unit) => (bindO (some (shr .i64 a4 (31 : Int))) (fun (a6 : Int) => (bindO (some (bits .and .i64 a4 (2147483647 : Int))) (fun (a7 : Int) => (bindO (some (IntKind.wrap .i64 ((48271 : Int) * s3.1))) (fun (a8 : Int) => (bindO (some (IntKind.wrap .i64 (a8 + a7))) (fun (a9 : Int) => (bindO (some (IntKind.wrap .i64 (a9 + (1 : Int)))) (fun (a10 : Int) => (bindO (guardO ((2147483647 : Int) != (0 : Int))) (fun (a11 : Unit) => (bindO (some (Int.tmod a10 (2147483647 : Int))) (fun (a12 : Int) => (bindO (some (IntKind.wrap .i64 ((48271 : Int) * a12))) (fun (a13 : Int) => (bindO (some (IntKind.wrap .i64 (a13 + a6))) (fun (a14 : Int) => (bindO (some (IntKind.wrap .i64 (a14 + (1 : Int)))) (fun (a15 : Int) => (bindO (guardO ((2147483647 : Int) != (0 : Int))) (fun (a16 : Unit) => (bindO (some (Int.tmod a15 (2147483647 : Int))) (fun (a17 : Int) => (bindO (some (IntKind.wrap .i64 ((69621 : Int) * s3.2.1))) (fun (a18 : Int) => (bindO (some (IntKind.wrap .i64 (a18 + a7))) (fun (a19 : Int) => (bindO (some (IntKind.wrap .i64 (a19 + (1 : Int)))) (fun (a20 : Int) => (bindO (guardO ((2147483647 : Int) != (0 : Int))) (fun (a21 : Unit) => (bindO (some (Int.tmod a20 (2147483647 : Int))) (fun (a22 : Int) => (bindO (some (IntKind.wrap .i64 ((69621 : Int) * a22))) (fun (a23 : Int) => (bindO (some (IntKind.wrap .i64 (a23 + a6))) (fun (a24 : Int) => (bindO (some (IntKind.wrap .i64 (a24 + (1 : Int)))) (fun (a25 : Int) => (bindO (guardO ((2147483647 : Int) != (0 : Int))) (fun (a26 : Unit) => (bindO (some (Int.tmod a25 (2147483647 : Int))) (fun (a27 : Int) => (bindO (some (IntKind.wrap .i64 (s3.2.2 + (1 : Int)))) (fun (a28 : Int) => (again2 (a17, (a27, a28))))))))))))))))))))))))))))))))))))))))))))))))))))) (bindO (guardO (decide ((0 : Int) ≤ (31 : Int)))) (fun (a29 : Unit) => (bindO (some (shl .i64 s3.1 (31 : Int))) (fun (a30 : Int) => (bindO (some (IntKind.wrap .i64 (a30 + s3.2.1))) (fun (a31 : Int) => (some a31)))))))))) ((1 : Int), ((2 : Int), (0 : Int))))))))

noncomputable def c_I_hash : Con0 := ⟨pk_I_hash, rk_I_hash, M_I_hash⟩

set_option maxRecDepth 100000 in
theorem eq_I_hash (x : In pk_I_hash) : semF (mkE []) h_I_hash (info Tryz.f208) pk_I_hash rk_I_hash x = M_I_hash x := (semFF_eq _ _ _ _ _ _).symm.trans (by kernel_rfl)

set_option maxRecDepth 100000 in
theorem m_I_hash : ConOK Tryz.prog 208 c_I_hash := fn_ok (tyOK _) (E := mkE []) (consOK_nil rfl) Tryz.func208 (h := h_I_hash) (by kernel_rfl) eq_I_hash

/-- I_HashInts -/
def pk_I_HashInts : List PK := [.data (.sl (.int .i64))]
def rk_I_HashInts : List (Ty × Bool) := [((.int .i64), false), (.bool, false)]
def h_I_HashInts : Hints := { loops := [] }
noncomputable def M_I_HashInts (x : (List Int)) : (Option (Int × Bool)) :=
  (bindO (M_I_areDigests x) (fun (a0 : Bool) => (cond (not a0) (some ((0 : Int), false)) (bindO (M_I_hash x) (fun (a1 : Int) => (some (a1, true)))))))

noncomputable def c_I_HashInts : Con0 := ⟨pk_I_HashInts, rk_I_HashInts, M_I_HashInts⟩

set_option maxRecDepth 100000 in
theorem eq_I_HashInts (x : In pk_I_HashInts) : semF (mkE [(207, c_I_areDigests), (208, c_I_hash)]) h_I_HashInts (info Tryz.f200) pk_I_HashInts rk_I_HashInts x = M_I_HashInts x := (semFF_eq _ _ _ _ _ _).symm.trans (by kernel_rfl)

set_option maxRecDepth 100000 in
theorem m_I_HashInts : ConOK Tryz.prog 200 c_I_HashInts := fn_ok (tyOK _) (E := mkE [(207, c_I_areDigests), (208, c_I_hash)]) (consOK_cons m_I_areDigests (consOK_cons m_I_hash (consOK_nil rfl))) Tryz.func200 (h := h_I_HashInts) (by kernel_rfl) eq_I_HashInts

/-- I_HashLabelled -/
def pk_I_HashLabelled : List PK := [.data .str, .data (.sl (.int .i64))]
def rk_I_HashLabelled : List (Ty × Bool) := [((.int .i64), false), (.bool, false)]
def h_I_HashLabelled : Hints := { loops := [] }
noncomputable def M_I_HashLabelled (x : (ByteArray × (List Int))) : (Option (Int × Bool)) :=
  (cond (decide ((((ByteArray.size x.1) : Nat) : Int) > (40 : Int))) (some ((0 : Int), false)) (cond (decide ((((List.length x.2) : Nat) : Int) > (400 : Int))) (some ((0 : Int), false)) (bindO (M_I_labelled (x.1, x.2)) (fun (a0 : (List Int)) => (bindO (M_I_HashInts a0) (fun (a1 : (Int × Bool)) => (some (a1.1, a1.2))))))))

noncomputable def c_I_HashLabelled : Con0 := ⟨pk_I_HashLabelled, rk_I_HashLabelled, M_I_HashLabelled⟩

set_option maxRecDepth 100000 in
theorem eq_I_HashLabelled (x : In pk_I_HashLabelled) : semF (mkE [(201, c_I_labelled), (200, c_I_HashInts)]) h_I_HashLabelled (info Tryz.f178) pk_I_HashLabelled rk_I_HashLabelled x = M_I_HashLabelled x := (semFF_eq _ _ _ _ _ _).symm.trans (by kernel_rfl)

set_option maxRecDepth 100000 in
theorem m_I_HashLabelled : ConOK Tryz.prog 178 c_I_HashLabelled := fn_ok (tyOK _) (E := mkE [(201, c_I_labelled), (200, c_I_HashInts)]) (consOK_cons m_I_labelled (consOK_cons m_I_HashInts (consOK_nil rfl))) Tryz.func178 (h := h_I_HashLabelled) (by kernel_rfl) eq_I_HashLabelled

/-- I_Group_derive -/
def pk_I_Group_derive : List PK := [.data (.cons (.int .i64) (.cons (.int .i64) (.one (.int .i64)))), .data .str, .data (.int .i64)]
def rk_I_Group_derive : List (Ty × Bool) := [((.int .i64), false), (.bool, false)]
def h_I_Group_derive : Hints := { loops := [(0, { items := [.slot 12 (.data (.int .i64) [])], kill := [0] ++ (sgN 4 8 ++ (sgN 13 37)) })] }
noncomputable def M_I_Group_derive (x : ((Int × (Int × Int)) × (ByteArray × Int))) : (Option (Int × Bool)) :=
  (loopO (fun (again0 : (Int → (Option (Int × Bool)))) => (fun (s1 : Int) => (cond (decide (s1 < (1000 : Int))) (bindO (M_I_HashLabelled (x.2.1, (x.1.1 :: (x.1.2.1 :: (x.1.2.2 :: (x.2.2 :: (s1 :: ([] : List Int)))))))) (fun (a2 : (Int × Bool)) => (cond (not a2.2) (some ((0 : Int), false)) (bindO (some (IntKind.wrap .i64 (x.1.1 - (1 : Int)))) (fun (a3 : Int) => (bindO (guardO (a3 != (0 : Int))) (fun (a4 : Unit) => (bindO (some (Int.tmod a2.1 a3)) (fun (a5 : Int) => (bindO (some (IntKind.wrap .i64 ((1 : Int) + a5))) (fun (a6 : Int) => (bindO (some (IntKind.wrap .i64 (x.1.1 - (1 : Int)))) (fun (a7 : Int) => (bindO (guardO (x.1.2.1 != (0 : Int))) (fun (a8 : Unit) => (bindO (some (IntKind.wrap .i64 (Int.tdiv a7 x.1.2.1))) (fun (a9 : Int) => (bindO (M_I_power (a6, (a9, x.1.1))) (fun (a10 : Int) => (cond (a10 != (1 : Int)) (some (a10, true)) (bindO (some (IntKind.wrap .i64 (s1 + (1 : Int)))) (fun (a11 : Int) => (again0 a11))))))))))))))))))))))) (some ((0 : Int), false))))) (0 : Int))

noncomputable def c_I_Group_derive : Con0 := ⟨pk_I_Group_derive, rk_I_Group_derive, M_I_Group_derive⟩

set_option maxRecDepth 100000 in
theorem eq_I_Group_derive (x : In pk_I_Group_derive) : semF (mkE [(178, c_I_HashLabelled), (137, c_I_power)]) h_I_Group_derive (info Tryz.f115) pk_I_Group_derive rk_I_Group_derive x = M_I_Group_derive x := (semFF_eq _ _ _ _ _ _).symm.trans (by kernel_rfl)

set_option maxRecDepth 100000 in
theorem m_I_Group_derive : ConOK Tryz.prog 115 c_I_Group_derive := fn_ok (tyOK _) (E := mkE [(178, c_I_HashLabelled), (137, c_I_power)]) (consOK_cons m_I_HashLabelled (consOK_cons m_I_power (consOK_nil rfl))) Tryz.func115 (h := h_I_Group_derive) (by kernel_rfl) eq_I_Group_derive

/-- I_Group_basesOf -/
def pk_I_Group_basesOf : List PK := [.data (.cons (.int .i64) (.cons (.int .i64) (.one (.int .i64)))), .data (.int .i64)]
def rk_I_Group_basesOf : List (Ty × Bool) := [((.cons (.int .i64) (.one (.sl (.int .i64)))), true), (.bool, false)]
def h_I_Group_basesOf : Hints := { loops := [(0, { items := [.slot 9 (.data .bool []), .slot 21 (.data (.int .i64) []), .cell 8 0 (.data (.int .i64) []), .cell 8 1 (.own (.int .i64) true)], kill := [0, 1, 3, 5, 6] ++ (sgN 10 10 ++ (sgN 22 27)) })] }
noncomputable def M_I_Group_basesOf (x : ((Int × (Int × Int)) × Int)) : (Option ((Int × (List Int)) × Bool)) :=
  (bindO (M_I_Group_derive ((x.1.1, (x.1.2.1, x.1.2.2)), ((bytesOf [104]), (0 : Int)))) (fun (a0 : (Int × Bool)) => (loopO (fun (again1 : ((Bool × (Int × (Int × (List Int)))) → (Option ((Int × (List Int)) × Bool)))) => (fun (s2 : (Bool × (Int × (Int × (List Int))))) => (cond (decide (s2.2.1 < x.2)) (bindO (M_I_Group_derive ((x.1.1, (x.1.2.1, x.1.2.2)), ((bytesOf [104, 115]), s2.2.1))) (fun (a3 : (Int × Bool)) => (cond s2.1 (bindO (guardO (lenOk ((List.length s2.2.2.2) + (List.length (a3.1 :: ([] : List Int)))))) (fun (a4 : Unit) => (bindO (some (s2.2.2.2 ++ (a3.1 :: ([] : List Int)))) (fun (a5 : (List Int)) => (bindO (some (IntKind.wrap .i64 (s2.2.1 + (1 : Int)))) (fun (a6 : Int) => (again1 (a3.2, (a6, (s2.2.2.1, a5)))))))))) (bindO (guardO (lenOk ((List.length s2.2.2.2) + (List.length (a3.1 :: ([] : List Int)))))) (fun (a7 : Unit) => (bindO (some (s2.2.2.2 ++ (a3.1 :: ([] : List Int)))) (fun (a8 : (List Int)) => (bindO (some (IntKind.wrap .i64 (s2.2.1 + (1 : Int)))) (fun (a9 : Int) => (again1 (false, (a9, (s2.2.2.1, a8))))))))))))) (cond (not a0.2) (some (((0 : Int), ([] : List Int)), false)) (cond (not s2.1) (some (((0 : Int), ([] : List Int)), false)) (some ((s2.2.2.1, s2.2.2.2), true))))))) (true, ((0 : Int), (a0.1, ([] : List Int)))))))

noncomputable def c_I_Group_basesOf : Con0 := ⟨pk_I_Group_basesOf, rk_I_Group_basesOf, M_I_Group_basesOf⟩

set_option maxRecDepth 100000 in
theorem eq_I_Group_basesOf (x : In pk_I_Group_basesOf) : semF (mkE [(115, c_I_Group_derive)]) h_I_Group_basesOf (info Tryz.f82) pk_I_Group_basesOf rk_I_Group_basesOf x = M_I_Group_basesOf x := (semFF_eq _ _ _ _ _ _).symm.trans (by kernel_rfl)

set_option maxRecDepth 100000 in
theorem m_I_Group_basesOf : ConOK Tryz.prog 82 c_I_Group_basesOf := fn_ok (tyOK _) (E := mkE [(115, c_I_Group_derive)]) (consOK_cons m_I_Group_derive (consOK_nil rfl)) Tryz.func82 (h := h_I_Group_basesOf) (by kernel_rfl) eq_I_Group_basesOf

/-- I_mixBases -/
def pk_I_mixBases : List PK := [.data (.cons (.int .i64) (.cons (.int .i64) (.one (.int .i64)))), .data (.int .i64), .data (.sl (.cons (.int .i64) (.one (.int .i64))))]
def rk_I_mixBases : List (Ty × Bool) := [((.cons (.int .i64) (.one (.sl (.int .i64)))), true), (.bool, false)]
def h_I_mixBases : Hints := { loops := [] }
noncomputable def M_I_mixBases (x : ((Int × (Int × Int)) × (Int × (List (Int × Int))))) : (Option ((Int × (List Int)) × Bool)) :=
  (bindO (M_I_IsValidGroup (x.1.1, (x.1.2.1, x.1.2.2))) (fun (a0 : Bool) => (cond (not a0) (some (((0 : Int), ([] : List Int)), false)) (bindO (M_I_Group_has ((x.1.1, (x.1.2.1, x.1.2.2)), x.2.1)) (fun (a1 : Bool) => (cond (not a1) (some (((0 : Int), ([] : List Int)), false)) (bindO (M_I_Group_areMixed ((x.1.1, (x.1.2.1, x.1.2.2)), x.2.2)) (fun (a2 : Bool) => (cond (not a2) (some (((0 : Int), ([] : List Int)), false)) (bindO (M_I_Group_basesOf ((x.1.1, (x.1.2.1, x.1.2.2)), (((List.length x.2.2) : Nat) : Int))) (fun (a3 : ((Int × (List Int)) × Bool)) => (some ((a3.1.1, a3.1.2), a3.2)))))))))))))

noncomputable def c_I_mixBases : Con0 := ⟨pk_I_mixBases, rk_I_mixBases, M_I_mixBases⟩

set_option maxRecDepth 100000 in
theorem eq_I_mixBases (x : In pk_I_mixBases) : semF (mkE [(97, c_I_IsValidGroup), (98, c_I_Group_has), (52, c_I_Group_areMixed), (82, c_I_Group_basesOf)]) h_I_mixBases (info Tryz.f63) pk_I_mixBases rk_I_mixBases x = M_I_mixBases x := (semFF_eq _ _ _ _ _ _).symm.trans (by kernel_rfl)

set_option maxRecDepth 100000 in
theorem m_I_mixBases : ConOK Tryz.prog 63 c_I_mixBases := fn_ok (tyOK _) (E := mkE [(97, c_I_IsValidGroup), (98, c_I_Group_has), (52, c_I_Group_areMixed), (82, c_I_Group_basesOf)]) (consOK_cons m_I_IsValidGroup (consOK_cons m_I_Group_has (consOK_cons m_I_Group_areMixed (consOK_cons m_I_Group_basesOf (consOK_nil rfl))))) Tryz.func63 (h := h_I_mixBases) (by kernel_rfl) eq_I_mixBases

/-- I_isArgument -/
def pk_I_isArgument : List PK := [.data (.int .i64)]
def rk_I_isArgument : List (Ty × Bool) := [(.bool, false)]
def h_I_isArgument : Hints := { loops := [] }
noncomputable def M_I_isArgument (x : Int) : (Option Bool) :=
  (cond (x == (1 : Int)) (some true) (some (x == (2 : Int))))

noncomputable def c_I_isArgument : Con0 := ⟨pk_I_isArgument, rk_I_isArgument, M_I_isArgument⟩

set_option maxRecDepth 100000 in
theorem eq_I_isArgument (x : In pk_I_isArgument) : semF (mkE []) h_I_isArgument (info Tryz.f64) pk_I_isArgument rk_I_isArgument x = M_I_isArgument x := (semFF_eq _ _ _ _ _ _).symm.trans (by kernel_rfl)

set_option maxRecDepth 100000 in
theorem m_I_isArgument : ConOK Tryz.prog 64 c_I_isArgument := fn_ok (tyOK _) (E := mkE []) (consOK_nil rfl) Tryz.func64 (h := h_I_isArgument) (by kernel_rfl) eq_I_isArgument

/-- I_coinsForStage -/
def pk_I_coinsForStage : List PK := [.data (.int .i64), .data (.int .i64)]
def rk_I_coinsForStage : List (Ty × Bool) := [((.int .i64), false)]
def h_I_coinsForStage : Hints := { loops := [] }
noncomputable def M_I_coinsForStage (x : (Int × Int)) : (Option Int) :=
  (cond (x.1 == (1 : Int)) (bindO (some (IntKind.wrap .i64 ((5 : Int) * x.2))) (fun (a0 : Int) => (bindO (some (IntKind.wrap .i64 (a0 + (4 : Int)))) (fun (a1 : Int) => (some a1))))) (bindO (some (IntKind.wrap .i64 ((9 : Int) * x.2))) (fun (a2 : Int) => (bindO (some (IntKind.wrap .i64 (a2 + (2 : Int)))) (fun (a3 : Int) => (some a3))))))

noncomputable def c_I_coinsForStage : Con0 := ⟨pk_I_coinsForStage, rk_I_coinsForStage, M_I_coinsForStage⟩

set_option maxRecDepth 100000 in
theorem eq_I_coinsForStage (x : In pk_I_coinsForStage) : semF (mkE []) h_I_coinsForStage (info Tryz.f65) pk_I_coinsForStage rk_I_coinsForStage x = M_I_coinsForStage x := (semFF_eq _ _ _ _ _ _).symm.trans (by kernel_rfl)

set_option maxRecDepth 100000 in
theorem m_I_coinsForStage : ConOK Tryz.prog 65 c_I_coinsForStage := fn_ok (tyOK _) (E := mkE []) (consOK_nil rfl) Tryz.func65 (h := h_I_coinsForStage) (by kernel_rfl) eq_I_coinsForStage

/-- slices_Index_sint_int -/
def pk_slices_Index_sint_int : List PK := [.data (.sl (.int .i64)), .data (.int .i64)]
def rk_slices_Index_sint_int : List (Ty × Bool) := [((.int .i64), false)]
def h_slices_Index_sint_int : Hints := { loops := [(0, { items := [.slot 8 (.data (.int .i64) [])], kill := sgN 2 5 ++ (sgN 9 10) })] }
noncomputable def M_slices_Index_sint_int (x : ((List Int) × Int)) : (Option Int) :=
  (loopO (fun (again0 : (Int → (Option Int))) => (fun (s1 : Int) => (cond (decide (s1 < (((List.length x.1) : Nat) : Int))) (bindO (getI x.1 s1) (fun (a2 : Int) => (cond (x.2 == a2) (some s1) (bindO (some (IntKind.wrap .i64 (s1 + (1 : Int)))) (fun (a3 : Int) => (again0 a3)))))) (some (- (1 : Int)))))) (0 : Int))

noncomputable def c_slices_Index_sint_int : Con0 := ⟨pk_slices_Index_sint_int, rk_slices_Index_sint_int, M_slices_Index_sint_int⟩

set_option maxRecDepth 100000 in
theorem eq_slices_Index_sint_int (x : In pk_slices_Index_sint_int) : semF (mkE []) h_slices_Index_sint_int (info Tryz.f203) pk_slices_Index_sint_int rk_slices_Index_sint_int x = M_slices_Index_sint_int x := (semFF_eq _ _ _ _ _ _).symm.trans (by kernel_rfl)

set_option maxRecDepth 100000 in
theorem m_slices_Index_sint_int : ConOK Tryz.prog 203 c_slices_Index_sint_int := fn_ok (tyOK _) (E := mkE []) (consOK_nil rfl) Tryz.func203 (h := h_slices_Index_sint_int) (by kernel_rfl) eq_slices_Index_sint_int

/-- slices_Contains_sint_int -/
def pk_slices_Contains_sint_int : List PK := [.data (.sl (.int .i64)), .data (.int .i64)]
def rk_slices_Contains_sint_int : List (Ty × Bool) := [(.bool, false)]
def h_slices_Contains_sint_int : Hints := { loops := [] }
noncomputable def M_slices_Contains_sint_int (x : ((List Int) × Int)) : (Option Bool) :=
  (bindO (M_slices_Index_sint_int (x.1, x.2)) (fun (a0 : Int) => (some (decide (a0 ≥ (0 : Int))))))

noncomputable def c_slices_Contains_sint_int : Con0 := ⟨pk_slices_Contains_sint_int, rk_slices_Contains_sint_int, M_slices_Contains_sint_int⟩

set_option maxRecDepth 100000 in
theorem eq_slices_Contains_sint_int (x : In pk_slices_Contains_sint_int) : semF (mkE [(203, c_slices_Index_sint_int)]) h_slices_Contains_sint_int (info Tryz.f197) pk_slices_Contains_sint_int rk_slices_Contains_sint_int x = M_slices_Contains_sint_int x := (semFF_eq _ _ _ _ _ _).symm.trans (by kernel_rfl)

set_option maxRecDepth 100000 in
theorem m_slices_Contains_sint_int : ConOK Tryz.prog 197 c_slices_Contains_sint_int := fn_ok (tyOK _) (E := mkE [(203, c_slices_Index_sint_int)]) (consOK_cons m_slices_Index_sint_int (consOK_nil rfl)) Tryz.func197 (h := h_slices_Contains_sint_int) (by kernel_rfl) eq_slices_Contains_sint_int

/-- I_areDifferent -/
def pk_I_areDifferent : List PK := [.data (.sl (.int .i64))]
def rk_I_areDifferent : List (Ty × Bool) := [(.bool, false)]
def h_I_areDifferent : Hints := { loops := [(0, { items := [.slot 7 (.data (.int .i64) [])], kill := sgN 1 4 ++ (sgN 8 10) })] }
noncomputable def M_I_areDifferent (x : (List Int)) : (Option Bool) :=
  (loopO (fun (again0 : (Int → (Option Bool))) => (fun (s1 : Int) => (cond (decide (s1 < (((List.length x) : Nat) : Int))) (bindO (getI x s1) (fun (a2 : Int) => (bindO (sliceNH s1 (List.length x)) (fun (a3 : (Nat × Nat)) => (bindO (M_slices_Contains_sint_int ((List.drop a3.1 (List.take a3.2 x)), a2)) (fun (a4 : Bool) => (cond a4 (some false) (bindO (some (IntKind.wrap .i64 (s1 + (1 : Int)))) (fun (a5 : Int) => (again0 a5)))))))))) (some true)))) (0 : Int))

noncomputable def c_I_areDifferent : Con0 := ⟨pk_I_areDifferent, rk_I_areDifferent, M_I_areDifferent⟩

set_option maxRecDepth 100000 in
theorem eq_I_areDifferent (x : In pk_I_areDifferent) : semF (mkE [(197, c_slices_Contains_sint_int)]) h_I_areDifferent (info Tryz.f148) pk_I_areDifferent rk_I_areDifferent x = M_I_areDifferent x := (semFF_eq _ _ _ _ _ _).symm.trans (by kernel_rfl)

set_option maxRecDepth 100000 in
theorem m_I_areDifferent : ConOK Tryz.prog 148 c_I_areDifferent := fn_ok (tyOK _) (E := mkE [(197, c_slices_Contains_sint_int)]) (consOK_cons m_slices_Contains_sint_int (consOK_nil rfl)) Tryz.func148 (h := h_I_areDifferent) (by kernel_rfl) eq_I_areDifferent

/-- I_IsPermutation_1 -/
def pk_I_IsPermutation_1 : List PK := [.data (.int .i64), .rp (.sl (.int .i64))]
def rk_I_IsPermutation_1 : List (Ty × Bool) := [(.bool, false)]
def h_I_IsPermutation_1 : Hints := { loops := [] }
noncomputable def M_I_IsPermutation_1 (x : (Int × (List Int))) : (Option Bool) :=
  (bindO (some (IntKind.wrap .i64 ((((List.length x.2) : Nat) : Int) - (1 : Int)))) (fun (a0 : Int) => (bindO (M_I_within (x.1, ((0 : Int), a0))) (fun (a1 : Bool) => (some a1)))))

noncomputable def c_I_IsPermutation_1 : Con0 := ⟨pk_I_IsPermutation_1, rk_I_IsPermutation_1, M_I_IsPermutation_1⟩

set_option maxRecDepth 100000 in
theorem eq_I_IsPermutation_1 (x : In pk_I_IsPermutation_1) : semF (mkE [(85, c_I_within)]) h_I_IsPermutation_1 (info Tryz.f147) pk_I_IsPermutation_1 rk_I_IsPermutation_1 x = M_I_IsPermutation_1 x := (semFF_eq _ _ _ _ _ _).symm.trans (by kernel_rfl)

set_option maxRecDepth 100000 in
theorem m_I_IsPermutation_1 : ConOK Tryz.prog 147 c_I_IsPermutation_1 := fn_ok (tyOK _) (E := mkE [(85, c_I_within)]) (consOK_cons m_I_within (consOK_nil rfl)) Tryz.func147 (h := h_I_IsPermutation_1) (by kernel_rfl) eq_I_IsPermutation_1

/-- I_IsPermutation -/
def pk_I_IsPermutation : List PK := [.data (.sl (.int .i64))]
def rk_I_IsPermutation : List (Ty × Bool) := [(.bool, false)]
def h_I_IsPermutation : Hints := { loops := [] }
noncomputable def M_I_IsPermutation (x : (List Int)) : (Option Bool) :=
  (cond (decide ((((List.length x) : Nat) : Int) ≤ (24 : Int))) (bindO (M_I_areAll (x, (fun (a0 : Int) => (bindO (M_I_IsPermutation_1 (a0, x)) (fun (a1 : Bool) => (some a1)))))) (fun (a2 : Bool) => (cond a2 (bindO (M_I_areDifferent x) (fun (a3 : Bool) => (some a3))) (some false)))) (some false))

noncomputable def c_I_IsPermutation : Con0 := ⟨pk_I_IsPermutation, rk_I_IsPermutation, M_I_IsPermutation⟩

set_option maxRecDepth 100000 in
theorem eq_I_IsPermutation (x : In pk_I_IsPermutation) : semF (mkE [(146, c_I_areAll), (148, c_I_areDifferent), (147, c_I_IsPermutation_1)]) h_I_IsPermutation (info Tryz.f99) pk_I_IsPermutation rk_I_IsPermutation x = M_I_IsPermutation x := (semFF_eq _ _ _ _ _ _).symm.trans (by kernel_rfl)

set_option maxRecDepth 100000 in
theorem m_I_IsPermutation : ConOK Tryz.prog 99 c_I_IsPermutation := fn_ok (tyOK _) (E := mkE [(146, c_I_areAll), (148, c_I_areDifferent), (147, c_I_IsPermutation_1)]) (consOK_cons m_I_areAll (consOK_cons m_I_areDifferent (consOK_cons m_I_IsPermutation_1 (consOK_nil rfl)))) Tryz.func99 (h := h_I_IsPermutation) (by kernel_rfl) eq_I_IsPermutation

/-- I_Group_isExp -/
def pk_I_Group_isExp : List PK := [.data (.cons (.int .i64) (.cons (.int .i64) (.one (.int .i64)))), .data (.int .i64)]
def rk_I_Group_isExp : List (Ty × Bool) := [(.bool, false)]
def h_I_Group_isExp : Hints := { loops := [] }
noncomputable def M_I_Group_isExp (x : ((Int × (Int × Int)) × Int)) : (Option Bool) :=
  (bindO (some (IntKind.wrap .i64 (x.1.2.1 - (1 : Int)))) (fun (a0 : Int) => (bindO (M_I_within (x.2, ((0 : Int), a0))) (fun (a1 : Bool) => (some a1)))))

noncomputable def c_I_Group_isExp : Con0 := ⟨pk_I_Group_isExp, rk_I_Group_isExp, M_I_Group_isExp⟩

set_option maxRecDepth 100000 in
theorem eq_I_Group_isExp (x : In pk_I_Group_isExp) : semF (mkE [(85, c_I_within)]) h_I_Group_isExp (info Tryz.f149) pk_I_Group_isExp rk_I_Group_isExp x = M_I_Group_isExp x := (semFF_eq _ _ _ _ _ _).symm.trans (by kernel_rfl)

set_option maxRecDepth 100000 in
theorem m_I_Group_isExp : ConOK Tryz.prog 149 c_I_Group_isExp := fn_ok (tyOK _) (E := mkE [(85, c_I_within)]) (consOK_cons m_I_within (consOK_nil rfl)) Tryz.func149 (h := h_I_Group_isExp) (by kernel_rfl) eq_I_Group_isExp

/-- I_Group_areExps -/
def pk_I_Group_areExps : List PK := [.data (.cons (.int .i64) (.cons (.int .i64) (.one (.int .i64)))), .data (.sl (.int .i64))]
def rk_I_Group_areExps : List (Ty × Bool) := [(.bool, false)]
def h_I_Group_areExps : Hints := { loops := [] }
noncomputable def M_I_Group_areExps (x : ((Int × (Int × Int)) × (List Int))) : (Option Bool) :=
  (bindO (M_I_areAll (x.2, (fun (a0 : Int) => (bindO (M_I_Group_isExp ((x.1.1, (x.1.2.1, x.1.2.2)), a0)) (fun (a1 : Bool) => (some a1)))))) (fun (a2 : Bool) => (some a2)))

noncomputable def c_I_Group_areExps : Con0 := ⟨pk_I_Group_areExps, rk_I_Group_areExps, M_I_Group_areExps⟩

set_option maxRecDepth 100000 in
theorem eq_I_Group_areExps (x : In pk_I_Group_areExps) : semF (mkE [(146, c_I_areAll), (149, c_I_Group_isExp)]) h_I_Group_areExps (info Tryz.f100) pk_I_Group_areExps rk_I_Group_areExps x = M_I_Group_areExps x := (semFF_eq _ _ _ _ _ _).symm.trans (by kernel_rfl)

set_option maxRecDepth 100000 in
theorem m_I_Group_areExps : ConOK Tryz.prog 100 c_I_Group_areExps := fn_ok (tyOK _) (E := mkE [(146, c_I_areAll), (149, c_I_Group_isExp)]) (consOK_cons m_I_areAll (consOK_cons m_I_Group_isExp (consOK_nil rfl))) Tryz.func100 (h := h_I_Group_areExps) (by kernel_rfl) eq_I_Group_areExps

/-- I_Group_isMixing -/
def pk_I_Group_isMixing : List PK := [.data (.cons (.int .i64) (.cons (.int .i64) (.one (.int .i64)))), .data (.sl (.int .i64)), .data (.sl (.int .i64)), .data (.int .i64)]
def rk_I_Group_isMixing : List (Ty × Bool) := [(.bool, false)]
def h_I_Group_isMixing : Hints := { loops := [] }
noncomputable def M_I_Group_isMixing (x : ((Int × (Int × Int)) × ((List Int) × ((List Int) × Int)))) : (Option Bool) :=
  (bindO (M_I_IsPermutation x.2.1) (fun (a0 : Bool) => (cond a0 (cond ((((List.length x.2.1) : Nat) : Int) == x.2.2.2) (cond ((((List.length x.2.2.1) : Nat) : Int) == x.2.2.2) (bindO (M_I_Group_areExps ((x.1.1, (x.1.2.1, x.1.2.2)), x.2.2.1)) (fun (a1 : Bool) => (some a1))) (some false)) (some false)) (some false))))

noncomputable def c_I_Group_isMixing : Con0 := ⟨pk_I_Group_isMixing, rk_I_Group_isMixing, M_I_Group_isMixing⟩

set_option maxRecDepth 100000 in
theorem eq_I_Group_isMixing (x : In pk_I_Group_isMixing) : semF (mkE [(99, c_I_IsPermutation), (100, c_I_Group_areExps)]) h_I_Group_isMixing (info Tryz.f66) pk_I_Group_isMixing rk_I_Group_isMixing x = M_I_Group_isMixing x := (semFF_eq _ _ _ _ _ _).symm.trans (by kernel_rfl)

set_option maxRecDepth 100000 in
theorem m_I_Group_isMixing : ConOK Tryz.prog 66 c_I_Group_isMixing := fn_ok (tyOK _) (E := mkE [(99, c_I_IsPermutation), (100, c_I_Group_areExps)]) (consOK_cons m_I_IsPermutation (consOK_cons m_I_Group_areExps (consOK_nil rfl))) Tryz.func66 (h := h_I_Group_isMixing) (by kernel_rfl) eq_I_Group_isMixing

/-- I_mod -/
def pk_I_mod : List PK := [.data (.int .i64), .data (.int .i64)]
def rk_I_mod : List (Ty × Bool) := [((.int .i64), false)]
def h_I_mod : Hints := { loops := [] }
noncomputable def M_I_mod (x : (Int × Int)) : (Option Int) :=
  (bindO (guardO (x.2 != (0 : Int))) (fun (a0 : Unit) => (bindO (some (Int.tmod x.1 x.2)) (fun (a1 : Int) => (bindO (some (IntKind.wrap .i64 (a1 + x.2))) (fun (a2 : Int) => (bindO (guardO (x.2 != (0 : Int))) (fun (a3 : Unit) => (bindO (some (Int.tmod a2 x.2)) (fun (a4 : Int) => (some a4)))))))))))

noncomputable def c_I_mod : Con0 := ⟨pk_I_mod, rk_I_mod, M_I_mod⟩

set_option maxRecDepth 100000 in
theorem eq_I_mod (x : In pk_I_mod) : semF (mkE []) h_I_mod (info Tryz.f182) pk_I_mod rk_I_mod x = M_I_mod x := (semFF_eq _ _ _ _ _ _).symm.trans (by kernel_rfl)

set_option maxRecDepth 100000 in
theorem m_I_mod : ConOK Tryz.prog 182 c_I_mod := fn_ok (tyOK _) (E := mkE []) (consOK_nil rfl) Tryz.func182 (h := h_I_mod) (by kernel_rfl) eq_I_mod

/-- I_Group_pow -/
def pk_I_Group_pow : List PK := [.data (.cons (.int .i64) (.cons (.int .i64) (.one (.int .i64)))), .data (.int .i64), .data (.int .i64)]
def rk_I_Group_pow : List (Ty × Bool) := [((.int .i64), false)]
def h_I_Group_pow : Hints := { loops := [] }
noncomputable def M_I_Group_pow (x : ((Int × (Int × Int)) × (Int × Int))) : (Option Int) :=
  (bindO (M_I_mod (x.2.2, x.1.2.1)) (fun (a0 : Int) => (bindO (M_I_power (x.2.1, (a0, x.1.1))) (fun (a1 : Int) => (some a1)))))

noncomputable def c_I_Group_pow : Con0 := ⟨pk_I_Group_pow, rk_I_Group_pow, M_I_Group_pow⟩

set_option maxRecDepth 100000 in
theorem eq_I_Group_pow (x : In pk_I_Group_pow) : semF (mkE [(182, c_I_mod), (137, c_I_power)]) h_I_Group_pow (info Tryz.f128) pk_I_Group_pow rk_I_Group_pow x = M_I_Group_pow x := (semFF_eq _ _ _ _ _ _).symm.trans (by kernel_rfl)

set_option maxRecDepth 100000 in
theorem m_I_Group_pow : ConOK Tryz.prog 128 c_I_Group_pow := fn_ok (tyOK _) (E := mkE [(182, c_I_mod), (137, c_I_power)]) (consOK_cons m_I_mod (consOK_cons m_I_power (consOK_nil rfl))) Tryz.func128 (h := h_I_Group_pow) (by kernel_rfl) eq_I_Group_pow

/-- I_Group_mul -/
def pk_I_Group_mul : List PK := [.data (.cons (.int .i64) (.cons (.int .i64) (.one (.int .i64)))), .data (.sl (.int .i64))]
def rk_I_Group_mul : List (Ty × Bool) := [((.int .i64), false)]
def h_I_Group_mul : Hints := { loops := [(0, { items := [.slot 5 (.data (.int .i64) []), .slot 10 (.data (.int .i64) [])], kill := [0, 1, 3, 4, 6, 7] ++ (sgN 11 11) })] }
noncomputable def M_I_Group_mul (x : ((Int × (Int × Int)) × (List Int))) : (Option Int) :=
  (loopO (fun (again0 : ((Int × Int) → (Option Int))) => (fun (s1 : (Int × Int)) => (cond (decide (s1.2 < (((List.length x.2) : Nat) : Int))) (bindO (getI x.2 s1.2) (fun (a2 : Int) => (bindO (some (IntKind.wrap .i64 (s1.1 * a2))) (fun (a3 : Int) => (bindO (guardO (x.1.1 != (0 : Int))) (fun (a4 : Unit) => (bindO (some (Int.tmod a3 x.1.1)) (fun (a5 : Int) => (bindO (some (IntKind.wrap .i64 (s1.2 + (1 : Int)))) (fun (a6 : Int) => (again0 (a5, a6)))))))))))) (some s1.1)))) ((1 : Int), (0 : Int)))

noncomputable def c_I_Group_mul : Con0 := ⟨pk_I_Group_mul, rk_I_Group_mul, M_I_Group_mul⟩

set_option maxRecDepth 100000 in
theorem eq_I_Group_mul (x : In pk_I_Group_mul) : semF (mkE []) h_I_Group_mul (info Tryz.f127) pk_I_Group_mul rk_I_Group_mul x = M_I_Group_mul x := (semFF_eq _ _ _ _ _ _).symm.trans (by kernel_rfl)

set_option maxRecDepth 100000 in
theorem m_I_Group_mul : ConOK Tryz.prog 127 c_I_Group_mul := fn_ok (tyOK _) (E := mkE []) (consOK_nil rfl) Tryz.func127 (h := h_I_Group_mul) (by kernel_rfl) eq_I_Group_mul

/-- I_Group_encrypt -/
def pk_I_Group_encrypt : List PK := [.data (.cons (.int .i64) (.cons (.int .i64) (.one (.int .i64)))), .data (.int .i64), .data (.int .i64), .data (.int .i64)]
def rk_I_Group_encrypt : List (Ty × Bool) := [((.cons (.int .i64) (.one (.int .i64))), false)]
def h_I_Group_encrypt : Hints := { loops := [] }
noncomputable def M_I_Group_encrypt (x : ((Int × (Int × Int)) × (Int × (Int × Int)))) : (Option (Int × Int)) :=
  (bindO (M_I_Group_pow ((x.1.1, (x.1.2.1, x.1.2.2)), (x.1.2.2, x.2.2.2))) (fun (a0 : Int) => (bindO (M_I_Group_pow ((x.1.1, (x.1.2.1, x.1.2.2)), (x.2.1, x.2.2.2))) (fun (a1 : Int) => (bindO (M_I_Group_mul ((x.1.1, (x.1.2.1, x.1.2.2)), (x.2.2.1 :: (a1 :: ([] : List Int))))) (fun (a2 : Int) => (some (a0, a2))))))))

noncomputable def c_I_Group_encrypt : Con0 := ⟨pk_I_Group_encrypt, rk_I_Group_encrypt, M_I_Group_encrypt⟩

set_option maxRecDepth 100000 in
theorem eq_I_Group_encrypt (x : In pk_I_Group_encrypt) : semF (mkE [(128, c_I_Group_pow), (127, c_I_Group_mul)]) h_I_Group_encrypt (info Tryz.f151) pk_I_Group_encrypt rk_I_Group_encrypt x = M_I_Group_encrypt x := (semFF_eq _ _ _ _ _ _).symm.trans (by kernel_rfl)

set_option maxRecDepth 100000 in
theorem m_I_Group_encrypt : ConOK Tryz.prog 151 c_I_Group_encrypt := fn_ok (tyOK _) (E := mkE [(128, c_I_Group_pow), (127, c_I_Group_mul)]) (consOK_cons m_I_Group_pow (consOK_cons m_I_Group_mul (consOK_nil rfl))) Tryz.func151 (h := h_I_Group_encrypt) (by kernel_rfl) eq_I_Group_encrypt

/-- I_Group_mulTwo -/
def pk_I_Group_mulTwo : List PK := [.data (.cons (.int .i64) (.cons (.int .i64) (.one (.int .i64)))), .data (.cons (.int .i64) (.one (.int .i64))), .data (.cons (.int .i64) (.one (.int .i64)))]
def rk_I_Group_mulTwo : List (Ty × Bool) := [((.cons (.int .i64) (.one (.int .i64))), false)]
def h_I_Group_mulTwo : Hints := { loops := [] }
noncomputable def M_I_Group_mulTwo (x : ((Int × (Int × Int)) × ((Int × Int) × (Int × Int)))) : (Option (Int × Int)) :=
  (bindO (M_I_Group_mul ((x.1.1, (x.1.2.1, x.1.2.2)), (x.2.1.1 :: (x.2.2.1 :: ([] : List Int))))) (fun (a0 : Int) => (bindO (M_I_Group_mul ((x.1.1, (x.1.2.1, x.1.2.2)), (x.2.1.2 :: (x.2.2.2 :: ([] : List Int))))) (fun (a1 : Int) => (some (a0, a1))))))

noncomputable def c_I_Group_mulTwo : Con0 := ⟨pk_I_Group_mulTwo, rk_I_Group_mulTwo, M_I_Group_mulTwo⟩

set_option maxRecDepth 100000 in
theorem eq_I_Group_mulTwo (x : In pk_I_Group_mulTwo) : semF (mkE [(127, c_I_Group_mul)]) h_I_Group_mulTwo (info Tryz.f150) pk_I_Group_mulTwo rk_I_Group_mulTwo x = M_I_Group_mulTwo x := (semFF_eq _ _ _ _ _ _).symm.trans (by kernel_rfl)

set_option maxRecDepth 100000 in
theorem m_I_Group_mulTwo : ConOK Tryz.prog 150 c_I_Group_mulTwo := fn_ok (tyOK _) (E := mkE [(127, c_I_Group_mul)]) (consOK_cons m_I_Group_mul (consOK_nil rfl)) Tryz.func150 (h := h_I_Group_mulTwo) (by kernel_rfl) eq_I_Group_mulTwo

/-- I_Group_reencrypt -/
def pk_I_Group_reencrypt : List PK := [.data (.cons (.int .i64) (.cons (.int .i64) (.one (.int .i64)))), .data (.int .i64), .data (.cons (.int .i64) (.one (.int .i64))), .data (.int .i64)]
def rk_I_Group_reencrypt : List (Ty × Bool) := [((.cons (.int .i64) (.one (.int .i64))), false)]
def h_I_Group_reencrypt : Hints := { loops := [] }
noncomputable def M_I_Group_reencrypt (x : ((Int × (Int × Int)) × (Int × ((Int × Int) × Int)))) : (Option (Int × Int)) :=
  (bindO (M_I_Group_encrypt ((x.1.1, (x.1.2.1, x.1.2.2)), (x.2.1, ((1 : Int), x.2.2.2)))) (fun (a0 : (Int × Int)) => (bindO (M_I_Group_mulTwo ((x.1.1, (x.1.2.1, x.1.2.2)), ((x.2.2.1.1, x.2.2.1.2), (a0.1, a0.2)))) (fun (a1 : (Int × Int)) => (some (a1.1, a1.2))))))

noncomputable def c_I_Group_reencrypt : Con0 := ⟨pk_I_Group_reencrypt, rk_I_Group_reencrypt, M_I_Group_reencrypt⟩

set_option maxRecDepth 100000 in
theorem eq_I_Group_reencrypt (x : In pk_I_Group_reencrypt) : semF (mkE [(151, c_I_Group_encrypt), (150, c_I_Group_mulTwo)]) h_I_Group_reencrypt (info Tryz.f101) pk_I_Group_reencrypt rk_I_Group_reencrypt x = M_I_Group_reencrypt x := (semFF_eq _ _ _ _ _ _).symm.trans (by kernel_rfl)

set_option maxRecDepth 100000 in
theorem m_I_Group_reencrypt : ConOK Tryz.prog 101 c_I_Group_reencrypt := fn_ok (tyOK _) (E := mkE [(151, c_I_Group_encrypt), (150, c_I_Group_mulTwo)]) (consOK_cons m_I_Group_encrypt (consOK_cons m_I_Group_mulTwo (consOK_nil rfl))) Tryz.func101 (h := h_I_Group_reencrypt) (by kernel_rfl) eq_I_Group_reencrypt

/-- I_Group_mix -/
def pk_I_Group_mix : List PK := [.data (.cons (.int .i64) (.cons (.int .i64) (.one (.int .i64)))), .data (.int .i64), .data (.sl (.cons (.int .i64) (.one (.int .i64)))), .data (.sl (.int .i64)), .data (.sl (.int .i64))]
def rk_I_Group_mix : List (Ty × Bool) := [((.sl (.cons (.int .i64) (.one (.int .i64)))), true)]
def h_I_Group_mix : Hints := { loops := [(0, { items := [.slot 11 (.own (.cons (.int .i64) (.one (.int .i64))) true), .slot 17 (.data (.int .i64) [])], kill := [0, 3] ++ (sgN 6 5 ++ ([12, 13, 14] ++ (sgN 18 20))) })] }
noncomputable def M_I_Group_mix (x : ((Int × (Int × Int)) × (Int × ((List (Int × Int)) × ((List Int) × (List Int)))))) : (Option (List (Int × Int))) :=
  (loopO (fun (again0 : (((List (Int × Int)) × Int) → (Option (List (Int × Int))))) => (fun (s1 : ((List (Int × Int)) × Int)) => (cond (decide (s1.2 < (((List.length x.2.2.2.1) : Nat) : Int))) (bindO (getI x.2.2.2.1 s1.2) (fun (a2 : Int) => (bindO (getI x.2.2.1 a2) (fun (a3 : (Int × Int)) => (bindO (getI x.2.2.2.2 s1.2) (fun (a4 : Int) => (bindO (M_I_Group_reencrypt ((x.1.1, (x.1.2.1, x.1.2.2)), (x.2.1, ((a3.1, a3.2), a4)))) (fun (a5 : (Int × Int)) => (bindO (guardO (lenOk ((List.length s1.1) + (List.length ((a5.1, a5.2) :: ([] : List (Int × Int))))))) (fun (a6 : Unit) => (bindO (some (s1.1 ++ ((a5.1, a5.2) :: ([] : List (Int × Int))))) (fun (a7 : (List (Int × Int))) => (bindO (some (IntKind.wrap .i64 (s1.2 + (1 : Int)))) (fun (a8 : Int) => (again0 (a7, a8)))))))))))))))) (some s1.1)))) (([] : List (Int × Int)), (0 : Int)))

noncomputable def c_I_Group_mix : Con0 := ⟨pk_I_Group_mix, rk_I_Group_mix, M_I_Group_mix⟩

set_option maxRecDepth 100000 in
theorem eq_I_Group_mix (x : In pk_I_Group_mix) : semF (mkE [(101, c_I_Group_reencrypt)]) h_I_Group_mix (info Tryz.f67) pk_I_Group_mix rk_I_Group_mix x = M_I_Group_mix x := (semFF_eq _ _ _ _ _ _).symm.trans (by kernel_rfl)

set_option maxRecDepth 100000 in
theorem m_I_Group_mix : ConOK Tryz.prog 67 c_I_Group_mix := fn_ok (tyOK _) (E := mkE [(101, c_I_Group_reencrypt)]) (consOK_cons m_I_Group_reencrypt (consOK_nil rfl)) Tryz.func67 (h := h_I_Group_mix) (by kernel_rfl) eq_I_Group_mix

/-- I_taker_take -/
def pk_I_taker_take : List PK := [.mp (.one (.sl (.int .i64))) false, .data (.int .i64)]
def rk_I_taker_take : List (Ty × Bool) := [((.sl (.int .i64)), false)]
def h_I_taker_take : Hints := { loops := [] }
noncomputable def M_I_taker_take (x : ((List Int) × Int)) : (Option ((List Int) × (List Int))) :=
  (bindO (sliceNH x.2 (List.length x.1)) (fun (a0 : (Nat × Nat)) => (bindO (sliceLN x.2 (List.length x.1)) (fun (a1 : (Nat × Nat)) => (some ((List.drop a0.1 (List.take a0.2 x.1)), (List.drop a1.1 (List.take a1.2 x.1))))))))

noncomputable def c_I_taker_take : Con0 := ⟨pk_I_taker_take, rk_I_taker_take, M_I_taker_take⟩

set_option maxRecDepth 100000 in
theorem eq_I_taker_take (x : In pk_I_taker_take) : semF (mkE []) h_I_taker_take (info Tryz.f134) pk_I_taker_take rk_I_taker_take x = M_I_taker_take x := (semFF_eq _ _ _ _ _ _).symm.trans (by kernel_rfl)

set_option maxRecDepth 100000 in
theorem m_I_taker_take : ConOK Tryz.prog 134 c_I_taker_take := fn_ok (tyOK _) (E := mkE []) (consOK_nil rfl) Tryz.func134 (h := h_I_taker_take) (by kernel_rfl) eq_I_taker_take

/-- I_taker_one -/
def pk_I_taker_one : List PK := [.mp (.one (.sl (.int .i64))) false]
def rk_I_taker_one : List (Ty × Bool) := [((.int .i64), false)]
def h_I_taker_one : Hints := { loops := [] }
noncomputable def M_I_taker_one (x : (List Int)) : (Option (Int × (List Int))) :=
  (bindO (M_I_taker_take (x, (1 : Int))) (fun (a0 : ((List Int) × (List Int))) => (bindO (getI a0.1 (0 : Int)) (fun (a1 : Int) => (some (a1, a0.2))))))

noncomputable def c_I_taker_one : Con0 := ⟨pk_I_taker_one, rk_I_taker_one, M_I_taker_one⟩

set_option maxRecDepth 100000 in
theorem eq_I_taker_one (x : In pk_I_taker_one) : semF (mkE [(134, c_I_taker_take)]) h_I_taker_one (info Tryz.f135) pk_I_taker_one rk_I_taker_one x = M_I_taker_one x := (semFF_eq _ _ _ _ _ _).symm.trans (by kernel_rfl)

set_option maxRecDepth 100000 in
theorem m_I_taker_one : ConOK Tryz.prog 135 c_I_taker_one := fn_ok (tyOK _) (E := mkE [(134, c_I_taker_take)]) (consOK_cons m_I_taker_take (consOK_nil rfl)) Tryz.func135 (h := h_I_taker_one) (by kernel_rfl) eq_I_taker_one

/-- I_Group_columnCommits -/
def pk_I_Group_columnCommits : List PK := [.data (.cons (.int .i64) (.cons (.int .i64) (.one (.int .i64)))), .data (.cons (.int .i64) (.one (.sl (.int .i64)))), .data (.sl (.int .i64)), .data (.sl (.int .i64))]
def rk_I_Group_columnCommits : List (Ty × Bool) := [((.sl (.int .i64)), true)]
def h_I_Group_columnCommits : Hints := { loops := [(0, { items := [.slot 17 (.data (.int .i64) []), .arr 9 (.int .i64) true], kill := [0, 1, 2, 6, 7, 8] ++ (sgN 10 5 ++ (sgN 18 25)) })] }
noncomputable def M_I_Group_columnCommits (x : ((Int × (Int × Int)) × ((Int × (List Int)) × ((List Int) × (List Int))))) : (Option (List Int)) :=
  (bindO (guardO (((decide ((0 : Int) ≤ (((List.length x.2.2.1) : Nat) : Int))) && (decide ((((List.length x.2.2.1) : Nat) : Int) ≤ (((List.length x.2.2.1) : Nat) : Int)))) && (decide ((((List.length x.2.2.1) : Nat) : Int) ≤ ((lim : Nat) : Int))))) (fun (a0 : Unit) => (loopO (fun (again1 : ((Int × (List Int)) → (Option (List Int)))) => (fun (s2 : (Int × (List Int))) => (cond (decide (s2.1 < (((List.length x.2.2.1) : Nat) : Int))) (bindO (getI x.2.2.1 s2.1) (fun (a3 : Int) => (bindO (getI x.2.2.2 a3) (fun (a4 : Int) => (bindO (M_I_Group_pow ((x.1.1, (x.1.2.1, x.1.2.2)), (x.1.2.2, a4))) (fun (a5 : Int) => (bindO (getI x.2.1.2 s2.1) (fun (a6 : Int) => (bindO (M_I_Group_mul ((x.1.1, (x.1.2.1, x.1.2.2)), (a5 :: (a6 :: ([] : List Int))))) (fun (a7 : Int) => (bindO (getI s2.2 a3) (fun (a8 : Int) => (bindO (some (List.set s2.2 (Int.toNat a3) a7)) (fun (a9 : (List Int)) => (bindO (some (IntKind.wrap .i64 (s2.1 + (1 : Int)))) (fun (a10 : Int) => (again1 (a10, a9)))))))))))))))))) (some s2.2)))) ((0 : Int), (List.replicate (Int.toNat (((List.length x.2.2.1) : Nat) : Int)) (0 : Int))))))

noncomputable def c_I_Group_columnCommits : Con0 := ⟨pk_I_Group_columnCommits, rk_I_Group_columnCommits, M_I_Group_columnCommits⟩

set_option maxRecDepth 100000 in
theorem eq_I_Group_columnCommits (x : In pk_I_Group_columnCommits) : semF (mkE [(128, c_I_Group_pow), (127, c_I_Group_mul)]) h_I_Group_columnCommits (info Tryz.f152) pk_I_Group_columnCommits rk_I_Group_columnCommits x = M_I_Group_columnCommits x := (semFF_eq _ _ _ _ _ _).symm.trans (by kernel_rfl)

set_option maxRecDepth 100000 in
theorem m_I_Group_columnCommits : ConOK Tryz.prog 152 c_I_Group_columnCommits := fn_ok (tyOK _) (E := mkE [(128, c_I_Group_pow), (127, c_I_Group_mul)]) (consOK_cons m_I_Group_pow (consOK_cons m_I_Group_mul (consOK_nil rfl))) Tryz.func152 (h := h_I_Group_columnCommits) (by kernel_rfl) eq_I_Group_columnCommits

/-- slices_Clone_sI_Cipher_I_Cipher -/
def pk_slices_Clone_sI_Cipher_I_Cipher : List PK := [.data (.sl (.cons (.int .i64) (.one (.int .i64))))]
def rk_slices_Clone_sI_Cipher_I_Cipher : List (Ty × Bool) := [((.sl (.cons (.int .i64) (.one (.int .i64)))), true)]
def h_slices_Clone_sI_Cipher_I_Cipher : Hints := { loops := [] }
noncomputable def M_slices_Clone_sI_Cipher_I_Cipher (x : (List (Int × Int))) : (Option (List (Int × Int))) :=
  (cond (List.isEmpty x) (ambO (some ([] : List (Int × Int))) (cond (not true) (some ([] : List (Int × Int))) (bindO (guardO (lenOk ((List.length ([] : List (Int × Int))) + (List.length x)))) (fun (a0 : Unit) => (bindO (some (([] : List (Int × Int)) ++ x)) (fun (a1 : (List (Int × Int))) => (some a1))))))) (cond (not true) (some ([] : List (Int × Int))) (bindO (guardO (lenOk ((List.length ([] : List (Int × Int))) + (List.length x)))) (fun (a2 : Unit) => (bindO (some (([] : List (Int × Int)) ++ x)) (fun (a3 : (List (Int × Int))) => (some a3)))))))

noncomputable def c_slices_Clone_sI_Cipher_I_Cipher : Con0 := ⟨pk_slices_Clone_sI_Cipher_I_Cipher, rk_slices_Clone_sI_Cipher_I_Cipher, M_slices_Clone_sI_Cipher_I_Cipher⟩

set_option maxRecDepth 100000 in
theorem eq_slices_Clone_sI_Cipher_I_Cipher (x : In pk_slices_Clone_sI_Cipher_I_Cipher) : semF (mkE []) h_slices_Clone_sI_Cipher_I_Cipher (info Tryz.f46) pk_slices_Clone_sI_Cipher_I_Cipher rk_slices_Clone_sI_Cipher_I_Cipher x = M_slices_Clone_sI_Cipher_I_Cipher x := (semFF_eq _ _ _ _ _ _).symm.trans (by kernel_rfl)

set_option maxRecDepth 100000 in
theorem m_slices_Clone_sI_Cipher_I_Cipher : ConOK Tryz.prog 46 c_slices_Clone_sI_Cipher_I_Cipher := fn_ok (tyOK _) (E := mkE []) (consOK_nil rfl) Tryz.func46 (h := h_slices_Clone_sI_Cipher_I_Cipher) (by kernel_rfl) eq_slices_Clone_sI_Cipher_I_Cipher

/-- I_mixList -/
def pk_I_mixList : List PK := [.data (.int .i64), .data (.sl (.cons (.int .i64) (.one (.int .i64)))), .data (.sl (.cons (.int .i64) (.one (.int .i64)))), .data (.sl (.int .i64))]
def rk_I_mixList : List (Ty × Bool) := [((.sl (.int .i64)), true)]
def h_I_mixList : Hints := { loops := [(0, { items := [.slot 9 (.own (.int .i64) true), .slot 19 (.data (.int .i64) [])], kill := [0, 1, 2] ++ (sgN 4 5 ++ (sgN 10 7 ++ (sgN 20 14))) })] }
noncomputable def M_I_mixList (x : (Int × ((List (Int × Int)) × ((List (Int × Int)) × (List Int))))) : (Option (List Int)) :=
  (bindO (M_slices_Clone_sI_Cipher_I_Cipher x.2.1) (fun (a0 : (List (Int × Int))) => (bindO (guardO (lenOk ((List.length a0) + (List.length x.2.2.1)))) (fun (a1 : Unit) => (bindO (some (a0 ++ x.2.2.1)) (fun (a2 : (List (Int × Int))) => (loopO (fun (again3 : (((List Int) × Int) → (Option (List Int)))) => (fun (s4 : ((List Int) × Int)) => (cond (decide (s4.2 < (((List.length a2) : Nat) : Int))) (bindO (getI a2 s4.2) (fun (a5 : (Int × Int)) => (bindO (guardO (lenOk ((List.length s4.1) + (List.length (a5.1 :: (a5.2 :: ([] : List Int))))))) (fun (a6 : Unit) => (bindO (some (s4.1 ++ (a5.1 :: (a5.2 :: ([] : List Int))))) (fun (a7 : (List Int)) => (bindO (some (IntKind.wrap .i64 (s4.2 + (1 : Int)))) (fun (a8 : Int) => (again3 (a7, a8)))))))))) (bindO (guardO (lenOk ((List.length s4.1) + (List.length x.2.2.2)))) (fun (a9 : Unit) => (bindO (some (s4.1 ++ x.2.2.2)) (fun (a10 : (List Int)) => (some a10)))))))) ((x.1 :: ([] : List Int)), (0 : Int)))))))))

noncomputable def c_I_mixList : Con0 := ⟨pk_I_mixList, rk_I_mixList, M_I_mixList⟩

set_option maxRecDepth 100000 in
theorem eq_I_mixList (x : In pk_I_mixList) : semF (mkE [(46, c_slices_Clone_sI_Cipher_I_Cipher)]) h_I_mixList (info Tryz.f120) pk_I_mixList rk_I_mixList x = M_I_mixList x := (semFF_eq _ _ _ _ _ _).symm.trans (by kernel_rfl)

set_option maxRecDepth 100000 in
theorem m_I_mixList : ConOK Tryz.prog 120 c_I_mixList := fn_ok (tyOK _) (E := mkE [(46, c_slices_Clone_sI_Cipher_I_Cipher)]) (consOK_cons m_slices_Clone_sI_Cipher_I_Cipher (consOK_nil rfl)) Tryz.func120 (h := h_I_mixList) (by kernel_rfl) eq_I_mixList

/-- slices_Clone_sint_int -/
def pk_slices_Clone_sint_int : List PK := [.data (.sl (.int .i64))]
def rk_slices_Clone_sint_int : List (Ty × Bool) := [((.sl (.int .i64)), true)]
def h_slices_Clone_sint_int : Hints := { loops := [] }
noncomputable def M_slices_Clone_sint_int (x : (List Int)) : (Option (List Int)) :=
  (cond (List.isEmpty x) (ambO (some ([] : List Int)) (cond (not true) (some ([] : List Int)) (bindO (guardO (lenOk ((List.length ([] : List Int)) + (List.length x)))) (fun (a0 : Unit) => (bindO (some (([] : List Int) ++ x)) (fun (a1 : (List Int)) => (some a1))))))) (cond (not true) (some ([] : List Int)) (bindO (guardO (lenOk ((List.length ([] : List Int)) + (List.length x)))) (fun (a2 : Unit) => (bindO (some (([] : List Int) ++ x)) (fun (a3 : (List Int)) => (some a3)))))))

noncomputable def c_slices_Clone_sint_int : Con0 := ⟨pk_slices_Clone_sint_int, rk_slices_Clone_sint_int, M_slices_Clone_sint_int⟩

set_option maxRecDepth 100000 in
theorem eq_slices_Clone_sint_int (x : In pk_slices_Clone_sint_int) : semF (mkE []) h_slices_Clone_sint_int (info Tryz.f132) pk_slices_Clone_sint_int rk_slices_Clone_sint_int x = M_slices_Clone_sint_int x := (semFF_eq _ _ _ _ _ _).symm.trans (by kernel_rfl)

set_option maxRecDepth 100000 in
theorem m_slices_Clone_sint_int : ConOK Tryz.prog 132 c_slices_Clone_sint_int := fn_ok (tyOK _) (E := mkE []) (consOK_nil rfl) Tryz.func132 (h := h_slices_Clone_sint_int) (by kernel_rfl) eq_slices_Clone_sint_int

/-- I_Group_challenge -/
def pk_I_Group_challenge : List PK := [.data (.cons (.int .i64) (.cons (.int .i64) (.one (.int .i64)))), .data .str, .data (.sl (.int .i64))]
def rk_I_Group_challenge : List (Ty × Bool) := [((.int .i64), false), (.bool, false)]
def h_I_Group_challenge : Hints := { loops := [] }
noncomputable def M_I_Group_challenge (x : ((Int × (Int × Int)) × (ByteArray × (List Int)))) : (Option (Int × Bool)) :=
  (bindO (guardO (lenOk ((List.length (x.1.1 :: (x.1.2.1 :: (x.1.2.2 :: ([] : List Int))))) + (List.length x.2.2)))) (fun (a0 : Unit) => (bindO (some ((x.1.1 :: (x.1.2.1 :: (x.1.2.2 :: ([] : List Int)))) ++ x.2.2)) (fun (a1 : (List Int)) => (bindO (M_I_HashLabelled (x.2.1, a1)) (fun (a2 : (Int × Bool)) => (cond (not a2.2) (some ((0 : Int), false)) (bindO (guardO (x.1.2.1 != (0 : Int))) (fun (a3 : Unit) => (bindO (some (Int.tmod a2.1 x.1.2.1)) (fun (a4 : Int) => (some (a4, true)))))))))))))

noncomputable def c_I_Group_challenge : Con0 := ⟨pk_I_Group_challenge, rk_I_Group_challenge, M_I_Group_challenge⟩

set_option maxRecDepth 100000 in
theorem eq_I_Group_challenge (x : In pk_I_Group_challenge) : semF (mkE [(178, c_I_HashLabelled)]) h_I_Group_challenge (info Tryz.f122) pk_I_Group_challenge rk_I_Group_challenge x = M_I_Group_challenge x := (semFF_eq _ _ _ _ _ _).symm.trans (by kernel_rfl)

set_option maxRecDepth 100000 in
theorem m_I_Group_challenge : ConOK Tryz.prog 122 c_I_Group_challenge := fn_ok (tyOK _) (E := mkE [(178, c_I_HashLabelled)]) (consOK_cons m_I_HashLabelled (consOK_nil rfl)) Tryz.func122 (h := h_I_Group_challenge) (by kernel_rfl) eq_I_Group_challenge

/-- I_Group_challenges -/
def pk_I_Group_challenges : List PK := [.data (.cons (.int .i64) (.cons (.int .i64) (.one (.int .i64)))), .data .str, .data (.sl (.int .i64)), .data (.int .i64)]
def rk_I_Group_challenges : List (Ty × Bool) := [((.sl (.int .i64)), true), (.bool, false)]
def h_I_Group_challenges : Hints := { loops := [(0, { items := [.slot 10 (.own (.int .i64) true), .slot 17 (.data (.int .i64) [])], kill := [0] ++ (sgN 5 5 ++ (sgN 11 5 ++ (sgN 18 23))) })] }
noncomputable def M_I_Group_challenges (x : ((Int × (Int × Int)) × (ByteArray × ((List Int) × Int)))) : (Option ((List Int) × Bool)) :=
  (loopO (fun (again0 : (((List Int) × Int) → (Option ((List Int) × Bool)))) => (fun (s1 : ((List Int) × Int)) => (cond (decide (s1.2 < (if (x.2.2.2 < (1 : Int)) then (1 : Int) else x.2.2.2))) (bindO (M_slices_Clone_sint_int x.2.2.1) (fun (a2 : (List Int)) => (bindO (guardO (lenOk ((List.length a2) + (List.length (s1.2 :: ([] : List Int)))))) (fun (a3 : Unit) => (bindO (some (a2 ++ (s1.2 :: ([] : List Int)))) (fun (a4 : (List Int)) => (bindO (M_I_Group_challenge ((x.1.1, (x.1.2.1, x.1.2.2)), (x.2.1, a4))) (fun (a5 : (Int × Bool)) => (cond (not a5.2) (some (([] : List Int), false)) (bindO (guardO (lenOk ((List.length s1.1) + (List.length (a5.1 :: ([] : List Int)))))) (fun (a6 : Unit) => (bindO (some (s1.1 ++ (a5.1 :: ([] : List Int)))) (fun (a7 : (List Int)) => (bindO (some (IntKind.wrap .i64 (s1.2 + (1 : Int)))) (fun (a8 : Int) => (again0 (a7, a8))))))))))))))))) (bindO (sliceNH x.2.2.2 (List.length s1.1)) (fun (a9 : (Nat × Nat)) => (some ((List.take a9.2 s1.1), true))))))) (([] : List Int), (0 : Int)))

noncomputable def c_I_Group_challenges : Con0 := ⟨pk_I_Group_challenges, rk_I_Group_challenges, M_I_Group_challenges⟩

set_option maxRecDepth 100000 in
theorem eq_I_Group_challenges (x : In pk_I_Group_challenges) : semF (mkE [(132, c_slices_Clone_sint_int), (122, c_I_Group_challenge)]) h_I_Group_challenges (info Tryz.f121) pk_I_Group_challenges rk_I_Group_challenges x = M_I_Group_challenges x := (semFF_eq _ _ _ _ _ _).symm.trans (by kernel_rfl)

set_option maxRecDepth 100000 in
theorem m_I_Group_challenges : ConOK Tryz.prog 121 c_I_Group_challenges := fn_ok (tyOK _) (E := mkE [(132, c_slices_Clone_sint_int), (122, c_I_Group_challenge)]) (consOK_cons m_slices_Clone_sint_int (consOK_cons m_I_Group_challenge (consOK_nil rfl))) Tryz.func121 (h := h_I_Group_challenges) (by kernel_rfl) eq_I_Group_challenges

/-- I_at -/
def pk_I_at : List PK := [.data (.sl (.int .i64)), .data (.sl (.int .i64))]
def rk_I_at : List (Ty × Bool) := [((.sl (.int .i64)), true)]
def h_I_at : Hints := { loops := [(0, { items := [.slot 5 (.own (.int .i64) true), .slot 11 (.data (.int .i64) [])], kill := sgN 1 4 ++ ([6, 7, 8] ++ (sgN 12 12)) })] }
noncomputable def M_I_at (x : ((List Int) × (List Int))) : (Option (List Int)) :=
  (loopO (fun (again0 : (((List Int) × Int) → (Option (List Int)))) => (fun (s1 : ((List Int) × Int)) => (cond (decide (s1.2 < (((List.length x.2) : Nat) : Int))) (bindO (getI x.2 s1.2) (fun (a2 : Int) => (bindO (getI x.1 a2) (fun (a3 : Int) => (bindO (guardO (lenOk ((List.length s1.1) + (List.length (a3 :: ([] : List Int)))))) (fun (a4 : Unit) => (bindO (some (s1.1 ++ (a3 :: ([] : List Int)))) (fun (a5 : (List Int)) => (bindO (some (IntKind.wrap .i64 (s1.2 + (1 : Int)))) (fun (a6 : Int) => (again0 (a5, a6)))))))))))) (some s1.1)))) (([] : List Int), (0 : Int)))

noncomputable def c_I_at : Con0 := ⟨pk_I_at, rk_I_at, M_I_at⟩

set_option maxRecDepth 100000 in
theorem eq_I_at (x : In pk_I_at) : semF (mkE []) h_I_at (info Tryz.f153) pk_I_at rk_I_at x = M_I_at x := (semFF_eq _ _ _ _ _ _).symm.trans (by kernel_rfl)

set_option maxRecDepth 100000 in
theorem m_I_at : ConOK Tryz.prog 153 c_I_at := fn_ok (tyOK _) (E := mkE []) (consOK_nil rfl) Tryz.func153 (h := h_I_at) (by kernel_rfl) eq_I_at

/-- I_Group_chain -/
def pk_I_Group_chain : List PK := [.data (.cons (.int .i64) (.cons (.int .i64) (.one (.int .i64)))), .data (.int .i64), .data (.sl (.int .i64)), .data (.sl (.int .i64))]
def rk_I_Group_chain : List (Ty × Bool) := [((.sl (.int .i64)), true)]
def h_I_Group_chain : Hints := { loops := [(0, { items := [.slot 1 (.data (.int .i64) []), .slot 9 (.own (.int .i64) true), .slot 15 (.data (.int .i64) [])], kill := [0, 2] ++ (sgN 5 4 ++ ([10, 11, 12] ++ (sgN 16 25))) })] }
noncomputable def M_I_Group_chain (x : ((Int × (Int × Int)) × (Int × ((List Int) × (List Int))))) : (Option (List Int)) :=
  (loopO (fun (again0 : ((Int × ((List Int) × Int)) → (Option (List Int)))) => (fun (s1 : (Int × ((List Int) × Int))) => (cond (decide (s1.2.2 < (((List.length x.2.2.1) : Nat) : Int))) (bindO (getI x.2.2.1 s1.2.2) (fun (a2 : Int) => (bindO (getI x.2.2.2 s1.2.2) (fun (a3 : Int) => (bindO (M_I_Group_pow ((x.1.1, (x.1.2.1, x.1.2.2)), (x.1.2.2, a3))) (fun (a4 : Int) => (bindO (M_I_Group_pow ((x.1.1, (x.1.2.1, x.1.2.2)), (s1.1, a2))) (fun (a5 : Int) => (bindO (M_I_Group_mul ((x.1.1, (x.1.2.1, x.1.2.2)), (a4 :: (a5 :: ([] : List Int))))) (fun (a6 : Int) => (bindO (guardO (lenOk ((List.length s1.2.1) + (List.length (a6 :: ([] : List Int)))))) (fun (a7 : Unit) => (bindO (some (s1.2.1 ++ (a6 :: ([] : List Int)))) (fun (a8 : (List Int)) => (bindO (some (IntKind.wrap .i64 (s1.2.2 + (1 : Int)))) (fun (a9 : Int) => (again0 (a6, (a8, a9))))))))))))))))))) (some s1.2.1)))) (x.2.1, (([] : List Int), (0 : Int))))

noncomputable def c_I_Group_chain : Con0 := ⟨pk_I_Group_chain, rk_I_Group_chain, M_I_Group_chain⟩

set_option maxRecDepth 100000 in
theorem eq_I_Group_chain (x : In pk_I_Group_chain) : semF (mkE [(128, c_I_Group_pow), (127, c_I_Group_mul)]) h_I_Group_chain (info Tryz.f154) pk_I_Group_chain rk_I_Group_chain x = M_I_Group_chain x := (semFF_eq _ _ _ _ _ _).symm.trans (by kernel_rfl)

set_option maxRecDepth 100000 in
theorem m_I_Group_chain : ConOK Tryz.prog 154 c_I_Group_chain := fn_ok (tyOK _) (E := mkE [(128, c_I_Group_pow), (127, c_I_Group_mul)]) (consOK_cons m_I_Group_pow (consOK_cons m_I_Group_mul (consOK_nil rfl))) Tryz.func154 (h := h_I_Group_chain) (by kernel_rfl) eq_I_Group_chain

/-- I_Group_exp -/
def pk_I_Group_exp : List PK := [.data (.cons (.int .i64) (.cons (.int .i64) (.one (.int .i64)))), .data (.int .i64)]
def rk_I_Group_exp : List (Ty × Bool) := [((.int .i64), false)]
def h_I_Group_exp : Hints := { loops := [] }
noncomputable def M_I_Group_exp (x : ((Int × (Int × Int)) × Int)) : (Option Int) :=
  (bindO (M_I_mod (x.2, x.1.2.1)) (fun (a0 : Int) => (some a0)))

noncomputable def c_I_Group_exp : Con0 := ⟨pk_I_Group_exp, rk_I_Group_exp, M_I_Group_exp⟩

set_option maxRecDepth 100000 in
theorem eq_I_Group_exp (x : In pk_I_Group_exp) : semF (mkE [(182, c_I_mod)]) h_I_Group_exp (info Tryz.f124) pk_I_Group_exp rk_I_Group_exp x = M_I_Group_exp x := (semFF_eq _ _ _ _ _ _).symm.trans (by kernel_rfl)

set_option maxRecDepth 100000 in
theorem m_I_Group_exp : ConOK Tryz.prog 124 c_I_Group_exp := fn_ok (tyOK _) (E := mkE [(182, c_I_mod)]) (consOK_cons m_I_mod (consOK_nil rfl)) Tryz.func124 (h := h_I_Group_exp) (by kernel_rfl) eq_I_Group_exp

/-- I_sides -/
def pk_I_sides : List PK := [.data (.sl (.cons (.int .i64) (.one (.int .i64))))]
def rk_I_sides : List (Ty × Bool) := [((.sl (.int .i64)), true), ((.sl (.int .i64)), true)]
def h_I_sides : Hints := { loops := [(0, { items := [.slot 4 (.own (.int .i64) true), .slot 5 (.own (.int .i64) true), .slot 12 (.data (.int .i64) [])], kill := sgN 0 4 ++ (sgN 6 4 ++ (sgN 13 16)) })] }
noncomputable def M_I_sides (x : (List (Int × Int))) : (Option ((List Int) × (List Int))) :=
  (loopO (fun (again0 : (((List Int) × ((List Int) × Int)) → (Option ((List Int) × (List Int))))) => (fun (s1 : ((List Int) × ((List Int) × Int))) => (cond (decide (s1.2.2 < (((List.length x) : Nat) : Int))) (bindO (getI x s1.2.2) (fun (a2 : (Int × Int)) => (bindO (guardO (lenOk ((List.length s1.1) + (List.length (a2.1 :: ([] : List Int)))))) (fun (a3 : Unit) => (bindO (some (s1.1 ++ (a2.1 :: ([] : List Int)))) (fun (a4 : (List Int)) => (bindO (guardO (lenOk ((List.length s1.2.1) + (List.length (a2.2 :: ([] : List Int)))))) (fun (a5 : Unit) => (bindO (some (s1.2.1 ++ (a2.2 :: ([] : List Int)))) (fun (a6 : (List Int)) => (bindO (some (IntKind.wrap .i64 (s1.2.2 + (1 : Int)))) (fun (a7 : Int) => (again0 (a4, (a6, a7))))))))))))))) (some (s1.1, s1.2.1))))) (([] : List Int), (([] : List Int), (0 : Int))))

noncomputable def c_I_sides : Con0 := ⟨pk_I_sides, rk_I_sides, M_I_sides⟩

set_option maxRecDepth 100000 in
theorem eq_I_sides (x : In pk_I_sides) : semF (mkE []) h_I_sides (info Tryz.f125) pk_I_sides rk_I_sides x = M_I_sides x := (semFF_eq _ _ _ _ _ _).symm.trans (by kernel_rfl)

set_option maxRecDepth 100000 in
theorem m_I_sides : ConOK Tryz.prog 125 c_I_sides := fn_ok (tyOK _) (E := mkE []) (consOK_nil rfl) Tryz.func125 (h := h_I_sides) (by kernel_rfl) eq_I_sides

/-- I_Group_powers -/
def pk_I_Group_powers : List PK := [.data (.cons (.int .i64) (.cons (.int .i64) (.one (.int .i64)))), .data (.sl (.int .i64)), .data (.sl (.int .i64))]
def rk_I_Group_powers : List (Ty × Bool) := [((.int .i64), false)]
def h_I_Group_powers : Hints := { loops := [(0, { items := [.slot 7 (.data (.int .i64) []), .slot 12 (.data (.int .i64) [])], kill := [0, 1, 4, 5, 6, 8, 9] ++ (sgN 13 17) })] }
noncomputable def M_I_Group_powers (x : ((Int × (Int × Int)) × ((List Int) × (List Int)))) : (Option Int) :=
  (loopO (fun (again0 : ((Int × Int) → (Option Int))) => (fun (s1 : (Int × Int)) => (cond (decide (s1.2 < (((List.length x.2.1) : Nat) : Int))) (bindO (getI x.2.1 s1.2) (fun (a2 : Int) => (bindO (getI x.2.2 s1.2) (fun (a3 : Int) => (bindO (M_I_Group_pow ((x.1.1, (x.1.2.1, x.1.2.2)), (a2, a3))) (fun (a4 : Int) => (bindO (M_I_Group_mul ((x.1.1, (x.1.2.1, x.1.2.2)), (s1.1 :: (a4 :: ([] : List Int))))) (fun (a5 : Int) => (bindO (some (IntKind.wrap .i64 (s1.2 + (1 : Int)))) (fun (a6 : Int) => (again0 (a5, a6)))))))))))) (some s1.1)))) ((1 : Int), (0 : Int)))

noncomputable def c_I_Group_powers : Con0 := ⟨pk_I_Group_powers, rk_I_Group_powers, M_I_Group_powers⟩

set_option maxRecDepth 100000 in
theorem eq_I_Group_powers (x : In pk_I_Group_powers) : semF (mkE [(128, c_I_Group_pow), (127, c_I_Group_mul)]) h_I_Group_powers (info Tryz.f130) pk_I_Group_powers rk_I_Group_powers x = M_I_Group_powers x := (semFF_eq _ _ _ _ _ _).symm.trans (by kernel_rfl)

set_option maxRecDepth 100000 in
theorem m_I_Group_powers : ConOK Tryz.prog 130 c_I_Group_powers := fn_ok (tyOK _) (E := mkE [(128, c_I_Group_pow), (127, c_I_Group_mul)]) (consOK_cons m_I_Group_pow (consOK_cons m_I_Group_mul (consOK_nil rfl))) Tryz.func130 (h := h_I_Group_powers) (by kernel_rfl) eq_I_Group_powers

/-- slices_Grow_sint_int -/
def pk_slices_Grow_sint_int : List PK := [.ow (.sl (.int .i64)), .data (.int .i64)]
def rk_slices_Grow_sint_int : List (Ty × Bool) := [((.sl (.int .i64)), true)]
noncomputable def M_slices_Grow_sint_int (x : ((List Int) × Int)) : (Option (List Int)) :=
  (if 0 ≤ x.2 ∧ (x.1.length : Int) + x.2 ≤ 68719476736 then some x.1 else Option.none)

noncomputable def c_slices_Grow_sint_int : Con0 := ⟨pk_slices_Grow_sint_int, rk_slices_Grow_sint_int, M_slices_Grow_sint_int⟩

def grow_ren : Go.Shelf.Ren := ⟨fun | 4 => 181 | n => n, fun | 0 => 0 | 3 => 3 | 4 => 4 | 9 => 9 | 20 => 20 | 22 => 28 | 25 => 3 | n => n, fun n => n⟩
set_option maxRecDepth 100000 in
theorem grow_lays : Go.Proofs.Lays8.n4 Tryz.prog grow_ren where
  mixed := by kernel_rfl
  f4 := ⟨Tryz.f181.name, of_decide_eq_true (by kernel_rfl), Tryz.func181.trans (congrArg some (by kernel_rfl))⟩
  t0 := Tryz.underlying0
  a0 := Tryz.isAgg0
  z0 := Tryz.sizeOf0
  v0 := Tryz.zeroValue0
  t3 := Tryz.underlying3
  a3 := Tryz.isAgg3
  z3 := Tryz.sizeOf3
  v3 := Tryz.zeroValue3
  t4 := Tryz.underlying4
  a4 := Tryz.isAgg4
  z4 := Tryz.sizeOf4
  v4 := Tryz.zeroValue4
  t9 := Tryz.underlying9
  a9 := Tryz.isAgg9
  z9 := Tryz.sizeOf9
  v9 := Tryz.zeroValue9
  t20 := Tryz.underlying20
  a20 := Tryz.isAgg20
  z20 := Tryz.sizeOf20
  v20 := Tryz.zeroValue20
  t22 := Tryz.underlying28
  a22 := Tryz.isAgg28
  z22 := Tryz.sizeOf28
  v22 := Tryz.zeroValue28

theorem m_slices_Grow_sint_int : ConOK Tryz.prog 181 c_slices_Grow_sint_int := grow_ok ⟨Tryz.f181, Tryz.func181, of_decide_eq_true (by kernel_rfl), by kernel_rfl⟩ (grow_room grow_lays) (grow_more grow_lays (tyOK []) (by kernel_rfl))

/-- slices_Concat_sint_int -/
def pk_slices_Concat_sint_int : List PK := [.data (.sl (.sl (.int .i64)))]
def rk_slices_Concat_sint_int : List (Ty × Bool) := [((.sl (.int .i64)), true)]
def h_slices_Concat_sint_int : Hints := { loops := [(0, { items := [.slot 3 (.data (.int .i64) []), .slot 11 (.data (.int .i64) [])], kill := [1, 2] ++ (sgN 4 5 ++ (sgN 12 24)) }), (2, { items := [.slot 6 (.own (.int .i64) true), .slot 27 (.data (.int .i64) [])], kill := sgN 0 6 ++ (sgN 7 18 ++ (sgN 28 8)) })] }
noncomputable def M_slices_Concat_sint_int (x : (List (List Int))) : (Option (List Int)) :=
  (loopO (fun (again0 : ((Int × Int) → (Option (List Int)))) => (fun (s1 : (Int × Int)) => (cond (decide (s1.2 < (((List.length x) : Nat) : Int))) (bindO (getI x s1.2) (fun (a2 : (List Int)) => (bindO (some (IntKind.wrap .i64 (s1.1 + (((List.length a2) : Nat) : Int)))) (fun (a3 : Int) => (cond (decide (a3 < (0 : Int))) (none : Option (List Int)) (bindO (some (IntKind.wrap .i64 (s1.2 + (1 : Int)))) (fun (a4 : Int) => (again0 (a3, a4))))))))) (bindO (M_slices_Grow_sint_int (([] : List Int), s1.1)) (fun (a5 : (List Int)) => (loopO (fun (again6 : (((List Int) × Int) → (Option (List Int)))) => (fun (s7 : ((List Int) × Int)) => (cond (decide (s7.2 < (((List.length x) : Nat) : Int))) (bindO (getI x s7.2) (fun (a8 : (List Int)) => (bindO (guardO (lenOk ((List.length s7.1) + (List.length a8)))) (fun (a9 : Unit) => (bindO (some (s7.1 ++ a8)) (fun (a10 : (List Int)) => (bindO (some (IntKind.wrap .i64 (s7.2 + (1 : Int)))) (fun (a11 : Int) => (again6 (a10, a11)))))))))) (some s7.1)))) (a5, (0 : Int)))))))) ((0 : Int), (0 : Int)))

noncomputable def c_slices_Concat_sint_int : Con0 := ⟨pk_slices_Concat_sint_int, rk_slices_Concat_sint_int, M_slices_Concat_sint_int⟩

set_option maxRecDepth 100000 in
theorem eq_slices_Concat_sint_int (x : In pk_slices_Concat_sint_int) : semF (mkE [(181, c_slices_Grow_sint_int)]) h_slices_Concat_sint_int (info Tryz.f123) pk_slices_Concat_sint_int rk_slices_Concat_sint_int x = M_slices_Concat_sint_int x := (semFF_eq _ _ _ _ _ _).symm.trans (by kernel_rfl)

set_option maxRecDepth 100000 in
theorem m_slices_Concat_sint_int : ConOK Tryz.prog 123 c_slices_Concat_sint_int := fn_ok (tyOK _) (E := mkE [(181, c_slices_Grow_sint_int)]) (consOK_cons m_slices_Grow_sint_int (consOK_nil rfl)) Tryz.func123 (h := h_slices_Concat_sint_int) (by kernel_rfl) eq_slices_Concat_sint_int

/-- I_sum -/
def pk_I_sum : List PK := [.data (.sl (.int .i64)), .data (.int .i64)]
def rk_I_sum : List (Ty × Bool) := [((.int .i64), false)]
def h_I_sum : Hints := { loops := [(0, { items := [.slot 5 (.data (.int .i64) []), .slot 10 (.data (.int .i64) [])], kill := [0, 2, 3, 4, 6, 7] ++ (sgN 11 10) })] }
noncomputable def M_I_sum (x : ((List Int) × Int)) : (Option Int) :=
  (loopO (fun (again0 : ((Int × Int) → (Option Int))) => (fun (s1 : (Int × Int)) => (cond (decide (s1.2 < (((List.length x.1) : Nat) : Int))) (bindO (getI x.1 s1.2) (fun (a2 : Int) => (bindO (some (IntKind.wrap .i64 (s1.1 + a2))) (fun (a3 : Int) => (bindO (guardO (x.2 != (0 : Int))) (fun (a4 : Unit) => (bindO (some (Int.tmod a3 x.2)) (fun (a5 : Int) => (bindO (some (IntKind.wrap .i64 (s1.2 + (1 : Int)))) (fun (a6 : Int) => (again0 (a5, a6)))))))))))) (some s1.1)))) ((0 : Int), (0 : Int)))

noncomputable def c_I_sum : Con0 := ⟨pk_I_sum, rk_I_sum, M_I_sum⟩

set_option maxRecDepth 100000 in
theorem eq_I_sum (x : In pk_I_sum) : semF (mkE []) h_I_sum (info Tryz.f155) pk_I_sum rk_I_sum x = M_I_sum x := (semFF_eq _ _ _ _ _ _).symm.trans (by kernel_rfl)

set_option maxRecDepth 100000 in
theorem m_I_sum : ConOK Tryz.prog 155 c_I_sum := fn_ok (tyOK _) (E := mkE []) (consOK_nil rfl) Tryz.func155 (h := h_I_sum) (by kernel_rfl) eq_I_sum

/-- I_dot -/
def pk_I_dot : List PK := [.data (.sl (.int .i64)), .data (.sl (.int .i64)), .data (.int .i64)]
def rk_I_dot : List (Ty × Bool) := [((.int .i64), false)]
def h_I_dot : Hints := { loops := [(0, { items := [.slot 7 (.data (.int .i64) []), .slot 11 (.data (.int .i64) [])], kill := sgN 3 4 ++ ([8, 9] ++ (sgN 12 19)) })] }
noncomputable def M_I_dot (x : ((List Int) × ((List Int) × Int))) : (Option Int) :=
  (loopO (fun (again0 : ((Int × Int) → (Option Int))) => (fun (s1 : (Int × Int)) => (cond (decide (s1.2 < (((List.length x.1) : Nat) : Int))) (bindO (getI x.1 s1.2) (fun (a2 : Int) => (bindO (getI x.2.1 s1.2) (fun (a3 : Int) => (bindO (some (IntKind.wrap .i64 (a2 * a3))) (fun (a4 : Int) => (bindO (guardO (x.2.2 != (0 : Int))) (fun (a5 : Unit) => (bindO (some (Int.tmod a4 x.2.2)) (fun (a6 : Int) => (bindO (some (IntKind.wrap .i64 (s1.1 + a6))) (fun (a7 : Int) => (bindO (guardO (x.2.2 != (0 : Int))) (fun (a8 : Unit) => (bindO (some (Int.tmod a7 x.2.2)) (fun (a9 : Int) => (bindO (some (IntKind.wrap .i64 (s1.2 + (1 : Int)))) (fun (a10 : Int) => (again0 (a9, a10)))))))))))))))))))) (some s1.1)))) ((0 : Int), (0 : Int)))

noncomputable def c_I_dot : Con0 := ⟨pk_I_dot, rk_I_dot, M_I_dot⟩

set_option maxRecDepth 100000 in
theorem eq_I_dot (x : In pk_I_dot) : semF (mkE []) h_I_dot (info Tryz.f156) pk_I_dot rk_I_dot x = M_I_dot x := (semFF_eq _ _ _ _ _ _).symm.trans (by kernel_rfl)

set_option maxRecDepth 100000 in
theorem m_I_dot : ConOK Tryz.prog 156 c_I_dot := fn_ok (tyOK _) (E := mkE []) (consOK_nil rfl) Tryz.func156 (h := h_I_dot) (by kernel_rfl) eq_I_dot

/-- I_Group_proveMatrix -/
def pk_I_Group_proveMatrix : List PK := [.data (.cons (.int .i64) (.cons (.int .i64) (.one (.int .i64)))), .data (.cons (.int .i64) (.one (.sl (.int .i64)))), .data (.int .i64), .data (.sl (.cons (.int .i64) (.one (.int .i64)))), .data (.sl (.int .i64)), .data (.sl (.int .i64)), .data (.sl (.int .i64))]
def rk_I_Group_proveMatrix : List (Ty × Bool) := [((.cons (.sl (.int .i64)) (.cons (.sl (.int .i64)) (.one (.cons (.sl (.int .i64)) (.cons (.sl (.int .i64)) (.one (.sl (.int .i64)))))))), true), (.bool, false)]
def h_I_Group_proveMatrix : Hints := { loops := [(0, { items := [.slot 32 (.data (.int .i64) []), .slot 105 (.data (.int .i64) [])], kill := [0, 1, 3, 4, 6] ++ (sgN 9 5 ++ ([15, 17, 30] ++ (sgN 33 71 ++ (sgN 106 224)))) }), (2, { items := [.slot 185 (.data (.int .i64) []), .cell 27 0 (.own (.int .i64) true), .cell 27 1 (.own (.int .i64) true), .cell 27 2 (.own (.int .i64) true), .cell 27 3 (.own (.int .i64) true), .cell 27 4 (.own (.int .i64) true)], kill := sgN 0 5 ++ ([6] ++ (sgN 8 6 ++ ([15, 17, 26, 30, 33, 34, 35] ++ (sgN 37 147 ++ (sgN 186 144))))) }), (4, { items := [.slot 280 (.data (.int .i64) []), .cell 27 0 (.own (.int .i64) true), .cell 27 1 (.own (.int .i64) true), .cell 27 2 (.own (.int .i64) true), .cell 27 3 (.own (.int .i64) true), .cell 27 4 (.own (.int .i64) true)], kill := sgN 0 7 ++ (sgN 8 6 ++ ([15, 17, 18] ++ (sgN 20 4 ++ ([26, 28, 29, 30] ++ (sgN 32 6 ++ (sgN 39 240 ++ (sgN 281 49))))))) }), (6, { items := [.slot 305 (.data (.int .i64) []), .cell 27 0 (.own (.int .i64) true), .cell 27 1 (.own (.int .i64) true), .cell 27 2 (.own (.int .i64) true), .cell 27 3 (.own (.int .i64) true), .cell 27 4 (.own (.int .i64) true)], kill := sgN 0 7 ++ (sgN 8 6 ++ (sgN 15 10 ++ ([26, 28, 29, 30] ++ (sgN 32 6 ++ (sgN 39 265 ++ (sgN 306 24)))))) })] }
noncomputable def M_I_Group_proveMatrix (x : ((Int × (Int × Int)) × ((Int × (List Int)) × (Int × ((List (Int × Int)) × ((List Int) × ((List Int) × (List Int)))))))) : (Option (((List Int) × ((List Int) × ((List Int) × ((List Int) × (List Int))))) × Bool)) :=
  (bindO (M_I_taker_take (x.2.2.2.2.2.2, (((List.length x.2.2.2.1) : Nat) : Int))) (fun (a0 : ((List Int) × (List Int))) => (bindO (M_I_taker_take (a0.2, (((List.length x.2.2.2.1) : Nat) : Int))) (fun (a1 : ((List Int) × (List Int))) => (bindO (M_I_taker_one a1.2) (fun (a2 : (Int × (List Int))) => (bindO (M_I_taker_one a2.2) (fun (a3 : (Int × (List Int))) => (bindO (M_I_taker_one a3.2) (fun (a4 : (Int × (List Int))) => (bindO (M_I_taker_one a4.2) (fun (a5 : (Int × (List Int))) => (bindO (M_I_taker_take (a5.2, (((List.length x.2.2.2.1) : Nat) : Int))) (fun (a6 : ((List Int) × (List Int))) => (bindO (M_I_taker_take (a6.2, (((List.length x.2.2.2.1) : Nat) : Int))) (fun (a7 : ((List Int) × (List Int))) => (bindO (M_I_Group_mix (x.1, (x.2.2.1, (x.2.2.2.1, (x.2.2.2.2.1, x.2.2.2.2.2.1))))) (fun (a8 : (List (Int × Int))) => (bindO (M_I_Group_columnCommits (x.1, (x.2.1, (x.2.2.2.2.1, a0.1)))) (fun (a9 : (List Int)) => (bindO (M_I_mixList (x.2.2.1, (x.2.2.2.1, (a8, a9)))) (fun (a10 : (List Int)) => (bindO (M_I_Group_challenges (x.1, ((bytesOf [109, 105, 120, 32, 99, 111, 108, 117, 109, 110, 115]), (a10, (((List.length x.2.2.2.1) : Nat) : Int))))) (fun (a11 : ((List Int) × Bool)) => (cond (not a11.2) (some ((([] : List Int), (([] : List Int), (([] : List Int), (([] : List Int), ([] : List Int))))), false)) (bindO (M_I_at (a11.1, x.2.2.2.2.1)) (fun (a12 : (List Int)) => (bindO (M_I_Group_chain (x.1, (x.2.1.1, (a12, a1.1)))) (fun (a13 : (List Int)) => (loopO (fun (again14 : ((Int × Int) → (Option (((List Int) × ((List Int) × ((List Int) × ((List Int) × (List Int))))) × Bool)))) => (fun (s15 : (Int × Int)) => (cond (decide (s15.2 < (((List.length x.2.2.2.1) : Nat) : Int))) (bindO (getI a1.1 s15.2) (fun (a16 : Int) => (bindO (getI a12 s15.2) (fun (a17 : Int) => (bindO (some (IntKind.wrap .i64 (a17 * s15.1))) (fun (a18 : Int) => (bindO (some (IntKind.wrap .i64 (a16 + a18))) (fun (a19 : Int) => (bindO (M_I_Group_exp (x.1, a19)) (fun (a20 : Int) => (bindO (some (IntKind.wrap .i64 (s15.2 + (1 : Int)))) (fun (a21 : Int) => (again14 (a20, a21)))))))))))))) (bindO (M_I_sides a8) (fun (a22 : ((List Int) × (List Int))) => (bindO (M_I_Group_pow (x.1, (x.1.2.2, a2.1))) (fun (a23 : Int) => (bindO (M_I_Group_pow (x.1, (x.1.2.2, a3.1))) (fun (a24 : Int) => (bindO (M_I_Group_powers (x.1, (x.2.1.2, a7.1))) (fun (a25 : Int) => (bindO (M_I_Group_mul (x.1, (a24 :: (a25 :: ([] : List Int))))) (fun (a26 : Int) => (bindO (M_I_Group_pow (x.1, (x.1.2.2, a4.1))) (fun (a27 : Int) => (bindO (some (IntKind.wrap .i64 ((0 : Int) - a5.1))) (fun (a28 : Int) => (bindO (M_I_Group_pow (x.1, (x.1.2.2, a28))) (fun (a29 : Int) => (bindO (M_I_Group_powers (x.1, (a22.1, a7.1))) (fun (a30 : Int) => (bindO (M_I_Group_mul (x.1, (a29 :: (a30 :: ([] : List Int))))) (fun (a31 : Int) => (bindO (some (IntKind.wrap .i64 ((0 : Int) - a5.1))) (fun (a32 : Int) => (bindO (M_I_Group_pow (x.1, (x.2.2.1, a32))) (fun (a33 : Int) => (bindO (M_I_Group_powers (x.1, (a22.2, a7.1))) (fun (a34 : Int) => (bindO (M_I_Group_mul (x.1, (a33 :: (a34 :: ([] : List Int))))) (fun (a35 : Int) => (bindO (guardO (lenOk ((List.length (x.2.1.1 :: ([] : List Int))) + (List.length a13)))) (fun (a36 : Unit) => (bindO (some ((x.2.1.1 :: ([] : List Int)) ++ a13)) (fun (a37 : (List Int)) => (loopO (fun (again38 : ((Int × ((List Int) × ((List Int) × ((List Int) × ((List Int) × (List Int)))))) → (Option (((List Int) × ((List Int) × ((List Int) × ((List Int) × (List Int))))) × Bool)))) => (fun (s39 : (Int × ((List Int) × ((List Int) × ((List Int) × ((List Int) × (List Int))))))) => (cond (decide (s39.1 < (((List.length x.2.2.2.1) : Nat) : Int))) (bindO (getI a6.1 s39.1) (fun (a40 : Int) => (bindO (M_I_Group_pow (x.1, (x.1.2.2, a40))) (fun (a41 : Int) => (bindO (getI a37 s39.1) (fun (a42 : Int) => (bindO (getI a7.1 s39.1) (fun (a43 : Int) => (bindO (M_I_Group_pow (x.1, (a42, a43))) (fun (a44 : Int) => (bindO (M_I_Group_mul (x.1, (a41 :: (a44 :: ([] : List Int))))) (fun (a45 : Int) => (bindO (guardO (lenOk ((List.length s39.2.2.2.1) + (List.length (a45 :: ([] : List Int)))))) (fun (a46 : Unit) => (bindO (some (s39.2.2.2.1 ++ (a45 :: ([] : List Int)))) (fun (a47 : (List Int)) => (bindO (some (IntKind.wrap .i64 (s39.1 + (1 : Int)))) (fun (a48 : Int) => (again38 (a48, (s39.2.1, (s39.2.2.1, (a47, s39.2.2.2.2))))))))))))))))))))))) (bindO (M_slices_Concat_sint_int (a10 :: (s39.2.2.1 :: (s39.2.2.2.1 :: ([] : List (List Int)))))) (fun (a49 : (List Int)) => (bindO (M_I_Group_challenge (x.1, ((bytesOf [109, 105, 120, 32, 112, 114, 111, 111, 102]), a49))) (fun (a50 : (Int × Bool)) => (cond (not a50.2) (some ((([] : List Int), (([] : List Int), (([] : List Int), (([] : List Int), ([] : List Int))))), false)) (bindO (M_I_sum (a0.1, x.1.2.1)) (fun (a51 : Int) => (bindO (some (IntKind.wrap .i64 (a50.1 * a51))) (fun (a52 : Int) => (bindO (some (IntKind.wrap .i64 (a2.1 + a52))) (fun (a53 : Int) => (bindO (M_I_Group_exp (x.1, a53)) (fun (a54 : Int) => (bindO (M_I_dot (a0.1, (a11.1, x.1.2.1))) (fun (a55 : Int) => (bindO (some (IntKind.wrap .i64 (a50.1 * a55))) (fun (a56 : Int) => (bindO (some (IntKind.wrap .i64 (a3.1 + a56))) (fun (a57 : Int) => (bindO (M_I_Group_exp (x.1, a57)) (fun (a58 : Int) => (bindO (some (IntKind.wrap .i64 (a50.1 * s15.1))) (fun (a59 : Int) => (bindO (some (IntKind.wrap .i64 (a4.1 + a59))) (fun (a60 : Int) => (bindO (M_I_Group_exp (x.1, a60)) (fun (a61 : Int) => (bindO (M_I_dot (x.2.2.2.2.2.1, (a12, x.1.2.1))) (fun (a62 : Int) => (bindO (some (IntKind.wrap .i64 (a50.1 * a62))) (fun (a63 : Int) => (bindO (some (IntKind.wrap .i64 (a5.1 + a63))) (fun (a64 : Int) => (bindO (M_I_Group_exp (x.1, a64)) (fun (a65 : Int) => (loopO (fun (again66 : ((Int × ((List Int) × ((List Int) × ((List Int) × ((List Int) × (List Int)))))) → (Option (((List Int) × ((List Int) × ((List Int) × ((List Int) × (List Int))))) × Bool)))) => (fun (s67 : (Int × ((List Int) × ((List Int) × ((List Int) × ((List Int) × (List Int))))))) => (cond (decide (s67.1 < (((List.length x.2.2.2.1) : Nat) : Int))) (bindO (getI a6.1 s67.1) (fun (a68 : Int) => (bindO (getI a1.1 s67.1) (fun (a69 : Int) => (bindO (some (IntKind.wrap .i64 (a50.1 * a69))) (fun (a70 : Int) => (bindO (some (IntKind.wrap .i64 (a68 + a70))) (fun (a71 : Int) => (bindO (M_I_Group_exp (x.1, a71)) (fun (a72 : Int) => (bindO (guardO (lenOk ((List.length s67.2.2.2.2.2) + (List.length (a72 :: ([] : List Int)))))) (fun (a73 : Unit) => (bindO (some (s67.2.2.2.2.2 ++ (a72 :: ([] : List Int)))) (fun (a74 : (List Int)) => (bindO (some (IntKind.wrap .i64 (s67.1 + (1 : Int)))) (fun (a75 : Int) => (again66 (a75, (s67.2.1, (s67.2.2.1, (s67.2.2.2.1, (s67.2.2.2.2.1, a74)))))))))))))))))))))) (loopO (fun (again76 : ((Int × ((List Int) × ((List Int) × ((List Int) × ((List Int) × (List Int)))))) → (Option (((List Int) × ((List Int) × ((List Int) × ((List Int) × (List Int))))) × Bool)))) => (fun (s77 : (Int × ((List Int) × ((List Int) × ((List Int) × ((List Int) × (List Int))))))) => (cond (decide (s77.1 < (((List.length x.2.2.2.1) : Nat) : Int))) (bindO (getI a7.1 s77.1) (fun (a78 : Int) => (bindO (getI a12 s77.1) (fun (a79 : Int) => (bindO (some (IntKind.wrap .i64 (a50.1 * a79))) (fun (a80 : Int) => (bindO (some (IntKind.wrap .i64 (a78 + a80))) (fun (a81 : Int) => (bindO (M_I_Group_exp (x.1, a81)) (fun (a82 : Int) => (bindO (guardO (lenOk ((List.length s77.2.2.2.2.2) + (List.length (a82 :: ([] : List Int)))))) (fun (a83 : Unit) => (bindO (some (s77.2.2.2.2.2 ++ (a82 :: ([] : List Int)))) (fun (a84 : (List Int)) => (bindO (some (IntKind.wrap .i64 (s77.1 + (1 : Int)))) (fun (a85 : Int) => (again76 (a85, (s77.2.1, (s77.2.2.1, (s77.2.2.2.1, (s77.2.2.2.2.1, a84)))))))))))))))))))))) (some (s77.2, true))))) ((0 : Int), s67.2))))) ((0 : Int), (s39.2.1, (s39.2.2.1, (s39.2.2.2.1, ((a50.1 :: ([] : List Int)), (a54 :: (a58 :: (a61 :: (a65 :: ([] : List Int))))))))))))))))))))))))))))))))))))))))))))))))) ((0 : Int), (a9, (a13, ((a23 :: (a26 :: (a27 :: (a31 :: (a35 :: ([] : List Int)))))), (([] : List Int), ([] : List Int)))))))))))))))))))))))))))))))))))))))))) ((0 : Int), (0 : Int))))))))))))))))))))))))))))))))

noncomputable def c_I_Group_proveMatrix : Con0 := ⟨pk_I_Group_proveMatrix, rk_I_Group_proveMatrix, M_I_Group_proveMatrix⟩

set_option maxRecDepth 100000 in
theorem eq_I_Group_proveMatrix (x : In pk_I_Group_proveMatrix) : semF (mkE [(134, c_I_taker_take), (135, c_I_taker_one), (67, c_I_Group_mix), (152, c_I_Group_columnCommits), (120, c_I_mixList), (121, c_I_Group_challenges), (153, c_I_at), (154, c_I_Group_chain), (124, c_I_Group_exp), (125, c_I_sides), (128, c_I_Group_pow), (130, c_I_Group_powers), (127, c_I_Group_mul), (123, c_slices_Concat_sint_int), (122, c_I_Group_challenge), (155, c_I_sum), (156, c_I_dot)]) h_I_Group_proveMatrix (info Tryz.f102) pk_I_Group_proveMatrix rk_I_Group_proveMatrix x = M_I_Group_proveMatrix x := (semFF_eq _ _ _ _ _ _).symm.trans (by kernel_rfl)

set_option maxRecDepth 100000 in
theorem m_I_Group_proveMatrix : ConOK Tryz.prog 102 c_I_Group_proveMatrix := fn_ok (tyOK _) (E := mkE [(134, c_I_taker_take), (135, c_I_taker_one), (67, c_I_Group_mix), (152, c_I_Group_columnCommits), (120, c_I_mixList), (121, c_I_Group_challenges), (153, c_I_at), (154, c_I_Group_chain), (124, c_I_Group_exp), (125, c_I_sides), (128, c_I_Group_pow), (130, c_I_Group_powers), (127, c_I_Group_mul), (123, c_slices_Concat_sint_int), (122, c_I_Group_challenge), (155, c_I_sum), (156, c_I_dot)]) (consOK_cons m_I_taker_take (consOK_cons m_I_taker_one (consOK_cons m_I_Group_mix (consOK_cons m_I_Group_columnCommits (consOK_cons m_I_mixList (consOK_cons m_I_Group_challenges (consOK_cons m_I_at (consOK_cons m_I_Group_chain (consOK_cons m_I_Group_exp (consOK_cons m_I_sides (consOK_cons m_I_Group_pow (consOK_cons m_I_Group_powers (consOK_cons m_I_Group_mul (consOK_cons m_slices_Concat_sint_int (consOK_cons m_I_Group_challenge (consOK_cons m_I_sum (consOK_cons m_I_dot (consOK_nil rfl)))))))))))))))))) Tryz.func102 (h := h_I_Group_proveMatrix) (by kernel_rfl) eq_I_Group_proveMatrix

end Go.Proofs.YtjmpdejigkjaoaaGreat.Vd
