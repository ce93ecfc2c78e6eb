/- The functions of the law as plain functions on data, and that the program's functions are these. No conditions. -/
import Derived.Test.YtjmpdejigkjaoaaGreatVdS
import Derived.Test.YtjmpdejigkjaoaaGreatChecked
import Derived.KernelRfl
set_option linter.unusedVariables false
namespace Go.Proofs.YtjmpdejigkjaoaaGreat.Vd
def tys : List (Option Ty) := [none, none, some (.int .i64), some (.int .i64), some .bool, some (.int .u8), some (.int .u8), some (.cons (.int .i64) (.cons (.int .i64) (.cons .bool (.one (.int .u8))))), some (.cons (.int .i64) (.cons (.int .i64) (.cons .bool (.one (.int .u8))))), some .str, some .str, some .str, some (.int .u64), some (.cons .str (.one (.int .u64))), some (.cons .str (.one (.int .u64))), none, none, none, none, none, none, some (.int .i32), some (.cons (.int .i64) (.cons (.int .i64) (.one (.int .i64)))), some (.cons (.int .i64) (.cons (.int .i64) (.one (.int .i64)))), some (.sl (.cons (.int .i64) (.one (.int .i64)))), some (.sl (.cons (.int .i64) (.cons (.sl (.cons (.int .i64) (.one (.int .i64)))) (.cons (.cons (.sl (.int .i64)) (.cons (.sl (.int .i64)) (.one (.cons (.sl (.int .i64)) (.cons (.sl (.int .i64)) (.one (.sl (.int .i64)))))))) (.one (.cons (.sl (.int .i64)) (.cons (.sl (.int .i64)) (.cons (.sl (.int .i64)) (.one (.cons (.sl (.int .i64)) (.cons (.sl (.int .i64)) (.one (.sl (.int .i64)))))))))))))), none, none, some (.sl (.int .i64)), some (.sl (.cons (.int .i64) (.one (.int .i64)))), none, none, some (.cons (.int .i64) (.cons (.int .i64) (.one (.int .i64)))), none, none, some (.sl (.cons (.int .i64) (.cons (.sl (.cons (.int .i64) (.one (.int .i64)))) (.cons (.cons (.sl (.int .i64)) (.cons (.sl (.int .i64)) (.one (.cons (.sl (.int .i64)) (.cons (.sl (.int .i64)) (.one (.sl (.int .i64)))))))) (.one (.cons (.sl (.int .i64)) (.cons (.sl (.int .i64)) (.cons (.sl (.int .i64)) (.one (.cons (.sl (.int .i64)) (.cons (.sl (.int .i64)) (.one (.sl (.int .i64)))))))))))))), none, none, none, none, none, none, none, none, some (.cons (.sl (.int .i64)) (.cons (.sl (.int .i64)) (.one (.sl (.int .i64))))), some (.cons (.sl (.int .i64)) (.cons (.sl (.int .i64)) (.one (.sl (.int .i64))))), some (.cons (.sl (.int .i64)) (.cons (.sl (.int .i64)) (.one (.cons (.sl (.int .i64)) (.cons (.sl (.int .i64)) (.one (.sl (.int .i64)))))))), some (.cons (.sl (.int .i64)) (.cons (.sl (.int .i64)) (.one (.cons (.sl (.int .i64)) (.cons (.sl (.int .i64)) (.one (.sl (.int .i64)))))))), some (.cons (.sl (.int .i64)) (.cons (.sl (.int .i64)) (.cons (.sl (.int .i64)) (.one (.cons (.sl (.int .i64)) (.cons (.sl (.int .i64)) (.one (.sl (.int .i64))))))))), some (.cons (.sl (.int .i64)) (.cons (.sl (.int .i64)) (.cons (.sl (.int .i64)) (.one (.cons (.sl (.int .i64)) (.cons (.sl (.int .i64)) (.one (.sl (.int .i64))))))))), some (.cons (.int .i64) (.cons (.sl (.cons (.int .i64) (.one (.int .i64)))) (.cons (.cons (.sl (.int .i64)) (.cons (.sl (.int .i64)) (.one (.cons (.sl (.int .i64)) (.cons (.sl (.int .i64)) (.one (.sl (.int .i64)))))))) (.one (.cons (.sl (.int .i64)) (.cons (.sl (.int .i64)) (.cons (.sl (.int .i64)) (.one (.cons (.sl (.int .i64)) (.cons (.sl (.int .i64)) (.one (.sl (.int .i64))))))))))))), some (.cons (.int .i64) (.cons (.sl (.cons (.int .i64) (.one (.int .i64)))) (.cons (.cons (.sl (.int .i64)) (.cons (.sl (.int .i64)) (.one (.cons (.sl (.int .i64)) (.cons (.sl (.int .i64)) (.one (.sl (.int .i64)))))))) (.one (.cons (.sl (.int .i64)) (.cons (.sl (.int .i64)) (.cons (.sl (.int .i64)) (.one (.cons (.sl (.int .i64)) (.cons (.sl (.int .i64)) (.one (.sl (.int .i64))))))))))))), none, none, none, some (.cons (.sl (.int .i64)) (.cons (.sl (.int .i64)) (.one (.sl (.int .i64))))), some (.cons (.sl (.int .i64)) (.cons (.sl (.int .i64)) (.one (.cons (.sl (.int .i64)) (.cons (.sl (.int .i64)) (.one (.sl (.int .i64)))))))), some (.cons (.sl (.int .i64)) (.cons (.sl (.int .i64)) (.one (.cons (.sl (.int .i64)) (.cons (.sl (.int .i64)) (.one (.sl (.int .i64)))))))), some (.cons (.sl (.int .i64)) (.cons (.sl (.int .i64)) (.cons (.sl (.int .i64)) (.one (.cons (.sl (.int .i64)) (.cons (.sl (.int .i64)) (.one (.sl (.int .i64))))))))), some (.cons (.sl (.int .i64)) (.cons (.sl (.int .i64)) (.cons (.sl (.int .i64)) (.one (.cons (.sl (.int .i64)) (.cons (.sl (.int .i64)) (.one (.sl (.int .i64))))))))), some (.cons (.int .i64) (.cons (.sl (.cons (.int .i64) (.one (.int .i64)))) (.cons (.cons (.sl (.int .i64)) (.cons (.sl (.int .i64)) (.one (.cons (.sl (.int .i64)) (.cons (.sl (.int .i64)) (.one (.sl (.int .i64)))))))) (.one (.cons (.sl (.int .i64)) (.cons (.sl (.int .i64)) (.cons (.sl (.int .i64)) (.one (.cons (.sl (.int .i64)) (.cons (.sl (.int .i64)) (.one (.sl (.int .i64))))))))))))), some (.cons (.int .i64) (.cons (.sl (.cons (.int .i64) (.one (.int .i64)))) (.cons (.cons (.sl (.int .i64)) (.cons (.sl (.int .i64)) (.one (.cons (.sl (.int .i64)) (.cons (.sl (.int .i64)) (.one (.sl (.int .i64)))))))) (.one (.cons (.sl (.int .i64)) (.cons (.sl (.int .i64)) (.cons (.sl (.int .i64)) (.one (.cons (.sl (.int .i64)) (.cons (.sl (.int .i64)) (.one (.sl (.int .i64))))))))))))), none, none, none, none, none, none, none, none, none, none, some (.sl (.sl (.int .i64))), none, none, none, none, none, none, none, none, some (.cons (.int .i64) (.one (.int .i64))), some (.cons (.int .i64) (.one (.int .i64))), none, some (.cons (.int .i64) (.one (.int .i64))), some (.cons (.int .i64) (.one (.sl (.int .i64)))), some (.cons (.int .i64) (.one (.sl (.int .i64)))), none, none, none, none, none, none, none, none, none, none, none, none, none, none, none, none, none, none, none, none, none, none, none, none, none, none, none, none, none, none, none, none, none, none, none, none, none, none, none, none, none, none, none, none, none, none, none, none, none, none, none, none, none, none, none, none, none, none, none, none, none, none, none, none, none, none, none, none, none, none, none, none, some (.one (.sl (.int .i64))), some (.one (.sl (.int .i64))), none, none, none, none, none, none, none, none, none, none, none, none, none, none, none, none, none, some (.cons (.sl (.int .i64)) (.cons (.sl (.int .i64)) (.cons (.sl (.int .i64)) (.cons (.sl (.int .i64)) (.one (.sl (.int .i64))))))), none, none, none, none, none, none, none, none, none, none, none, none, none, none, none, none, none, none, some (.int .u64), none, none, none, none, none, none, none, none, none, none, none, none, some (.cons (.int .i64) (.one (.int .i64))), some (.cons (.int .i64) (.one (.int .i64))), none, none, none, none, none, none, none, some (.int .u32), some (.int .u8), some (.int .u8), none, none, some (.int .i32), some (.int .i32), none, none, none]
def others : List Nat := [1, 15, 16, 17, 26, 27, 31, 33, 34, 36, 37, 38, 39, 40, 41, 42, 43, 52, 54, 62, 63, 64, 66, 68, 69, 70, 71, 73, 75, 76, 77, 78, 79, 80, 83, 88, 89, 90, 91, 92, 93, 94, 95, 96, 97, 98, 99, 100, 101, 102, 103, 104, 105, 106, 107, 108, 110, 112, 113, 114, 115, 116, 117, 118, 119, 120, 121, 122, 123, 124, 125, 126, 127, 128, 129, 130, 131, 132, 133, 134, 135, 137, 138, 139, 140, 141, 142, 143, 144, 145, 146, 147, 148, 149, 150, 152, 153, 154, 155, 157, 158, 161, 162, 163, 164, 165, 166, 167, 168, 169, 170, 171, 172, 173, 174, 175, 176, 177, 179, 180, 181, 182, 183, 184, 185, 186, 187, 188, 189, 190, 192, 193, 194, 195, 196, 198, 199, 200, 201, 202, 203, 204, 205, 206, 207, 208, 209, 212, 213, 222, 223]
def pairs : List Nat := [81, 82, 84, 210, 211]
noncomputable def mkE (con : List (Nat × Con0)) : Env := ⟨[], tys, others, pairs, con⟩

set_option maxRecDepth 100000 in
theorem tyOK (con : List (Nat × Con0)) : TyOK Tryz.prog (mkE con) := tyOK_of (E := mkE con) (by kernel_rfl) (by kernel_rfl) (by kernel_rfl)

/-- L_szCipherS -/
def pk_L_szCipherS : List PK := [.data (.sl (.cons (.int .i64) (.one (.int .i64)))), .data (.int .i64)]
def rk_L_szCipherS : List (Ty × Bool) := [((.int .i64), false)]
def h_L_szCipherS : Hints := { loops := [] }
noncomputable def M_L_szCipherS (x : ((List (Int × Int)) × Int)) : (Option Int) :=
  (bindO (some (IntKind.wrap .i64 (x.2 - (((List.length x.1) : Nat) : Int)))) (fun (a0 : Int) => (cond (decide (a0 < (0 : Int))) (some (- (1 : Int))) (some a0))))

noncomputable def c_L_szCipherS : Con0 := ⟨pk_L_szCipherS, rk_L_szCipherS, M_L_szCipherS⟩

set_option maxRecDepth 100000 in
theorem eq_L_szCipherS (x : In pk_L_szCipherS) : semF (mkE []) h_L_szCipherS (info Tryz.f8) pk_L_szCipherS rk_L_szCipherS x = M_L_szCipherS x := (semFF_eq _ _ _ _ _ _).symm.trans (by kernel_rfl)

set_option maxRecDepth 100000 in
theorem m_L_szCipherS : ConOK Tryz.prog 8 c_L_szCipherS := fn_ok (tyOK _) (E := mkE []) (consOK_nil rfl) Tryz.func8 (h := h_L_szCipherS) (by kernel_rfl) eq_L_szCipherS

/-- L_szIntS -/
def pk_L_szIntS : List PK := [.data (.sl (.int .i64)), .data (.int .i64)]
def rk_L_szIntS : List (Ty × Bool) := [((.int .i64), false)]
def h_L_szIntS : Hints := { loops := [] }
noncomputable def M_L_szIntS (x : ((List Int) × Int)) : (Option Int) :=
  (bindO (some (IntKind.wrap .i64 (x.2 - (((List.length x.1) : Nat) : Int)))) (fun (a0 : Int) => (cond (decide (a0 < (0 : Int))) (some (- (1 : Int))) (some a0))))

noncomputable def c_L_szIntS : Con0 := ⟨pk_L_szIntS, rk_L_szIntS, M_L_szIntS⟩

set_option maxRecDepth 100000 in
theorem eq_L_szIntS (x : In pk_L_szIntS) : semF (mkE []) h_L_szIntS (info Tryz.f74) pk_L_szIntS rk_L_szIntS x = M_L_szIntS x := (semFF_eq _ _ _ _ _ _).symm.trans (by kernel_rfl)

set_option maxRecDepth 100000 in
theorem m_L_szIntS : ConOK Tryz.prog 74 c_L_szIntS := fn_ok (tyOK _) (E := mkE []) (consOK_nil rfl) Tryz.func74 (h := h_L_szIntS) (by kernel_rfl) eq_L_szIntS

/-- L_szProof -/
def pk_L_szProof : List PK := [.data (.cons (.sl (.int .i64)) (.cons (.sl (.int .i64)) (.one (.sl (.int .i64))))), .data (.int .i64)]
def rk_L_szProof : List (Ty × Bool) := [((.int .i64), false)]
def h_L_szProof : Hints := { loops := [] }
noncomputable def M_L_szProof (x : (((List Int) × ((List Int) × (List Int))) × Int)) : (Option Int) :=
  (bindO (M_L_szIntS (x.1.1, x.2)) (fun (a0 : Int) => (cond (decide (a0 < (0 : Int))) (some (- (1 : Int))) (bindO (M_L_szIntS (x.1.2.1, a0)) (fun (a1 : Int) => (cond (decide (a1 < (0 : Int))) (some (- (1 : Int))) (bindO (M_L_szIntS (x.1.2.2, a1)) (fun (a2 : Int) => (cond (decide (a2 < (0 : Int))) (some (- (1 : Int))) (some a2))))))))))

noncomputable def c_L_szProof : Con0 := ⟨pk_L_szProof, rk_L_szProof, M_L_szProof⟩

set_option maxRecDepth 100000 in
theorem eq_L_szProof (x : In pk_L_szProof) : semF (mkE [(74, c_L_szIntS)]) h_L_szProof (info Tryz.f83) pk_L_szProof rk_L_szProof x = M_L_szProof x := (semFF_eq _ _ _ _ _ _).symm.trans (by kernel_rfl)

set_option maxRecDepth 100000 in
theorem m_L_szProof : ConOK Tryz.prog 83 c_L_szProof := fn_ok (tyOK _) (E := mkE [(74, c_L_szIntS)]) (consOK_cons m_L_szIntS (consOK_nil rfl)) Tryz.func83 (h := h_L_szProof) (by kernel_rfl) eq_L_szProof

/-- L_szMatrixProof -/
def pk_L_szMatrixProof : List PK := [.data (.cons (.sl (.int .i64)) (.cons (.sl (.int .i64)) (.one (.cons (.sl (.int .i64)) (.cons (.sl (.int .i64)) (.one (.sl (.int .i64)))))))), .data (.int .i64)]
def rk_L_szMatrixProof : List (Ty × Bool) := [((.int .i64), false)]
def h_L_szMatrixProof : Hints := { loops := [] }
noncomputable def M_L_szMatrixProof (x : (((List Int) × ((List Int) × ((List Int) × ((List Int) × (List Int))))) × Int)) : (Option Int) :=
  (bindO (M_L_szIntS (x.1.1, x.2)) (fun (a0 : Int) => (cond (decide (a0 < (0 : Int))) (some (- (1 : Int))) (bindO (M_L_szIntS (x.1.2.1, a0)) (fun (a1 : Int) => (cond (decide (a1 < (0 : Int))) (some (- (1 : Int))) (bindO (M_L_szProof ((x.1.2.2.1, (x.1.2.2.2.1, x.1.2.2.2.2)), a1)) (fun (a2 : Int) => (cond (decide (a2 < (0 : Int))) (some (- (1 : Int))) (some a2))))))))))

noncomputable def c_L_szMatrixProof : Con0 := ⟨pk_L_szMatrixProof, rk_L_szMatrixProof, M_L_szMatrixProof⟩

set_option maxRecDepth 100000 in
theorem eq_L_szMatrixProof (x : In pk_L_szMatrixProof) : semF (mkE [(74, c_L_szIntS), (83, c_L_szProof)]) h_L_szMatrixProof (info Tryz.f48) pk_L_szMatrixProof rk_L_szMatrixProof x = M_L_szMatrixProof x := (semFF_eq _ _ _ _ _ _).symm.trans (by kernel_rfl)

set_option maxRecDepth 100000 in
theorem m_L_szMatrixProof : ConOK Tryz.prog 48 c_L_szMatrixProof := fn_ok (tyOK _) (E := mkE [(74, c_L_szIntS), (83, c_L_szProof)]) (consOK_cons m_L_szIntS (consOK_cons m_L_szProof (consOK_nil rfl))) Tryz.func48 (h := h_L_szMatrixProof) (by kernel_rfl) eq_L_szMatrixProof

/-- L_szPolyProof -/
def pk_L_szPolyProof : List PK := [.data (.cons (.sl (.int .i64)) (.cons (.sl (.int .i64)) (.cons (.sl (.int .i64)) (.one (.cons (.sl (.int .i64)) (.cons (.sl (.int .i64)) (.one (.sl (.int .i64))))))))), .data (.int .i64)]
def rk_L_szPolyProof : List (Ty × Bool) := [((.int .i64), false)]
def h_L_szPolyProof : Hints := { loops := [] }
noncomputable def M_L_szPolyProof (x : (((List Int) × ((List Int) × ((List Int) × ((List Int) × ((List Int) × (List Int)))))) × Int)) : (Option Int) :=
  (bindO (M_L_szIntS (x.1.1, x.2)) (fun (a0 : Int) => (cond (decide (a0 < (0 : Int))) (some (- (1 : Int))) (bindO (M_L_szIntS (x.1.2.1, a0)) (fun (a1 : Int) => (cond (decide (a1 < (0 : Int))) (some (- (1 : Int))) (bindO (M_L_szIntS (x.1.2.2.1, a1)) (fun (a2 : Int) => (cond (decide (a2 < (0 : Int))) (some (- (1 : Int))) (bindO (M_L_szProof ((x.1.2.2.2.1, (x.1.2.2.2.2.1, x.1.2.2.2.2.2)), a2)) (fun (a3 : Int) => (cond (decide (a3 < (0 : Int))) (some (- (1 : Int))) (some a3)))))))))))))

noncomputable def c_L_szPolyProof : Con0 := ⟨pk_L_szPolyProof, rk_L_szPolyProof, M_L_szPolyProof⟩

set_option maxRecDepth 100000 in
theorem eq_L_szPolyProof (x : In pk_L_szPolyProof) : semF (mkE [(74, c_L_szIntS), (83, c_L_szProof)]) h_L_szPolyProof (info Tryz.f49) pk_L_szPolyProof rk_L_szPolyProof x = M_L_szPolyProof x := (semFF_eq _ _ _ _ _ _).symm.trans (by kernel_rfl)

set_option maxRecDepth 100000 in
theorem m_L_szPolyProof : ConOK Tryz.prog 49 c_L_szPolyProof := fn_ok (tyOK _) (E := mkE [(74, c_L_szIntS), (83, c_L_szProof)]) (consOK_cons m_L_szIntS (consOK_cons m_L_szProof (consOK_nil rfl))) Tryz.func49 (h := h_L_szPolyProof) (by kernel_rfl) eq_L_szPolyProof

/-- L_szStage -/
def pk_L_szStage : List PK := [.data (.cons (.int .i64) (.cons (.sl (.cons (.int .i64) (.one (.int .i64)))) (.cons (.cons (.sl (.int .i64)) (.cons (.sl (.int .i64)) (.one (.cons (.sl (.int .i64)) (.cons (.sl (.int .i64)) (.one (.sl (.int .i64)))))))) (.one (.cons (.sl (.int .i64)) (.cons (.sl (.int .i64)) (.cons (.sl (.int .i64)) (.one (.cons (.sl (.int .i64)) (.cons (.sl (.int .i64)) (.one (.sl (.int .i64))))))))))))), .data (.int .i64)]
def rk_L_szStage : List (Ty × Bool) := [((.int .i64), false)]
def h_L_szStage : Hints := { loops := [] }
noncomputable def M_L_szStage (x : ((Int × ((List (Int × Int)) × (((List Int) × ((List Int) × ((List Int) × ((List Int) × (List Int))))) × ((List Int) × ((List Int) × ((List Int) × ((List Int) × ((List Int) × (List Int))))))))) × Int)) : (Option Int) :=
  (bindO (M_L_szCipherS (x.1.2.1, x.2)) (fun (a0 : Int) => (cond (decide (a0 < (0 : Int))) (some (- (1 : Int))) (bindO (M_L_szMatrixProof ((x.1.2.2.1.1, (x.1.2.2.1.2.1, (x.1.2.2.1.2.2.1, (x.1.2.2.1.2.2.2.1, x.1.2.2.1.2.2.2.2)))), a0)) (fun (a1 : Int) => (cond (decide (a1 < (0 : Int))) (some (- (1 : Int))) (bindO (M_L_szPolyProof ((x.1.2.2.2.1, (x.1.2.2.2.2.1, (x.1.2.2.2.2.2.1, (x.1.2.2.2.2.2.2.1, (x.1.2.2.2.2.2.2.2.1, x.1.2.2.2.2.2.2.2.2))))), a1)) (fun (a2 : Int) => (cond (decide (a2 < (0 : Int))) (some (- (1 : Int))) (some a2))))))))))

noncomputable def c_L_szStage : Con0 := ⟨pk_L_szStage, rk_L_szStage, M_L_szStage⟩

set_option maxRecDepth 100000 in
theorem eq_L_szStage (x : In pk_L_szStage) : semF (mkE [(8, c_L_szCipherS), (48, c_L_szMatrixProof), (49, c_L_szPolyProof)]) h_L_szStage (info Tryz.f23) pk_L_szStage rk_L_szStage x = M_L_szStage x := (semFF_eq _ _ _ _ _ _).symm.trans (by kernel_rfl)

set_option maxRecDepth 100000 in
theorem m_L_szStage : ConOK Tryz.prog 23 c_L_szStage := fn_ok (tyOK _) (E := mkE [(8, c_L_szCipherS), (48, c_L_szMatrixProof), (49, c_L_szPolyProof)]) (consOK_cons m_L_szCipherS (consOK_cons m_L_szMatrixProof (consOK_cons m_L_szPolyProof (consOK_nil rfl)))) Tryz.func23 (h := h_L_szStage) (by kernel_rfl) eq_L_szStage

/-- L_szStageS -/
def pk_L_szStageS : List PK := [.data (.sl (.cons (.int .i64) (.cons (.sl (.cons (.int .i64) (.one (.int .i64)))) (.cons (.cons (.sl (.int .i64)) (.cons (.sl (.int .i64)) (.one (.cons (.sl (.int .i64)) (.cons (.sl (.int .i64)) (.one (.sl (.int .i64)))))))) (.one (.cons (.sl (.int .i64)) (.cons (.sl (.int .i64)) (.cons (.sl (.int .i64)) (.one (.cons (.sl (.int .i64)) (.cons (.sl (.int .i64)) (.one (.sl (.int .i64)))))))))))))), .data (.int .i64)]
def rk_L_szStageS : List (Ty × Bool) := [((.int .i64), false)]
def h_L_szStageS : Hints := { loops := [(0, { items := [.slot 1 (.data (.int .i64) []), .slot 5 (.data (.int .i64) [])], kill := [2, 3, 4, 6, 7, 8, 9, 10, 11, 12, 13, 14, 15, 16, 17, 18, 19, 20, 21, 22, 23, 24, 25, 26] })] }
noncomputable def M_L_szStageS (x : ((List (Int × ((List (Int × Int)) × (((List Int) × ((List Int) × ((List Int) × ((List Int) × (List Int))))) × ((List Int) × ((List Int) × ((List Int) × ((List Int) × ((List Int) × (List Int)))))))))) × Int)) : (Option Int) :=
  (bindO (some (IntKind.wrap .i64 (x.2 - (((List.length x.1) : Nat) : Int)))) (fun (a0 : Int) => (cond (decide (a0 < (0 : Int))) (some (- (1 : Int))) (loopO (fun (again1 : ((Int × Int) → (Option Int))) => (fun (s2 : (Int × Int)) => (cond (decide (s2.2 < (((List.length x.1) : Nat) : Int))) (bindO (getI x.1 s2.2) (fun (a3 : (Int × ((List (Int × Int)) × (((List Int) × ((List Int) × ((List Int) × ((List Int) × (List Int))))) × ((List Int) × ((List Int) × ((List Int) × ((List Int) × ((List Int) × (List Int)))))))))) => (bindO (M_L_szStage ((a3.1, (a3.2.1, ((a3.2.2.1.1, (a3.2.2.1.2.1, (a3.2.2.1.2.2.1, (a3.2.2.1.2.2.2.1, a3.2.2.1.2.2.2.2)))), (a3.2.2.2.1, (a3.2.2.2.2.1, (a3.2.2.2.2.2.1, (a3.2.2.2.2.2.2.1, (a3.2.2.2.2.2.2.2.1, a3.2.2.2.2.2.2.2.2)))))))), s2.1)) (fun (a4 : Int) => (cond (decide (a4 < (0 : Int))) (some (- (1 : Int))) (bindO (some (IntKind.wrap .i64 (s2.2 + (1 : Int)))) (fun (a5 : Int) => (again1 (a4, a5))))))))) (some s2.1)))) (a0, (0 : Int))))))

noncomputable def c_L_szStageS : Con0 := ⟨pk_L_szStageS, rk_L_szStageS, M_L_szStageS⟩

set_option maxRecDepth 100000 in
theorem eq_L_szStageS (x : In pk_L_szStageS) : semF (mkE [(23, c_L_szStage)]) h_L_szStageS (info Tryz.f9) pk_L_szStageS rk_L_szStageS x = M_L_szStageS x := (semFF_eq _ _ _ _ _ _).symm.trans (by kernel_rfl)

set_option maxRecDepth 100000 in
theorem m_L_szStageS : ConOK Tryz.prog 9 c_L_szStageS := fn_ok (tyOK _) (E := mkE [(23, c_L_szStage)]) (consOK_cons m_L_szStage (consOK_nil rfl)) Tryz.func9 (h := h_L_szStageS) (by kernel_rfl) eq_L_szStageS

/-- L_toGroup -/
def pk_L_toGroup : List PK := [.data (.cons (.int .i64) (.cons (.int .i64) (.one (.int .i64))))]
def rk_L_toGroup : List (Ty × Bool) := [((.cons (.int .i64) (.cons (.int .i64) (.one (.int .i64)))), false)]
def h_L_toGroup : Hints := { loops := [] }
noncomputable def M_L_toGroup (x : (Int × (Int × Int))) : (Option (Int × (Int × Int))) :=
  (some (x.1, (x.2.1, x.2.2)))

noncomputable def c_L_toGroup : Con0 := ⟨pk_L_toGroup, rk_L_toGroup, M_L_toGroup⟩

set_option maxRecDepth 100000 in
theorem eq_L_toGroup (x : In pk_L_toGroup) : semF (mkE []) h_L_toGroup (info Tryz.f11) pk_L_toGroup rk_L_toGroup x = M_L_toGroup x := (semFF_eq _ _ _ _ _ _).symm.trans (by kernel_rfl)

set_option maxRecDepth 100000 in
theorem m_L_toGroup : ConOK Tryz.prog 11 c_L_toGroup := fn_ok (tyOK _) (E := mkE []) (consOK_nil rfl) Tryz.func11 (h := h_L_toGroup) (by kernel_rfl) eq_L_toGroup

/-- L_toCipher -/
def pk_L_toCipher : List PK := [.data (.cons (.int .i64) (.one (.int .i64)))]
def rk_L_toCipher : List (Ty × Bool) := [((.cons (.int .i64) (.one (.int .i64))), false)]
def h_L_toCipher : Hints := { loops := [] }
noncomputable def M_L_toCipher (x : (Int × Int)) : (Option (Int × Int)) :=
  (some (x.1, x.2))

noncomputable def c_L_toCipher : Con0 := ⟨pk_L_toCipher, rk_L_toCipher, M_L_toCipher⟩

set_option maxRecDepth 100000 in
theorem eq_L_toCipher (x : In pk_L_toCipher) : semF (mkE []) h_L_toCipher (info Tryz.f44) pk_L_toCipher rk_L_toCipher x = M_L_toCipher x := (semFF_eq _ _ _ _ _ _).symm.trans (by kernel_rfl)

set_option maxRecDepth 100000 in
theorem m_L_toCipher : ConOK Tryz.prog 44 c_L_toCipher := fn_ok (tyOK _) (E := mkE []) (consOK_nil rfl) Tryz.func44 (h := h_L_toCipher) (by kernel_rfl) eq_L_toCipher

/-- L_toCipherS -/
def pk_L_toCipherS : List PK := [.data (.sl (.cons (.int .i64) (.one (.int .i64))))]
def rk_L_toCipherS : List (Ty × Bool) := [((.sl (.cons (.int .i64) (.one (.int .i64)))), true)]
def h_L_toCipherS : Hints := { loops := [(0, { items := [.slot 4 (.data (.int .i64) []), .arr 3 (.cons (.int .i64) (.one (.int .i64))) true], kill := [1, 2, 5, 6, 7, 8, 9, 10, 11, 12, 13, 14, 15, 16, 17, 18, 19, 20, 21, 22] })] }
noncomputable def M_L_toCipherS (x : (List (Int × Int))) : (Option (List (Int × Int))) :=
  (bindO (guardO (((decide ((0 : Int) ≤ (((List.length x) : Nat) : Int))) && (decide ((((List.length x) : Nat) : Int) ≤ (((List.length x) : Nat) : Int)))) && (decide ((((List.length x) : Nat) : Int) ≤ ((lim : Nat) : Int))))) (fun (a0 : Unit) => (loopO (fun (again1 : ((Int × (List (Int × Int))) → (Option (List (Int × Int))))) => (fun (s2 : (Int × (List (Int × Int)))) => (cond (decide (s2.1 < (((List.length x) : Nat) : Int))) (bindO (getI x s2.1) (fun (a3 : (Int × Int)) => (bindO (M_L_toCipher (a3.1, a3.2)) (fun (a4 : (Int × Int)) => (bindO (getI s2.2 s2.1) (fun (a5 : (Int × Int)) => (bindO (some (List.set s2.2 (Int.toNat s2.1) (a4.1, a4.2))) (fun (a6 : (List (Int × Int))) => (bindO (some (IntKind.wrap .i64 (s2.1 + (1 : Int)))) (fun (a7 : Int) => (again1 (a7, a6)))))))))))) (some s2.2)))) ((0 : Int), (List.replicate (Int.toNat (((List.length x) : Nat) : Int)) ((0 : Int), (0 : Int)))))))

noncomputable def c_L_toCipherS : Con0 := ⟨pk_L_toCipherS, rk_L_toCipherS, M_L_toCipherS⟩

set_option maxRecDepth 100000 in
theorem eq_L_toCipherS (x : In pk_L_toCipherS) : semF (mkE [(44, c_L_toCipher)]) h_L_toCipherS (info Tryz.f12) pk_L_toCipherS rk_L_toCipherS x = M_L_toCipherS x := (semFF_eq _ _ _ _ _ _).symm.trans (by kernel_rfl)

set_option maxRecDepth 100000 in
theorem m_L_toCipherS : ConOK Tryz.prog 12 c_L_toCipherS := fn_ok (tyOK _) (E := mkE [(44, c_L_toCipher)]) (consOK_cons m_L_toCipher (consOK_nil rfl)) Tryz.func12 (h := h_L_toCipherS) (by kernel_rfl) eq_L_toCipherS

/-- L_toIntS -/
def pk_L_toIntS : List PK := [.data (.sl (.int .i64))]
def rk_L_toIntS : List (Ty × Bool) := [((.sl (.int .i64)), true)]
def h_L_toIntS : Hints := { loops := [(0, { items := [.slot 4 (.data (.int .i64) []), .arr 3 (.int .i64) true], kill := [1, 2, 5, 6, 7, 8, 9, 10, 11, 12, 13, 14, 15, 16, 17, 18, 19, 20, 21] })] }
noncomputable def M_L_toIntS (x : (List Int)) : (Option (List Int)) :=
  (bindO (guardO (((decide ((0 : Int) ≤ (((List.length x) : Nat) : Int))) && (decide ((((List.length x) : Nat) : Int) ≤ (((List.length x) : Nat) : Int)))) && (decide ((((List.length x) : Nat) : Int) ≤ ((lim : Nat) : Int))))) (fun (a0 : Unit) => (loopO (fun (again1 : ((Int × (List Int)) → (Option (List Int)))) => (fun (s2 : (Int × (List Int))) => (cond (decide (s2.1 < (((List.length x) : Nat) : Int))) (bindO (getI x s2.1) (fun (a3 : Int) => (bindO (getI s2.2 s2.1) (fun (a4 : Int) => (bindO (some (List.set s2.2 (Int.toNat s2.1) a3)) (fun (a5 : (List Int)) => (bindO (some (IntKind.wrap .i64 (s2.1 + (1 : Int)))) (fun (a6 : Int) => (again1 (a6, a5)))))))))) (some s2.2)))) ((0 : Int), (List.replicate (Int.toNat (((List.length x) : Nat) : Int)) (0 : Int))))))

noncomputable def c_L_toIntS : Con0 := ⟨pk_L_toIntS, rk_L_toIntS, M_L_toIntS⟩

set_option maxRecDepth 100000 in
theorem eq_L_toIntS (x : In pk_L_toIntS) : semF (mkE []) h_L_toIntS (info Tryz.f31) pk_L_toIntS rk_L_toIntS x = M_L_toIntS x := (semFF_eq _ _ _ _ _ _).symm.trans (by kernel_rfl)

set_option maxRecDepth 100000 in
theorem m_L_toIntS : ConOK Tryz.prog 31 c_L_toIntS := fn_ok (tyOK _) (E := mkE []) (consOK_nil rfl) Tryz.func31 (h := h_L_toIntS) (by kernel_rfl) eq_L_toIntS

/-- L_toProof -/
def pk_L_toProof : List PK := [.data (.cons (.sl (.int .i64)) (.cons (.sl (.int .i64)) (.one (.sl (.int .i64)))))]
def rk_L_toProof : List (Ty × Bool) := [((.cons (.sl (.int .i64)) (.cons (.sl (.int .i64)) (.one (.sl (.int .i64))))), true)]
def h_L_toProof : Hints := { loops := [] }
noncomputable def M_L_toProof (x : ((List Int) × ((List Int) × (List Int)))) : (Option ((List Int) × ((List Int) × (List Int)))) :=
  (bindO (M_L_toIntS x.1) (fun (a0 : (List Int)) => (bindO (M_L_toIntS x.2.1) (fun (a1 : (List Int)) => (bindO (M_L_toIntS x.2.2) (fun (a2 : (List Int)) => (some (a0, (a1, a2)))))))))

noncomputable def c_L_toProof : Con0 := ⟨pk_L_toProof, rk_L_toProof, M_L_toProof⟩

set_option maxRecDepth 100000 in
theorem eq_L_toProof (x : In pk_L_toProof) : semF (mkE [(31, c_L_toIntS)]) h_L_toProof (info Tryz.f84) pk_L_toProof rk_L_toProof x = M_L_toProof x := (semFF_eq _ _ _ _ _ _).symm.trans (by kernel_rfl)

set_option maxRecDepth 100000 in
theorem m_L_toProof : ConOK Tryz.prog 84 c_L_toProof := fn_ok (tyOK _) (E := mkE [(31, c_L_toIntS)]) (consOK_cons m_L_toIntS (consOK_nil rfl)) Tryz.func84 (h := h_L_toProof) (by kernel_rfl) eq_L_toProof

/-- L_toMatrixProof -/
def pk_L_toMatrixProof : List PK := [.data (.cons (.sl (.int .i64)) (.cons (.sl (.int .i64)) (.one (.cons (.sl (.int .i64)) (.cons (.sl (.int .i64)) (.one (.sl (.int .i64))))))))]
def rk_L_toMatrixProof : List (Ty × Bool) := [((.cons (.sl (.int .i64)) (.cons (.sl (.int .i64)) (.one (.cons (.sl (.int .i64)) (.cons (.sl (.int .i64)) (.one (.sl (.int .i64)))))))), true)]
def h_L_toMatrixProof : Hints := { loops := [] }
noncomputable def M_L_toMatrixProof (x : ((List Int) × ((List Int) × ((List Int) × ((List Int) × (List Int)))))) : (Option ((List Int) × ((List Int) × ((List Int) × ((List Int) × (List Int)))))) :=
  (bindO (M_L_toIntS x.1) (fun (a0 : (List Int)) => (bindO (M_L_toIntS x.2.1) (fun (a1 : (List Int)) => (bindO (M_L_toProof (x.2.2.1, (x.2.2.2.1, x.2.2.2.2))) (fun (a2 : ((List Int) × ((List Int) × (List Int)))) => (some (a0, (a1, (a2.1, (a2.2.1, a2.2.2)))))))))))

noncomputable def c_L_toMatrixProof : Con0 := ⟨pk_L_toMatrixProof, rk_L_toMatrixProof, M_L_toMatrixProof⟩

set_option maxRecDepth 100000 in
theorem eq_L_toMatrixProof (x : In pk_L_toMatrixProof) : semF (mkE [(31, c_L_toIntS), (84, c_L_toProof)]) h_L_toMatrixProof (info Tryz.f50) pk_L_toMatrixProof rk_L_toMatrixProof x = M_L_toMatrixProof x := (semFF_eq _ _ _ _ _ _).symm.trans (by kernel_rfl)

set_option maxRecDepth 100000 in
theorem m_L_toMatrixProof : ConOK Tryz.prog 50 c_L_toMatrixProof := fn_ok (tyOK _) (E := mkE [(31, c_L_toIntS), (84, c_L_toProof)]) (consOK_cons m_L_toIntS (consOK_cons m_L_toProof (consOK_nil rfl))) Tryz.func50 (h := h_L_toMatrixProof) (by kernel_rfl) eq_L_toMatrixProof

/-- L_toPolyProof -/
def pk_L_toPolyProof : List PK := [.data (.cons (.sl (.int .i64)) (.cons (.sl (.int .i64)) (.cons (.sl (.int .i64)) (.one (.cons (.sl (.int .i64)) (.cons (.sl (.int .i64)) (.one (.sl (.int .i64)))))))))]
def rk_L_toPolyProof : List (Ty × Bool) := [((.cons (.sl (.int .i64)) (.cons (.sl (.int .i64)) (.cons (.sl (.int .i64)) (.one (.cons (.sl (.int .i64)) (.cons (.sl (.int .i64)) (.one (.sl (.int .i64))))))))), true)]
def h_L_toPolyProof : Hints := { loops := [] }
noncomputable def M_L_toPolyProof (x : ((List Int) × ((List Int) × ((List Int) × ((List Int) × ((List Int) × (List Int))))))) : (Option ((List Int) × ((List Int) × ((List Int) × ((List Int) × ((List Int) × (List Int))))))) :=
  (bindO (M_L_toIntS x.1) (fun (a0 : (List Int)) => (bindO (M_L_toIntS x.2.1) (fun (a1 : (List Int)) => (bindO (M_L_toIntS x.2.2.1) (fun (a2 : (List Int)) => (bindO (M_L_toProof (x.2.2.2.1, (x.2.2.2.2.1, x.2.2.2.2.2))) (fun (a3 : ((List Int) × ((List Int) × (List Int)))) => (some (a0, (a1, (a2, (a3.1, (a3.2.1, a3.2.2))))))))))))))

noncomputable def c_L_toPolyProof : Con0 := ⟨pk_L_toPolyProof, rk_L_toPolyProof, M_L_toPolyProof⟩

set_option maxRecDepth 100000 in
theorem eq_L_toPolyProof (x : In pk_L_toPolyProof) : semF (mkE [(31, c_L_toIntS), (84, c_L_toProof)]) h_L_toPolyProof (info Tryz.f51) pk_L_toPolyProof rk_L_toPolyProof x = M_L_toPolyProof x := (semFF_eq _ _ _ _ _ _).symm.trans (by kernel_rfl)

set_option maxRecDepth 100000 in
theorem m_L_toPolyProof : ConOK Tryz.prog 51 c_L_toPolyProof := fn_ok (tyOK _) (E := mkE [(31, c_L_toIntS), (84, c_L_toProof)]) (consOK_cons m_L_toIntS (consOK_cons m_L_toProof (consOK_nil rfl))) Tryz.func51 (h := h_L_toPolyProof) (by kernel_rfl) eq_L_toPolyProof

/-- L_toStage -/
def pk_L_toStage : List PK := [.data (.cons (.int .i64) (.cons (.sl (.cons (.int .i64) (.one (.int .i64)))) (.cons (.cons (.sl (.int .i64)) (.cons (.sl (.int .i64)) (.one (.cons (.sl (.int .i64)) (.cons (.sl (.int .i64)) (.one (.sl (.int .i64)))))))) (.one (.cons (.sl (.int .i64)) (.cons (.sl (.int .i64)) (.cons (.sl (.int .i64)) (.one (.cons (.sl (.int .i64)) (.cons (.sl (.int .i64)) (.one (.sl (.int .i64)))))))))))))]
def rk_L_toStage : List (Ty × Bool) := [((.cons (.int .i64) (.cons (.sl (.cons (.int .i64) (.one (.int .i64)))) (.cons (.cons (.sl (.int .i64)) (.cons (.sl (.int .i64)) (.one (.cons (.sl (.int .i64)) (.cons (.sl (.int .i64)) (.one (.sl (.int .i64)))))))) (.one (.cons (.sl (.int .i64)) (.cons (.sl (.int .i64)) (.cons (.sl (.int .i64)) (.one (.cons (.sl (.int .i64)) (.cons (.sl (.int .i64)) (.one (.sl (.int .i64))))))))))))), true)]
def h_L_toStage : Hints := { loops := [] }
noncomputable def M_L_toStage (x : (Int × ((List (Int × Int)) × (((List Int) × ((List Int) × ((List Int) × ((List Int) × (List Int))))) × ((List Int) × ((List Int) × ((List Int) × ((List Int) × ((List Int) × (List Int)))))))))) : (Option (Int × ((List (Int × Int)) × (((List Int) × ((List Int) × ((List Int) × ((List Int) × (List Int))))) × ((List Int) × ((List Int) × ((List Int) × ((List Int) × ((List Int) × (List Int)))))))))) :=
  (bindO (M_L_toCipherS x.2.1) (fun (a0 : (List (Int × Int))) => (bindO (M_L_toMatrixProof (x.2.2.1.1, (x.2.2.1.2.1, (x.2.2.1.2.2.1, (x.2.2.1.2.2.2.1, x.2.2.1.2.2.2.2))))) (fun (a1 : ((List Int) × ((List Int) × ((List Int) × ((List Int) × (List Int)))))) => (bindO (M_L_toPolyProof (x.2.2.2.1, (x.2.2.2.2.1, (x.2.2.2.2.2.1, (x.2.2.2.2.2.2.1, (x.2.2.2.2.2.2.2.1, x.2.2.2.2.2.2.2.2)))))) (fun (a2 : ((List Int) × ((List Int) × ((List Int) × ((List Int) × ((List Int) × (List Int))))))) => (some (x.1, (a0, ((a1.1, (a1.2.1, (a1.2.2.1, (a1.2.2.2.1, a1.2.2.2.2)))), (a2.1, (a2.2.1, (a2.2.2.1, (a2.2.2.2.1, (a2.2.2.2.2.1, a2.2.2.2.2.2)))))))))))))))

noncomputable def c_L_toStage : Con0 := ⟨pk_L_toStage, rk_L_toStage, M_L_toStage⟩

set_option maxRecDepth 100000 in
theorem eq_L_toStage (x : In pk_L_toStage) : semF (mkE [(12, c_L_toCipherS), (50, c_L_toMatrixProof), (51, c_L_toPolyProof)]) h_L_toStage (info Tryz.f25) pk_L_toStage rk_L_toStage x = M_L_toStage x := (semFF_eq _ _ _ _ _ _).symm.trans (by kernel_rfl)

set_option maxRecDepth 100000 in
theorem m_L_toStage : ConOK Tryz.prog 25 c_L_toStage := fn_ok (tyOK _) (E := mkE [(12, c_L_toCipherS), (50, c_L_toMatrixProof), (51, c_L_toPolyProof)]) (consOK_cons m_L_toCipherS (consOK_cons m_L_toMatrixProof (consOK_cons m_L_toPolyProof (consOK_nil rfl)))) Tryz.func25 (h := h_L_toStage) (by kernel_rfl) eq_L_toStage

/-- L_toStageS -/
def pk_L_toStageS : List PK := [.data (.sl (.cons (.int .i64) (.cons (.sl (.cons (.int .i64) (.one (.int .i64)))) (.cons (.cons (.sl (.int .i64)) (.cons (.sl (.int .i64)) (.one (.cons (.sl (.int .i64)) (.cons (.sl (.int .i64)) (.one (.sl (.int .i64)))))))) (.one (.cons (.sl (.int .i64)) (.cons (.sl (.int .i64)) (.cons (.sl (.int .i64)) (.one (.cons (.sl (.int .i64)) (.cons (.sl (.int .i64)) (.one (.sl (.int .i64))))))))))))))]
def rk_L_toStageS : List (Ty × Bool) := [((.sl (.cons (.int .i64) (.cons (.sl (.cons (.int .i64) (.one (.int .i64)))) (.cons (.cons (.sl (.int .i64)) (.cons (.sl (.int .i64)) (.one (.cons (.sl (.int .i64)) (.cons (.sl (.int .i64)) (.one (.sl (.int .i64)))))))) (.one (.cons (.sl (.int .i64)) (.cons (.sl (.int .i64)) (.cons (.sl (.int .i64)) (.one (.cons (.sl (.int .i64)) (.cons (.sl (.int .i64)) (.one (.sl (.int .i64)))))))))))))), true)]
def h_L_toStageS : Hints := { loops := [(0, { items := [.slot 4 (.data (.int .i64) []), .arr 3 (.cons (.int .i64) (.cons (.sl (.cons (.int .i64) (.one (.int .i64)))) (.cons (.cons (.sl (.int .i64)) (.cons (.sl (.int .i64)) (.one (.cons (.sl (.int .i64)) (.cons (.sl (.int .i64)) (.one (.sl (.int .i64)))))))) (.one (.cons (.sl (.int .i64)) (.cons (.sl (.int .i64)) (.cons (.sl (.int .i64)) (.one (.cons (.sl (.int .i64)) (.cons (.sl (.int .i64)) (.one (.sl (.int .i64))))))))))))) true], kill := [1, 2, 5, 6, 7, 8, 9, 10, 11, 12, 13, 14, 15, 16, 17, 18, 19, 20, 21, 22] })] }
noncomputable def M_L_toStageS (x : (List (Int × ((List (Int × Int)) × (((List Int) × ((List Int) × ((List Int) × ((List Int) × (List Int))))) × ((List Int) × ((List Int) × ((List Int) × ((List Int) × ((List Int) × (List Int))))))))))) : (Option (List (Int × ((List (Int × Int)) × (((List Int) × ((List Int) × ((List Int) × ((List Int) × (List Int))))) × ((List Int) × ((List Int) × ((List Int) × ((List Int) × ((List Int) × (List Int))))))))))) :=
  (bindO (guardO (((decide ((0 : Int) ≤ (((List.length x) : Nat) : Int))) && (decide ((((List.length x) : Nat) : Int) ≤ (((List.length x) : Nat) : Int)))) && (decide ((((List.length x) : Nat) : Int) ≤ ((lim : Nat) : Int))))) (fun (a0 : Unit) => (loopO (fun (again1 : ((Int × (List (Int × ((List (Int × Int)) × (((List Int) × ((List Int) × ((List Int) × ((List Int) × (List Int))))) × ((List Int) × ((List Int) × ((List Int) × ((List Int) × ((List Int) × (List Int))))))))))) → (Option (List (Int × ((List (Int × Int)) × (((List Int) × ((List Int) × ((List Int) × ((List Int) × (List Int))))) × ((List Int) × ((List Int) × ((List Int) × ((List Int) × ((List Int) × (List Int))))))))))))) => (fun (s2 : (Int × (List (Int × ((List (Int × Int)) × (((List Int) × ((List Int) × ((List Int) × ((List Int) × (List Int))))) × ((List Int) × ((List Int) × ((List Int) × ((List Int) × ((List Int) × (List Int)))))))))))) => (cond (decide (s2.1 < (((List.length x) : Nat) : Int))) (bindO (getI x s2.1) (fun (a3 : (Int × ((List (Int × Int)) × (((List Int) × ((List Int) × ((List Int) × ((List Int) × (List Int))))) × ((List Int) × ((List Int) × ((List Int) × ((List Int) × ((List Int) × (List Int)))))))))) => (bindO (M_L_toStage a3) (fun (a4 : (Int × ((List (Int × Int)) × (((List Int) × ((List Int) × ((List Int) × ((List Int) × (List Int))))) × ((List Int) × ((List Int) × ((List Int) × ((List Int) × ((List Int) × (List Int)))))))))) => (bindO (getI s2.2 s2.1) (fun (a5 : (Int × ((List (Int × Int)) × (((List Int) × ((List Int) × ((List Int) × ((List Int) × (List Int))))) × ((List Int) × ((List Int) × ((List Int) × ((List Int) × ((List Int) × (List Int)))))))))) => (bindO (some (List.set s2.2 (Int.toNat s2.1) a4)) (fun (a6 : (List (Int × ((List (Int × Int)) × (((List Int) × ((List Int) × ((List Int) × ((List Int) × (List Int))))) × ((List Int) × ((List Int) × ((List Int) × ((List Int) × ((List Int) × (List Int))))))))))) => (bindO (some (IntKind.wrap .i64 (s2.1 + (1 : Int)))) (fun (a7 : Int) => (again1 (a7, a6)))))))))))) (some s2.2)))) ((0 : Int), (List.replicate (Int.toNat (((List.length x) : Nat) : Int)) ((0 : Int), (([] : List (Int × Int)), ((([] : List Int), (([] : List Int), (([] : List Int), (([] : List Int), ([] : List Int))))), (([] : List Int), (([] : List Int), (([] : List Int), (([] : List Int), (([] : List Int), ([] : List Int))))))))))))))

noncomputable def c_L_toStageS : Con0 := ⟨pk_L_toStageS, rk_L_toStageS, M_L_toStageS⟩

set_option maxRecDepth 100000 in
theorem eq_L_toStageS (x : In pk_L_toStageS) : semF (mkE [(25, c_L_toStage)]) h_L_toStageS (info Tryz.f13) pk_L_toStageS rk_L_toStageS x = M_L_toStageS x := (semFF_eq _ _ _ _ _ _).symm.trans (by kernel_rfl)

set_option maxRecDepth 100000 in
theorem m_L_toStageS : ConOK Tryz.prog 13 c_L_toStageS := fn_ok (tyOK _) (E := mkE [(25, c_L_toStage)]) (consOK_cons m_L_toStage (consOK_nil rfl)) Tryz.func13 (h := h_L_toStageS) (by kernel_rfl) eq_L_toStageS

/-- S_l1In -/
def pk_S_l1In : List PK := [.data (.int .i64), .data (.int .i64), .data (.int .i64)]
def rk_S_l1In : List (Ty × Bool) := [(.bool, false)]
def h_S_l1In : Hints := { loops := [] }
noncomputable def M_S_l1In (x : (Int × (Int × Int))) : (Option Bool) :=
  (cond (decide (x.1 ≥ x.2.1)) (some (decide (x.1 ≤ x.2.2))) (some false))

noncomputable def c_S_l1In : Con0 := ⟨pk_S_l1In, rk_S_l1In, M_S_l1In⟩

set_option maxRecDepth 100000 in
theorem eq_S_l1In (x : In pk_S_l1In) : semF (mkE []) h_S_l1In (info Tryz.f91) pk_S_l1In rk_S_l1In x = M_S_l1In x := (semFF_eq _ _ _ _ _ _).symm.trans (by kernel_rfl)

set_option maxRecDepth 100000 in
theorem m_S_l1In : ConOK Tryz.prog 91 c_S_l1In := fn_ok (tyOK _) (E := mkE []) (consOK_nil rfl) Tryz.func91 (h := h_S_l1In) (by kernel_rfl) eq_S_l1In

/-- S_nPower -/
def pk_S_nPower : List PK := [.data (.int .i64), .data (.int .i64), .data (.int .i64)]
def rk_S_nPower : List (Ty × Bool) := [((.int .i64), false)]
def h_S_nPower : Hints := { loops := [(0, { items := [.slot 0 (.data (.int .i64) []), .slot 1 (.data (.int .i64) []), .slot 7 (.data (.int .i64) [])], kill := [3, 4, 5, 6, 8, 9, 10, 11, 12, 13, 14, 15, 16, 17, 18, 19, 20, 21, 22, 23, 24, 25, 26, 27] })] }
noncomputable def M_S_nPower (x : (Int × (Int × Int))) : (Option Int) :=
  (bindO (guardO (x.2.2 != (0 : Int))) (fun (a0 : Unit) => (bindO (some (Int.tmod (1 : Int) x.2.2)) (fun (a1 : Int) => (loopO (fun (again2 : ((Int × (Int × Int)) → (Option Int))) => (fun (s3 : (Int × (Int × Int))) => (cond (decide (s3.2.1 > (0 : Int))) (bindO (guardO ((2 : Int) != (0 : Int))) (fun (a4 : Unit) => (bindO (some (Int.tmod s3.2.1 (2 : Int))) (fun (a5 : Int) => (cond (a5 == (1 : Int)) (bindO (some (IntKind.wrap .i64 (s3.2.2 * s3.1))) (fun (a6 : Int) => (bindO (guardO (x.2.2 != (0 : Int))) (fun (a7 : Unit) => (bindO (some (Int.tmod a6 x.2.2)) (fun (a8 : Int) => (bindO (some (IntKind.wrap .i64 (s3.1 * s3.1))) (fun (a9 : Int) => (bindO (guardO (x.2.2 != (0 : Int))) (fun (a10 : Unit) => (bindO (some (Int.tmod a9 x.2.2)) (fun (a11 : Int) => (bindO (guardO ((2 : Int) != (0 : Int))) (fun (a12 : Unit) => (bindO (some (IntKind.wrap .i64 (Int.tdiv s3.2.1 (2 : Int)))) (fun (a13 : Int) => (again2 (a11, (a13, a8))))))))))))))))))) (bindO (some (IntKind.wrap .i64 (s3.1 * s3.1))) (fun (a14 : Int) => (bindO (guardO (x.2.2 != (0 : Int))) (fun (a15 : Unit) => (bindO (some (Int.tmod a14 x.2.2)) (fun (a16 : Int) => (bindO (guardO ((2 : Int) != (0 : Int))) (fun (a17 : Unit) => (bindO (some (IntKind.wrap .i64 (Int.tdiv s3.2.1 (2 : Int)))) (fun (a18 : Int) => (again2 (a16, (a18, s3.2.2)))))))))))))))))) (some s3.2.2)))) (x.1, (x.2.1, a1)))))))

noncomputable def c_S_nPower : Con0 := ⟨pk_S_nPower, rk_S_nPower, M_S_nPower⟩

set_option maxRecDepth 100000 in
theorem eq_S_nPower (x : In pk_S_nPower) : semF (mkE []) h_S_nPower (info Tryz.f158) pk_S_nPower rk_S_nPower x = M_S_nPower x := (semFF_eq _ _ _ _ _ _).symm.trans (by kernel_rfl)

set_option maxRecDepth 100000 in
theorem m_S_nPower : ConOK Tryz.prog 158 c_S_nPower := fn_ok (tyOK _) (E := mkE []) (consOK_nil rfl) Tryz.func158 (h := h_S_nPower) (by kernel_rfl) eq_S_nPower

/-- S_nPrime -/
def pk_S_nPrime : List PK := [.data (.int .i64)]
def rk_S_nPrime : List (Ty × Bool) := [(.bool, false)]
def h_S_nPrime : Hints := { loops := [(0, { items := [.slot 3 (.data (.int .i64) [])], kill := [1, 2, 4, 5, 6, 7, 8, 9, 10, 11, 12, 13, 14, 15, 16] })] }
noncomputable def M_S_nPrime (x : Int) : (Option Bool) :=
  (cond (decide (x < (2 : Int))) (some false) (loopO (fun (again0 : (Int → (Option Bool))) => (fun (s1 : Int) => (bindO (some (IntKind.wrap .i64 (s1 * s1))) (fun (a2 : Int) => (cond (decide (a2 ≤ x)) (bindO (guardO (s1 != (0 : Int))) (fun (a3 : Unit) => (bindO (some (Int.tmod x s1)) (fun (a4 : Int) => (cond (a4 == (0 : Int)) (some false) (bindO (some (IntKind.wrap .i64 (s1 + (1 : Int)))) (fun (a5 : Int) => (again0 a5)))))))) (some true)))))) (2 : Int)))

noncomputable def c_S_nPrime : Con0 := ⟨pk_S_nPrime, rk_S_nPrime, M_S_nPrime⟩

set_option maxRecDepth 100000 in
theorem eq_S_nPrime (x : In pk_S_nPrime) : semF (mkE []) h_S_nPrime (info Tryz.f159) pk_S_nPrime rk_S_nPrime x = M_S_nPrime x := (semFF_eq _ _ _ _ _ _).symm.trans (by kernel_rfl)

set_option maxRecDepth 100000 in
theorem m_S_nPrime : ConOK Tryz.prog 159 c_S_nPrime := fn_ok (tyOK _) (E := mkE []) (consOK_nil rfl) Tryz.func159 (h := h_S_nPrime) (by kernel_rfl) eq_S_nPrime

/-- S_l2Good -/
def pk_S_l2Good : List PK := [.data (.cons (.int .i64) (.cons (.int .i64) (.one (.int .i64))))]
def rk_S_l2Good : List (Ty × Bool) := [(.bool, false)]
def h_S_l2Good : Hints := { loops := [] }
noncomputable def M_S_l2Good (x : (Int × (Int × Int))) : (Option Bool) :=
  (bindO (M_S_l1In (x.1, ((3 : Int), (2000000000 : Int)))) (fun (a0 : Bool) => (cond a0 (bindO (some (IntKind.wrap .i64 (x.1 - (1 : Int)))) (fun (a1 : Int) => (bindO (M_S_l1In (x.2.1, ((2 : Int), a1))) (fun (a2 : Bool) => (cond a2 (bindO (some (IntKind.wrap .i64 (x.1 - (1 : Int)))) (fun (a3 : Int) => (bindO (guardO (x.2.1 != (0 : Int))) (fun (a4 : Unit) => (bindO (some (Int.tmod a3 x.2.1)) (fun (a5 : Int) => (cond (a5 == (0 : Int)) (bindO (some (IntKind.wrap .i64 (x.1 - (1 : Int)))) (fun (a6 : Int) => (bindO (M_S_l1In (x.2.2, ((2 : Int), a6))) (fun (a7 : Bool) => (cond a7 (bindO (M_S_nPower (x.2.2, (x.2.1, x.1))) (fun (a8 : Int) => (cond (a8 == (1 : Int)) (bindO (M_S_nPrime x.2.1) (fun (a9 : Bool) => (cond a9 (bindO (M_S_nPrime x.1) (fun (a10 : Bool) => (some a10))) (some false)))) (some false)))) (some false)))))) (some false)))))))) (some false)))))) (some false))))

noncomputable def c_S_l2Good : Con0 := ⟨pk_S_l2Good, rk_S_l2Good, M_S_l2Good⟩

set_option maxRecDepth 100000 in
theorem eq_S_l2Good (x : In pk_S_l2Good) : semF (mkE [(91, c_S_l1In), (158, c_S_nPower), (159, c_S_nPrime)]) h_S_l2Good (info Tryz.f107) pk_S_l2Good rk_S_l2Good x = M_S_l2Good x := (semFF_eq _ _ _ _ _ _).symm.trans (by kernel_rfl)

set_option maxRecDepth 100000 in
theorem m_S_l2Good : ConOK Tryz.prog 107 c_S_l2Good := fn_ok (tyOK _) (E := mkE [(91, c_S_l1In), (158, c_S_nPower), (159, c_S_nPrime)]) (consOK_cons m_S_l1In (consOK_cons m_S_nPower (consOK_cons m_S_nPrime (consOK_nil rfl)))) Tryz.func107 (h := h_S_l2Good) (by kernel_rfl) eq_S_l2Good

/-- S_gIs -/
def pk_S_gIs : List PK := [.data (.cons (.int .i64) (.cons (.int .i64) (.one (.int .i64)))), .data (.sl (.int .i64))]
def rk_S_gIs : List (Ty × Bool) := [(.bool, false)]
def h_S_gIs : Hints := { loops := [(0, { items := [.slot 9 (.data (.int .i64) [])], kill := [0, 1, 3, 4, 5, 6, 10, 11, 12, 13, 14, 15, 16, 17, 18, 19, 20, 21, 22, 23, 24, 25, 26, 27, 28] })] }
noncomputable def M_S_gIs (x : ((Int × (Int × Int)) × (List Int))) : (Option Bool) :=
  (loopO (fun (again0 : (Int → (Option Bool))) => (fun (s1 : Int) => (cond (decide (s1 < (((List.length x.2) : Nat) : Int))) (bindO (getI x.2 s1) (fun (a2 : Int) => (bindO (some (IntKind.wrap .i64 (x.1.1 - (1 : Int)))) (fun (a3 : Int) => (bindO (M_S_l1In (a2, ((1 : Int), a3))) (fun (a4 : Bool) => (cond (not a4) (some false) (bindO (M_S_nPower (a2, (x.1.2.1, x.1.1))) (fun (a5 : Int) => (cond (a5 != (1 : Int)) (some false) (bindO (some (IntKind.wrap .i64 (s1 + (1 : Int)))) (fun (a6 : Int) => (again0 a6))))))))))))) (some true)))) (0 : Int))

noncomputable def c_S_gIs : Con0 := ⟨pk_S_gIs, rk_S_gIs, M_S_gIs⟩

set_option maxRecDepth 100000 in
theorem eq_S_gIs (x : In pk_S_gIs) : semF (mkE [(91, c_S_l1In), (158, c_S_nPower)]) h_S_gIs (info Tryz.f110) pk_S_gIs rk_S_gIs x = M_S_gIs x := (semFF_eq _ _ _ _ _ _).symm.trans (by kernel_rfl)

set_option maxRecDepth 100000 in
theorem m_S_gIs : ConOK Tryz.prog 110 c_S_gIs := fn_ok (tyOK _) (E := mkE [(91, c_S_l1In), (158, c_S_nPower)]) (consOK_cons m_S_l1In (consOK_cons m_S_nPower (consOK_nil rfl))) Tryz.func110 (h := h_S_gIs) (by kernel_rfl) eq_S_gIs

/-- S_eKey -/
def pk_S_eKey : List PK := [.data (.cons (.int .i64) (.cons (.int .i64) (.one (.int .i64)))), .data (.int .i64)]
def rk_S_eKey : List (Ty × Bool) := [(.bool, false)]
def h_S_eKey : Hints := { loops := [] }
noncomputable def M_S_eKey (x : ((Int × (Int × Int)) × Int)) : (Option Bool) :=
  (bindO (M_S_l2Good (x.1.1, (x.1.2.1, x.1.2.2))) (fun (a0 : Bool) => (cond a0 (bindO (M_S_gIs ((x.1.1, (x.1.2.1, x.1.2.2)), (x.2 :: ([] : List Int)))) (fun (a1 : Bool) => (some a1))) (some false))))

noncomputable def c_S_eKey : Con0 := ⟨pk_S_eKey, rk_S_eKey, M_S_eKey⟩

set_option maxRecDepth 100000 in
theorem eq_S_eKey (x : In pk_S_eKey) : semF (mkE [(107, c_S_l2Good), (110, c_S_gIs)]) h_S_eKey (info Tryz.f106) pk_S_eKey rk_S_eKey x = M_S_eKey x := (semFF_eq _ _ _ _ _ _).symm.trans (by kernel_rfl)

set_option maxRecDepth 100000 in
theorem m_S_eKey : ConOK Tryz.prog 106 c_S_eKey := fn_ok (tyOK _) (E := mkE [(107, c_S_l2Good), (110, c_S_gIs)]) (consOK_cons m_S_l2Good (consOK_cons m_S_gIs (consOK_nil rfl))) Tryz.func106 (h := h_S_eKey) (by kernel_rfl) eq_S_eKey

/-- S_eGood -/
def pk_S_eGood : List PK := [.data (.cons (.int .i64) (.cons (.int .i64) (.one (.int .i64)))), .data (.sl (.cons (.int .i64) (.one (.int .i64))))]
def rk_S_eGood : List (Ty × Bool) := [(.bool, false)]
def h_S_eGood : Hints := { loops := [(0, { items := [.slot 12 (.data (.int .i64) [])], kill := [0, 1, 3, 4, 5, 6, 7, 8, 9, 13, 14, 15, 16, 17, 18, 19, 20, 21, 22, 23, 24] })] }
noncomputable def M_S_eGood (x : ((Int × (Int × Int)) × (List (Int × Int)))) : (Option Bool) :=
  (cond (decide ((((List.length x.2) : Nat) : Int) > (24 : Int))) (some false) (loopO (fun (again0 : (Int → (Option Bool))) => (fun (s1 : Int) => (cond (decide (s1 < (((List.length x.2) : Nat) : Int))) (bindO (getI x.2 s1) (fun (a2 : (Int × Int)) => (bindO (M_S_gIs ((x.1.1, (x.1.2.1, x.1.2.2)), (a2.1 :: (a2.2 :: ([] : List Int))))) (fun (a3 : Bool) => (cond (not a3) (some false) (bindO (some (IntKind.wrap .i64 (s1 + (1 : Int)))) (fun (a4 : Int) => (again0 a4)))))))) (some true)))) (0 : Int)))

noncomputable def c_S_eGood : Con0 := ⟨pk_S_eGood, rk_S_eGood, M_S_eGood⟩

set_option maxRecDepth 100000 in
theorem eq_S_eGood (x : In pk_S_eGood) : semF (mkE [(110, c_S_gIs)]) h_S_eGood (info Tryz.f77) pk_S_eGood rk_S_eGood x = M_S_eGood x := (semFF_eq _ _ _ _ _ _).symm.trans (by kernel_rfl)

set_option maxRecDepth 100000 in
theorem m_S_eGood : ConOK Tryz.prog 77 c_S_eGood := fn_ok (tyOK _) (E := mkE [(110, c_S_gIs)]) (consOK_cons m_S_gIs (consOK_nil rfl)) Tryz.func77 (h := h_S_eGood) (by kernel_rfl) eq_S_eGood

/-- S_mList -/
def pk_S_mList : List PK := [.data (.cons (.int .i64) (.cons (.int .i64) (.one (.int .i64)))), .data (.int .i64), .data (.sl (.cons (.int .i64) (.one (.int .i64))))]
def rk_S_mList : List (Ty × Bool) := [(.bool, false)]
def h_S_mList : Hints := { loops := [] }
noncomputable def M_S_mList (x : ((Int × (Int × Int)) × (Int × (List (Int × Int))))) : (Option Bool) :=
  (bindO (M_S_eKey ((x.1.1, (x.1.2.1, x.1.2.2)), x.2.1)) (fun (a0 : Bool) => (cond a0 (bindO (M_S_l1In ((((List.length x.2.2) : Nat) : Int), ((1 : Int), (12 : Int)))) (fun (a1 : Bool) => (cond a1 (bindO (M_S_eGood ((x.1.1, (x.1.2.1, x.1.2.2)), x.2.2)) (fun (a2 : Bool) => (some a2))) (some false)))) (some false))))

noncomputable def c_S_mList : Con0 := ⟨pk_S_mList, rk_S_mList, M_S_mList⟩

set_option maxRecDepth 100000 in
theorem eq_S_mList (x : In pk_S_mList) : semF (mkE [(106, c_S_eKey), (91, c_S_l1In), (77, c_S_eGood)]) h_S_mList (info Tryz.f75) pk_S_mList rk_S_mList x = M_S_mList x := (semFF_eq _ _ _ _ _ _).symm.trans (by kernel_rfl)

set_option maxRecDepth 100000 in
theorem m_S_mList : ConOK Tryz.prog 75 c_S_mList := fn_ok (tyOK _) (E := mkE [(106, c_S_eKey), (91, c_S_l1In), (77, c_S_eGood)]) (consOK_cons m_S_eKey (consOK_cons m_S_l1In (consOK_cons m_S_eGood (consOK_nil rfl)))) Tryz.func75 (h := h_S_mList) (by kernel_rfl) eq_S_mList

/-- S_l3Digest -/
def pk_S_l3Digest : List PK := [.data (.int .i64)]
def rk_S_l3Digest : List (Ty × Bool) := [(.bool, false)]
def h_S_l3Digest : Hints := { loops := [] }
noncomputable def M_S_l3Digest (x : Int) : (Option Bool) :=
  (bindO (M_S_l1In (x, ((0 : Int), (4611686018427387903 : Int)))) (fun (a0 : Bool) => (some a0)))

noncomputable def c_S_l3Digest : Con0 := ⟨pk_S_l3Digest, rk_S_l3Digest, M_S_l3Digest⟩

set_option maxRecDepth 100000 in
theorem eq_S_l3Digest (x : In pk_S_l3Digest) : semF (mkE [(91, c_S_l1In)]) h_S_l3Digest (info Tryz.f160) pk_S_l3Digest rk_S_l3Digest x = M_S_l3Digest x := (semFF_eq _ _ _ _ _ _).symm.trans (by kernel_rfl)

set_option maxRecDepth 100000 in
theorem m_S_l3Digest : ConOK Tryz.prog 160 c_S_l3Digest := fn_ok (tyOK _) (E := mkE [(91, c_S_l1In)]) (consOK_cons m_S_l1In (consOK_nil rfl)) Tryz.func160 (h := h_S_l3Digest) (by kernel_rfl) eq_S_l3Digest

/-- S_l3With -/
def pk_S_l3With : List PK := [.data .str, .data (.sl (.int .i64))]
def rk_S_l3With : List (Ty × Bool) := [((.sl (.int .i64)), true)]
def h_S_l3With : Hints := { loops := [(0, { items := [.slot 5 (.own (.int .i64) true), .slot 6 (.data (.int .i64) [])], kill := [2, 3, 4, 7, 8, 9, 10, 11, 12, 13, 14, 15, 16, 17, 18, 19, 20, 21, 22, 23, 24, 25] })] }
noncomputable def M_S_l3With (x : (ByteArray × (List Int))) : (Option (List Int)) :=
  (loopO (fun (again0 : (((List Int) × Int) → (Option (List Int)))) => (fun (s1 : ((List Int) × Int)) => (cond (decide (s1.2 < (((ByteArray.size x.1) : Nat) : Int))) (bindO (if ((0 : Int) ≤ s1.2) then (x.1[(Int.toNat s1.2)]?) else (none : Option (UInt8))) (fun (a2 : (UInt8)) => (bindO (guardO (lenOk ((List.length s1.1) + (List.length ((IntKind.wrap .i64 (((UInt8.toNat a2) : Nat) : Int)) :: ([] : List Int)))))) (fun (a3 : Unit) => (bindO (some (s1.1 ++ ((IntKind.wrap .i64 (((UInt8.toNat a2) : Nat) : Int)) :: ([] : List Int)))) (fun (a4 : (List Int)) => (bindO (some (IntKind.wrap .i64 (s1.2 + (1 : Int)))) (fun (a5 : Int) => (again0 (a4, a5)))))))))) (bindO (guardO (lenOk ((List.length s1.1) + (List.length x.2)))) (fun (a6 : Unit) => (bindO (some (s1.1 ++ x.2)) (fun (a7 : (List Int)) => (some a7)))))))) (((((ByteArray.size x.1) : Nat) : Int) :: ([] : List Int)), (0 : Int)))

noncomputable def c_S_l3With : Con0 := ⟨pk_S_l3With, rk_S_l3With, M_S_l3With⟩

set_option maxRecDepth 100000 in
theorem eq_S_l3With (x : In pk_S_l3With) : semF (mkE []) h_S_l3With (info Tryz.f205) pk_S_l3With rk_S_l3With x = M_S_l3With x := (semFF_eq _ _ _ _ _ _).symm.trans (by kernel_rfl)

set_option maxRecDepth 100000 in
theorem m_S_l3With : ConOK Tryz.prog 205 c_S_l3With := fn_ok (tyOK _) (E := mkE []) (consOK_nil rfl) Tryz.func205 (h := h_S_l3With) (by kernel_rfl) eq_S_l3With

/-- S_l3State_absorb -/
def pk_S_l3State_absorb : List PK := [.mp (.cons (.int .i64) (.one (.int .i64))) false, .data (.int .i64)]
def rk_S_l3State_absorb : List (Ty × Bool) := []
def h_S_l3State_absorb : Hints := { loops := [(0, { items := [.slot 12 (.data (.int .i64) []), .cell 0 0 (.data (.int .i64) []), .cell 0 1 (.data (.int .i64) [])], kill := [1, 2, 3, 4, 5, 6, 7, 8, 9, 13, 14, 15, 16, 17, 18, 19, 20, 21, 22, 23, 24, 25, 26, 27, 28, 29, 30, 31, 32, 33, 34, 35, 36, 37, 38, 39, 40] })] }
noncomputable def M_S_l3State_absorb (x : ((Int × Int) × Int)) : (Option (Int × Int)) :=
  (bindO (guardO ((2147483648 : Int) != (0 : Int))) (fun (a0 : Unit) => (bindO (some (Int.tmod x.2 (2147483648 : Int))) (fun (a1 : Int) => (bindO (guardO ((2147483648 : Int) != (0 : Int))) (fun (a2 : Unit) => (bindO (some (IntKind.wrap .i64 (Int.tdiv x.2 (2147483648 : Int)))) (fun (a3 : Int) => (loopO (fun (again4 : ((Int × (Int × Int)) → (Option (Int × Int)))) => (fun (s5 : (Int × (Int × Int))) => (cond (decide (s5.1 < (((List.length (a1 :: (a3 :: ([] : List Int)))) : Nat) : Int))) (bindO (getI (a1 :: (a3 :: ([] : List Int))) s5.1) (fun (a6 : Int) => (bindO (some (IntKind.wrap .i64 ((48271 : Int) * s5.2.1))) (fun (a7 : Int) => (bindO (some (IntKind.wrap .i64 (a7 + a6))) (fun (a8 : Int) => (bindO (some (IntKind.wrap .i64 (a8 + (1 : Int)))) (fun (a9 : Int) => (bindO (guardO ((2147483647 : Int) != (0 : Int))) (fun (a10 : Unit) => (bindO (some (Int.tmod a9 (2147483647 : Int))) (fun (a11 : Int) => (bindO (some (IntKind.wrap .i64 ((69621 : Int) * s5.2.2))) (fun (a12 : Int) => (bindO (some (IntKind.wrap .i64 (a12 + a6))) (fun (a13 : Int) => (bindO (some (IntKind.wrap .i64 (a13 + (1 : Int)))) (fun (a14 : Int) => (bindO (guardO ((2147483647 : Int) != (0 : Int))) (fun (a15 : Unit) => (bindO (some (Int.tmod a14 (2147483647 : Int))) (fun (a16 : Int) => (bindO (some (IntKind.wrap .i64 (s5.1 + (1 : Int)))) (fun (a17 : Int) => (again4 (a17, (a11, a16))))))))))))))))))))))))))) (some (s5.2.1, s5.2.2))))) ((0 : Int), (x.1.1, x.1.2)))))))))))

noncomputable def c_S_l3State_absorb : Con0 := ⟨pk_S_l3State_absorb, rk_S_l3State_absorb, M_S_l3State_absorb⟩

set_option maxRecDepth 100000 in
theorem eq_S_l3State_absorb (x : In pk_S_l3State_absorb) : semF (mkE []) h_S_l3State_absorb (info Tryz.f209) pk_S_l3State_absorb rk_S_l3State_absorb x = M_S_l3State_absorb x := (semFF_eq _ _ _ _ _ _).symm.trans (by kernel_rfl)

set_option maxRecDepth 100000 in
theorem m_S_l3State_absorb : ConOK Tryz.prog 209 c_S_l3State_absorb := fn_ok (tyOK _) (E := mkE []) (consOK_nil rfl) Tryz.func209 (h := h_S_l3State_absorb) (by kernel_rfl) eq_S_l3State_absorb

/-- S_hInts -/
def pk_S_hInts : List PK := [.data (.sl (.int .i64))]
def rk_S_hInts : List (Ty × Bool) := [((.int .i64), false)]
def h_S_hInts : Hints := { loops := [(0, { items := [.slot 14 (.data (.int .i64) []), .cell 7 0 (.data (.int .i64) []), .cell 7 1 (.data (.int .i64) [])], kill := [0, 1, 2, 4, 5, 6, 8, 9, 10, 11, 15, 16, 17, 18, 19, 20, 21, 22, 23, 24, 25, 26, 27, 28, 29, 30, 31] })] }
noncomputable def M_S_hInts (x : (List Int)) : (Option Int) :=
  (bindO (M_S_l3State_absorb (((1 : Int), (2 : Int)), (((List.length x) : Nat) : Int))) (fun (a0 : (Int × Int)) => (loopO (fun (again1 : ((Int × (Int × Int)) → (Option Int))) => (fun (s2 : (Int × (Int × Int))) => (cond (decide (s2.1 < (((List.length x) : Nat) : Int))) (bindO (getI x s2.1) (fun (a3 : Int) => (bindO (M_S_l3State_absorb ((s2.2.1, s2.2.2), a3)) (fun (a4 : (Int × Int)) => (bindO (some (IntKind.wrap .i64 (s2.1 + (1 : Int)))) (fun (a5 : Int) => (again1 (a5, (a4.1, a4.2))))))))) (bindO (some (IntKind.wrap .i64 (s2.2.1 * (2147483648 : Int)))) (fun (a6 : Int) => (bindO (some (IntKind.wrap .i64 (a6 + s2.2.2))) (fun (a7 : Int) => (some a7)))))))) ((0 : Int), (a0.1, a0.2)))))

noncomputable def c_S_hInts : Con0 := ⟨pk_S_hInts, rk_S_hInts, M_S_hInts⟩

set_option maxRecDepth 100000 in
theorem eq_S_hInts (x : In pk_S_hInts) : semF (mkE [(209, c_S_l3State_absorb)]) h_S_hInts (info Tryz.f204) pk_S_hInts rk_S_hInts x = M_S_hInts x := (semFF_eq _ _ _ _ _ _).symm.trans (by kernel_rfl)

set_option maxRecDepth 100000 in
theorem m_S_hInts : ConOK Tryz.prog 204 c_S_hInts := fn_ok (tyOK _) (E := mkE [(209, c_S_l3State_absorb)]) (consOK_cons m_S_l3State_absorb (consOK_nil rfl)) Tryz.func204 (h := h_S_hInts) (by kernel_rfl) eq_S_hInts

/-- S_hLabelled -/
def pk_S_hLabelled : List PK := [.data .str, .data (.sl (.int .i64))]
def rk_S_hLabelled : List (Ty × Bool) := [((.int .i64), false)]
def h_S_hLabelled : Hints := { loops := [] }
noncomputable def M_S_hLabelled (x : (ByteArray × (List Int))) : (Option Int) :=
  (bindO (M_S_l3With (x.1, x.2)) (fun (a0 : (List Int)) => (bindO (M_S_hInts a0) (fun (a1 : Int) => (some a1)))))

noncomputable def c_S_hLabelled : Con0 := ⟨pk_S_hLabelled, rk_S_hLabelled, M_S_hLabelled⟩

set_option maxRecDepth 100000 in
theorem eq_S_hLabelled (x : In pk_S_hLabelled) : semF (mkE [(205, c_S_l3With), (204, c_S_hInts)]) h_S_hLabelled (info Tryz.f198) pk_S_hLabelled rk_S_hLabelled x = M_S_hLabelled x := (semFF_eq _ _ _ _ _ _).symm.trans (by kernel_rfl)

set_option maxRecDepth 100000 in
theorem m_S_hLabelled : ConOK Tryz.prog 198 c_S_hLabelled := fn_ok (tyOK _) (E := mkE [(205, c_S_l3With), (204, c_S_hInts)]) (consOK_cons m_S_l3With (consOK_cons m_S_hInts (consOK_nil rfl))) Tryz.func198 (h := h_S_hLabelled) (by kernel_rfl) eq_S_hLabelled

/-- S_hDerived -/
def pk_S_hDerived : List PK := [.data (.cons (.int .i64) (.cons (.int .i64) (.one (.int .i64)))), .data .str, .data (.int .i64)]
def rk_S_hDerived : List (Ty × Bool) := [((.int .i64), false)]
def h_S_hDerived : Hints := { loops := [(0, { items := [.slot 7 (.data (.int .i64) [])], kill := [0, 4, 5, 6, 8, 9, 10, 11, 12, 13, 14, 15, 16, 17, 18, 19, 20, 21, 22, 23, 24, 25, 26, 27, 28, 29, 30, 31, 32, 33, 34, 35, 36, 37, 38, 39, 40, 41, 42] })] }
noncomputable def M_S_hDerived (x : ((Int × (Int × Int)) × (ByteArray × Int))) : (Option Int) :=
  (loopO (fun (again0 : (Int → (Option Int))) => (fun (s1 : Int) => (cond (decide (s1 < (1000 : Int))) (bindO (M_S_hLabelled (x.2.1, (x.1.1 :: (x.1.2.1 :: (x.1.2.2 :: (x.2.2 :: (s1 :: ([] : List Int)))))))) (fun (a2 : Int) => (bindO (some (IntKind.wrap .i64 (x.1.1 - (1 : Int)))) (fun (a3 : Int) => (bindO (guardO (a3 != (0 : Int))) (fun (a4 : Unit) => (bindO (some (Int.tmod a2 a3)) (fun (a5 : Int) => (bindO (some (IntKind.wrap .i64 ((1 : Int) + a5))) (fun (a6 : Int) => (bindO (some (IntKind.wrap .i64 (x.1.1 - (1 : Int)))) (fun (a7 : Int) => (bindO (guardO (x.1.2.1 != (0 : Int))) (fun (a8 : Unit) => (bindO (some (IntKind.wrap .i64 (Int.tdiv a7 x.1.2.1))) (fun (a9 : Int) => (bindO (M_S_nPower (a6, (a9, x.1.1))) (fun (a10 : Int) => (cond (a10 != (1 : Int)) (some a10) (bindO (some (IntKind.wrap .i64 (s1 + (1 : Int)))) (fun (a11 : Int) => (again0 a11)))))))))))))))))))))) (some (0 : Int))))) (0 : Int))

noncomputable def c_S_hDerived : Con0 := ⟨pk_S_hDerived, rk_S_hDerived, M_S_hDerived⟩

set_option maxRecDepth 100000 in
theorem eq_S_hDerived (x : In pk_S_hDerived) : semF (mkE [(198, c_S_hLabelled), (158, c_S_nPower)]) h_S_hDerived (info Tryz.f161) pk_S_hDerived rk_S_hDerived x = M_S_hDerived x := (semFF_eq _ _ _ _ _ _).symm.trans (by kernel_rfl)

set_option maxRecDepth 100000 in
theorem m_S_hDerived : ConOK Tryz.prog 161 c_S_hDerived := fn_ok (tyOK _) (E := mkE [(198, c_S_hLabelled), (158, c_S_nPower)]) (consOK_cons m_S_hLabelled (consOK_cons m_S_nPower (consOK_nil rfl))) Tryz.func161 (h := h_S_hDerived) (by kernel_rfl) eq_S_hDerived

/-- S_DeriveElement -/
def pk_S_DeriveElement : List PK := [.data (.cons (.int .i64) (.cons (.int .i64) (.one (.int .i64)))), .data .str, .data (.int .i64)]
def rk_S_DeriveElement : List (Ty × Bool) := [((.int .i64), false), (.bool, false)]
def h_S_DeriveElement : Hints := { loops := [] }
noncomputable def M_S_DeriveElement (x : ((Int × (Int × Int)) × (ByteArray × Int))) : (Option (Int × Bool)) :=
  (bindO (M_S_l2Good (x.1.1, (x.1.2.1, x.1.2.2))) (fun (a0 : Bool) => (cond (not a0) (some ((0 : Int), false)) (cond (decide ((((ByteArray.size x.2.1) : Nat) : Int) > (40 : Int))) (some ((0 : Int), false)) (bindO (M_S_l3Digest x.2.2) (fun (a1 : Bool) => (cond (not a1) (some ((0 : Int), false)) (bindO (M_S_hDerived ((x.1.1, (x.1.2.1, x.1.2.2)), (x.2.1, x.2.2))) (fun (a2 : Int) => (some (a2, (decide (a2 > (0 : Int))))))))))))))

noncomputable def c_S_DeriveElement : Con0 := ⟨pk_S_DeriveElement, rk_S_DeriveElement, M_S_DeriveElement⟩

set_option maxRecDepth 100000 in
theorem eq_S_DeriveElement (x : In pk_S_DeriveElement) : semF (mkE [(107, c_S_l2Good), (160, c_S_l3Digest), (161, c_S_hDerived)]) h_S_DeriveElement (info Tryz.f108) pk_S_DeriveElement rk_S_DeriveElement x = M_S_DeriveElement x := (semFF_eq _ _ _ _ _ _).symm.trans (by kernel_rfl)

set_option maxRecDepth 100000 in
theorem m_S_DeriveElement : ConOK Tryz.prog 108 c_S_DeriveElement := fn_ok (tyOK _) (E := mkE [(107, c_S_l2Good), (160, c_S_l3Digest), (161, c_S_hDerived)]) (consOK_cons m_S_l2Good (consOK_cons m_S_l3Digest (consOK_cons m_S_hDerived (consOK_nil rfl)))) Tryz.func108 (h := h_S_DeriveElement) (by kernel_rfl) eq_S_DeriveElement

/-- S_DeriveElements -/
def pk_S_DeriveElements : List PK := [.data (.cons (.int .i64) (.cons (.int .i64) (.one (.int .i64)))), .data .str, .data (.int .i64)]
def rk_S_DeriveElements : List (Ty × Bool) := [((.sl (.int .i64)), true), (.bool, false)]
def h_S_DeriveElements : Hints := { loops := [(0, { items := [.slot 8 (.own (.int .i64) true), .slot 9 (.data (.int .i64) [])], kill := [0, 4, 5, 6, 7, 10, 11, 12, 13, 14, 15, 16, 17, 18, 19, 20, 21, 22, 23, 24, 25, 26, 27, 28, 29, 30, 31, 32, 33, 34, 35, 36, 37, 38, 39] })] }
noncomputable def M_S_DeriveElements (x : ((Int × (Int × Int)) × (ByteArray × Int))) : (Option ((List Int) × Bool)) :=
  (bindO (M_S_l2Good (x.1.1, (x.1.2.1, x.1.2.2))) (fun (a0 : Bool) => (cond (not a0) (some (([] : List Int), false)) (cond (decide ((((ByteArray.size x.2.1) : Nat) : Int) > (40 : Int))) (some (([] : List Int), false)) (bindO (M_S_l1In (x.2.2, ((0 : Int), (100 : Int)))) (fun (a1 : Bool) => (cond (not a1) (some (([] : List Int), false)) (loopO (fun (again2 : (((List Int) × Int) → (Option ((List Int) × Bool)))) => (fun (s3 : ((List Int) × Int)) => (cond (decide (s3.2 < x.2.2)) (bindO (M_S_hDerived ((x.1.1, (x.1.2.1, x.1.2.2)), (x.2.1, s3.2))) (fun (a4 : Int) => (cond (a4 == (0 : Int)) (some (([] : List Int), false)) (bindO (guardO (lenOk ((List.length s3.1) + (List.length (a4 :: ([] : List Int)))))) (fun (a5 : Unit) => (bindO (some (s3.1 ++ (a4 :: ([] : List Int)))) (fun (a6 : (List Int)) => (bindO (some (IntKind.wrap .i64 (s3.2 + (1 : Int)))) (fun (a7 : Int) => (again2 (a6, a7))))))))))) (some (s3.1, true))))) (([] : List Int), (0 : Int))))))))))

noncomputable def c_S_DeriveElements : Con0 := ⟨pk_S_DeriveElements, rk_S_DeriveElements, M_S_DeriveElements⟩

set_option maxRecDepth 100000 in
theorem eq_S_DeriveElements (x : In pk_S_DeriveElements) : semF (mkE [(107, c_S_l2Good), (91, c_S_l1In), (161, c_S_hDerived)]) h_S_DeriveElements (info Tryz.f109) pk_S_DeriveElements rk_S_DeriveElements x = M_S_DeriveElements x := (semFF_eq _ _ _ _ _ _).symm.trans (by kernel_rfl)

set_option maxRecDepth 100000 in
theorem m_S_DeriveElements : ConOK Tryz.prog 109 c_S_DeriveElements := fn_ok (tyOK _) (E := mkE [(107, c_S_l2Good), (91, c_S_l1In), (161, c_S_hDerived)]) (consOK_cons m_S_l2Good (consOK_cons m_S_l1In (consOK_cons m_S_hDerived (consOK_nil rfl)))) Tryz.func109 (h := h_S_DeriveElements) (by kernel_rfl) eq_S_DeriveElements

/-- S_BasesOf -/
def pk_S_BasesOf : List PK := [.data (.cons (.int .i64) (.cons (.int .i64) (.one (.int .i64)))), .data (.int .i64)]
def rk_S_BasesOf : List (Ty × Bool) := [((.cons (.int .i64) (.one (.sl (.int .i64)))), true), (.bool, false)]
def h_S_BasesOf : Hints := { loops := [] }
noncomputable def M_S_BasesOf (x : ((Int × (Int × Int)) × Int)) : (Option ((Int × (List Int)) × Bool)) :=
  (bindO (M_S_l2Good (x.1.1, (x.1.2.1, x.1.2.2))) (fun (a0 : Bool) => (cond (not a0) (some (((0 : Int), ([] : List Int)), false)) (bindO (M_S_l1In (x.2, ((0 : Int), (24 : Int)))) (fun (a1 : Bool) => (cond (not a1) (some (((0 : Int), ([] : List Int)), false)) (bindO (M_S_DeriveElement ((x.1.1, (x.1.2.1, x.1.2.2)), ((bytesOf [104]), (0 : Int)))) (fun (a2 : (Int × Bool)) => (bindO (M_S_DeriveElements ((x.1.1, (x.1.2.1, x.1.2.2)), ((bytesOf [104, 115]), x.2))) (fun (a3 : ((List Int) × Bool)) => (cond (not a2.2) (some (((0 : Int), ([] : List Int)), false)) (cond (not a3.2) (some (((0 : Int), ([] : List Int)), false)) (some ((a2.1, a3.1), true))))))))))))))

noncomputable def c_S_BasesOf : Con0 := ⟨pk_S_BasesOf, rk_S_BasesOf, M_S_BasesOf⟩

set_option maxRecDepth 100000 in
theorem eq_S_BasesOf (x : In pk_S_BasesOf) : semF (mkE [(107, c_S_l2Good), (91, c_S_l1In), (108, c_S_DeriveElement), (109, c_S_DeriveElements)]) h_S_BasesOf (info Tryz.f76) pk_S_BasesOf rk_S_BasesOf x = M_S_BasesOf x := (semFF_eq _ _ _ _ _ _).symm.trans (by kernel_rfl)

set_option maxRecDepth 100000 in
theorem m_S_BasesOf : ConOK Tryz.prog 76 c_S_BasesOf := fn_ok (tyOK _) (E := mkE [(107, c_S_l2Good), (91, c_S_l1In), (108, c_S_DeriveElement), (109, c_S_DeriveElements)]) (consOK_cons m_S_l2Good (consOK_cons m_S_l1In (consOK_cons m_S_DeriveElement (consOK_cons m_S_DeriveElements (consOK_nil rfl))))) Tryz.func76 (h := h_S_BasesOf) (by kernel_rfl) eq_S_BasesOf

/-- S_xReady -/
def pk_S_xReady : List PK := [.data (.cons (.int .i64) (.cons (.int .i64) (.one (.int .i64)))), .data (.int .i64), .data (.sl (.cons (.int .i64) (.one (.int .i64))))]
def rk_S_xReady : List (Ty × Bool) := [(.bool, false)]
def h_S_xReady : Hints := { loops := [] }
noncomputable def M_S_xReady (x : ((Int × (Int × Int)) × (Int × (List (Int × Int))))) : (Option Bool) :=
  (bindO (M_S_mList ((x.1.1, (x.1.2.1, x.1.2.2)), (x.2.1, x.2.2))) (fun (a0 : Bool) => (cond (not a0) (some false) (bindO (M_S_BasesOf ((x.1.1, (x.1.2.1, x.1.2.2)), (((List.length x.2.2) : Nat) : Int))) (fun (a1 : ((Int × (List Int)) × Bool)) => (some a1.2))))))

noncomputable def c_S_xReady : Con0 := ⟨pk_S_xReady, rk_S_xReady, M_S_xReady⟩

set_option maxRecDepth 100000 in
theorem eq_S_xReady (x : In pk_S_xReady) : semF (mkE [(75, c_S_mList), (76, c_S_BasesOf)]) h_S_xReady (info Tryz.f42) pk_S_xReady rk_S_xReady x = M_S_xReady x := (semFF_eq _ _ _ _ _ _).symm.trans (by kernel_rfl)

set_option maxRecDepth 100000 in
theorem m_S_xReady : ConOK Tryz.prog 42 c_S_xReady := fn_ok (tyOK _) (E := mkE [(75, c_S_mList), (76, c_S_BasesOf)]) (consOK_cons m_S_mList (consOK_cons m_S_BasesOf (consOK_nil rfl))) Tryz.func42 (h := h_S_xReady) (by kernel_rfl) eq_S_xReady

/-- S_l1All -/
def pk_S_l1All : List PK := [.data (.sl (.int .i64)), .data (.int .i64), .data (.int .i64)]
def rk_S_l1All : List (Ty × Bool) := [(.bool, false)]
def h_S_l1All : Hints := { loops := [(0, { items := [.slot 11 (.data (.int .i64) [])], kill := [0, 3, 4, 5, 6, 7, 8, 12, 13, 14, 15, 16, 17, 18, 19, 20] })] }
noncomputable def M_S_l1All (x : ((List Int) × (Int × Int))) : (Option Bool) :=
  (loopO (fun (again0 : (Int → (Option Bool))) => (fun (s1 : Int) => (cond (decide (s1 < (((List.length x.1) : Nat) : Int))) (bindO (getI x.1 s1) (fun (a2 : Int) => (bindO (M_S_l1In (a2, (x.2.1, x.2.2))) (fun (a3 : Bool) => (cond (not a3) (some false) (bindO (some (IntKind.wrap .i64 (s1 + (1 : Int)))) (fun (a4 : Int) => (again0 a4)))))))) (some true)))) (0 : Int))

noncomputable def c_S_l1All : Con0 := ⟨pk_S_l1All, rk_S_l1All, M_S_l1All⟩

set_option maxRecDepth 100000 in
theorem eq_S_l1All (x : In pk_S_l1All) : semF (mkE [(91, c_S_l1In)]) h_S_l1All (info Tryz.f92) pk_S_l1All rk_S_l1All x = M_S_l1All x := (semFF_eq _ _ _ _ _ _).symm.trans (by kernel_rfl)

set_option maxRecDepth 100000 in
theorem m_S_l1All : ConOK Tryz.prog 92 c_S_l1All := fn_ok (tyOK _) (E := mkE [(91, c_S_l1In)]) (consOK_cons m_S_l1In (consOK_nil rfl)) Tryz.func92 (h := h_S_l1All) (by kernel_rfl) eq_S_l1All

/-- S_gExps -/
def pk_S_gExps : List PK := [.data (.cons (.int .i64) (.cons (.int .i64) (.one (.int .i64)))), .data (.sl (.int .i64))]
def rk_S_gExps : List (Ty × Bool) := [(.bool, false)]
def h_S_gExps : Hints := { loops := [] }
noncomputable def M_S_gExps (x : ((Int × (Int × Int)) × (List Int))) : (Option Bool) :=
  (bindO (some (IntKind.wrap .i64 (x.1.2.1 - (1 : Int)))) (fun (a0 : Int) => (bindO (M_S_l1All (x.2, ((0 : Int), a0))) (fun (a1 : Bool) => (some a1)))))

noncomputable def c_S_gExps : Con0 := ⟨pk_S_gExps, rk_S_gExps, M_S_gExps⟩

set_option maxRecDepth 100000 in
theorem eq_S_gExps (x : In pk_S_gExps) : semF (mkE [(92, c_S_l1All)]) h_S_gExps (info Tryz.f61) pk_S_gExps rk_S_gExps x = M_S_gExps x := (semFF_eq _ _ _ _ _ _).symm.trans (by kernel_rfl)

set_option maxRecDepth 100000 in
theorem m_S_gExps : ConOK Tryz.prog 61 c_S_gExps := fn_ok (tyOK _) (E := mkE [(92, c_S_l1All)]) (consOK_cons m_S_l1All (consOK_nil rfl)) Tryz.func61 (h := h_S_gExps) (by kernel_rfl) eq_S_gExps

/-- S_mShape -/
def pk_S_mShape : List PK := [.data (.cons (.int .i64) (.cons (.int .i64) (.one (.int .i64)))), .data (.int .i64), .data (.cons (.sl (.int .i64)) (.cons (.sl (.int .i64)) (.one (.cons (.sl (.int .i64)) (.cons (.sl (.int .i64)) (.one (.sl (.int .i64))))))))]
def rk_S_mShape : List (Ty × Bool) := [(.bool, false)]
def h_S_mShape : Hints := { loops := [] }
noncomputable def M_S_mShape (x : ((Int × (Int × Int)) × (Int × ((List Int) × ((List Int) × ((List Int) × ((List Int) × (List Int)))))))) : (Option Bool) :=
  (cond ((((List.length x.2.2.1) : Nat) : Int) == x.2.1) (cond ((((List.length x.2.2.2.1) : Nat) : Int) == x.2.1) (bindO (some (IntKind.wrap .i64 (x.2.1 + (5 : Int)))) (fun (a0 : Int) => (cond ((((List.length x.2.2.2.2.1) : Nat) : Int) == a0) (cond ((((List.length x.2.2.2.2.2.1) : Nat) : Int) == (1 : Int)) (bindO (some (IntKind.wrap .i64 ((2 : Int) * x.2.1))) (fun (a1 : Int) => (bindO (some (IntKind.wrap .i64 (a1 + (4 : Int)))) (fun (a2 : Int) => (cond ((((List.length x.2.2.2.2.2.2) : Nat) : Int) == a2) (bindO (M_S_gIs ((x.1.1, (x.1.2.1, x.1.2.2)), x.2.2.1)) (fun (a3 : Bool) => (cond a3 (bindO (M_S_gIs ((x.1.1, (x.1.2.1, x.1.2.2)), x.2.2.2.1)) (fun (a4 : Bool) => (cond a4 (bindO (M_S_gIs ((x.1.1, (x.1.2.1, x.1.2.2)), x.2.2.2.2.1)) (fun (a5 : Bool) => (cond a5 (bindO (M_S_gExps ((x.1.1, (x.1.2.1, x.1.2.2)), x.2.2.2.2.2.2)) (fun (a6 : Bool) => (some a6))) (some false)))) (some false)))) (some false)))) (some false)))))) (some false)) (some false)))) (some false)) (some false))

noncomputable def c_S_mShape : Con0 := ⟨pk_S_mShape, rk_S_mShape, M_S_mShape⟩

set_option maxRecDepth 100000 in
theorem eq_S_mShape (x : In pk_S_mShape) : semF (mkE [(110, c_S_gIs), (61, c_S_gExps)]) h_S_mShape (info Tryz.f162) pk_S_mShape rk_S_mShape x = M_S_mShape x := (semFF_eq _ _ _ _ _ _).symm.trans (by kernel_rfl)

set_option maxRecDepth 100000 in
theorem m_S_mShape : ConOK Tryz.prog 162 c_S_mShape := fn_ok (tyOK _) (E := mkE [(110, c_S_gIs), (61, c_S_gExps)]) (consOK_cons m_S_gIs (consOK_cons m_S_gExps (consOK_nil rfl))) Tryz.func162 (h := h_S_mShape) (by kernel_rfl) eq_S_mShape

/-- S_mListed -/
def pk_S_mListed : List PK := [.data (.int .i64), .data (.sl (.cons (.int .i64) (.one (.int .i64)))), .data (.sl (.cons (.int .i64) (.one (.int .i64)))), .data (.sl (.int .i64))]
def rk_S_mListed : List (Ty × Bool) := [((.sl (.int .i64)), true)]
def h_S_mListed : Hints := { loops := [(0, { items := [.slot 9 (.own (.int .i64) true), .slot 18 (.data (.int .i64) [])], kill := [0, 1, 4, 5, 6, 7, 8, 10, 11, 12, 13, 14, 15, 19, 20, 21, 22, 23, 24, 25, 26, 27, 28, 29, 30, 31, 32, 33, 34, 35, 36, 37, 38, 39, 40, 41, 42, 43, 44, 45, 46] }), (2, { items := [.slot 9 (.own (.int .i64) true), .slot 32 (.data (.int .i64) [])], kill := [0, 1, 2, 4, 5, 6, 7, 8, 10, 11, 12, 13, 14, 15, 16, 17, 18, 19, 20, 21, 22, 23, 24, 25, 26, 27, 28, 29, 33, 34, 35, 36, 37, 38, 39, 40, 41, 42, 43, 44, 45, 46] })] }
noncomputable def M_S_mListed (x : (Int × ((List (Int × Int)) × ((List (Int × Int)) × (List Int))))) : (Option (List Int)) :=
  (loopO (fun (again0 : (((List Int) × Int) → (Option (List Int)))) => (fun (s1 : ((List Int) × Int)) => (cond (decide (s1.2 < (((List.length x.2.1) : Nat) : Int))) (bindO (getI x.2.1 s1.2) (fun (a2 : (Int × Int)) => (bindO (guardO (lenOk ((List.length s1.1) + (List.length (a2.1 :: (a2.2 :: ([] : List Int))))))) (fun (a3 : Unit) => (bindO (some (s1.1 ++ (a2.1 :: (a2.2 :: ([] : List Int))))) (fun (a4 : (List Int)) => (bindO (some (IntKind.wrap .i64 (s1.2 + (1 : Int)))) (fun (a5 : Int) => (again0 (a4, a5)))))))))) (loopO (fun (again6 : (((List Int) × Int) → (Option (List Int)))) => (fun (s7 : ((List Int) × Int)) => (cond (decide (s7.2 < (((List.length x.2.2.1) : Nat) : Int))) (bindO (getI x.2.2.1 s7.2) (fun (a8 : (Int × Int)) => (bindO (guardO (lenOk ((List.length s7.1) + (List.length (a8.1 :: (a8.2 :: ([] : List Int))))))) (fun (a9 : Unit) => (bindO (some (s7.1 ++ (a8.1 :: (a8.2 :: ([] : List Int))))) (fun (a10 : (List Int)) => (bindO (some (IntKind.wrap .i64 (s7.2 + (1 : Int)))) (fun (a11 : Int) => (again6 (a10, a11)))))))))) (bindO (guardO (lenOk ((List.length s7.1) + (List.length x.2.2.2)))) (fun (a12 : Unit) => (bindO (some (s7.1 ++ x.2.2.2)) (fun (a13 : (List Int)) => (some a13)))))))) (s1.1, (0 : Int)))))) ((x.1 :: ([] : List Int)), (0 : Int)))

noncomputable def c_S_mListed : Con0 := ⟨pk_S_mListed, rk_S_mListed, M_S_mListed⟩

set_option maxRecDepth 100000 in
theorem eq_S_mListed (x : In pk_S_mListed) : semF (mkE []) h_S_mListed (info Tryz.f173) pk_S_mListed rk_S_mListed x = M_S_mListed x := (semFF_eq _ _ _ _ _ _).symm.trans (by kernel_rfl)

set_option maxRecDepth 100000 in
theorem m_S_mListed : ConOK Tryz.prog 173 c_S_mListed := fn_ok (tyOK _) (E := mkE []) (consOK_nil rfl) Tryz.func173 (h := h_S_mListed) (by kernel_rfl) eq_S_mListed

/-- S_hChallenge -/
def pk_S_hChallenge : List PK := [.data (.cons (.int .i64) (.cons (.int .i64) (.one (.int .i64)))), .data .str, .data (.sl (.int .i64))]
def rk_S_hChallenge : List (Ty × Bool) := [((.int .i64), false)]
def h_S_hChallenge : Hints := { loops := [] }
noncomputable def M_S_hChallenge (x : ((Int × (Int × Int)) × (ByteArray × (List Int)))) : (Option Int) :=
  (bindO (guardO (lenOk ((List.length (x.1.1 :: (x.1.2.1 :: (x.1.2.2 :: ([] : List Int))))) + (List.length x.2.2)))) (fun (a0 : Unit) => (bindO (some ((x.1.1 :: (x.1.2.1 :: (x.1.2.2 :: ([] : List Int)))) ++ x.2.2)) (fun (a1 : (List Int)) => (bindO (M_S_hLabelled (x.2.1, a1)) (fun (a2 : Int) => (bindO (guardO (x.1.2.1 != (0 : Int))) (fun (a3 : Unit) => (bindO (some (Int.tmod a2 x.1.2.1)) (fun (a4 : Int) => (some a4)))))))))))

noncomputable def c_S_hChallenge : Con0 := ⟨pk_S_hChallenge, rk_S_hChallenge, M_S_hChallenge⟩

set_option maxRecDepth 100000 in
theorem eq_S_hChallenge (x : In pk_S_hChallenge) : semF (mkE [(198, c_S_hLabelled)]) h_S_hChallenge (info Tryz.f172) pk_S_hChallenge rk_S_hChallenge x = M_S_hChallenge x := (semFF_eq _ _ _ _ _ _).symm.trans (by kernel_rfl)

set_option maxRecDepth 100000 in
theorem m_S_hChallenge : ConOK Tryz.prog 172 c_S_hChallenge := fn_ok (tyOK _) (E := mkE [(198, c_S_hLabelled)]) (consOK_cons m_S_hLabelled (consOK_nil rfl)) Tryz.func172 (h := h_S_hChallenge) (by kernel_rfl) eq_S_hChallenge

/-- S_mChallenge -/
def pk_S_mChallenge : List PK := [.data (.cons (.int .i64) (.cons (.int .i64) (.one (.int .i64)))), .data (.int .i64), .data (.sl (.cons (.int .i64) (.one (.int .i64)))), .data (.sl (.cons (.int .i64) (.one (.int .i64)))), .data (.cons (.sl (.int .i64)) (.cons (.sl (.int .i64)) (.one (.cons (.sl (.int .i64)) (.cons (.sl (.int .i64)) (.one (.sl (.int .i64))))))))]
def rk_S_mChallenge : List (Ty × Bool) := [((.int .i64), false)]
def h_S_mChallenge : Hints := { loops := [] }
noncomputable def M_S_mChallenge (x : ((Int × (Int × Int)) × (Int × ((List (Int × Int)) × ((List (Int × Int)) × ((List Int) × ((List Int) × ((List Int) × ((List Int) × (List Int)))))))))) : (Option Int) :=
  (bindO (M_S_mListed (x.2.1, (x.2.2.1, (x.2.2.2.1, x.2.2.2.2.1)))) (fun (a0 : (List Int)) => (bindO (guardO (lenOk ((List.length a0) + (List.length x.2.2.2.2.2.1)))) (fun (a1 : Unit) => (bindO (some (a0 ++ x.2.2.2.2.2.1)) (fun (a2 : (List Int)) => (bindO (guardO (lenOk ((List.length a2) + (List.length x.2.2.2.2.2.2.1)))) (fun (a3 : Unit) => (bindO (some (a2 ++ x.2.2.2.2.2.2.1)) (fun (a4 : (List Int)) => (bindO (M_S_hChallenge ((x.1.1, (x.1.2.1, x.1.2.2)), ((bytesOf [109, 105, 120, 32, 112, 114, 111, 111, 102]), a4))) (fun (a5 : Int) => (some a5)))))))))))))

noncomputable def c_S_mChallenge : Con0 := ⟨pk_S_mChallenge, rk_S_mChallenge, M_S_mChallenge⟩

set_option maxRecDepth 100000 in
theorem eq_S_mChallenge (x : In pk_S_mChallenge) : semF (mkE [(173, c_S_mListed), (172, c_S_hChallenge)]) h_S_mChallenge (info Tryz.f163) pk_S_mChallenge rk_S_mChallenge x = M_S_mChallenge x := (semFF_eq _ _ _ _ _ _).symm.trans (by kernel_rfl)

set_option maxRecDepth 100000 in
theorem m_S_mChallenge : ConOK Tryz.prog 163 c_S_mChallenge := fn_ok (tyOK _) (E := mkE [(173, c_S_mListed), (172, c_S_hChallenge)]) (consOK_cons m_S_mListed (consOK_cons m_S_hChallenge (consOK_nil rfl))) Tryz.func163 (h := h_S_mChallenge) (by kernel_rfl) eq_S_mChallenge

/-- S_l1Own -/
def pk_S_l1Own : List PK := [.data (.sl (.int .i64))]
def rk_S_l1Own : List (Ty × Bool) := [((.sl (.int .i64)), true)]
def h_S_l1Own : Hints := { loops := [] }
noncomputable def M_S_l1Own (x : (List Int)) : (Option (List Int)) :=
  (bindO (guardO (lenOk ((List.length ([] : List Int)) + (List.length x)))) (fun (a0 : Unit) => (bindO (some (([] : List Int) ++ x)) (fun (a1 : (List Int)) => (some a1)))))

noncomputable def c_S_l1Own : Con0 := ⟨pk_S_l1Own, rk_S_l1Own, M_S_l1Own⟩

set_option maxRecDepth 100000 in
theorem eq_S_l1Own (x : In pk_S_l1Own) : semF (mkE []) h_S_l1Own (info Tryz.f206) pk_S_l1Own rk_S_l1Own x = M_S_l1Own x := (semFF_eq _ _ _ _ _ _).symm.trans (by kernel_rfl)

set_option maxRecDepth 100000 in
theorem m_S_l1Own : ConOK Tryz.prog 206 c_S_l1Own := fn_ok (tyOK _) (E := mkE []) (consOK_nil rfl) Tryz.func206 (h := h_S_l1Own) (by kernel_rfl) eq_S_l1Own

/-- S_hChallenges -/
def pk_S_hChallenges : List PK := [.data (.cons (.int .i64) (.cons (.int .i64) (.one (.int .i64)))), .data .str, .data (.sl (.int .i64)), .data (.int .i64)]
def rk_S_hChallenges : List (Ty × Bool) := [((.sl (.int .i64)), true)]
def h_S_hChallenges : Hints := { loops := [(0, { items := [.slot 9 (.own (.int .i64) true), .slot 10 (.data (.int .i64) [])], kill := [0, 5, 6, 7, 8, 11, 12, 13, 14, 15, 16, 17, 18, 19, 20, 21, 22, 23, 24, 25, 26, 27] })] }
noncomputable def M_S_hChallenges (x : ((Int × (Int × Int)) × (ByteArray × ((List Int) × Int)))) : (Option (List Int)) :=
  (loopO (fun (again0 : (((List Int) × Int) → (Option (List Int)))) => (fun (s1 : ((List Int) × Int)) => (cond (decide (s1.2 < x.2.2.2)) (bindO (M_S_l1Own x.2.2.1) (fun (a2 : (List Int)) => (bindO (guardO (lenOk ((List.length a2) + (List.length (s1.2 :: ([] : List Int)))))) (fun (a3 : Unit) => (bindO (some (a2 ++ (s1.2 :: ([] : List Int)))) (fun (a4 : (List Int)) => (bindO (M_S_hChallenge ((x.1.1, (x.1.2.1, x.1.2.2)), (x.2.1, a4))) (fun (a5 : Int) => (bindO (guardO (lenOk ((List.length s1.1) + (List.length (a5 :: ([] : List Int)))))) (fun (a6 : Unit) => (bindO (some (s1.1 ++ (a5 :: ([] : List Int)))) (fun (a7 : (List Int)) => (bindO (some (IntKind.wrap .i64 (s1.2 + (1 : Int)))) (fun (a8 : Int) => (again0 (a7, a8)))))))))))))))) (some s1.1)))) (([] : List Int), (0 : Int)))

noncomputable def c_S_hChallenges : Con0 := ⟨pk_S_hChallenges, rk_S_hChallenges, M_S_hChallenges⟩

set_option maxRecDepth 100000 in
theorem eq_S_hChallenges (x : In pk_S_hChallenges) : semF (mkE [(206, c_S_l1Own), (172, c_S_hChallenge)]) h_S_hChallenges (info Tryz.f199) pk_S_hChallenges rk_S_hChallenges x = M_S_hChallenges x := (semFF_eq _ _ _ _ _ _).symm.trans (by kernel_rfl)

set_option maxRecDepth 100000 in
theorem m_S_hChallenges : ConOK Tryz.prog 199 c_S_hChallenges := fn_ok (tyOK _) (E := mkE [(206, c_S_l1Own), (172, c_S_hChallenge)]) (consOK_cons m_S_l1Own (consOK_cons m_S_hChallenge (consOK_nil rfl))) Tryz.func199 (h := h_S_hChallenges) (by kernel_rfl) eq_S_hChallenges

/-- S_mChallenges -/
def pk_S_mChallenges : List PK := [.data (.cons (.int .i64) (.cons (.int .i64) (.one (.int .i64)))), .data (.int .i64), .data (.sl (.cons (.int .i64) (.one (.int .i64)))), .data (.sl (.cons (.int .i64) (.one (.int .i64)))), .data (.sl (.int .i64))]
def rk_S_mChallenges : List (Ty × Bool) := [((.sl (.int .i64)), true)]
def h_S_mChallenges : Hints := { loops := [] }
noncomputable def M_S_mChallenges (x : ((Int × (Int × Int)) × (Int × ((List (Int × Int)) × ((List (Int × Int)) × (List Int)))))) : (Option (List Int)) :=
  (bindO (M_S_mListed (x.2.1, (x.2.2.1, (x.2.2.2.1, x.2.2.2.2)))) (fun (a0 : (List Int)) => (bindO (M_S_hChallenges ((x.1.1, (x.1.2.1, x.1.2.2)), ((bytesOf [109, 105, 120, 32, 99, 111, 108, 117, 109, 110, 115]), (a0, (((List.length x.2.2.1) : Nat) : Int))))) (fun (a1 : (List Int)) => (some a1)))))

noncomputable def c_S_mChallenges : Con0 := ⟨pk_S_mChallenges, rk_S_mChallenges, M_S_mChallenges⟩

set_option maxRecDepth 100000 in
theorem eq_S_mChallenges (x : In pk_S_mChallenges) : semF (mkE [(173, c_S_mListed), (199, c_S_hChallenges)]) h_S_mChallenges (info Tryz.f164) pk_S_mChallenges rk_S_mChallenges x = M_S_mChallenges x := (semFF_eq _ _ _ _ _ _).symm.trans (by kernel_rfl)

set_option maxRecDepth 100000 in
theorem m_S_mChallenges : ConOK Tryz.prog 164 c_S_mChallenges := fn_ok (tyOK _) (E := mkE [(173, c_S_mListed), (199, c_S_hChallenges)]) (consOK_cons m_S_mListed (consOK_cons m_S_hChallenges (consOK_nil rfl))) Tryz.func164 (h := h_S_mChallenges) (by kernel_rfl) eq_S_mChallenges

/-- S_mSides -/
def pk_S_mSides : List PK := [.data (.sl (.cons (.int .i64) (.one (.int .i64))))]
def rk_S_mSides : List (Ty × Bool) := [((.sl (.int .i64)), true), ((.sl (.int .i64)), true)]
def h_S_mSides : Hints := { loops := [(0, { items := [.slot 4 (.own (.int .i64) true), .slot 5 (.own (.int .i64) true), .slot 10 (.data (.int .i64) [])], kill := [0, 1, 2, 3, 6, 7, 11, 12, 13, 14, 15, 16, 17, 18, 19, 20, 21, 22, 23, 24, 25, 26] })] }
noncomputable def M_S_mSides (x : (List (Int × Int))) : (Option ((List Int) × (List Int))) :=
  (loopO (fun (again0 : (((List Int) × ((List Int) × Int)) → (Option ((List Int) × (List Int))))) => (fun (s1 : ((List Int) × ((List Int) × Int))) => (cond (decide (s1.2.2 < (((List.length x) : Nat) : Int))) (bindO (getI x s1.2.2) (fun (a2 : (Int × Int)) => (bindO (guardO (lenOk ((List.length s1.1) + (List.length (a2.1 :: ([] : List Int)))))) (fun (a3 : Unit) => (bindO (some (s1.1 ++ (a2.1 :: ([] : List Int)))) (fun (a4 : (List Int)) => (bindO (guardO (lenOk ((List.length s1.2.1) + (List.length (a2.2 :: ([] : List Int)))))) (fun (a5 : Unit) => (bindO (some (s1.2.1 ++ (a2.2 :: ([] : List Int)))) (fun (a6 : (List Int)) => (bindO (some (IntKind.wrap .i64 (s1.2.2 + (1 : Int)))) (fun (a7 : Int) => (again0 (a4, (a6, a7))))))))))))))) (some (s1.1, s1.2.1))))) (([] : List Int), (([] : List Int), (0 : Int))))

noncomputable def c_S_mSides : Con0 := ⟨pk_S_mSides, rk_S_mSides, M_S_mSides⟩

set_option maxRecDepth 100000 in
theorem eq_S_mSides (x : In pk_S_mSides) : semF (mkE []) h_S_mSides (info Tryz.f165) pk_S_mSides rk_S_mSides x = M_S_mSides x := (semFF_eq _ _ _ _ _ _).symm.trans (by kernel_rfl)

set_option maxRecDepth 100000 in
theorem m_S_mSides : ConOK Tryz.prog 165 c_S_mSides := fn_ok (tyOK _) (E := mkE []) (consOK_nil rfl) Tryz.func165 (h := h_S_mSides) (by kernel_rfl) eq_S_mSides

/-- S_gMul -/
def pk_S_gMul : List PK := [.data (.cons (.int .i64) (.cons (.int .i64) (.one (.int .i64)))), .data (.sl (.int .i64))]
def rk_S_gMul : List (Ty × Bool) := [((.int .i64), false)]
def h_S_gMul : Hints := { loops := [(0, { items := [.slot 5 (.data (.int .i64) []), .slot 10 (.data (.int .i64) [])], kill := [0, 1, 3, 4, 6, 7, 11, 12, 13, 14, 15, 16, 17, 18, 19, 20, 21] })] }
noncomputable def M_S_gMul (x : ((Int × (Int × Int)) × (List Int))) : (Option Int) :=
  (loopO (fun (again0 : ((Int × Int) → (Option Int))) => (fun (s1 : (Int × Int)) => (cond (decide (s1.2 < (((List.length x.2) : Nat) : Int))) (bindO (getI x.2 s1.2) (fun (a2 : Int) => (bindO (some (IntKind.wrap .i64 (s1.1 * a2))) (fun (a3 : Int) => (bindO (guardO (x.1.1 != (0 : Int))) (fun (a4 : Unit) => (bindO (some (Int.tmod a3 x.1.1)) (fun (a5 : Int) => (bindO (some (IntKind.wrap .i64 (s1.2 + (1 : Int)))) (fun (a6 : Int) => (again0 (a5, a6)))))))))))) (some s1.1)))) ((1 : Int), (0 : Int)))

noncomputable def c_S_gMul : Con0 := ⟨pk_S_gMul, rk_S_gMul, M_S_gMul⟩

set_option maxRecDepth 100000 in
theorem eq_S_gMul (x : In pk_S_gMul) : semF (mkE []) h_S_gMul (info Tryz.f166) pk_S_gMul rk_S_gMul x = M_S_gMul x := (semFF_eq _ _ _ _ _ _).symm.trans (by kernel_rfl)

set_option maxRecDepth 100000 in
theorem m_S_gMul : ConOK Tryz.prog 166 c_S_gMul := fn_ok (tyOK _) (E := mkE []) (consOK_nil rfl) Tryz.func166 (h := h_S_gMul) (by kernel_rfl) eq_S_gMul

/-- S_gInv -/
def pk_S_gInv : List PK := [.data (.cons (.int .i64) (.cons (.int .i64) (.one (.int .i64)))), .data (.int .i64)]
def rk_S_gInv : List (Ty × Bool) := [((.int .i64), false)]
def h_S_gInv : Hints := { loops := [] }
noncomputable def M_S_gInv (x : ((Int × (Int × Int)) × Int)) : (Option Int) :=
  (bindO (some (IntKind.wrap .i64 (x.1.2.1 - (1 : Int)))) (fun (a0 : Int) => (bindO (M_S_nPower (x.2, (a0, x.1.1))) (fun (a1 : Int) => (some a1)))))

noncomputable def c_S_gInv : Con0 := ⟨pk_S_gInv, rk_S_gInv, M_S_gInv⟩

set_option maxRecDepth 100000 in
theorem eq_S_gInv (x : In pk_S_gInv) : semF (mkE [(158, c_S_nPower)]) h_S_gInv (info Tryz.f167) pk_S_gInv rk_S_gInv x = M_S_gInv x := (semFF_eq _ _ _ _ _ _).symm.trans (by kernel_rfl)

set_option maxRecDepth 100000 in
theorem m_S_gInv : ConOK Tryz.prog 167 c_S_gInv := fn_ok (tyOK _) (E := mkE [(158, c_S_nPower)]) (consOK_cons m_S_nPower (consOK_nil rfl)) Tryz.func167 (h := h_S_gInv) (by kernel_rfl) eq_S_gInv

/-- S_nMod -/
def pk_S_nMod : List PK := [.data (.int .i64), .data (.int .i64)]
def rk_S_nMod : List (Ty × Bool) := [((.int .i64), false)]
def h_S_nMod : Hints := { loops := [] }
noncomputable def M_S_nMod (x : (Int × Int)) : (Option Int) :=
  (bindO (guardO (x.2 != (0 : Int))) (fun (a0 : Unit) => (bindO (some (Int.tmod x.1 x.2)) (fun (a1 : Int) => (bindO (some (IntKind.wrap .i64 (a1 + x.2))) (fun (a2 : Int) => (bindO (guardO (x.2 != (0 : Int))) (fun (a3 : Unit) => (bindO (some (Int.tmod a2 x.2)) (fun (a4 : Int) => (some a4)))))))))))

noncomputable def c_S_nMod : Con0 := ⟨pk_S_nMod, rk_S_nMod, M_S_nMod⟩

set_option maxRecDepth 100000 in
theorem eq_S_nMod (x : In pk_S_nMod) : semF (mkE []) h_S_nMod (info Tryz.f193) pk_S_nMod rk_S_nMod x = M_S_nMod x := (semFF_eq _ _ _ _ _ _).symm.trans (by kernel_rfl)

set_option maxRecDepth 100000 in
theorem m_S_nMod : ConOK Tryz.prog 193 c_S_nMod := fn_ok (tyOK _) (E := mkE []) (consOK_nil rfl) Tryz.func193 (h := h_S_nMod) (by kernel_rfl) eq_S_nMod

/-- S_gExp -/
def pk_S_gExp : List PK := [.data (.cons (.int .i64) (.cons (.int .i64) (.one (.int .i64)))), .data (.int .i64), .data (.int .i64)]
def rk_S_gExp : List (Ty × Bool) := [((.int .i64), false)]
def h_S_gExp : Hints := { loops := [] }
noncomputable def M_S_gExp (x : ((Int × (Int × Int)) × (Int × Int))) : (Option Int) :=
  (bindO (M_S_nMod (x.2.2, x.1.2.1)) (fun (a0 : Int) => (bindO (M_S_nPower (x.2.1, (a0, x.1.1))) (fun (a1 : Int) => (some a1)))))

noncomputable def c_S_gExp : Con0 := ⟨pk_S_gExp, rk_S_gExp, M_S_gExp⟩

set_option maxRecDepth 100000 in
theorem eq_S_gExp (x : In pk_S_gExp) : semF (mkE [(193, c_S_nMod), (158, c_S_nPower)]) h_S_gExp (info Tryz.f169) pk_S_gExp rk_S_gExp x = M_S_gExp x := (semFF_eq _ _ _ _ _ _).symm.trans (by kernel_rfl)

set_option maxRecDepth 100000 in
theorem m_S_gExp : ConOK Tryz.prog 169 c_S_gExp := fn_ok (tyOK _) (E := mkE [(193, c_S_nMod), (158, c_S_nPower)]) (consOK_cons m_S_nMod (consOK_cons m_S_nPower (consOK_nil rfl))) Tryz.func169 (h := h_S_gExp) (by kernel_rfl) eq_S_gExp

/-- S_gProd -/
def pk_S_gProd : List PK := [.data (.cons (.int .i64) (.cons (.int .i64) (.one (.int .i64)))), .data (.sl (.int .i64)), .data (.sl (.int .i64))]
def rk_S_gProd : List (Ty × Bool) := [((.int .i64), false)]
def h_S_gProd : Hints := { loops := [(0, { items := [.slot 7 (.data (.int .i64) []), .slot 12 (.data (.int .i64) [])], kill := [0, 1, 4, 5, 6, 8, 9, 13, 14, 15, 16, 17, 18, 19, 20, 21, 22, 23, 24, 25, 26, 27, 28, 29, 30] })] }
noncomputable def M_S_gProd (x : ((Int × (Int × Int)) × ((List Int) × (List Int)))) : (Option Int) :=
  (loopO (fun (again0 : ((Int × Int) → (Option Int))) => (fun (s1 : (Int × Int)) => (cond (decide (s1.2 < (((List.length x.2.1) : Nat) : Int))) (bindO (getI x.2.1 s1.2) (fun (a2 : Int) => (bindO (getI x.2.2 s1.2) (fun (a3 : Int) => (bindO (M_S_gExp ((x.1.1, (x.1.2.1, x.1.2.2)), (a2, a3))) (fun (a4 : Int) => (bindO (some (IntKind.wrap .i64 (s1.1 * a4))) (fun (a5 : Int) => (bindO (guardO (x.1.1 != (0 : Int))) (fun (a6 : Unit) => (bindO (some (Int.tmod a5 x.1.1)) (fun (a7 : Int) => (bindO (some (IntKind.wrap .i64 (s1.2 + (1 : Int)))) (fun (a8 : Int) => (again0 (a7, a8)))))))))))))))) (some s1.1)))) ((1 : Int), (0 : Int)))

noncomputable def c_S_gProd : Con0 := ⟨pk_S_gProd, rk_S_gProd, M_S_gProd⟩

set_option maxRecDepth 100000 in
theorem eq_S_gProd (x : In pk_S_gProd) : semF (mkE [(169, c_S_gExp)]) h_S_gProd (info Tryz.f168) pk_S_gProd rk_S_gProd x = M_S_gProd x := (semFF_eq _ _ _ _ _ _).symm.trans (by kernel_rfl)

set_option maxRecDepth 100000 in
theorem m_S_gProd : ConOK Tryz.prog 168 c_S_gProd := fn_ok (tyOK _) (E := mkE [(169, c_S_gExp)]) (consOK_cons m_S_gExp (consOK_nil rfl)) Tryz.func168 (h := h_S_gProd) (by kernel_rfl) eq_S_gProd

/-- S_mVerify -/
def pk_S_mVerify : List PK := [.data (.cons (.int .i64) (.cons (.int .i64) (.one (.int .i64)))), .data (.int .i64), .data (.cons (.int .i64) (.one (.sl (.int .i64)))), .data (.sl (.cons (.int .i64) (.one (.int .i64)))), .data (.sl (.cons (.int .i64) (.one (.int .i64)))), .data (.cons (.sl (.int .i64)) (.cons (.sl (.int .i64)) (.one (.cons (.sl (.int .i64)) (.cons (.sl (.int .i64)) (.one (.sl (.int .i64))))))))]
def rk_S_mVerify : List (Ty × Bool) := [(.bool, false)]
def h_S_mVerify : Hints := { loops := [(0, { items := [.slot 19 (.data (.int .i64) []), .slot 84 (.data (.int .i64) [])], kill := [0, 2, 5, 7, 9, 10, 12, 20, 21, 22, 23, 24, 25, 26, 27, 28, 29, 30, 31, 32, 33, 34, 35, 36, 37, 38, 39, 40, 41, 42, 43, 44, 45, 46, 47, 48, 49, 50, 51, 52, 53, 54, 55, 56, 57, 58, 59, 60, 61, 62, 63, 64, 65, 66, 67, 68, 69, 70, 71, 72, 73, 74, 75, 76, 77, 78, 79, 80, 81, 85, 86, 87, 88, 89, 90, 91, 92, 93, 94, 95, 96, 97, 98, 99, 100, 101, 102, 103, 104, 105, 106, 107, 108, 109, 110, 111, 112, 113, 114, 115, 116, 117, 118, 119, 120, 121, 122, 123, 124, 125, 126, 127, 128, 129, 130, 131, 132, 133, 134, 135, 136, 137, 138, 139, 140, 141, 142, 143, 144, 145, 146, 147, 148, 149, 150, 151, 152, 153, 154, 155, 156, 157, 158, 159, 160, 161, 162, 163, 164, 165, 166, 167, 168, 169, 170, 171, 172, 173, 174, 175, 176, 177, 178, 179, 180, 181, 182, 183, 184, 185, 186, 187, 188, 189, 190, 191, 192, 193, 194, 195, 196, 197, 198, 199, 200, 201, 202, 203, 204, 205, 206, 207, 208, 209, 210, 211, 212, 213, 214, 215, 216, 217, 218, 219, 220, 221, 222, 223, 224, 225, 226, 227, 228, 229, 230, 231, 232, 233, 234, 235, 236, 237, 238, 239, 240, 241, 242, 243, 244, 245, 246, 247, 248, 249, 250, 251, 252, 253, 254, 255, 256, 257, 258, 259, 260, 261, 262, 263, 264, 265, 266, 267] }), (2, { items := [.slot 26 (.own (.int .i64) true), .slot 27 (.own (.int .i64) true), .slot 28 (.data (.int .i64) []), .slot 211 (.data (.int .i64) [])], kill := [0, 1, 2, 3, 4, 5, 7, 8, 9, 10, 11, 12, 13, 18, 19, 20, 21, 22, 23, 24, 25, 29, 30, 31, 32, 33, 34, 35, 36, 37, 38, 39, 40, 41, 42, 43, 44, 45, 46, 47, 48, 49, 50, 51, 52, 53, 54, 55, 56, 57, 58, 59, 60, 61, 62, 63, 64, 65, 66, 67, 68, 69, 70, 71, 72, 73, 74, 75, 76, 77, 78, 79, 80, 81, 82, 83, 84, 85, 86, 87, 88, 89, 90, 91, 92, 93, 94, 95, 96, 97, 98, 99, 100, 101, 102, 103, 104, 105, 106, 107, 108, 109, 110, 111, 112, 113, 114, 115, 116, 117, 118, 119, 120, 121, 122, 123, 124, 125, 126, 127, 128, 129, 130, 131, 132, 133, 134, 135, 136, 137, 138, 139, 140, 141, 142, 143, 144, 145, 146, 147, 148, 149, 150, 151, 152, 153, 154, 155, 156, 157, 158, 159, 160, 161, 162, 163, 164, 165, 166, 167, 168, 169, 170, 171, 172, 173, 174, 175, 176, 177, 178, 179, 180, 181, 182, 183, 184, 185, 186, 187, 188, 189, 190, 191, 192, 193, 194, 195, 196, 197, 198, 199, 200, 201, 202, 203, 204, 205, 206, 207, 208, 212, 213, 214, 215, 216, 217, 218, 219, 220, 221, 222, 223, 224, 225, 226, 227, 228, 229, 230, 231, 232, 233, 234, 235, 236, 237, 238, 239, 240, 241, 242, 243, 244, 245, 246, 247, 248, 249, 250, 251, 252, 253, 254, 255, 256, 257, 258, 259, 260, 261, 262, 263, 264, 265, 266, 267] }), (4, { items := [.slot 246 (.data (.int .i64) [])], kill := [0, 1, 2, 3, 4, 5, 7, 8, 9, 10, 11, 12, 13, 16, 17, 18, 19, 20, 21, 22, 23, 24, 25, 26, 28, 29, 30, 31, 32, 33, 34, 35, 36, 37, 38, 39, 40, 41, 42, 43, 44, 45, 46, 47, 48, 49, 50, 51, 52, 53, 54, 55, 56, 57, 58, 59, 60, 61, 62, 63, 64, 65, 66, 67, 68, 69, 70, 71, 72, 73, 74, 75, 76, 77, 78, 79, 80, 81, 82, 83, 84, 85, 86, 87, 88, 89, 90, 91, 92, 93, 94, 95, 96, 97, 98, 99, 100, 101, 102, 103, 104, 105, 106, 107, 108, 109, 110, 111, 112, 113, 114, 115, 116, 117, 118, 119, 120, 121, 122, 123, 124, 125, 126, 127, 128, 129, 130, 131, 132, 133, 134, 135, 136, 137, 138, 139, 140, 141, 142, 143, 144, 145, 146, 147, 148, 149, 150, 151, 152, 153, 154, 155, 156, 157, 158, 159, 160, 161, 162, 163, 164, 165, 166, 167, 168, 169, 170, 171, 172, 173, 174, 175, 176, 177, 178, 179, 180, 181, 182, 183, 184, 185, 186, 187, 188, 189, 190, 191, 192, 193, 194, 195, 196, 197, 198, 199, 200, 201, 202, 203, 204, 205, 206, 207, 208, 209, 210, 211, 212, 213, 214, 215, 216, 217, 218, 219, 220, 221, 222, 223, 224, 225, 226, 227, 228, 229, 230, 231, 232, 233, 234, 235, 236, 237, 238, 239, 240, 241, 242, 243, 247, 248, 249, 250, 251, 252, 253, 254, 255, 256, 257, 258, 259, 260, 261, 262, 263, 264, 265, 266, 267] })] }
noncomputable def M_S_mVerify (x : ((Int × (Int × Int)) × (Int × ((Int × (List Int)) × ((List (Int × Int)) × ((List (Int × Int)) × ((List Int) × ((List Int) × ((List Int) × ((List Int) × (List Int))))))))))) : (Option Bool) :=
  (cond ((((List.length x.2.2.2.2.1) : Nat) : Int) != (((List.length x.2.2.2.1) : Nat) : Int)) (some false) (bindO (M_S_mShape ((x.1.1, (x.1.2.1, x.1.2.2)), ((((List.length x.2.2.2.1) : Nat) : Int), (x.2.2.2.2.2.1, (x.2.2.2.2.2.2.1, (x.2.2.2.2.2.2.2.1, (x.2.2.2.2.2.2.2.2.1, x.2.2.2.2.2.2.2.2.2))))))) (fun (a0 : Bool) => (cond (not a0) (some false) (bindO (getI x.2.2.2.2.2.2.2.2.1 (0 : Int)) (fun (a1 : Int) => (bindO (M_S_mChallenge ((x.1.1, (x.1.2.1, x.1.2.2)), (x.2.1, (x.2.2.2.1, (x.2.2.2.2.1, (x.2.2.2.2.2.1, (x.2.2.2.2.2.2.1, (x.2.2.2.2.2.2.2.1, (x.2.2.2.2.2.2.2.2.1, x.2.2.2.2.2.2.2.2.2))))))))) (fun (a2 : Int) => (cond (a1 != a2) (some false) (bindO (getI x.2.2.2.2.2.2.2.2.1 (0 : Int)) (fun (a3 : Int) => (bindO (some (IntKind.wrap .i64 ((((List.length x.2.2.2.1) : Nat) : Int) + (4 : Int)))) (fun (a4 : Int) => (bindO (sliceLN a4 (List.length x.2.2.2.2.2.2.2.2.2)) (fun (a5 : (Nat × Nat)) => (bindO (M_S_mChallenges ((x.1.1, (x.1.2.1, x.1.2.2)), (x.2.1, (x.2.2.2.1, (x.2.2.2.2.1, x.2.2.2.2.2.1))))) (fun (a6 : (List Int)) => (loopO (fun (again7 : ((Int × Int) → (Option Bool))) => (fun (s8 : (Int × Int)) => (cond (decide (s8.2 < (((List.length a6) : Nat) : Int))) (bindO (getI a6 s8.2) (fun (a9 : Int) => (bindO (some (IntKind.wrap .i64 (s8.1 * a9))) (fun (a10 : Int) => (bindO (guardO (x.1.2.1 != (0 : Int))) (fun (a11 : Unit) => (bindO (some (Int.tmod a10 x.1.2.1)) (fun (a12 : Int) => (bindO (some (IntKind.wrap .i64 (s8.2 + (1 : Int)))) (fun (a13 : Int) => (again7 (a12, a13)))))))))))) (bindO (M_S_mSides x.2.2.2.1) (fun (a14 : ((List Int) × (List Int))) => (bindO (M_S_mSides x.2.2.2.2.1) (fun (a15 : ((List Int) × (List Int))) => (bindO (M_S_gMul ((x.1.1, (x.1.2.1, x.1.2.2)), x.2.2.2.2.2.1)) (fun (a16 : Int) => (bindO (M_S_gMul ((x.1.1, (x.1.2.1, x.1.2.2)), x.2.2.1.2)) (fun (a17 : Int) => (bindO (M_S_gInv ((x.1.1, (x.1.2.1, x.1.2.2)), a17)) (fun (a18 : Int) => (bindO (M_S_gMul ((x.1.1, (x.1.2.1, x.1.2.2)), (a16 :: (a18 :: ([] : List Int))))) (fun (a19 : Int) => (bindO (M_S_gProd ((x.1.1, (x.1.2.1, x.1.2.2)), (x.2.2.2.2.2.1, a6))) (fun (a20 : Int) => (bindO (some (IntKind.wrap .i64 ((((List.length x.2.2.2.1) : Nat) : Int) - (1 : Int)))) (fun (a21 : Int) => (bindO (getI x.2.2.2.2.2.2.1 a21) (fun (a22 : Int) => (bindO (some (IntKind.wrap .i64 ((0 : Int) - s8.1))) (fun (a23 : Int) => (bindO (M_S_gExp ((x.1.1, (x.1.2.1, x.1.2.2)), (x.2.2.1.1, a23))) (fun (a24 : Int) => (bindO (M_S_gMul ((x.1.1, (x.1.2.1, x.1.2.2)), (a22 :: (a24 :: ([] : List Int))))) (fun (a25 : Int) => (bindO (M_S_gProd ((x.1.1, (x.1.2.1, x.1.2.2)), (a14.1, a6))) (fun (a26 : Int) => (bindO (M_S_gProd ((x.1.1, (x.1.2.1, x.1.2.2)), (a14.2, a6))) (fun (a27 : Int) => (bindO (getI x.2.2.2.2.2.2.2.2.2 (0 : Int)) (fun (a28 : Int) => (bindO (M_S_gExp ((x.1.1, (x.1.2.1, x.1.2.2)), (x.1.2.2, a28))) (fun (a29 : Int) => (bindO (getI x.2.2.2.2.2.2.2.2.2 (1 : Int)) (fun (a30 : Int) => (bindO (M_S_gExp ((x.1.1, (x.1.2.1, x.1.2.2)), (x.1.2.2, a30))) (fun (a31 : Int) => (bindO (M_S_gProd ((x.1.1, (x.1.2.1, x.1.2.2)), (x.2.2.1.2, (List.drop a5.1 (List.take a5.2 x.2.2.2.2.2.2.2.2.2))))) (fun (a32 : Int) => (bindO (M_S_gMul ((x.1.1, (x.1.2.1, x.1.2.2)), (a31 :: (a32 :: ([] : List Int))))) (fun (a33 : Int) => (bindO (getI x.2.2.2.2.2.2.2.2.2 (2 : Int)) (fun (a34 : Int) => (bindO (M_S_gExp ((x.1.1, (x.1.2.1, x.1.2.2)), (x.1.2.2, a34))) (fun (a35 : Int) => (bindO (getI x.2.2.2.2.2.2.2.2.2 (3 : Int)) (fun (a36 : Int) => (bindO (some (IntKind.wrap .i64 ((0 : Int) - a36))) (fun (a37 : Int) => (bindO (M_S_gExp ((x.1.1, (x.1.2.1, x.1.2.2)), (x.1.2.2, a37))) (fun (a38 : Int) => (bindO (M_S_gProd ((x.1.1, (x.1.2.1, x.1.2.2)), (a15.1, (List.drop a5.1 (List.take a5.2 x.2.2.2.2.2.2.2.2.2))))) (fun (a39 : Int) => (bindO (M_S_gMul ((x.1.1, (x.1.2.1, x.1.2.2)), (a38 :: (a39 :: ([] : List Int))))) (fun (a40 : Int) => (bindO (getI x.2.2.2.2.2.2.2.2.2 (3 : Int)) (fun (a41 : Int) => (bindO (some (IntKind.wrap .i64 ((0 : Int) - a41))) (fun (a42 : Int) => (bindO (M_S_gExp ((x.1.1, (x.1.2.1, x.1.2.2)), (x.2.1, a42))) (fun (a43 : Int) => (bindO (M_S_gProd ((x.1.1, (x.1.2.1, x.1.2.2)), (a15.2, (List.drop a5.1 (List.take a5.2 x.2.2.2.2.2.2.2.2.2))))) (fun (a44 : Int) => (bindO (M_S_gMul ((x.1.1, (x.1.2.1, x.1.2.2)), (a43 :: (a44 :: ([] : List Int))))) (fun (a45 : Int) => (loopO (fun (again46 : (((List Int) × ((List Int) × (Int × Int))) → (Option Bool))) => (fun (s47 : ((List Int) × ((List Int) × (Int × Int)))) => (cond (decide (s47.2.2.2 < (((List.length x.2.2.2.2.2.2.1) : Nat) : Int))) (bindO (getI x.2.2.2.2.2.2.1 s47.2.2.2) (fun (a48 : Int) => (bindO (guardO (lenOk ((List.length s47.1) + (List.length (a48 :: ([] : List Int)))))) (fun (a49 : Unit) => (bindO (some (s47.1 ++ (a48 :: ([] : List Int)))) (fun (a50 : (List Int)) => (bindO (some (IntKind.wrap .i64 ((4 : Int) + s47.2.2.2))) (fun (a51 : Int) => (bindO (getI x.2.2.2.2.2.2.2.2.2 a51) (fun (a52 : Int) => (bindO (M_S_gExp ((x.1.1, (x.1.2.1, x.1.2.2)), (x.1.2.2, a52))) (fun (a53 : Int) => (bindO (getI (List.drop a5.1 (List.take a5.2 x.2.2.2.2.2.2.2.2.2)) s47.2.2.2) (fun (a54 : Int) => (bindO (M_S_gExp ((x.1.1, (x.1.2.1, x.1.2.2)), (s47.2.2.1, a54))) (fun (a55 : Int) => (bindO (M_S_gMul ((x.1.1, (x.1.2.1, x.1.2.2)), (a53 :: (a55 :: ([] : List Int))))) (fun (a56 : Int) => (bindO (guardO (lenOk ((List.length s47.2.1) + (List.length (a56 :: ([] : List Int)))))) (fun (a57 : Unit) => (bindO (some (s47.2.1 ++ (a56 :: ([] : List Int)))) (fun (a58 : (List Int)) => (bindO (some (IntKind.wrap .i64 (s47.2.2.2 + (1 : Int)))) (fun (a59 : Int) => (again46 (a50, (a58, (a48, a59)))))))))))))))))))))))))))) (loopO (fun (again60 : (Int → (Option Bool))) => (fun (s61 : Int) => (cond (decide (s61 < (((List.length s47.1) : Nat) : Int))) (bindO (getI s47.1 s61) (fun (a62 : Int) => (bindO (getI x.2.2.2.2.2.2.2.1 s61) (fun (a63 : Int) => (bindO (M_S_gExp ((x.1.1, (x.1.2.1, x.1.2.2)), (a62, a3))) (fun (a64 : Int) => (bindO (M_S_gMul ((x.1.1, (x.1.2.1, x.1.2.2)), (a63 :: (a64 :: ([] : List Int))))) (fun (a65 : Int) => (bindO (getI s47.2.1 s61) (fun (a66 : Int) => (cond (a65 != a66) (some false) (bindO (some (IntKind.wrap .i64 (s61 + (1 : Int)))) (fun (a67 : Int) => (again60 a67)))))))))))))) (some true)))) (0 : Int))))) ((a19 :: (a20 :: (a25 :: (a26 :: (a27 :: ([] : List Int)))))), ((a29 :: (a33 :: (a35 :: (a40 :: (a45 :: ([] : List Int)))))), (x.2.2.1.1, (0 : Int)))))))))))))))))))))))))))))))))))))))))))))))))))))))))))))))))))))))) ((1 : Int), (0 : Int))))))))))))))))))))

noncomputable def c_S_mVerify : Con0 := ⟨pk_S_mVerify, rk_S_mVerify, M_S_mVerify⟩

set_option maxRecDepth 100000 in
theorem eq_S_mVerify (x : In pk_S_mVerify) : semF (mkE [(162, c_S_mShape), (163, c_S_mChallenge), (164, c_S_mChallenges), (165, c_S_mSides), (166, c_S_gMul), (167, c_S_gInv), (168, c_S_gProd), (169, c_S_gExp)]) h_S_mVerify (info Tryz.f111) pk_S_mVerify rk_S_mVerify x = M_S_mVerify x := (semFF_eq _ _ _ _ _ _).symm.trans (by kernel_rfl)

set_option maxRecDepth 100000 in
theorem m_S_mVerify : ConOK Tryz.prog 111 c_S_mVerify := fn_ok (tyOK _) (E := mkE [(162, c_S_mShape), (163, c_S_mChallenge), (164, c_S_mChallenges), (165, c_S_mSides), (166, c_S_gMul), (167, c_S_gInv), (168, c_S_gProd), (169, c_S_gExp)]) (consOK_cons m_S_mShape (consOK_cons m_S_mChallenge (consOK_cons m_S_mChallenges (consOK_cons m_S_mSides (consOK_cons m_S_gMul (consOK_cons m_S_gInv (consOK_cons m_S_gProd (consOK_cons m_S_gExp (consOK_nil rfl))))))))) Tryz.func111 (h := h_S_mVerify) (by kernel_rfl) eq_S_mVerify

/-- S_VerifyMatrix -/
def pk_S_VerifyMatrix : List PK := [.data (.cons (.int .i64) (.cons (.int .i64) (.one (.int .i64)))), .data (.int .i64), .data (.sl (.cons (.int .i64) (.one (.int .i64)))), .data (.sl (.cons (.int .i64) (.one (.int .i64)))), .data (.cons (.sl (.int .i64)) (.cons (.sl (.int .i64)) (.one (.cons (.sl (.int .i64)) (.cons (.sl (.int .i64)) (.one (.sl (.int .i64))))))))]
def rk_S_VerifyMatrix : List (Ty × Bool) := [(.bool, false), (.bool, false)]
def h_S_VerifyMatrix : Hints := { loops := [] }
noncomputable def M_S_VerifyMatrix (x : ((Int × (Int × Int)) × (Int × ((List (Int × Int)) × ((List (Int × Int)) × ((List Int) × ((List Int) × ((List Int) × ((List Int) × (List Int)))))))))) : (Option (Bool × Bool)) :=
  (bindO (M_S_mList ((x.1.1, (x.1.2.1, x.1.2.2)), (x.2.1, x.2.2.1))) (fun (a0 : Bool) => (cond (not a0) (some (false, false)) (bindO (M_S_mList ((x.1.1, (x.1.2.1, x.1.2.2)), (x.2.1, x.2.2.2.1))) (fun (a1 : Bool) => (cond (not a1) (some (false, false)) (bindO (M_S_BasesOf ((x.1.1, (x.1.2.1, x.1.2.2)), (((List.length x.2.2.1) : Nat) : Int))) (fun (a2 : ((Int × (List Int)) × Bool)) => (cond (not a2.2) (some (false, false)) (bindO (M_S_mVerify ((x.1.1, (x.1.2.1, x.1.2.2)), (x.2.1, ((a2.1.1, a2.1.2), (x.2.2.1, (x.2.2.2.1, (x.2.2.2.2.1, (x.2.2.2.2.2.1, (x.2.2.2.2.2.2.1, (x.2.2.2.2.2.2.2.1, x.2.2.2.2.2.2.2.2)))))))))) (fun (a3 : Bool) => (some (a3, true)))))))))))))

noncomputable def c_S_VerifyMatrix : Con0 := ⟨pk_S_VerifyMatrix, rk_S_VerifyMatrix, M_S_VerifyMatrix⟩

set_option maxRecDepth 100000 in
theorem eq_S_VerifyMatrix (x : In pk_S_VerifyMatrix) : semF (mkE [(75, c_S_mList), (76, c_S_BasesOf), (111, c_S_mVerify)]) h_S_VerifyMatrix (info Tryz.f78) pk_S_VerifyMatrix rk_S_VerifyMatrix x = M_S_VerifyMatrix x := (semFF_eq _ _ _ _ _ _).symm.trans (by kernel_rfl)

set_option maxRecDepth 100000 in
theorem m_S_VerifyMatrix : ConOK Tryz.prog 78 c_S_VerifyMatrix := fn_ok (tyOK _) (E := mkE [(75, c_S_mList), (76, c_S_BasesOf), (111, c_S_mVerify)]) (consOK_cons m_S_mList (consOK_cons m_S_BasesOf (consOK_cons m_S_mVerify (consOK_nil rfl)))) Tryz.func78 (h := h_S_VerifyMatrix) (by kernel_rfl) eq_S_VerifyMatrix

/-- S_bNone -/
def pk_S_bNone : List PK := [.data (.cons (.sl (.int .i64)) (.cons (.sl (.int .i64)) (.one (.sl (.int .i64)))))]
def rk_S_bNone : List (Ty × Bool) := [(.bool, false)]
def h_S_bNone : Hints := { loops := [] }
noncomputable def M_S_bNone (x : ((List Int) × ((List Int) × (List Int)))) : (Option Bool) :=
  (bindO (some (IntKind.wrap .i64 ((((List.length x.1) : Nat) : Int) + (((List.length x.2.1) : Nat) : Int)))) (fun (a0 : Int) => (bindO (some (IntKind.wrap .i64 (a0 + (((List.length x.2.2) : Nat) : Int)))) (fun (a1 : Int) => (some (a1 == (0 : Int)))))))

noncomputable def c_S_bNone : Con0 := ⟨pk_S_bNone, rk_S_bNone, M_S_bNone⟩

set_option maxRecDepth 100000 in
theorem eq_S_bNone (x : In pk_S_bNone) : semF (mkE []) h_S_bNone (info Tryz.f112) pk_S_bNone rk_S_bNone x = M_S_bNone x := (semFF_eq _ _ _ _ _ _).symm.trans (by kernel_rfl)

set_option maxRecDepth 100000 in
theorem m_S_bNone : ConOK Tryz.prog 112 c_S_bNone := fn_ok (tyOK _) (E := mkE []) (consOK_nil rfl) Tryz.func112 (h := h_S_bNone) (by kernel_rfl) eq_S_bNone

/-- S_xNoPoly -/
def pk_S_xNoPoly : List PK := [.data (.cons (.sl (.int .i64)) (.cons (.sl (.int .i64)) (.cons (.sl (.int .i64)) (.one (.cons (.sl (.int .i64)) (.cons (.sl (.int .i64)) (.one (.sl (.int .i64)))))))))]
def rk_S_xNoPoly : List (Ty × Bool) := [(.bool, false)]
def h_S_xNoPoly : Hints := { loops := [] }
noncomputable def M_S_xNoPoly (x : ((List Int) × ((List Int) × ((List Int) × ((List Int) × ((List Int) × (List Int))))))) : (Option Bool) :=
  (bindO (some (IntKind.wrap .i64 ((((List.length x.1) : Nat) : Int) + (((List.length x.2.1) : Nat) : Int)))) (fun (a0 : Int) => (bindO (some (IntKind.wrap .i64 (a0 + (((List.length x.2.2.1) : Nat) : Int)))) (fun (a1 : Int) => (cond (a1 == (0 : Int)) (bindO (M_S_bNone (x.2.2.2.1, (x.2.2.2.2.1, x.2.2.2.2.2))) (fun (a2 : Bool) => (some a2))) (some false))))))

noncomputable def c_S_xNoPoly : Con0 := ⟨pk_S_xNoPoly, rk_S_xNoPoly, M_S_xNoPoly⟩

set_option maxRecDepth 100000 in
theorem eq_S_xNoPoly (x : In pk_S_xNoPoly) : semF (mkE [(112, c_S_bNone)]) h_S_xNoPoly (info Tryz.f79) pk_S_xNoPoly rk_S_xNoPoly x = M_S_xNoPoly x := (semFF_eq _ _ _ _ _ _).symm.trans (by kernel_rfl)

set_option maxRecDepth 100000 in
theorem m_S_xNoPoly : ConOK Tryz.prog 79 c_S_xNoPoly := fn_ok (tyOK _) (E := mkE [(112, c_S_bNone)]) (consOK_cons m_S_bNone (consOK_nil rfl)) Tryz.func79 (h := h_S_xNoPoly) (by kernel_rfl) eq_S_xNoPoly

/-- S_vBase -/
def pk_S_vBase : List PK := [.data (.cons (.int .i64) (.cons (.int .i64) (.one (.int .i64))))]
def rk_S_vBase : List (Ty × Bool) := [((.int .i64), false), (.bool, false)]
def h_S_vBase : Hints := { loops := [] }
noncomputable def M_S_vBase (x : (Int × (Int × Int))) : (Option (Int × Bool)) :=
  (bindO (M_S_BasesOf ((x.1, (x.2.1, x.2.2)), (0 : Int))) (fun (a0 : ((Int × (List Int)) × Bool)) => (some (a0.1.1, a0.2))))

noncomputable def c_S_vBase : Con0 := ⟨pk_S_vBase, rk_S_vBase, M_S_vBase⟩

set_option maxRecDepth 100000 in
theorem eq_S_vBase (x : In pk_S_vBase) : semF (mkE [(76, c_S_BasesOf)]) h_S_vBase (info Tryz.f113) pk_S_vBase rk_S_vBase x = M_S_vBase x := (semFF_eq _ _ _ _ _ _).symm.trans (by kernel_rfl)

set_option maxRecDepth 100000 in
theorem m_S_vBase : ConOK Tryz.prog 113 c_S_vBase := fn_ok (tyOK _) (E := mkE [(76, c_S_BasesOf)]) (consOK_cons m_S_BasesOf (consOK_nil rfl)) Tryz.func113 (h := h_S_vBase) (by kernel_rfl) eq_S_vBase

/-- S_vShape -/
def pk_S_vShape : List PK := [.data (.cons (.int .i64) (.cons (.int .i64) (.one (.int .i64)))), .data (.int .i64), .data (.cons (.sl (.int .i64)) (.cons (.sl (.int .i64)) (.cons (.sl (.int .i64)) (.one (.cons (.sl (.int .i64)) (.cons (.sl (.int .i64)) (.one (.sl (.int .i64)))))))))]
def rk_S_vShape : List (Ty × Bool) := [(.bool, false)]
def h_S_vShape : Hints := { loops := [] }
noncomputable def M_S_vShape (x : ((Int × (Int × Int)) × (Int × ((List Int) × ((List Int) × ((List Int) × ((List Int) × ((List Int) × (List Int))))))))) : (Option Bool) :=
  (cond ((((List.length x.2.2.1) : Nat) : Int) == x.2.1) (cond ((((List.length x.2.2.2.1) : Nat) : Int) == x.2.1) (cond ((((List.length x.2.2.2.2.1) : Nat) : Int) == x.2.1) (bindO (some (IntKind.wrap .i64 ((3 : Int) * x.2.1))) (fun (a0 : Int) => (bindO (some (IntKind.wrap .i64 (a0 + (3 : Int)))) (fun (a1 : Int) => (cond ((((List.length x.2.2.2.2.2.1) : Nat) : Int) == a1) (cond ((((List.length x.2.2.2.2.2.2.1) : Nat) : Int) == (1 : Int)) (bindO (some (IntKind.wrap .i64 ((5 : Int) * x.2.1))) (fun (a2 : Int) => (bindO (some (IntKind.wrap .i64 (a2 + (2 : Int)))) (fun (a3 : Int) => (cond ((((List.length x.2.2.2.2.2.2.2) : Nat) : Int) == a3) (bindO (M_S_gIs ((x.1.1, (x.1.2.1, x.1.2.2)), x.2.2.1)) (fun (a4 : Bool) => (cond a4 (bindO (M_S_gIs ((x.1.1, (x.1.2.1, x.1.2.2)), x.2.2.2.1)) (fun (a5 : Bool) => (cond a5 (bindO (M_S_gIs ((x.1.1, (x.1.2.1, x.1.2.2)), x.2.2.2.2.1)) (fun (a6 : Bool) => (cond a6 (bindO (M_S_gIs ((x.1.1, (x.1.2.1, x.1.2.2)), x.2.2.2.2.2.1)) (fun (a7 : Bool) => (cond a7 (bindO (M_S_gExps ((x.1.1, (x.1.2.1, x.1.2.2)), x.2.2.2.2.2.2.2)) (fun (a8 : Bool) => (some a8))) (some false)))) (some false)))) (some false)))) (some false)))) (some false)))))) (some false)) (some false)))))) (some false)) (some false)) (some false))

noncomputable def c_S_vShape : Con0 := ⟨pk_S_vShape, rk_S_vShape, M_S_vShape⟩

set_option maxRecDepth 100000 in
theorem eq_S_vShape (x : In pk_S_vShape) : semF (mkE [(110, c_S_gIs), (61, c_S_gExps)]) h_S_vShape (info Tryz.f170) pk_S_vShape rk_S_vShape x = M_S_vShape x := (semFF_eq _ _ _ _ _ _).symm.trans (by kernel_rfl)

set_option maxRecDepth 100000 in
theorem m_S_vShape : ConOK Tryz.prog 170 c_S_vShape := fn_ok (tyOK _) (E := mkE [(110, c_S_gIs), (61, c_S_gExps)]) (consOK_cons m_S_gIs (consOK_cons m_S_gExps (consOK_nil rfl))) Tryz.func170 (h := h_S_vShape) (by kernel_rfl) eq_S_vShape

/-- S_vEnd -/
def pk_S_vEnd : List PK := [.data (.cons (.int .i64) (.cons (.int .i64) (.one (.int .i64)))), .data (.int .i64), .data (.sl (.cons (.int .i64) (.one (.int .i64)))), .data (.sl (.cons (.int .i64) (.one (.int .i64)))), .data (.cons (.sl (.int .i64)) (.cons (.sl (.int .i64)) (.cons (.sl (.int .i64)) (.one (.cons (.sl (.int .i64)) (.cons (.sl (.int .i64)) (.one (.sl (.int .i64)))))))))]
def rk_S_vEnd : List (Ty × Bool) := [((.int .i64), false)]
def h_S_vEnd : Hints := { loops := [] }
noncomputable def M_S_vEnd (x : ((Int × (Int × Int)) × (Int × ((List (Int × Int)) × ((List (Int × Int)) × ((List Int) × ((List Int) × ((List Int) × ((List Int) × ((List Int) × (List Int))))))))))) : (Option Int) :=
  (bindO (M_S_mListed (x.2.1, (x.2.2.1, (x.2.2.2.1, x.2.2.2.2.1)))) (fun (a0 : (List Int)) => (bindO (guardO (lenOk ((List.length a0) + (List.length x.2.2.2.2.2.1)))) (fun (a1 : Unit) => (bindO (some (a0 ++ x.2.2.2.2.2.1)) (fun (a2 : (List Int)) => (bindO (guardO (lenOk ((List.length a2) + (List.length x.2.2.2.2.2.2.1)))) (fun (a3 : Unit) => (bindO (some (a2 ++ x.2.2.2.2.2.2.1)) (fun (a4 : (List Int)) => (bindO (guardO (lenOk ((List.length a4) + (List.length x.2.2.2.2.2.2.2.1)))) (fun (a5 : Unit) => (bindO (some (a4 ++ x.2.2.2.2.2.2.2.1)) (fun (a6 : (List Int)) => (bindO (M_S_hChallenge ((x.1.1, (x.1.2.1, x.1.2.2)), ((bytesOf [109, 105, 120, 32, 101, 110, 100]), a6))) (fun (a7 : Int) => (some a7)))))))))))))))))

noncomputable def c_S_vEnd : Con0 := ⟨pk_S_vEnd, rk_S_vEnd, M_S_vEnd⟩

set_option maxRecDepth 100000 in
theorem eq_S_vEnd (x : In pk_S_vEnd) : semF (mkE [(173, c_S_mListed), (172, c_S_hChallenge)]) h_S_vEnd (info Tryz.f171) pk_S_vEnd rk_S_vEnd x = M_S_vEnd x := (semFF_eq _ _ _ _ _ _).symm.trans (by kernel_rfl)

set_option maxRecDepth 100000 in
theorem m_S_vEnd : ConOK Tryz.prog 171 c_S_vEnd := fn_ok (tyOK _) (E := mkE [(173, c_S_mListed), (172, c_S_hChallenge)]) (consOK_cons m_S_mListed (consOK_cons m_S_hChallenge (consOK_nil rfl))) Tryz.func171 (h := h_S_vEnd) (by kernel_rfl) eq_S_vEnd

/-- S_vPoints -/
def pk_S_vPoints : List PK := [.data (.cons (.int .i64) (.cons (.int .i64) (.one (.int .i64)))), .data (.int .i64), .data (.sl (.cons (.int .i64) (.one (.int .i64)))), .data (.sl (.cons (.int .i64) (.one (.int .i64)))), .data (.sl (.int .i64)), .data (.sl (.int .i64))]
def rk_S_vPoints : List (Ty × Bool) := [((.int .i64), false), ((.int .i64), false)]
def h_S_vPoints : Hints := { loops := [] }
noncomputable def M_S_vPoints (x : ((Int × (Int × Int)) × (Int × ((List (Int × Int)) × ((List (Int × Int)) × ((List Int) × (List Int))))))) : (Option (Int × Int)) :=
  (bindO (M_S_mListed (x.2.1, (x.2.2.1, (x.2.2.2.1, x.2.2.2.2.1)))) (fun (a0 : (List Int)) => (bindO (guardO (lenOk ((List.length a0) + (List.length x.2.2.2.2.2)))) (fun (a1 : Unit) => (bindO (some (a0 ++ x.2.2.2.2.2)) (fun (a2 : (List Int)) => (bindO (M_S_hChallenge ((x.1.1, (x.1.2.1, x.1.2.2)), ((bytesOf [109, 105, 120, 32, 121]), a2))) (fun (a3 : Int) => (bindO (M_S_hChallenge ((x.1.1, (x.1.2.1, x.1.2.2)), ((bytesOf [109, 105, 120, 32, 122]), a2))) (fun (a4 : Int) => (some (a3, a4))))))))))))

noncomputable def c_S_vPoints : Con0 := ⟨pk_S_vPoints, rk_S_vPoints, M_S_vPoints⟩

set_option maxRecDepth 100000 in
theorem eq_S_vPoints (x : In pk_S_vPoints) : semF (mkE [(173, c_S_mListed), (172, c_S_hChallenge)]) h_S_vPoints (info Tryz.f174) pk_S_vPoints rk_S_vPoints x = M_S_vPoints x := (semFF_eq _ _ _ _ _ _).symm.trans (by kernel_rfl)

set_option maxRecDepth 100000 in
theorem m_S_vPoints : ConOK Tryz.prog 174 c_S_vPoints := fn_ok (tyOK _) (E := mkE [(173, c_S_mListed), (172, c_S_hChallenge)]) (consOK_cons m_S_mListed (consOK_cons m_S_hChallenge (consOK_nil rfl))) Tryz.func174 (h := h_S_vPoints) (by kernel_rfl) eq_S_vPoints

/-- S_vC -/
def pk_S_vC : List PK := [.data (.cons (.int .i64) (.cons (.int .i64) (.one (.int .i64)))), .data (.int .i64), .data (.int .i64), .data (.int .i64)]
def rk_S_vC : List (Ty × Bool) := [((.int .i64), false)]
def h_S_vC : Hints := { loops := [] }
noncomputable def M_S_vC (x : ((Int × (Int × Int)) × (Int × (Int × Int)))) : (Option Int) :=
  (bindO (M_S_gExp ((x.1.1, (x.1.2.1, x.1.2.2)), (x.1.2.2, x.2.2.1))) (fun (a0 : Int) => (bindO (M_S_gExp ((x.1.1, (x.1.2.1, x.1.2.2)), (x.2.1, x.2.2.2))) (fun (a1 : Int) => (bindO (M_S_gMul ((x.1.1, (x.1.2.1, x.1.2.2)), (a0 :: (a1 :: ([] : List Int))))) (fun (a2 : Int) => (some a2)))))))

noncomputable def c_S_vC : Con0 := ⟨pk_S_vC, rk_S_vC, M_S_vC⟩

set_option maxRecDepth 100000 in
theorem eq_S_vC (x : In pk_S_vC) : semF (mkE [(169, c_S_gExp), (166, c_S_gMul)]) h_S_vC (info Tryz.f175) pk_S_vC rk_S_vC x = M_S_vC x := (semFF_eq _ _ _ _ _ _).symm.trans (by kernel_rfl)

set_option maxRecDepth 100000 in
theorem m_S_vC : ConOK Tryz.prog 175 c_S_vC := fn_ok (tyOK _) (E := mkE [(169, c_S_gExp), (166, c_S_gMul)]) (consOK_cons m_S_gExp (consOK_cons m_S_gMul (consOK_nil rfl))) Tryz.func175 (h := h_S_vC) (by kernel_rfl) eq_S_vC

/-- S_vTarget -/
def pk_S_vTarget : List PK := [.data (.int .i64), .data (.int .i64), .data (.int .i64), .data (.int .i64), .data (.int .i64)]
def rk_S_vTarget : List (Ty × Bool) := [((.int .i64), false)]
def h_S_vTarget : Hints := { loops := [(0, { items := [.slot 11 (.data (.int .i64) []), .slot 12 (.data (.int .i64) []), .slot 13 (.data (.int .i64) [])], kill := [5, 6, 7, 8, 9, 10, 14, 15, 16, 17, 18, 19, 20, 21, 22, 23, 24, 25, 26, 27, 28, 29, 30, 31, 32, 33, 34, 35, 36, 37, 38, 39, 40, 41] })] }
noncomputable def M_S_vTarget (x : (Int × (Int × (Int × (Int × Int))))) : (Option Int) :=
  (bindO (guardO (x.1 != (0 : Int))) (fun (a0 : Unit) => (bindO (some (Int.tmod (1 : Int) x.1)) (fun (a1 : Int) => (loopO (fun (again2 : ((Int × (Int × Int)) → (Option Int))) => (fun (s3 : (Int × (Int × Int))) => (cond (decide (s3.2.2 ≤ x.2.1)) (bindO (some (IntKind.wrap .i64 (s3.2.1 * x.2.2.1))) (fun (a4 : Int) => (bindO (guardO (x.1 != (0 : Int))) (fun (a5 : Unit) => (bindO (some (Int.tmod a4 x.1)) (fun (a6 : Int) => (bindO (guardO (x.1 != (0 : Int))) (fun (a7 : Unit) => (bindO (some (Int.tmod s3.2.2 x.1)) (fun (a8 : Int) => (bindO (some (IntKind.wrap .i64 (x.2.2.2.1 * a8))) (fun (a9 : Int) => (bindO (some (IntKind.wrap .i64 (a9 + a6))) (fun (a10 : Int) => (bindO (some (IntKind.wrap .i64 (a10 - x.2.2.2.2))) (fun (a11 : Int) => (bindO (M_S_nMod (a11, x.1)) (fun (a12 : Int) => (bindO (some (IntKind.wrap .i64 (s3.1 * a12))) (fun (a13 : Int) => (bindO (guardO (x.1 != (0 : Int))) (fun (a14 : Unit) => (bindO (some (Int.tmod a13 x.1)) (fun (a15 : Int) => (bindO (some (IntKind.wrap .i64 (s3.2.2 + (1 : Int)))) (fun (a16 : Int) => (again2 (a15, (a6, a16))))))))))))))))))))))))))))) (some s3.1)))) (a1, ((1 : Int), (1 : Int))))))))

noncomputable def c_S_vTarget : Con0 := ⟨pk_S_vTarget, rk_S_vTarget, M_S_vTarget⟩

set_option maxRecDepth 100000 in
theorem eq_S_vTarget (x : In pk_S_vTarget) : semF (mkE [(193, c_S_nMod)]) h_S_vTarget (info Tryz.f176) pk_S_vTarget rk_S_vTarget x = M_S_vTarget x := (semFF_eq _ _ _ _ _ _).symm.trans (by kernel_rfl)

set_option maxRecDepth 100000 in
theorem m_S_vTarget : ConOK Tryz.prog 176 c_S_vTarget := fn_ok (tyOK _) (E := mkE [(193, c_S_nMod)]) (consOK_cons m_S_nMod (consOK_nil rfl)) Tryz.func176 (h := h_S_vTarget) (by kernel_rfl) eq_S_vTarget

/-- S_vUpTo -/
def pk_S_vUpTo : List PK := [.data (.cons (.int .i64) (.cons (.int .i64) (.one (.int .i64)))), .data (.int .i64), .data (.int .i64)]
def rk_S_vUpTo : List (Ty × Bool) := [((.sl (.int .i64)), true)]
def h_S_vUpTo : Hints := { loops := [(0, { items := [.slot 7 (.own (.int .i64) true), .slot 8 (.data (.int .i64) [])], kill := [0, 4, 5, 6, 9, 10, 11, 12, 13, 14, 15, 16, 17, 18, 19, 20, 21, 22] })] }
noncomputable def M_S_vUpTo (x : ((Int × (Int × Int)) × (Int × Int))) : (Option (List Int)) :=
  (loopO (fun (again0 : (((List Int) × Int) → (Option (List Int)))) => (fun (s1 : ((List Int) × Int)) => (cond (decide (s1.2 ≤ x.2.1)) (bindO (M_S_nPower (x.2.2, (s1.2, x.1.2.1))) (fun (a2 : Int) => (bindO (guardO (lenOk ((List.length s1.1) + (List.length (a2 :: ([] : List Int)))))) (fun (a3 : Unit) => (bindO (some (s1.1 ++ (a2 :: ([] : List Int)))) (fun (a4 : (List Int)) => (bindO (some (IntKind.wrap .i64 (s1.2 + (1 : Int)))) (fun (a5 : Int) => (again0 (a4, a5)))))))))) (some s1.1)))) (([] : List Int), (1 : Int)))

noncomputable def c_S_vUpTo : Con0 := ⟨pk_S_vUpTo, rk_S_vUpTo, M_S_vUpTo⟩

set_option maxRecDepth 100000 in
theorem eq_S_vUpTo (x : In pk_S_vUpTo) : semF (mkE [(158, c_S_nPower)]) h_S_vUpTo (info Tryz.f177) pk_S_vUpTo rk_S_vUpTo x = M_S_vUpTo x := (semFF_eq _ _ _ _ _ _).symm.trans (by kernel_rfl)

set_option maxRecDepth 100000 in
theorem m_S_vUpTo : ConOK Tryz.prog 177 c_S_vUpTo := fn_ok (tyOK _) (E := mkE [(158, c_S_nPower)]) (consOK_cons m_S_nPower (consOK_nil rfl)) Tryz.func177 (h := h_S_vUpTo) (by kernel_rfl) eq_S_vUpTo

/-- S_vVerify -/
def pk_S_vVerify : List PK := [.data (.cons (.int .i64) (.cons (.int .i64) (.one (.int .i64)))), .data (.int .i64), .data (.int .i64), .data (.sl (.cons (.int .i64) (.one (.int .i64)))), .data (.sl (.cons (.int .i64) (.one (.int .i64)))), .data (.cons (.sl (.int .i64)) (.cons (.sl (.int .i64)) (.cons (.sl (.int .i64)) (.one (.cons (.sl (.int .i64)) (.cons (.sl (.int .i64)) (.one (.sl (.int .i64)))))))))]
def rk_S_vVerify : List (Ty × Bool) := [(.bool, false)]
def h_S_vVerify : Hints := { loops := [(0, { items := [.slot 21 (.own (.int .i64) true), .slot 22 (.own (.int .i64) true), .slot 23 (.data (.int .i64) [])], kill := [0, 5, 7, 8, 9, 10, 12, 24, 25, 26, 27, 28, 29, 30, 31, 32, 33, 34, 35, 36, 37, 38, 39, 40, 41, 42, 43, 44, 45, 46, 47, 48, 49, 50, 51, 52, 53, 54, 55, 56, 57, 58, 59, 60, 61, 62, 63, 64, 65, 66, 67, 68, 69, 70, 71, 72, 73, 74, 75, 76, 77, 78, 79, 80, 81, 82, 83, 84, 85, 86, 87, 88, 89, 90, 91, 92, 93, 94, 95, 96, 97, 98, 99, 100, 101, 102, 103, 104, 105, 106, 107, 108, 109, 110, 111, 112, 113, 114, 115, 116, 117, 118, 119, 120, 121, 122, 123, 124, 125, 126, 127, 128, 129, 130, 131, 132, 133, 134, 135, 136, 137, 138, 139, 140, 141, 142, 143, 144, 145, 146, 147, 148, 149, 150, 151, 152, 153, 154, 155, 156, 157, 158, 159, 160, 161, 162, 163, 164, 165, 166, 167, 168, 169, 170, 171, 172, 173, 174, 175, 176, 177, 178, 179, 180, 181, 182, 183, 184, 185, 186, 187, 188, 189, 190, 191, 192, 193, 194, 195, 196, 197, 198, 199, 200, 201, 202, 203, 204, 205, 206, 207, 208, 209, 210, 211, 212, 213, 214, 215, 216, 217, 218, 219, 220, 221, 222, 223, 224, 225, 226, 227, 228, 229, 230, 231, 232, 233, 234, 235, 236, 237, 238, 239, 240, 241, 242, 243, 244, 245, 246, 247, 248, 249, 250, 251, 252, 253, 254, 255, 256, 257, 258, 259, 260, 261, 262, 263, 264, 265, 266, 267, 268, 269, 270, 271, 272, 273, 274, 275, 276, 277, 278, 279, 280, 281, 282, 283, 284, 285, 286, 287, 288, 289, 290, 291, 292, 293, 294, 295, 296, 297, 298, 299, 300, 301, 302, 303, 304, 305, 306, 307, 308, 309, 310, 311, 312, 313, 314, 315, 316, 317, 318, 319, 320, 321, 322, 323, 324, 325, 326, 327, 328, 329, 330, 331, 332, 333, 334, 335, 336, 337] }), (2, { items := [.slot 21 (.own (.int .i64) true), .slot 22 (.own (.int .i64) true), .slot 24 (.data (.int .i64) []), .slot 25 (.data (.int .i64) [])], kill := [0, 5, 7, 8, 9, 10, 12, 23, 26, 27, 28, 29, 30, 31, 32, 33, 34, 35, 36, 37, 38, 39, 40, 41, 42, 43, 44, 45, 46, 47, 48, 49, 50, 51, 52, 53, 54, 55, 56, 57, 58, 59, 60, 61, 62, 63, 64, 65, 66, 67, 68, 69, 70, 71, 72, 73, 74, 75, 76, 77, 78, 79, 80, 81, 82, 83, 84, 85, 86, 87, 88, 89, 90, 91, 92, 93, 94, 95, 96, 97, 98, 99, 100, 101, 102, 103, 104, 105, 106, 107, 108, 109, 110, 111, 112, 113, 114, 115, 116, 117, 118, 119, 120, 121, 122, 123, 124, 125, 126, 127, 128, 129, 130, 131, 132, 133, 134, 135, 136, 137, 138, 139, 140, 141, 142, 143, 144, 145, 146, 147, 148, 149, 150, 151, 152, 153, 154, 155, 156, 157, 158, 159, 160, 161, 162, 163, 164, 165, 166, 167, 168, 169, 170, 171, 172, 173, 174, 175, 176, 177, 178, 179, 180, 181, 182, 183, 184, 185, 186, 187, 188, 189, 190, 191, 192, 193, 194, 195, 196, 197, 198, 199, 200, 201, 202, 203, 204, 205, 206, 207, 208, 209, 210, 211, 212, 213, 214, 215, 216, 217, 218, 219, 220, 221, 222, 223, 224, 225, 226, 227, 228, 229, 230, 231, 232, 233, 234, 235, 236, 237, 238, 239, 240, 241, 242, 243, 244, 245, 246, 247, 248, 249, 250, 251, 252, 253, 254, 255, 256, 257, 258, 259, 260, 261, 262, 263, 264, 265, 266, 267, 268, 269, 270, 271, 272, 273, 274, 275, 276, 277, 278, 279, 280, 281, 282, 283, 284, 285, 286, 287, 288, 289, 290, 291, 292, 293, 294, 295, 296, 297, 298, 299, 300, 301, 302, 303, 304, 305, 306, 307, 308, 309, 310, 311, 312, 313, 314, 315, 316, 317, 318, 319, 320, 321, 322, 323, 324, 325, 326, 327, 328, 329, 330, 331, 332, 333, 334, 335, 336, 337] }), (4, { items := [.slot 21 (.own (.int .i64) true), .slot 22 (.own (.int .i64) true), .slot 26 (.data (.int .i64) [])], kill := [0, 5, 7, 8, 9, 10, 12, 17, 18, 23, 24, 25, 27, 28, 29, 30, 31, 32, 33, 34, 35, 36, 37, 38, 39, 40, 41, 42, 43, 44, 45, 46, 47, 48, 49, 50, 51, 52, 53, 54, 55, 56, 57, 58, 59, 60, 61, 62, 63, 64, 65, 66, 67, 68, 69, 70, 71, 72, 73, 74, 75, 76, 77, 78, 79, 80, 81, 82, 83, 84, 85, 86, 87, 88, 89, 90, 91, 92, 93, 94, 95, 96, 97, 98, 99, 100, 101, 102, 103, 104, 105, 106, 107, 108, 109, 110, 111, 112, 113, 114, 115, 116, 117, 118, 119, 120, 121, 122, 123, 124, 125, 126, 127, 128, 129, 130, 131, 132, 133, 134, 135, 136, 137, 138, 139, 140, 141, 142, 143, 144, 145, 146, 147, 148, 149, 150, 151, 152, 153, 154, 155, 156, 157, 158, 159, 160, 161, 162, 163, 164, 165, 166, 167, 168, 169, 170, 171, 172, 173, 174, 175, 176, 177, 178, 179, 180, 181, 182, 183, 184, 185, 186, 187, 188, 189, 190, 191, 192, 193, 194, 195, 196, 197, 198, 199, 200, 201, 202, 203, 204, 205, 206, 207, 208, 209, 210, 211, 212, 213, 214, 215, 216, 217, 218, 219, 220, 221, 222, 223, 224, 225, 226, 227, 228, 229, 230, 231, 232, 233, 234, 235, 236, 237, 238, 239, 240, 241, 242, 243, 244, 245, 246, 247, 248, 249, 250, 251, 252, 253, 254, 255, 256, 257, 258, 259, 260, 261, 262, 263, 264, 265, 266, 267, 268, 269, 270, 271, 272, 273, 274, 275, 276, 277, 278, 279, 280, 281, 282, 283, 284, 285, 286, 287, 288, 289, 290, 291, 292, 293, 294, 295, 296, 297, 298, 299, 300, 301, 302, 303, 304, 305, 306, 307, 308, 309, 310, 311, 312, 313, 314, 315, 316, 317, 318, 319, 320, 321, 322, 323, 324, 325, 326, 327, 328, 329, 330, 331, 332, 333, 334, 335, 336, 337] }), (6, { items := [.slot 316 (.data (.int .i64) [])], kill := [0, 1, 2, 3, 4, 5, 7, 8, 9, 10, 11, 12, 13, 15, 16, 17, 18, 19, 20, 23, 24, 25, 26, 27, 28, 29, 30, 31, 32, 33, 34, 35, 36, 37, 38, 39, 40, 41, 42, 43, 44, 45, 46, 47, 48, 49, 50, 51, 52, 53, 54, 55, 56, 57, 58, 59, 60, 61, 62, 63, 64, 65, 66, 67, 68, 69, 70, 71, 72, 73, 74, 75, 76, 77, 78, 79, 80, 81, 82, 83, 84, 85, 86, 87, 88, 89, 90, 91, 92, 93, 94, 95, 96, 97, 98, 99, 100, 101, 102, 103, 104, 105, 106, 107, 108, 109, 110, 111, 112, 113, 114, 115, 116, 117, 118, 119, 120, 121, 122, 123, 124, 125, 126, 127, 128, 129, 130, 131, 132, 133, 134, 135, 136, 137, 138, 139, 140, 141, 142, 143, 144, 145, 146, 147, 148, 149, 150, 151, 152, 153, 154, 155, 156, 157, 158, 159, 160, 161, 162, 163, 164, 165, 166, 167, 168, 169, 170, 171, 172, 173, 174, 175, 176, 177, 178, 179, 180, 181, 182, 183, 184, 185, 186, 187, 188, 189, 190, 191, 192, 193, 194, 195, 196, 197, 198, 199, 200, 201, 202, 203, 204, 205, 206, 207, 208, 209, 210, 211, 212, 213, 214, 215, 216, 217, 218, 219, 220, 221, 222, 223, 224, 225, 226, 227, 228, 229, 230, 231, 232, 233, 234, 235, 236, 237, 238, 239, 240, 241, 242, 243, 244, 245, 246, 247, 248, 249, 250, 251, 252, 253, 254, 255, 256, 257, 258, 259, 260, 261, 262, 263, 264, 265, 266, 267, 268, 269, 270, 271, 272, 273, 274, 275, 276, 277, 278, 279, 280, 281, 282, 283, 284, 285, 286, 287, 288, 289, 290, 291, 292, 293, 294, 295, 296, 297, 298, 299, 300, 301, 302, 303, 304, 305, 306, 307, 308, 309, 310, 311, 312, 313, 317, 318, 319, 320, 321, 322, 323, 324, 325, 326, 327, 328, 329, 330, 331, 332, 333, 334, 335, 336, 337] })] }
noncomputable def M_S_vVerify (x : ((Int × (Int × Int)) × (Int × (Int × ((List (Int × Int)) × ((List (Int × Int)) × ((List Int) × ((List Int) × ((List Int) × ((List Int) × ((List Int) × (List Int)))))))))))) : (Option Bool) :=
  (cond ((((List.length x.2.2.2.2.1) : Nat) : Int) != (((List.length x.2.2.2.1) : Nat) : Int)) (some false) (bindO (M_S_vShape (x.1, ((((List.length x.2.2.2.1) : Nat) : Int), x.2.2.2.2.2))) (fun (a0 : Bool) => (cond (not a0) (some false) (bindO (getI x.2.2.2.2.2.2.2.2.2.1 (0 : Int)) (fun (a1 : Int) => (bindO (M_S_vEnd (x.1, (x.2.1, x.2.2.2))) (fun (a2 : Int) => (cond (a1 != a2) (some false) (bindO (getI x.2.2.2.2.2.2.2.2.2.1 (0 : Int)) (fun (a3 : Int) => (bindO (M_S_mListed (x.2.1, (x.2.2.2.1, (x.2.2.2.2.1, x.2.2.2.2.2.1)))) (fun (a4 : (List Int)) => (bindO (M_S_hChallenge (x.1, ((bytesOf [109, 105, 120, 32, 120]), a4))) (fun (a5 : Int) => (bindO (M_S_vPoints (x.1, (x.2.1, (x.2.2.2.1, (x.2.2.2.2.1, (x.2.2.2.2.2.1, x.2.2.2.2.2.2.1)))))) (fun (a6 : (Int × Int)) => (bindO (some (IntKind.wrap .i64 ((3 : Int) * (((List.length x.2.2.2.1) : Nat) : Int)))) (fun (a7 : Int) => (bindO (some (IntKind.wrap .i64 (a7 + (1 : Int)))) (fun (a8 : Int) => (bindO (some (IntKind.wrap .i64 ((4 : Int) * (((List.length x.2.2.2.1) : Nat) : Int)))) (fun (a9 : Int) => (bindO (some (IntKind.wrap .i64 (a9 + (1 : Int)))) (fun (a10 : Int) => (bindO (sliceLH a8 a10 (List.length x.2.2.2.2.2.2.2.2.2.2)) (fun (a11 : (Nat × Nat)) => (bindO (some (IntKind.wrap .i64 ((5 : Int) * (((List.length x.2.2.2.1) : Nat) : Int)))) (fun (a12 : Int) => (bindO (some (IntKind.wrap .i64 (a12 + (1 : Int)))) (fun (a13 : Int) => (bindO (getI x.2.2.2.2.2.2.2.2.2.2 a13) (fun (a14 : Int) => (loopO (fun (again15 : (((List Int) × ((List Int) × Int)) → (Option Bool))) => (fun (s16 : ((List Int) × ((List Int) × Int))) => (cond (decide (s16.2.2 < (((List.length x.2.2.2.1) : Nat) : Int))) (bindO (getI x.2.2.2.2.2.1 s16.2.2) (fun (a17 : Int) => (bindO (M_S_gExp (x.1, (a17, a6.1))) (fun (a18 : Int) => (bindO (getI x.2.2.2.2.2.2.1 s16.2.2) (fun (a19 : Int) => (bindO (some (IntKind.wrap .i64 ((0 : Int) - a6.2))) (fun (a20 : Int) => (bindO (M_S_gExp (x.1, (x.1.2.2, a20))) (fun (a21 : Int) => (bindO (M_S_gMul (x.1, (a18 :: (a19 :: (a21 :: ([] : List Int)))))) (fun (a22 : Int) => (bindO (guardO (lenOk ((List.length s16.1) + (List.length (a22 :: ([] : List Int)))))) (fun (a23 : Unit) => (bindO (some (s16.1 ++ (a22 :: ([] : List Int)))) (fun (a24 : (List Int)) => (bindO (getI x.2.2.2.2.2.2.2.2.2.2 s16.2.2) (fun (a25 : Int) => (bindO (some (IntKind.wrap .i64 ((((List.length x.2.2.2.1) : Nat) : Int) + s16.2.2))) (fun (a26 : Int) => (bindO (getI x.2.2.2.2.2.2.2.2.2.2 a26) (fun (a27 : Int) => (bindO (M_S_vC (x.1, (x.2.2.1, (a25, a27)))) (fun (a28 : Int) => (bindO (guardO (lenOk ((List.length s16.2.1) + (List.length (a28 :: ([] : List Int)))))) (fun (a29 : Unit) => (bindO (some (s16.2.1 ++ (a28 :: ([] : List Int)))) (fun (a30 : (List Int)) => (bindO (some (IntKind.wrap .i64 (s16.2.2 + (1 : Int)))) (fun (a31 : Int) => (again15 (a24, (a30, a31))))))))))))))))))))))))))))))))) (loopO (fun (again32 : (((List Int) × ((List Int) × (Int × Int))) → (Option Bool))) => (fun (s33 : ((List Int) × ((List Int) × (Int × Int)))) => (cond (decide (s33.2.2.2 < (((List.length x.2.2.2.1) : Nat) : Int))) (bindO (getI x.2.2.2.2.2.2.2.1 s33.2.2.2) (fun (a34 : Int) => (bindO (guardO (lenOk ((List.length s33.1) + (List.length (a34 :: ([] : List Int)))))) (fun (a35 : Unit) => (bindO (some (s33.1 ++ (a34 :: ([] : List Int)))) (fun (a36 : (List Int)) => (bindO (getI x.2.2.2.2.2.2.2.2.2.2 s33.2.2.2) (fun (a37 : Int) => (bindO (M_S_gExp (x.1, (s33.2.2.1, a37))) (fun (a38 : Int) => (bindO (some (IntKind.wrap .i64 ((2 : Int) * (((List.length x.2.2.2.1) : Nat) : Int)))) (fun (a39 : Int) => (bindO (some (IntKind.wrap .i64 (a39 + s33.2.2.2))) (fun (a40 : Int) => (bindO (getI x.2.2.2.2.2.2.2.2.2.2 a40) (fun (a41 : Int) => (bindO (M_S_gExp (x.1, (x.2.2.1, a41))) (fun (a42 : Int) => (bindO (M_S_gMul (x.1, (a38 :: (a42 :: ([] : List Int))))) (fun (a43 : Int) => (bindO (guardO (lenOk ((List.length s33.2.1) + (List.length (a43 :: ([] : List Int)))))) (fun (a44 : Unit) => (bindO (some (s33.2.1 ++ (a43 :: ([] : List Int)))) (fun (a45 : (List Int)) => (bindO (getI x.2.2.2.2.2.2.2.1 s33.2.2.2) (fun (a46 : Int) => (bindO (some (IntKind.wrap .i64 (s33.2.2.2 + (1 : Int)))) (fun (a47 : Int) => (again32 (a36, (a45, (a46, a47)))))))))))))))))))))))))))))))) (bindO (some (IntKind.wrap .i64 ((((List.length x.2.2.2.1) : Nat) : Int) - (1 : Int)))) (fun (a48 : Int) => (bindO (getI x.2.2.2.2.2.2.2.1 a48) (fun (a49 : Int) => (bindO (M_S_vTarget (x.1.2.1, ((((List.length x.2.2.2.1) : Nat) : Int), (a5, a6)))) (fun (a50 : Int) => (bindO (some (IntKind.wrap .i64 ((0 : Int) - a50))) (fun (a51 : Int) => (bindO (M_S_gExp (x.1, (x.1.2.2, a51))) (fun (a52 : Int) => (bindO (M_S_gMul (x.1, (a49 :: (a52 :: ([] : List Int))))) (fun (a53 : Int) => (bindO (guardO (lenOk ((List.length s33.1) + (List.length (a53 :: ([] : List Int)))))) (fun (a54 : Unit) => (bindO (some (s33.1 ++ (a53 :: ([] : List Int)))) (fun (a55 : (List Int)) => (bindO (some (IntKind.wrap .i64 ((3 : Int) * (((List.length x.2.2.2.1) : Nat) : Int)))) (fun (a56 : Int) => (bindO (getI x.2.2.2.2.2.2.2.2.2.2 a56) (fun (a57 : Int) => (bindO (M_S_gExp (x.1, (x.2.2.1, a57))) (fun (a58 : Int) => (bindO (guardO (lenOk ((List.length s33.2.1) + (List.length (a58 :: ([] : List Int)))))) (fun (a59 : Unit) => (bindO (some (s33.2.1 ++ (a58 :: ([] : List Int)))) (fun (a60 : (List Int)) => (loopO (fun (again61 : (((List Int) × ((List Int) × Int)) → (Option Bool))) => (fun (s62 : ((List Int) × ((List Int) × Int))) => (cond (decide (s62.2.2 < (((List.length x.2.2.2.1) : Nat) : Int))) (bindO (getI x.2.2.2.2.2.2.1 s62.2.2) (fun (a63 : Int) => (bindO (guardO (lenOk ((List.length s62.1) + (List.length (a63 :: ([] : List Int)))))) (fun (a64 : Unit) => (bindO (some (s62.1 ++ (a63 :: ([] : List Int)))) (fun (a65 : (List Int)) => (bindO (getI (List.drop a11.1 (List.take a11.2 x.2.2.2.2.2.2.2.2.2.2)) s62.2.2) (fun (a66 : Int) => (bindO (some (IntKind.wrap .i64 ((4 : Int) * (((List.length x.2.2.2.1) : Nat) : Int)))) (fun (a67 : Int) => (bindO (some (IntKind.wrap .i64 (a67 + (1 : Int)))) (fun (a68 : Int) => (bindO (some (IntKind.wrap .i64 (a68 + s62.2.2))) (fun (a69 : Int) => (bindO (getI x.2.2.2.2.2.2.2.2.2.2 a69) (fun (a70 : Int) => (bindO (M_S_vC (x.1, (x.2.2.1, (a66, a70)))) (fun (a71 : Int) => (bindO (guardO (lenOk ((List.length s62.2.1) + (List.length (a71 :: ([] : List Int)))))) (fun (a72 : Unit) => (bindO (some (s62.2.1 ++ (a71 :: ([] : List Int)))) (fun (a73 : (List Int)) => (bindO (some (IntKind.wrap .i64 (s62.2.2 + (1 : Int)))) (fun (a74 : Int) => (again61 (a65, (a73, a74))))))))))))))))))))))))))) (bindO (M_S_mSides x.2.2.2.1) (fun (a75 : ((List Int) × (List Int))) => (bindO (M_S_mSides x.2.2.2.2.1) (fun (a76 : ((List Int) × (List Int))) => (bindO (M_S_vUpTo (x.1, ((((List.length x.2.2.2.1) : Nat) : Int), a5))) (fun (a77 : (List Int)) => (bindO (M_S_gProd (x.1, (a75.1, a77))) (fun (a78 : Int) => (bindO (M_S_vUpTo (x.1, ((((List.length x.2.2.2.1) : Nat) : Int), a5))) (fun (a79 : (List Int)) => (bindO (M_S_gProd (x.1, (a75.2, a79))) (fun (a80 : Int) => (bindO (guardO (lenOk ((List.length s62.1) + (List.length (a78 :: (a80 :: ([] : List Int))))))) (fun (a81 : Unit) => (bindO (some (s62.1 ++ (a78 :: (a80 :: ([] : List Int))))) (fun (a82 : (List Int)) => (bindO (some (IntKind.wrap .i64 ((0 : Int) - a14))) (fun (a83 : Int) => (bindO (M_S_gExp (x.1, (x.1.2.2, a83))) (fun (a84 : Int) => (bindO (M_S_gProd (x.1, (a76.1, (List.drop a11.1 (List.take a11.2 x.2.2.2.2.2.2.2.2.2.2))))) (fun (a85 : Int) => (bindO (M_S_gMul (x.1, (a84 :: (a85 :: ([] : List Int))))) (fun (a86 : Int) => (bindO (some (IntKind.wrap .i64 ((0 : Int) - a14))) (fun (a87 : Int) => (bindO (M_S_gExp (x.1, (x.2.1, a87))) (fun (a88 : Int) => (bindO (M_S_gProd (x.1, (a76.2, (List.drop a11.1 (List.take a11.2 x.2.2.2.2.2.2.2.2.2.2))))) (fun (a89 : Int) => (bindO (M_S_gMul (x.1, (a88 :: (a89 :: ([] : List Int))))) (fun (a90 : Int) => (bindO (guardO (lenOk ((List.length s62.2.1) + (List.length (a86 :: (a90 :: ([] : List Int))))))) (fun (a91 : Unit) => (bindO (some (s62.2.1 ++ (a86 :: (a90 :: ([] : List Int))))) (fun (a92 : (List Int)) => (loopO (fun (again93 : (Int → (Option Bool))) => (fun (s94 : Int) => (cond (decide (s94 < (((List.length x.2.2.2.2.2.2.2.2.1) : Nat) : Int))) (bindO (getI x.2.2.2.2.2.2.2.2.1 s94) (fun (a95 : Int) => (bindO (getI a82 s94) (fun (a96 : Int) => (bindO (M_S_gExp (x.1, (a96, a3))) (fun (a97 : Int) => (bindO (M_S_gMul (x.1, (a95 :: (a97 :: ([] : List Int))))) (fun (a98 : Int) => (bindO (getI a92 s94) (fun (a99 : Int) => (cond (a98 != a99) (some false) (bindO (some (IntKind.wrap .i64 (s94 + (1 : Int)))) (fun (a100 : Int) => (again93 a100)))))))))))))) (some true)))) (0 : Int))))))))))))))))))))))))))))))))))))))))) (a55, (a60, (0 : Int))))))))))))))))))))))))))))))))) (s16.1, (s16.2.1, (x.1.2.2, (0 : Int)))))))) (([] : List Int), (([] : List Int), (0 : Int)))))))))))))))))))))))))))))))))))))

noncomputable def c_S_vVerify : Con0 := ⟨pk_S_vVerify, rk_S_vVerify, M_S_vVerify⟩

set_option maxRecDepth 100000 in
theorem eq_S_vVerify (x : In pk_S_vVerify) : semF (mkE [(170, c_S_vShape), (171, c_S_vEnd), (173, c_S_mListed), (172, c_S_hChallenge), (174, c_S_vPoints), (169, c_S_gExp), (166, c_S_gMul), (175, c_S_vC), (176, c_S_vTarget), (165, c_S_mSides), (177, c_S_vUpTo), (168, c_S_gProd)]) h_S_vVerify (info Tryz.f114) pk_S_vVerify rk_S_vVerify x = M_S_vVerify x := (semFF_eq _ _ _ _ _ _).symm.trans (by kernel_rfl)

set_option maxRecDepth 100000 in
theorem m_S_vVerify : ConOK Tryz.prog 114 c_S_vVerify := fn_ok (tyOK _) (E := mkE [(170, c_S_vShape), (171, c_S_vEnd), (173, c_S_mListed), (172, c_S_hChallenge), (174, c_S_vPoints), (169, c_S_gExp), (166, c_S_gMul), (175, c_S_vC), (176, c_S_vTarget), (165, c_S_mSides), (177, c_S_vUpTo), (168, c_S_gProd)]) (consOK_cons m_S_vShape (consOK_cons m_S_vEnd (consOK_cons m_S_mListed (consOK_cons m_S_hChallenge (consOK_cons m_S_vPoints (consOK_cons m_S_gExp (consOK_cons m_S_gMul (consOK_cons m_S_vC (consOK_cons m_S_vTarget (consOK_cons m_S_mSides (consOK_cons m_S_vUpTo (consOK_cons m_S_gProd (consOK_nil rfl))))))))))))) Tryz.func114 (h := h_S_vVerify) (by kernel_rfl) eq_S_vVerify

/-- S_VerifyPoly -/
def pk_S_VerifyPoly : List PK := [.data (.cons (.int .i64) (.cons (.int .i64) (.one (.int .i64)))), .data (.int .i64), .data (.sl (.cons (.int .i64) (.one (.int .i64)))), .data (.sl (.cons (.int .i64) (.one (.int .i64)))), .data (.cons (.sl (.int .i64)) (.cons (.sl (.int .i64)) (.cons (.sl (.int .i64)) (.one (.cons (.sl (.int .i64)) (.cons (.sl (.int .i64)) (.one (.sl (.int .i64)))))))))]
def rk_S_VerifyPoly : List (Ty × Bool) := [(.bool, false), (.bool, false)]
def h_S_VerifyPoly : Hints := { loops := [] }
noncomputable def M_S_VerifyPoly (x : ((Int × (Int × Int)) × (Int × ((List (Int × Int)) × ((List (Int × Int)) × ((List Int) × ((List Int) × ((List Int) × ((List Int) × ((List Int) × (List Int))))))))))) : (Option (Bool × Bool)) :=
  (bindO (M_S_mList ((x.1.1, (x.1.2.1, x.1.2.2)), (x.2.1, x.2.2.1))) (fun (a0 : Bool) => (cond (not a0) (some (false, false)) (bindO (M_S_mList ((x.1.1, (x.1.2.1, x.1.2.2)), (x.2.1, x.2.2.2.1))) (fun (a1 : Bool) => (cond (not a1) (some (false, false)) (bindO (M_S_vBase (x.1.1, (x.1.2.1, x.1.2.2))) (fun (a2 : (Int × Bool)) => (cond (not a2.2) (some (false, false)) (bindO (M_S_vVerify ((x.1.1, (x.1.2.1, x.1.2.2)), (x.2.1, (a2.1, (x.2.2.1, (x.2.2.2.1, (x.2.2.2.2.1, (x.2.2.2.2.2.1, (x.2.2.2.2.2.2.1, (x.2.2.2.2.2.2.2.1, (x.2.2.2.2.2.2.2.2.1, x.2.2.2.2.2.2.2.2.2))))))))))) (fun (a3 : Bool) => (some (a3, true)))))))))))))

noncomputable def c_S_VerifyPoly : Con0 := ⟨pk_S_VerifyPoly, rk_S_VerifyPoly, M_S_VerifyPoly⟩

set_option maxRecDepth 100000 in
theorem eq_S_VerifyPoly (x : In pk_S_VerifyPoly) : semF (mkE [(75, c_S_mList), (113, c_S_vBase), (114, c_S_vVerify)]) h_S_VerifyPoly (info Tryz.f80) pk_S_VerifyPoly rk_S_VerifyPoly x = M_S_VerifyPoly x := (semFF_eq _ _ _ _ _ _).symm.trans (by kernel_rfl)

set_option maxRecDepth 100000 in
theorem m_S_VerifyPoly : ConOK Tryz.prog 80 c_S_VerifyPoly := fn_ok (tyOK _) (E := mkE [(75, c_S_mList), (113, c_S_vBase), (114, c_S_vVerify)]) (consOK_cons m_S_mList (consOK_cons m_S_vBase (consOK_cons m_S_vVerify (consOK_nil rfl)))) Tryz.func80 (h := h_S_VerifyPoly) (by kernel_rfl) eq_S_VerifyPoly

/-- S_xNoMatrix -/
def pk_S_xNoMatrix : List PK := [.data (.cons (.sl (.int .i64)) (.cons (.sl (.int .i64)) (.one (.cons (.sl (.int .i64)) (.cons (.sl (.int .i64)) (.one (.sl (.int .i64))))))))]
def rk_S_xNoMatrix : List (Ty × Bool) := [(.bool, false)]
def h_S_xNoMatrix : Hints := { loops := [] }
noncomputable def M_S_xNoMatrix (x : ((List Int) × ((List Int) × ((List Int) × ((List Int) × (List Int)))))) : (Option Bool) :=
  (bindO (some (IntKind.wrap .i64 ((((List.length x.1) : Nat) : Int) + (((List.length x.2.1) : Nat) : Int)))) (fun (a0 : Int) => (cond (a0 == (0 : Int)) (bindO (M_S_bNone (x.2.2.1, (x.2.2.2.1, x.2.2.2.2))) (fun (a1 : Bool) => (some a1))) (some false))))

noncomputable def c_S_xNoMatrix : Con0 := ⟨pk_S_xNoMatrix, rk_S_xNoMatrix, M_S_xNoMatrix⟩

set_option maxRecDepth 100000 in
theorem eq_S_xNoMatrix (x : In pk_S_xNoMatrix) : semF (mkE [(112, c_S_bNone)]) h_S_xNoMatrix (info Tryz.f81) pk_S_xNoMatrix rk_S_xNoMatrix x = M_S_xNoMatrix x := (semFF_eq _ _ _ _ _ _).symm.trans (by kernel_rfl)

set_option maxRecDepth 100000 in
theorem m_S_xNoMatrix : ConOK Tryz.prog 81 c_S_xNoMatrix := fn_ok (tyOK _) (E := mkE [(112, c_S_bNone)]) (consOK_cons m_S_bNone (consOK_nil rfl)) Tryz.func81 (h := h_S_xNoMatrix) (by kernel_rfl) eq_S_xNoMatrix

/-- S_xVerify -/
def pk_S_xVerify : List PK := [.data (.cons (.int .i64) (.cons (.int .i64) (.one (.int .i64)))), .data (.int .i64), .data (.sl (.cons (.int .i64) (.one (.int .i64)))), .data (.cons (.int .i64) (.cons (.sl (.cons (.int .i64) (.one (.int .i64)))) (.cons (.cons (.sl (.int .i64)) (.cons (.sl (.int .i64)) (.one (.cons (.sl (.int .i64)) (.cons (.sl (.int .i64)) (.one (.sl (.int .i64)))))))) (.one (.cons (.sl (.int .i64)) (.cons (.sl (.int .i64)) (.cons (.sl (.int .i64)) (.one (.cons (.sl (.int .i64)) (.cons (.sl (.int .i64)) (.one (.sl (.int .i64)))))))))))))]
def rk_S_xVerify : List (Ty × Bool) := [(.bool, false)]
def h_S_xVerify : Hints := { loops := [] }
noncomputable def M_S_xVerify (x : ((Int × (Int × Int)) × (Int × ((List (Int × Int)) × (Int × ((List (Int × Int)) × (((List Int) × ((List Int) × ((List Int) × ((List Int) × (List Int))))) × ((List Int) × ((List Int) × ((List Int) × ((List Int) × ((List Int) × (List Int))))))))))))) : (Option Bool) :=
  (bindO (M_S_eGood ((x.1.1, (x.1.2.1, x.1.2.2)), x.2.2.2.2.1)) (fun (a0 : Bool) => (cond (not a0) (some false) (cond (x.2.2.2.1 == (1 : Int)) (bindO (M_S_VerifyMatrix ((x.1.1, (x.1.2.1, x.1.2.2)), (x.2.1, (x.2.2.1, (x.2.2.2.2.1, (x.2.2.2.2.2.1.1, (x.2.2.2.2.2.1.2.1, (x.2.2.2.2.2.1.2.2.1, (x.2.2.2.2.2.1.2.2.2.1, x.2.2.2.2.2.1.2.2.2.2))))))))) (fun (a1 : (Bool × Bool)) => (cond a1.2 (cond a1.1 (bindO (M_S_xNoPoly (x.2.2.2.2.2.2.1, (x.2.2.2.2.2.2.2.1, (x.2.2.2.2.2.2.2.2.1, (x.2.2.2.2.2.2.2.2.2.1, (x.2.2.2.2.2.2.2.2.2.2.1, x.2.2.2.2.2.2.2.2.2.2.2)))))) (fun (a2 : Bool) => (some a2))) (some false)) (some false)))) (cond (x.2.2.2.1 == (2 : Int)) (bindO (M_S_VerifyPoly ((x.1.1, (x.1.2.1, x.1.2.2)), (x.2.1, (x.2.2.1, (x.2.2.2.2.1, (x.2.2.2.2.2.2.1, (x.2.2.2.2.2.2.2.1, (x.2.2.2.2.2.2.2.2.1, (x.2.2.2.2.2.2.2.2.2.1, (x.2.2.2.2.2.2.2.2.2.2.1, x.2.2.2.2.2.2.2.2.2.2.2)))))))))) (fun (a3 : (Bool × Bool)) => (cond a3.2 (cond a3.1 (bindO (M_S_xNoMatrix (x.2.2.2.2.2.1.1, (x.2.2.2.2.2.1.2.1, (x.2.2.2.2.2.1.2.2.1, (x.2.2.2.2.2.1.2.2.2.1, x.2.2.2.2.2.1.2.2.2.2))))) (fun (a4 : Bool) => (some a4))) (some false)) (some false)))) (some false))))))

noncomputable def c_S_xVerify : Con0 := ⟨pk_S_xVerify, rk_S_xVerify, M_S_xVerify⟩

set_option maxRecDepth 100000 in
theorem eq_S_xVerify (x : In pk_S_xVerify) : semF (mkE [(77, c_S_eGood), (78, c_S_VerifyMatrix), (79, c_S_xNoPoly), (80, c_S_VerifyPoly), (81, c_S_xNoMatrix)]) h_S_xVerify (info Tryz.f43) pk_S_xVerify rk_S_xVerify x = M_S_xVerify x := (semFF_eq _ _ _ _ _ _).symm.trans (by kernel_rfl)

set_option maxRecDepth 100000 in
theorem m_S_xVerify : ConOK Tryz.prog 43 c_S_xVerify := fn_ok (tyOK _) (E := mkE [(77, c_S_eGood), (78, c_S_VerifyMatrix), (79, c_S_xNoPoly), (80, c_S_VerifyPoly), (81, c_S_xNoMatrix)]) (consOK_cons m_S_eGood (consOK_cons m_S_VerifyMatrix (consOK_cons m_S_xNoPoly (consOK_cons m_S_VerifyPoly (consOK_cons m_S_xNoMatrix (consOK_nil rfl)))))) Tryz.func43 (h := h_S_xVerify) (by kernel_rfl) eq_S_xVerify

/-- S_AcceptedStages -/
def pk_S_AcceptedStages : List PK := [.data (.cons (.int .i64) (.cons (.int .i64) (.one (.int .i64)))), .data (.int .i64), .data (.sl (.cons (.int .i64) (.one (.int .i64)))), .data (.sl (.cons (.int .i64) (.cons (.sl (.cons (.int .i64) (.one (.int .i64)))) (.cons (.cons (.sl (.int .i64)) (.cons (.sl (.int .i64)) (.one (.cons (.sl (.int .i64)) (.cons (.sl (.int .i64)) (.one (.sl (.int .i64)))))))) (.one (.cons (.sl (.int .i64)) (.cons (.sl (.int .i64)) (.cons (.sl (.int .i64)) (.one (.cons (.sl (.int .i64)) (.cons (.sl (.int .i64)) (.one (.sl (.int .i64))))))))))))))]
def rk_S_AcceptedStages : List (Ty × Bool) := [((.sl (.int .i64)), true), ((.sl (.cons (.int .i64) (.one (.int .i64)))), true), (.bool, false)]
def h_S_AcceptedStages : Hints := { loops := [(0, { items := [.slot 2 (.data (.sl (.cons (.int .i64) (.one (.int .i64)))) []), .slot 11 (.own (.int .i64) true), .slot 26 (.data (.int .i64) [])], kill := [0, 3, 5, 6, 7, 8, 9, 10, 12, 13, 14, 15, 16, 17, 18, 19, 20, 21, 22, 23, 27, 28, 29, 30, 31, 32, 33, 34, 35, 36, 37, 38, 39, 40, 41, 42, 43, 44, 45, 46] })] }
noncomputable def M_S_AcceptedStages (x : ((Int × (Int × Int)) × (Int × ((List (Int × Int)) × (List (Int × ((List (Int × Int)) × (((List Int) × ((List Int) × ((List Int) × ((List Int) × (List Int))))) × ((List Int) × ((List Int) × ((List Int) × ((List Int) × ((List Int) × (List Int)))))))))))))) : (Option ((List Int) × ((List (Int × Int)) × Bool))) :=
  (bindO (M_S_xReady ((x.1.1, (x.1.2.1, x.1.2.2)), (x.2.1, x.2.2.1))) (fun (a0 : Bool) => (cond (not a0) (some (([] : List Int), (([] : List (Int × Int)), false))) (cond (decide ((((List.length x.2.2.2) : Nat) : Int) > (6 : Int))) (some (([] : List Int), (([] : List (Int × Int)), false))) (loopO (fun (again1 : (((List (Int × Int)) × ((List Int) × Int)) → (Option ((List Int) × ((List (Int × Int)) × Bool))))) => (fun (s2 : ((List (Int × Int)) × ((List Int) × Int))) => (cond (decide (s2.2.2 < (((List.length x.2.2.2) : Nat) : Int))) (bindO (getI x.2.2.2 s2.2.2) (fun (a3 : (Int × ((List (Int × Int)) × (((List Int) × ((List Int) × ((List Int) × ((List Int) × (List Int))))) × ((List Int) × ((List Int) × ((List Int) × ((List Int) × ((List Int) × (List Int)))))))))) => (bindO (M_S_xVerify ((x.1.1, (x.1.2.1, x.1.2.2)), (x.2.1, (s2.1, (a3.1, (a3.2.1, ((a3.2.2.1.1, (a3.2.2.1.2.1, (a3.2.2.1.2.2.1, (a3.2.2.1.2.2.2.1, a3.2.2.1.2.2.2.2)))), (a3.2.2.2.1, (a3.2.2.2.2.1, (a3.2.2.2.2.2.1, (a3.2.2.2.2.2.2.1, (a3.2.2.2.2.2.2.2.1, a3.2.2.2.2.2.2.2.2)))))))))))) (fun (a4 : Bool) => (cond a4 (bindO (guardO (lenOk ((List.length s2.2.1) + (List.length (s2.2.2 :: ([] : List Int)))))) (fun (a5 : Unit) => (bindO (some (s2.2.1 ++ (s2.2.2 :: ([] : List Int)))) (fun (a6 : (List Int)) => (bindO (some (IntKind.wrap .i64 (s2.2.2 + (1 : Int)))) (fun (a7 : Int) => (again1 (a3.2.1, (a6, a7))))))))) (bindO (some (IntKind.wrap .i64 (s2.2.2 + (1 : Int)))) (fun (a8 : Int) => (again1 (s2.1, (s2.2.1, a8)))))))))) (bindO (guardO (lenOk ((List.length ([] : List (Int × Int))) + (List.length s2.1)))) (fun (a9 : Unit) => (bindO (some (([] : List (Int × Int)) ++ s2.1)) (fun (a10 : (List (Int × Int))) => (some (s2.2.1, (a10, true)))))))))) (x.2.2.1, (([] : List Int), (0 : Int))))))))

noncomputable def c_S_AcceptedStages : Con0 := ⟨pk_S_AcceptedStages, rk_S_AcceptedStages, M_S_AcceptedStages⟩

set_option maxRecDepth 100000 in
theorem eq_S_AcceptedStages (x : In pk_S_AcceptedStages) : semF (mkE [(42, c_S_xReady), (43, c_S_xVerify)]) h_S_AcceptedStages (info Tryz.f10) pk_S_AcceptedStages rk_S_AcceptedStages x = M_S_AcceptedStages x := (semFF_eq _ _ _ _ _ _).symm.trans (by kernel_rfl)

set_option maxRecDepth 100000 in
theorem m_S_AcceptedStages : ConOK Tryz.prog 10 c_S_AcceptedStages := fn_ok (tyOK _) (E := mkE [(42, c_S_xReady), (43, c_S_xVerify)]) (consOK_cons m_S_xReady (consOK_cons m_S_xVerify (consOK_nil rfl))) Tryz.func10 (h := h_S_AcceptedStages) (by kernel_rfl) eq_S_AcceptedStages

/-- I_within -/
def pk_I_within : List PK := [.data (.int .i64), .data (.int .i64), .data (.int .i64)]
def rk_I_within : List (Ty × Bool) := [(.bool, false)]
def h_I_within : Hints := { loops := [] }
noncomputable def M_I_within (x : (Int × (Int × Int))) : (Option Bool) :=
  (cond (decide (x.1 ≥ x.2.1)) (some (decide (x.1 ≤ x.2.2))) (some false))

noncomputable def c_I_within : Con0 := ⟨pk_I_within, rk_I_within, M_I_within⟩

set_option maxRecDepth 100000 in
theorem eq_I_within (x : In pk_I_within) : semF (mkE []) h_I_within (info Tryz.f85) pk_I_within rk_I_within x = M_I_within x := (semFF_eq _ _ _ _ _ _).symm.trans (by kernel_rfl)

set_option maxRecDepth 100000 in
theorem m_I_within : ConOK Tryz.prog 85 c_I_within := fn_ok (tyOK _) (E := mkE []) (consOK_nil rfl) Tryz.func85 (h := h_I_within) (by kernel_rfl) eq_I_within

/-- I_isModulus -/
def pk_I_isModulus : List PK := [.data (.int .i64)]
def rk_I_isModulus : List (Ty × Bool) := [(.bool, false)]
def h_I_isModulus : Hints := { loops := [] }
noncomputable def M_I_isModulus (x : Int) : (Option Bool) :=
  (bindO (M_I_within (x, ((2 : Int), (2000000000 : Int)))) (fun (a0 : Bool) => (some a0)))

noncomputable def c_I_isModulus : Con0 := ⟨pk_I_isModulus, rk_I_isModulus, M_I_isModulus⟩

set_option maxRecDepth 100000 in
theorem eq_I_isModulus (x : In pk_I_isModulus) : semF (mkE [(85, c_I_within)]) h_I_isModulus (info Tryz.f194) pk_I_isModulus rk_I_isModulus x = M_I_isModulus x := (semFF_eq _ _ _ _ _ _).symm.trans (by kernel_rfl)

set_option maxRecDepth 100000 in
theorem m_I_isModulus : ConOK Tryz.prog 194 c_I_isModulus := fn_ok (tyOK _) (E := mkE [(85, c_I_within)]) (consOK_cons m_I_within (consOK_nil rfl)) Tryz.func194 (h := h_I_isModulus) (by kernel_rfl) eq_I_isModulus

/-- I_isPrime -/
def pk_I_isPrime : List PK := [.data (.int .i64)]
def rk_I_isPrime : List (Ty × Bool) := [(.bool, false)]
def h_I_isPrime : Hints := { loops := [(0, { items := [.slot 3 (.data (.int .i64) [])], kill := [1, 2, 4, 5, 6, 7, 8, 9, 10, 11, 12, 13, 14, 15, 16, 17, 18, 19, 20, 21, 22, 23, 24, 25, 26] })] }
noncomputable def M_I_isPrime (x : Int) : (Option Bool) :=
  (bindO (M_I_isModulus x) (fun (a0 : Bool) => (cond (not a0) (some false) (bindO (guardO ((2 : Int) != (0 : Int))) (fun (a1 : Unit) => (bindO (some (Int.tmod x (2 : Int))) (fun (a2 : Int) => (cond (a2 == (0 : Int)) (cond (x != (2 : Int)) (some false) (loopO (fun (again3 : (Int → (Option Bool))) => (fun (s4 : Int) => (bindO (some (IntKind.wrap .i64 (s4 * s4))) (fun (a5 : Int) => (cond (decide (a5 ≤ x)) (bindO (guardO (s4 != (0 : Int))) (fun (a6 : Unit) => (bindO (some (Int.tmod x s4)) (fun (a7 : Int) => (cond (a7 == (0 : Int)) (some false) (bindO (some (IntKind.wrap .i64 (s4 + (2 : Int)))) (fun (a8 : Int) => (again3 a8)))))))) (some true)))))) (3 : Int))) (loopO (fun (again9 : (Int → (Option Bool))) => (fun (s10 : Int) => (bindO (some (IntKind.wrap .i64 (s10 * s10))) (fun (a11 : Int) => (cond (decide (a11 ≤ x)) (bindO (guardO (s10 != (0 : Int))) (fun (a12 : Unit) => (bindO (some (Int.tmod x s10)) (fun (a13 : Int) => (cond (a13 == (0 : Int)) (some false) (bindO (some (IntKind.wrap .i64 (s10 + (2 : Int)))) (fun (a14 : Int) => (again9 a14)))))))) (some true)))))) (3 : Int))))))))))

noncomputable def c_I_isPrime : Con0 := ⟨pk_I_isPrime, rk_I_isPrime, M_I_isPrime⟩

set_option maxRecDepth 100000 in
theorem eq_I_isPrime (x : In pk_I_isPrime) : semF (mkE [(194, c_I_isModulus)]) h_I_isPrime (info Tryz.f145) pk_I_isPrime rk_I_isPrime x = M_I_isPrime x := (semFF_eq _ _ _ _ _ _).symm.trans (by kernel_rfl)

set_option maxRecDepth 100000 in
theorem m_I_isPrime : ConOK Tryz.prog 145 c_I_isPrime := fn_ok (tyOK _) (E := mkE [(194, c_I_isModulus)]) (consOK_cons m_I_isModulus (consOK_nil rfl)) Tryz.func145 (h := h_I_isPrime) (by kernel_rfl) eq_I_isPrime

/-- I_power -/
def pk_I_power : List PK := [.data (.int .i64), .data (.int .i64), .data (.int .i64)]
def rk_I_power : List (Ty × Bool) := [((.int .i64), false)]
def h_I_power : Hints := { loops := [(0, { items := [.slot 0 (.data (.int .i64) []), .slot 1 (.data (.int .i64) []), .slot 7 (.data (.int .i64) [])], kill := [3, 4, 5, 6, 8, 9, 10, 11, 12, 13, 14, 15, 16, 17, 18, 19, 20, 21, 22, 23, 24, 25, 26, 27] })] }
noncomputable def M_I_power (x : (Int × (Int × Int))) : (Option Int) :=
  (bindO (guardO (x.2.2 != (0 : Int))) (fun (a0 : Unit) => (bindO (some (Int.tmod (1 : Int) x.2.2)) (fun (a1 : Int) => (loopO (fun (again2 : ((Int × (Int × Int)) → (Option Int))) => (fun (s3 : (Int × (Int × Int))) => (cond (decide (s3.2.1 > (0 : Int))) (bindO (some (bits .and .i64 s3.2.1 (1 : Int))) (fun (a4 : Int) => (cond (a4 == (1 : Int)) (bindO (some (IntKind.wrap .i64 (s3.2.2 * s3.1))) (fun (a5 : Int) => (bindO (guardO (x.2.2 != (0 : Int))) (fun (a6 : Unit) => (bindO (some (Int.tmod a5 x.2.2)) (fun (a7 : Int) => (bindO (some (IntKind.wrap .i64 (s3.1 * s3.1))) (fun (a8 : Int) => (bindO (guardO (x.2.2 != (0 : Int))) (fun (a9 : Unit) => (bindO (some (Int.tmod a8 x.2.2)) (fun (a10 : Int) => (bindO (guardO (decide ((0 : Int) ≤ (1 : Int)))) (fun (a11 : Unit) => (bindO (some (shr .i64 s3.2.1 (1 : Int))) (fun (a12 : Int) => (again2 (a10, (a12, a7))))))))))))))))))) (bindO (some (IntKind.wrap .i64 (s3.1 * s3.1))) (fun (a13 : Int) => (bindO (guardO (x.2.2 != (0 : Int))) (fun (a14 : Unit) => (bindO (some (Int.tmod a13 x.2.2)) (fun (a15 : Int) => (bindO (guardO (decide ((0 : Int) ≤ (1 : Int)))) (fun (a16 : Unit) => (bindO (some (shr .i64 s3.2.1 (1 : Int))) (fun (a17 : Int) => (again2 (a15, (a17, s3.2.2)))))))))))))))) (some s3.2.2)))) (x.1, (x.2.1, a1)))))))

noncomputable def c_I_power : Con0 := ⟨pk_I_power, rk_I_power, M_I_power⟩

set_option maxRecDepth 100000 in
theorem eq_I_power (x : In pk_I_power) : semF (mkE []) h_I_power (info Tryz.f137) pk_I_power rk_I_power x = M_I_power x := (semFF_eq _ _ _ _ _ _).symm.trans (by kernel_rfl)

set_option maxRecDepth 100000 in
theorem m_I_power : ConOK Tryz.prog 137 c_I_power := fn_ok (tyOK _) (E := mkE []) (consOK_nil rfl) Tryz.func137 (h := h_I_power) (by kernel_rfl) eq_I_power

/-- I_IsValidGroup -/
def pk_I_IsValidGroup : List PK := [.data (.cons (.int .i64) (.cons (.int .i64) (.one (.int .i64))))]
def rk_I_IsValidGroup : List (Ty × Bool) := [(.bool, false)]
def h_I_IsValidGroup : Hints := { loops := [] }
noncomputable def M_I_IsValidGroup (x : (Int × (Int × Int))) : (Option Bool) :=
  (bindO (M_I_within (x.1, ((3 : Int), (2000000000 : Int)))) (fun (a0 : Bool) => (cond a0 (bindO (some (IntKind.wrap .i64 (x.1 - (1 : Int)))) (fun (a1 : Int) => (bindO (M_I_within (x.2.1, ((2 : Int), a1))) (fun (a2 : Bool) => (cond a2 (bindO (some (IntKind.wrap .i64 (x.1 - (1 : Int)))) (fun (a3 : Int) => (bindO (guardO (x.2.1 != (0 : Int))) (fun (a4 : Unit) => (bindO (some (Int.tmod a3 x.2.1)) (fun (a5 : Int) => (cond (a5 == (0 : Int)) (bindO (some (IntKind.wrap .i64 (x.1 - (1 : Int)))) (fun (a6 : Int) => (bindO (M_I_within (x.2.2, ((2 : Int), a6))) (fun (a7 : Bool) => (cond a7 (bindO (M_I_isPrime x.1) (fun (a8 : Bool) => (cond a8 (bindO (M_I_isPrime x.2.1) (fun (a9 : Bool) => (cond a9 (bindO (M_I_power (x.2.2, (x.2.1, x.1))) (fun (a10 : Int) => (some (a10 == (1 : Int))))) (some false)))) (some false)))) (some false)))))) (some false)))))))) (some false)))))) (some false))))

noncomputable def c_I_IsValidGroup : Con0 := ⟨pk_I_IsValidGroup, rk_I_IsValidGroup, M_I_IsValidGroup⟩

set_option maxRecDepth 100000 in
theorem eq_I_IsValidGroup (x : In pk_I_IsValidGroup) : semF (mkE [(85, c_I_within), (145, c_I_isPrime), (137, c_I_power)]) h_I_IsValidGroup (info Tryz.f97) pk_I_IsValidGroup rk_I_IsValidGroup x = M_I_IsValidGroup x := (semFF_eq _ _ _ _ _ _).symm.trans (by kernel_rfl)

set_option maxRecDepth 100000 in
theorem m_I_IsValidGroup : ConOK Tryz.prog 97 c_I_IsValidGroup := fn_ok (tyOK _) (E := mkE [(85, c_I_within), (145, c_I_isPrime), (137, c_I_power)]) (consOK_cons m_I_within (consOK_cons m_I_isPrime (consOK_cons m_I_power (consOK_nil rfl)))) Tryz.func97 (h := h_I_IsValidGroup) (by kernel_rfl) eq_I_IsValidGroup

/-- I_Group_has -/
def pk_I_Group_has : List PK := [.data (.cons (.int .i64) (.cons (.int .i64) (.one (.int .i64)))), .data (.int .i64)]
def rk_I_Group_has : List (Ty × Bool) := [(.bool, false)]
def h_I_Group_has : Hints := { loops := [] }
noncomputable def M_I_Group_has (x : ((Int × (Int × Int)) × Int)) : (Option Bool) :=
  (bindO (some (IntKind.wrap .i64 (x.1.1 - (1 : Int)))) (fun (a0 : Int) => (bindO (M_I_within (x.2, ((1 : Int), a0))) (fun (a1 : Bool) => (cond a1 (bindO (M_I_power (x.2, (x.1.2.1, x.1.1))) (fun (a2 : Int) => (some (a2 == (1 : Int))))) (some false))))))

noncomputable def c_I_Group_has : Con0 := ⟨pk_I_Group_has, rk_I_Group_has, M_I_Group_has⟩

set_option maxRecDepth 100000 in
theorem eq_I_Group_has (x : In pk_I_Group_has) : semF (mkE [(85, c_I_within), (137, c_I_power)]) h_I_Group_has (info Tryz.f98) pk_I_Group_has rk_I_Group_has x = M_I_Group_has x := (semFF_eq _ _ _ _ _ _).symm.trans (by kernel_rfl)

set_option maxRecDepth 100000 in
theorem m_I_Group_has : ConOK Tryz.prog 98 c_I_Group_has := fn_ok (tyOK _) (E := mkE [(85, c_I_within), (137, c_I_power)]) (consOK_cons m_I_within (consOK_cons m_I_power (consOK_nil rfl))) Tryz.func98 (h := h_I_Group_has) (by kernel_rfl) eq_I_Group_has

/-- slices_IndexFunc_sI_Cipher_I_Cipher -/
def pk_slices_IndexFunc_sI_Cipher_I_Cipher : List PK := [.data (.sl (.cons (.int .i64) (.one (.int .i64)))), .fn [(.cons (.int .i64) (.one (.int .i64)))] .bool]
def rk_slices_IndexFunc_sI_Cipher_I_Cipher : List (Ty × Bool) := [((.int .i64), false)]
def h_slices_IndexFunc_sI_Cipher_I_Cipher : Hints := { loops := [(0, { items := [.slot 8 (.data (.int .i64) [])], kill := [2, 3, 4, 5, 6, 9, 10, 11, 12, 13, 14, 15, 16, 17, 18] })] }
noncomputable def M_slices_IndexFunc_sI_Cipher_I_Cipher (x : ((List (Int × Int)) × ((Int × Int) → (Option Bool)))) : (Option Int) :=
  (loopO (fun (again0 : (Int → (Option Int))) => (fun (s1 : Int) => (cond (decide (s1 < (((List.length x.1) : Nat) : Int))) (bindO (getI x.1 s1) (fun (a2 : (Int × Int)) => (bindO (x.2 (a2.1, a2.2)) (fun (a3 : Bool) => (cond a3 (some s1) (bindO (some (IntKind.wrap .i64 (s1 + (1 : Int)))) (fun (a4 : Int) => (again0 a4)))))))) (some (- (1 : Int)))))) (0 : Int))

noncomputable def c_slices_IndexFunc_sI_Cipher_I_Cipher : Con0 := ⟨pk_slices_IndexFunc_sI_Cipher_I_Cipher, rk_slices_IndexFunc_sI_Cipher_I_Cipher, M_slices_IndexFunc_sI_Cipher_I_Cipher⟩

set_option maxRecDepth 100000 in
theorem eq_slices_IndexFunc_sI_Cipher_I_Cipher (x : In pk_slices_IndexFunc_sI_Cipher_I_Cipher) : semF (mkE []) h_slices_IndexFunc_sI_Cipher_I_Cipher (info Tryz.f179) pk_slices_IndexFunc_sI_Cipher_I_Cipher rk_slices_IndexFunc_sI_Cipher_I_Cipher x = M_slices_IndexFunc_sI_Cipher_I_Cipher x := (semFF_eq _ _ _ _ _ _).symm.trans (by kernel_rfl)

set_option maxRecDepth 100000 in
theorem m_slices_IndexFunc_sI_Cipher_I_Cipher : ConOK Tryz.prog 179 c_slices_IndexFunc_sI_Cipher_I_Cipher := fn_ok (tyOK _) (E := mkE []) (consOK_nil rfl) Tryz.func179 (h := h_slices_IndexFunc_sI_Cipher_I_Cipher) (by kernel_rfl) eq_slices_IndexFunc_sI_Cipher_I_Cipher

/-- slices_ContainsFunc_sI_Cipher_I_Cipher -/
def pk_slices_ContainsFunc_sI_Cipher_I_Cipher : List PK := [.data (.sl (.cons (.int .i64) (.one (.int .i64)))), .fn [(.cons (.int .i64) (.one (.int .i64)))] .bool]
def rk_slices_ContainsFunc_sI_Cipher_I_Cipher : List (Ty × Bool) := [(.bool, false)]
def h_slices_ContainsFunc_sI_Cipher_I_Cipher : Hints := { loops := [] }
noncomputable def M_slices_ContainsFunc_sI_Cipher_I_Cipher (x : ((List (Int × Int)) × ((Int × Int) → (Option Bool)))) : (Option Bool) :=
  (bindO (M_slices_IndexFunc_sI_Cipher_I_Cipher (x.1, x.2)) (fun (a0 : Int) => (some (decide (a0 ≥ (0 : Int))))))

noncomputable def c_slices_ContainsFunc_sI_Cipher_I_Cipher : Con0 := ⟨pk_slices_ContainsFunc_sI_Cipher_I_Cipher, rk_slices_ContainsFunc_sI_Cipher_I_Cipher, M_slices_ContainsFunc_sI_Cipher_I_Cipher⟩

set_option maxRecDepth 100000 in
theorem eq_slices_ContainsFunc_sI_Cipher_I_Cipher (x : In pk_slices_ContainsFunc_sI_Cipher_I_Cipher) : semF (mkE [(179, c_slices_IndexFunc_sI_Cipher_I_Cipher)]) h_slices_ContainsFunc_sI_Cipher_I_Cipher (info Tryz.f116) pk_slices_ContainsFunc_sI_Cipher_I_Cipher rk_slices_ContainsFunc_sI_Cipher_I_Cipher x = M_slices_ContainsFunc_sI_Cipher_I_Cipher x := (semFF_eq _ _ _ _ _ _).symm.trans (by kernel_rfl)

set_option maxRecDepth 100000 in
theorem m_slices_ContainsFunc_sI_Cipher_I_Cipher : ConOK Tryz.prog 116 c_slices_ContainsFunc_sI_Cipher_I_Cipher := fn_ok (tyOK _) (E := mkE [(179, c_slices_IndexFunc_sI_Cipher_I_Cipher)]) (consOK_cons m_slices_IndexFunc_sI_Cipher_I_Cipher (consOK_nil rfl)) Tryz.func116 (h := h_slices_ContainsFunc_sI_Cipher_I_Cipher) (by kernel_rfl) eq_slices_ContainsFunc_sI_Cipher_I_Cipher

/-- I_Group_hasCipher -/
def pk_I_Group_hasCipher : List PK := [.data (.cons (.int .i64) (.cons (.int .i64) (.one (.int .i64)))), .data (.cons (.int .i64) (.one (.int .i64)))]
def rk_I_Group_hasCipher : List (Ty × Bool) := [(.bool, false)]
def h_I_Group_hasCipher : Hints := { loops := [] }
noncomputable def M_I_Group_hasCipher (x : ((Int × (Int × Int)) × (Int × Int))) : (Option Bool) :=
  (bindO (M_I_Group_has ((x.1.1, (x.1.2.1, x.1.2.2)), x.2.1)) (fun (a0 : Bool) => (cond a0 (bindO (M_I_Group_has ((x.1.1, (x.1.2.1, x.1.2.2)), x.2.2)) (fun (a1 : Bool) => (some a1))) (some false))))

noncomputable def c_I_Group_hasCipher : Con0 := ⟨pk_I_Group_hasCipher, rk_I_Group_hasCipher, M_I_Group_hasCipher⟩

set_option maxRecDepth 100000 in
theorem eq_I_Group_hasCipher (x : In pk_I_Group_hasCipher) : semF (mkE [(98, c_I_Group_has)]) h_I_Group_hasCipher (info Tryz.f118) pk_I_Group_hasCipher rk_I_Group_hasCipher x = M_I_Group_hasCipher x := (semFF_eq _ _ _ _ _ _).symm.trans (by kernel_rfl)

set_option maxRecDepth 100000 in
theorem m_I_Group_hasCipher : ConOK Tryz.prog 118 c_I_Group_hasCipher := fn_ok (tyOK _) (E := mkE [(98, c_I_Group_has)]) (consOK_cons m_I_Group_has (consOK_nil rfl)) Tryz.func118 (h := h_I_Group_hasCipher) (by kernel_rfl) eq_I_Group_hasCipher

/-- I_Group_hasCiphers_1 -/
def pk_I_Group_hasCiphers_1 : List PK := [.data (.cons (.int .i64) (.one (.int .i64))), .rp (.cons (.int .i64) (.cons (.int .i64) (.one (.int .i64))))]
def rk_I_Group_hasCiphers_1 : List (Ty × Bool) := [(.bool, false)]
def h_I_Group_hasCiphers_1 : Hints := { loops := [] }
noncomputable def M_I_Group_hasCiphers_1 (x : ((Int × Int) × (Int × (Int × Int)))) : (Option Bool) :=
  (bindO (M_I_Group_hasCipher ((x.2.1, (x.2.2.1, x.2.2.2)), (x.1.1, x.1.2))) (fun (a0 : Bool) => (some (not a0))))

noncomputable def c_I_Group_hasCiphers_1 : Con0 := ⟨pk_I_Group_hasCiphers_1, rk_I_Group_hasCiphers_1, M_I_Group_hasCiphers_1⟩

set_option maxRecDepth 100000 in
theorem eq_I_Group_hasCiphers_1 (x : In pk_I_Group_hasCiphers_1) : semF (mkE [(118, c_I_Group_hasCipher)]) h_I_Group_hasCiphers_1 (info Tryz.f117) pk_I_Group_hasCiphers_1 rk_I_Group_hasCiphers_1 x = M_I_Group_hasCiphers_1 x := (semFF_eq _ _ _ _ _ _).symm.trans (by kernel_rfl)

set_option maxRecDepth 100000 in
theorem m_I_Group_hasCiphers_1 : ConOK Tryz.prog 117 c_I_Group_hasCiphers_1 := fn_ok (tyOK _) (E := mkE [(118, c_I_Group_hasCipher)]) (consOK_cons m_I_Group_hasCipher (consOK_nil rfl)) Tryz.func117 (h := h_I_Group_hasCiphers_1) (by kernel_rfl) eq_I_Group_hasCiphers_1

/-- I_Group_hasCiphers -/
def pk_I_Group_hasCiphers : List PK := [.data (.cons (.int .i64) (.cons (.int .i64) (.one (.int .i64)))), .data (.sl (.cons (.int .i64) (.one (.int .i64))))]
def rk_I_Group_hasCiphers : List (Ty × Bool) := [(.bool, false)]
def h_I_Group_hasCiphers : Hints := { loops := [] }
noncomputable def M_I_Group_hasCiphers (x : ((Int × (Int × Int)) × (List (Int × Int)))) : (Option Bool) :=
  (cond (decide ((((List.length x.2) : Nat) : Int) ≤ (24 : Int))) (bindO (M_slices_ContainsFunc_sI_Cipher_I_Cipher (x.2, (fun (a0 : (Int × Int)) => (bindO (M_I_Group_hasCiphers_1 (a0, (x.1.1, (x.1.2.1, x.1.2.2)))) (fun (a1 : Bool) => (some a1)))))) (fun (a2 : Bool) => (some (not a2)))) (some false))

noncomputable def c_I_Group_hasCiphers : Con0 := ⟨pk_I_Group_hasCiphers, rk_I_Group_hasCiphers, M_I_Group_hasCiphers⟩

set_option maxRecDepth 100000 in
theorem eq_I_Group_hasCiphers (x : In pk_I_Group_hasCiphers) : semF (mkE [(116, c_slices_ContainsFunc_sI_Cipher_I_Cipher), (117, c_I_Group_hasCiphers_1)]) h_I_Group_hasCiphers (info Tryz.f86) pk_I_Group_hasCiphers rk_I_Group_hasCiphers x = M_I_Group_hasCiphers x := (semFF_eq _ _ _ _ _ _).symm.trans (by kernel_rfl)

set_option maxRecDepth 100000 in
theorem m_I_Group_hasCiphers : ConOK Tryz.prog 86 c_I_Group_hasCiphers := fn_ok (tyOK _) (E := mkE [(116, c_slices_ContainsFunc_sI_Cipher_I_Cipher), (117, c_I_Group_hasCiphers_1)]) (consOK_cons m_slices_ContainsFunc_sI_Cipher_I_Cipher (consOK_cons m_I_Group_hasCiphers_1 (consOK_nil rfl))) Tryz.func86 (h := h_I_Group_hasCiphers) (by kernel_rfl) eq_I_Group_hasCiphers

/-- I_Group_areMixed -/
def pk_I_Group_areMixed : List PK := [.data (.cons (.int .i64) (.cons (.int .i64) (.one (.int .i64)))), .data (.sl (.cons (.int .i64) (.one (.int .i64))))]
def rk_I_Group_areMixed : List (Ty × Bool) := [(.bool, false)]
def h_I_Group_areMixed : Hints := { loops := [] }
noncomputable def M_I_Group_areMixed (x : ((Int × (Int × Int)) × (List (Int × Int)))) : (Option Bool) :=
  (bindO (M_I_within ((((List.length x.2) : Nat) : Int), ((1 : Int), (12 : Int)))) (fun (a0 : Bool) => (cond a0 (bindO (M_I_Group_hasCiphers ((x.1.1, (x.1.2.1, x.1.2.2)), x.2)) (fun (a1 : Bool) => (some a1))) (some false))))

noncomputable def c_I_Group_areMixed : Con0 := ⟨pk_I_Group_areMixed, rk_I_Group_areMixed, M_I_Group_areMixed⟩

set_option maxRecDepth 100000 in
theorem eq_I_Group_areMixed (x : In pk_I_Group_areMixed) : semF (mkE [(85, c_I_within), (86, c_I_Group_hasCiphers)]) h_I_Group_areMixed (info Tryz.f52) pk_I_Group_areMixed rk_I_Group_areMixed x = M_I_Group_areMixed x := (semFF_eq _ _ _ _ _ _).symm.trans (by kernel_rfl)

set_option maxRecDepth 100000 in
theorem m_I_Group_areMixed : ConOK Tryz.prog 52 c_I_Group_areMixed := fn_ok (tyOK _) (E := mkE [(85, c_I_within), (86, c_I_Group_hasCiphers)]) (consOK_cons m_I_within (consOK_cons m_I_Group_hasCiphers (consOK_nil rfl))) Tryz.func52 (h := h_I_Group_areMixed) (by kernel_rfl) eq_I_Group_areMixed

/-- I_labelled -/
def pk_I_labelled : List PK := [.data .str, .data (.sl (.int .i64))]
def rk_I_labelled : List (Ty × Bool) := [((.sl (.int .i64)), true)]
def h_I_labelled : Hints := { loops := [(0, { items := [.slot 5 (.own (.int .i64) true), .slot 12 (.data (.int .i64) [])], kill := [2, 3, 4, 6, 7, 8, 9, 10, 13, 14, 15, 16, 17, 18, 19, 20, 21, 22, 23, 24, 25] })] }
noncomputable def M_I_labelled (x : (ByteArray × (List Int))) : (Option (List Int)) :=
  (loopO (fun (again0 : (((List Int) × Int) → (Option (List Int)))) => (fun (s1 : ((List Int) × Int)) => (cond (decide (s1.2 < (((ByteArray.size x.1) : Nat) : Int))) (bindO (if ((0 : Int) ≤ s1.2) then (x.1[(Int.toNat s1.2)]?) else (none : Option (UInt8))) (fun (a2 : (UInt8)) => (bindO (guardO (lenOk ((List.length s1.1) + (List.length ((IntKind.wrap .i64 (((UInt8.toNat a2) : Nat) : Int)) :: ([] : List Int)))))) (fun (a3 : Unit) => (bindO (some (s1.1 ++ ((IntKind.wrap .i64 (((UInt8.toNat a2) : Nat) : Int)) :: ([] : List Int)))) (fun (a4 : (List Int)) => (bindO (some (IntKind.wrap .i64 (s1.2 + (1 : Int)))) (fun (a5 : Int) => (again0 (a4, a5)))))))))) (bindO (guardO (lenOk ((List.length s1.1) + (List.length x.2)))) (fun (a6 : Unit) => (bindO (some (s1.1 ++ x.2)) (fun (a7 : (List Int)) => (some a7)))))))) (((((ByteArray.size x.1) : Nat) : Int) :: ([] : List Int)), (0 : Int)))

noncomputable def c_I_labelled : Con0 := ⟨pk_I_labelled, rk_I_labelled, M_I_labelled⟩

set_option maxRecDepth 100000 in
theorem eq_I_labelled (x : In pk_I_labelled) : semF (mkE []) h_I_labelled (info Tryz.f201) pk_I_labelled rk_I_labelled x = M_I_labelled x := (semFF_eq _ _ _ _ _ _).symm.trans (by kernel_rfl)

set_option maxRecDepth 100000 in
theorem m_I_labelled : ConOK Tryz.prog 201 c_I_labelled := fn_ok (tyOK _) (E := mkE []) (consOK_nil rfl) Tryz.func201 (h := h_I_labelled) (by kernel_rfl) eq_I_labelled

/-- slices_IndexFunc_sint_int -/
def pk_slices_IndexFunc_sint_int : List PK := [.data (.sl (.int .i64)), .fn [(.int .i64)] .bool]
def rk_slices_IndexFunc_sint_int : List (Ty × Bool) := [((.int .i64), false)]
def h_slices_IndexFunc_sint_int : Hints := { loops := [(0, { items := [.slot 8 (.data (.int .i64) [])], kill := [2, 3, 4, 5, 6, 9, 10, 11, 12, 13, 14, 15, 16, 17, 18] })] }
noncomputable def M_slices_IndexFunc_sint_int (x : ((List Int) × (Int → (Option Bool)))) : (Option Int) :=
  (loopO (fun (again0 : (Int → (Option Int))) => (fun (s1 : Int) => (cond (decide (s1 < (((List.length x.1) : Nat) : Int))) (bindO (getI x.1 s1) (fun (a2 : Int) => (bindO (x.2 a2) (fun (a3 : Bool) => (cond a3 (some s1) (bindO (some (IntKind.wrap .i64 (s1 + (1 : Int)))) (fun (a4 : Int) => (again0 a4)))))))) (some (- (1 : Int)))))) (0 : Int))

noncomputable def c_slices_IndexFunc_sint_int : Con0 := ⟨pk_slices_IndexFunc_sint_int, rk_slices_IndexFunc_sint_int, M_slices_IndexFunc_sint_int⟩

set_option maxRecDepth 100000 in
theorem eq_slices_IndexFunc_sint_int (x : In pk_slices_IndexFunc_sint_int) : semF (mkE []) h_slices_IndexFunc_sint_int (info Tryz.f202) pk_slices_IndexFunc_sint_int rk_slices_IndexFunc_sint_int x = M_slices_IndexFunc_sint_int x := (semFF_eq _ _ _ _ _ _).symm.trans (by kernel_rfl)

set_option maxRecDepth 100000 in
theorem m_slices_IndexFunc_sint_int : ConOK Tryz.prog 202 c_slices_IndexFunc_sint_int := fn_ok (tyOK _) (E := mkE []) (consOK_nil rfl) Tryz.func202 (h := h_slices_IndexFunc_sint_int) (by kernel_rfl) eq_slices_IndexFunc_sint_int

/-- slices_ContainsFunc_sint_int -/
def pk_slices_ContainsFunc_sint_int : List PK := [.data (.sl (.int .i64)), .fn [(.int .i64)] .bool]
def rk_slices_ContainsFunc_sint_int : List (Ty × Bool) := [(.bool, false)]
def h_slices_ContainsFunc_sint_int : Hints := { loops := [] }
noncomputable def M_slices_ContainsFunc_sint_int (x : ((List Int) × (Int → (Option Bool)))) : (Option Bool) :=
  (bindO (M_slices_IndexFunc_sint_int (x.1, x.2)) (fun (a0 : Int) => (some (decide (a0 ≥ (0 : Int))))))

noncomputable def c_slices_ContainsFunc_sint_int : Con0 := ⟨pk_slices_ContainsFunc_sint_int, rk_slices_ContainsFunc_sint_int, M_slices_ContainsFunc_sint_int⟩

set_option maxRecDepth 100000 in
theorem eq_slices_ContainsFunc_sint_int (x : In pk_slices_ContainsFunc_sint_int) : semF (mkE [(202, c_slices_IndexFunc_sint_int)]) h_slices_ContainsFunc_sint_int (info Tryz.f195) pk_slices_ContainsFunc_sint_int rk_slices_ContainsFunc_sint_int x = M_slices_ContainsFunc_sint_int x := (semFF_eq _ _ _ _ _ _).symm.trans (by kernel_rfl)

set_option maxRecDepth 100000 in
theorem m_slices_ContainsFunc_sint_int : ConOK Tryz.prog 195 c_slices_ContainsFunc_sint_int := fn_ok (tyOK _) (E := mkE [(202, c_slices_IndexFunc_sint_int)]) (consOK_cons m_slices_IndexFunc_sint_int (consOK_nil rfl)) Tryz.func195 (h := h_slices_ContainsFunc_sint_int) (by kernel_rfl) eq_slices_ContainsFunc_sint_int

/-- I_areAll_1 -/
def pk_I_areAll_1 : List PK := [.data (.int .i64), .rfn [(.int .i64)] .bool]
def rk_I_areAll_1 : List (Ty × Bool) := [(.bool, false)]
def h_I_areAll_1 : Hints := { loops := [] }
noncomputable def M_I_areAll_1 (x : (Int × (Int → (Option Bool)))) : (Option Bool) :=
  (bindO (x.2 x.1) (fun (a0 : Bool) => (some (not a0))))

noncomputable def c_I_areAll_1 : Con0 := ⟨pk_I_areAll_1, rk_I_areAll_1, M_I_areAll_1⟩

set_option maxRecDepth 100000 in
theorem eq_I_areAll_1 (x : In pk_I_areAll_1) : semF (mkE []) h_I_areAll_1 (info Tryz.f196) pk_I_areAll_1 rk_I_areAll_1 x = M_I_areAll_1 x := (semFF_eq _ _ _ _ _ _).symm.trans (by kernel_rfl)

set_option maxRecDepth 100000 in
theorem m_I_areAll_1 : ConOK Tryz.prog 196 c_I_areAll_1 := fn_ok (tyOK _) (E := mkE []) (consOK_nil rfl) Tryz.func196 (h := h_I_areAll_1) (by kernel_rfl) eq_I_areAll_1

/-- I_areAll -/
def pk_I_areAll : List PK := [.data (.sl (.int .i64)), .fn [(.int .i64)] .bool]
def rk_I_areAll : List (Ty × Bool) := [(.bool, false)]
def h_I_areAll : Hints := { loops := [] }
noncomputable def M_I_areAll (x : ((List Int) × (Int → (Option Bool)))) : (Option Bool) :=
  (bindO (M_slices_ContainsFunc_sint_int (x.1, (fun (a0 : Int) => (bindO (M_I_areAll_1 (a0, x.2)) (fun (a1 : Bool) => (some a1)))))) (fun (a2 : Bool) => (some (not a2))))

noncomputable def c_I_areAll : Con0 := ⟨pk_I_areAll, rk_I_areAll, M_I_areAll⟩

set_option maxRecDepth 100000 in
theorem eq_I_areAll (x : In pk_I_areAll) : semF (mkE [(195, c_slices_ContainsFunc_sint_int), (196, c_I_areAll_1)]) h_I_areAll (info Tryz.f146) pk_I_areAll rk_I_areAll x = M_I_areAll x := (semFF_eq _ _ _ _ _ _).symm.trans (by kernel_rfl)

set_option maxRecDepth 100000 in
theorem m_I_areAll : ConOK Tryz.prog 146 c_I_areAll := fn_ok (tyOK _) (E := mkE [(195, c_slices_ContainsFunc_sint_int), (196, c_I_areAll_1)]) (consOK_cons m_slices_ContainsFunc_sint_int (consOK_cons m_I_areAll_1 (consOK_nil rfl))) Tryz.func146 (h := h_I_areAll) (by kernel_rfl) eq_I_areAll

/-- I_isDigest -/
def pk_I_isDigest : List PK := [.data (.int .i64)]
def rk_I_isDigest : List (Ty × Bool) := [(.bool, false)]
def h_I_isDigest : Hints := { loops := [] }
noncomputable def M_I_isDigest (x : Int) : (Option Bool) :=
  (bindO (M_I_within (x, ((0 : Int), (4611686018427387903 : Int)))) (fun (a0 : Bool) => (some a0)))

noncomputable def c_I_isDigest : Con0 := ⟨pk_I_isDigest, rk_I_isDigest, M_I_isDigest⟩

set_option maxRecDepth 100000 in
theorem eq_I_isDigest (x : In pk_I_isDigest) : semF (mkE [(85, c_I_within)]) h_I_isDigest (info Tryz.f210) pk_I_isDigest rk_I_isDigest x = M_I_isDigest x := (semFF_eq _ _ _ _ _ _).symm.trans (by kernel_rfl)

set_option maxRecDepth 100000 in
theorem m_I_isDigest : ConOK Tryz.prog 210 c_I_isDigest := fn_ok (tyOK _) (E := mkE [(85, c_I_within)]) (consOK_cons m_I_within (consOK_nil rfl)) Tryz.func210 (h := h_I_isDigest) (by kernel_rfl) eq_I_isDigest

/-- I_areDigests -/
def pk_I_areDigests : List PK := [.data (.sl (.int .i64))]
def rk_I_areDigests : List (Ty × Bool) := [(.bool, false)]
def h_I_areDigests : Hints := { loops := [] }
noncomputable def M_I_areDigests (x : (List Int)) : (Option Bool) :=
  (cond (decide ((((List.length x) : Nat) : Int) ≤ (400 : Int))) (bindO (M_I_areAll (x, (fun (a0 : Int) => (bindO (M_I_isDigest a0) (fun (a1 : Bool) => (some a1)))))) (fun (a2 : Bool) => (some a2))) (some false))

noncomputable def c_I_areDigests : Con0 := ⟨pk_I_areDigests, rk_I_areDigests, M_I_areDigests⟩

set_option maxRecDepth 100000 in
theorem eq_I_areDigests (x : In pk_I_areDigests) : semF (mkE [(146, c_I_areAll), (210, c_I_isDigest)]) h_I_areDigests (info Tryz.f207) pk_I_areDigests rk_I_areDigests x = M_I_areDigests x := (semFF_eq _ _ _ _ _ _).symm.trans (by kernel_rfl)

set_option maxRecDepth 100000 in
theorem m_I_areDigests : ConOK Tryz.prog 207 c_I_areDigests := fn_ok (tyOK _) (E := mkE [(146, c_I_areAll), (210, c_I_isDigest)]) (consOK_cons m_I_areAll (consOK_cons m_I_isDigest (consOK_nil rfl))) Tryz.func207 (h := h_I_areDigests) (by kernel_rfl) eq_I_areDigests

/-- I_hash -/
def pk_I_hash : List PK := [.data (.sl (.int .i64))]
def rk_I_hash : List (Ty × Bool) := [((.int .i64), false)]
def h_I_hash : Hints := { loops := [(0, { items := [.slot 3 (.data (.int .i64) []), .slot 4 (.data (.int .i64) []), .slot 15 (.data (.int .i64) [])], kill := [0, 1, 2, 5, 6, 7, 8, 9, 10, 11, 12, 16, 17, 18, 19, 20, 21, 22, 23, 24, 25, 26, 27, 28, 29, 30, 31, 32, 33, 34, 35, 36, 37, 38, 39, 40, 41, 42, 43, 44, 45, 46, 47, 48, 49, 50, 51] })] }
noncomputable def M_I_hash (x : (List Int)) : (Option Int) :=
  (bindO (guardO (lenOk ((List.length ((((List.length x) : Nat) : Int) :: ([] : List Int))) + (List.length x)))) (fun (a0 : Unit) => (bindO (some (((((List.length x) : Nat) : Int) :: ([] : List Int)) ++ x)) (fun (a1 : (List Int)) => (loopO (fun (again2 : ((Int × (Int × Int)) → (Option Int))) => (fun (s3 : (Int × (Int × Int))) => (cond (decide (s3.2.2 < (((List.length a1) : Nat) : Int))) (bindO (getI a1 s3.2.2) (fun (a4 : Int) => (bindO (guardO (decide ((0 : Int) ≤ (31 : Int)))) (fun (a5 : Unit) => (bindO (some (shr .i64 a4 (31 : Int))) (fun (a6 : Int) => (bindO (some (bits .and .i64 a4 (2147483647 : Int))) (fun (a7 : Int) => (bindO (some (IntKind.wrap .i64 ((48271 : Int) * s3.1))) (fun (a8 : Int) => (bindO (some (IntKind.wrap .i64 (a8 + a7))) (fun (a9 : Int) => (bindO (some (IntKind.wrap .i64 (a9 + (1 : Int)))) (fun (a10 : Int) => (bindO (guardO ((2147483647 : Int) != (0 : Int))) (fun (a11 : Unit) => (bindO (some (Int.tmod a10 (2147483647 : Int))) (fun (a12 : Int) => (bindO (some (IntKind.wrap .i64 ((48271 : Int) * a12))) (fun (a13 : Int) => (bindO (some (IntKind.wrap .i64 (a13 + a6))) (fun (a14 : Int) => (bindO (some (IntKind.wrap .i64 (a14 + (1 : Int)))) (fun (a15 : Int) => (bindO (guardO ((2147483647 : Int) != (0 : Int))) (fun (a16 : Unit) => (bindO (some (Int.tmod a15 (2147483647 : Int))) (fun (a17 : Int) => (bindO (some (IntKind.wrap .i64 ((69621 : Int) * s3.2.1))) (fun (a18 : Int) => (bindO (some (IntKind.wrap .i64 (a18 + a7))) (fun (a19 : Int) => (bindO (some (IntKind.wrap .i64 (a19 + (1 : Int)))) (fun (a20 : Int) => (bindO (guardO ((2147483647 : Int) != (0 : Int))) (fun (a21 : Unit) => (bindO (some (Int.tmod a20 (2147483647 : Int))) (fun (a22 : Int) => (bindO (some (IntKind.wrap .i64 ((69621 : Int) * a22))) (fun (a23 : Int) => (bindO (some (IntKind.wrap .i64 (a23 + a6))) (fun (a24 : Int) => (bindO (some (IntKind.wrap .i64 (a24 + (1 : Int)))) (fun (a25 : Int) => (bindO (guardO ((2147483647 : Int) != (0 : Int))) (fun (a26 : Unit) => (bindO (some (Int.tmod a25 (2147483647 : Int))) (fun (a27 : Int) => (bindO (some (IntKind.wrap .i64 (s3.2.2 + (1 : Int)))) (fun (a28 : Int) => (again2 (a17, (a27, a28))))))))))))))))))))))))))))))))))))))))))))))))))))) (bindO (guardO (decide ((0 : Int) ≤ (31 : Int)))) (fun (a29 : Unit) => (bindO (some (shl .i64 s3.1 (31 : Int))) (fun (a30 : Int) => (bindO (some (IntKind.wrap .i64 (a30 + s3.2.1))) (fun (a31 : Int) => (some a31)))))))))) ((1 : Int), ((2 : Int), (0 : Int))))))))

noncomputable def c_I_hash : Con0 := ⟨pk_I_hash, rk_I_hash, M_I_hash⟩

set_option maxRecDepth 100000 in
theorem eq_I_hash (x : In pk_I_hash) : semF (mkE []) h_I_hash (info Tryz.f208) pk_I_hash rk_I_hash x = M_I_hash x := (semFF_eq _ _ _ _ _ _).symm.trans (by kernel_rfl)

set_option maxRecDepth 100000 in
theorem m_I_hash : ConOK Tryz.prog 208 c_I_hash := fn_ok (tyOK _) (E := mkE []) (consOK_nil rfl) Tryz.func208 (h := h_I_hash) (by kernel_rfl) eq_I_hash

/-- I_HashInts -/
def pk_I_HashInts : List PK := [.data (.sl (.int .i64))]
def rk_I_HashInts : List (Ty × Bool) := [((.int .i64), false), (.bool, false)]
def h_I_HashInts : Hints := { loops := [] }
noncomputable def M_I_HashInts (x : (List Int)) : (Option (Int × Bool)) :=
  (bindO (M_I_areDigests x) (fun (a0 : Bool) => (cond (not a0) (some ((0 : Int), false)) (bindO (M_I_hash x) (fun (a1 : Int) => (some (a1, true)))))))

noncomputable def c_I_HashInts : Con0 := ⟨pk_I_HashInts, rk_I_HashInts, M_I_HashInts⟩

set_option maxRecDepth 100000 in
theorem eq_I_HashInts (x : In pk_I_HashInts) : semF (mkE [(207, c_I_areDigests), (208, c_I_hash)]) h_I_HashInts (info Tryz.f200) pk_I_HashInts rk_I_HashInts x = M_I_HashInts x := (semFF_eq _ _ _ _ _ _).symm.trans (by kernel_rfl)

set_option maxRecDepth 100000 in
theorem m_I_HashInts : ConOK Tryz.prog 200 c_I_HashInts := fn_ok (tyOK _) (E := mkE [(207, c_I_areDigests), (208, c_I_hash)]) (consOK_cons m_I_areDigests (consOK_cons m_I_hash (consOK_nil rfl))) Tryz.func200 (h := h_I_HashInts) (by kernel_rfl) eq_I_HashInts

/-- I_HashLabelled -/
def pk_I_HashLabelled : List PK := [.data .str, .data (.sl (.int .i64))]
def rk_I_HashLabelled : List (Ty × Bool) := [((.int .i64), false), (.bool, false)]
def h_I_HashLabelled : Hints := { loops := [] }
noncomputable def M_I_HashLabelled (x : (ByteArray × (List Int))) : (Option (Int × Bool)) :=
  (cond (decide ((((ByteArray.size x.1) : Nat) : Int) > (40 : Int))) (some ((0 : Int), false)) (cond (decide ((((List.length x.2) : Nat) : Int) > (400 : Int))) (some ((0 : Int), false)) (bindO (M_I_labelled (x.1, x.2)) (fun (a0 : (List Int)) => (bindO (M_I_HashInts a0) (fun (a1 : (Int × Bool)) => (some (a1.1, a1.2))))))))

noncomputable def c_I_HashLabelled : Con0 := ⟨pk_I_HashLabelled, rk_I_HashLabelled, M_I_HashLabelled⟩

set_option maxRecDepth 100000 in
theorem eq_I_HashLabelled (x : In pk_I_HashLabelled) : semF (mkE [(201, c_I_labelled), (200, c_I_HashInts)]) h_I_HashLabelled (info Tryz.f178) pk_I_HashLabelled rk_I_HashLabelled x = M_I_HashLabelled x := (semFF_eq _ _ _ _ _ _).symm.trans (by kernel_rfl)

set_option maxRecDepth 100000 in
theorem m_I_HashLabelled : ConOK Tryz.prog 178 c_I_HashLabelled := fn_ok (tyOK _) (E := mkE [(201, c_I_labelled), (200, c_I_HashInts)]) (consOK_cons m_I_labelled (consOK_cons m_I_HashInts (consOK_nil rfl))) Tryz.func178 (h := h_I_HashLabelled) (by kernel_rfl) eq_I_HashLabelled

/-- I_Group_derive -/
def pk_I_Group_derive : List PK := [.data (.cons (.int .i64) (.cons (.int .i64) (.one (.int .i64)))), .data .str, .data (.int .i64)]
def rk_I_Group_derive : List (Ty × Bool) := [((.int .i64), false), (.bool, false)]
def h_I_Group_derive : Hints := { loops := [(0, { items := [.slot 12 (.data (.int .i64) [])], kill := [0, 4, 5, 6, 7, 8, 9, 10, 11, 13, 14, 15, 16, 17, 18, 19, 20, 21, 22, 23, 24, 25, 26, 27, 28, 29, 30, 31, 32, 33, 34, 35, 36, 37, 38, 39, 40, 41, 42, 43, 44, 45, 46, 47, 48, 49] })] }
noncomputable def M_I_Group_derive (x : ((Int × (Int × Int)) × (ByteArray × Int))) : (Option (Int × Bool)) :=
  (loopO (fun (again0 : (Int → (Option (Int × Bool)))) => (fun (s1 : Int) => (cond (decide (s1 < (1000 : Int))) (bindO (M_I_HashLabelled (x.2.1, (x.1.1 :: (x.1.2.1 :: (x.1.2.2 :: (x.2.2 :: (s1 :: ([] : List Int)))))))) (fun (a2 : (Int × Bool)) => (cond (not a2.2) (some ((0 : Int), false)) (bindO (some (IntKind.wrap .i64 (x.1.1 - (1 : Int)))) (fun (a3 : Int) => (bindO (guardO (a3 != (0 : Int))) (fun (a4 : Unit) => (bindO (some (Int.tmod a2.1 a3)) (fun (a5 : Int) => (bindO (some (IntKind.wrap .i64 ((1 : Int) + a5))) (fun (a6 : Int) => (bindO (some (IntKind.wrap .i64 (x.1.1 - (1 : Int)))) (fun (a7 : Int) => (bindO (guardO (x.1.2.1 != (0 : Int))) (fun (a8 : Unit) => (bindO (some (IntKind.wrap .i64 (Int.tdiv a7 x.1.2.1))) (fun (a9 : Int) => (bindO (M_I_power (a6, (a9, x.1.1))) (fun (a10 : Int) => (cond (a10 != (1 : Int)) (some (a10, true)) (bindO (some (IntKind.wrap .i64 (s1 + (1 : Int)))) (fun (a11 : Int) => (again0 a11))))))))))))))))))))))) (some ((0 : Int), false))))) (0 : Int))

noncomputable def c_I_Group_derive : Con0 := ⟨pk_I_Group_derive, rk_I_Group_derive, M_I_Group_derive⟩

set_option maxRecDepth 100000 in
theorem eq_I_Group_derive (x : In pk_I_Group_derive) : semF (mkE [(178, c_I_HashLabelled), (137, c_I_power)]) h_I_Group_derive (info Tryz.f115) pk_I_Group_derive rk_I_Group_derive x = M_I_Group_derive x := (semFF_eq _ _ _ _ _ _).symm.trans (by kernel_rfl)

set_option maxRecDepth 100000 in
theorem m_I_Group_derive : ConOK Tryz.prog 115 c_I_Group_derive := fn_ok (tyOK _) (E := mkE [(178, c_I_HashLabelled), (137, c_I_power)]) (consOK_cons m_I_HashLabelled (consOK_cons m_I_power (consOK_nil rfl))) Tryz.func115 (h := h_I_Group_derive) (by kernel_rfl) eq_I_Group_derive

/-- I_Group_basesOf -/
def pk_I_Group_basesOf : List PK := [.data (.cons (.int .i64) (.cons (.int .i64) (.one (.int .i64)))), .data (.int .i64)]
def rk_I_Group_basesOf : List (Ty × Bool) := [((.cons (.int .i64) (.one (.sl (.int .i64)))), true), (.bool, false)]
def h_I_Group_basesOf : Hints := { loops := [(0, { items := [.slot 9 (.data .bool []), .slot 21 (.data (.int .i64) []), .cell 8 0 (.data (.int .i64) []), .cell 8 1 (.own (.int .i64) true)], kill := [0, 1, 3, 5, 6, 10, 11, 12, 13, 14, 15, 16, 17, 18, 19, 22, 23, 24, 25, 26, 27, 28, 29, 30, 31, 32, 33, 34, 35, 36, 37, 38, 39, 40, 41, 42, 43, 44, 45, 46, 47, 48] })] }
noncomputable def M_I_Group_basesOf (x : ((Int × (Int × Int)) × Int)) : (Option ((Int × (List Int)) × Bool)) :=
  (bindO (M_I_Group_derive ((x.1.1, (x.1.2.1, x.1.2.2)), ((bytesOf [104]), (0 : Int)))) (fun (a0 : (Int × Bool)) => (loopO (fun (again1 : ((Bool × (Int × (Int × (List Int)))) → (Option ((Int × (List Int)) × Bool)))) => (fun (s2 : (Bool × (Int × (Int × (List Int))))) => (cond (decide (s2.2.1 < x.2)) (bindO (M_I_Group_derive ((x.1.1, (x.1.2.1, x.1.2.2)), ((bytesOf [104, 115]), s2.2.1))) (fun (a3 : (Int × Bool)) => (cond s2.1 (bindO (guardO (lenOk ((List.length s2.2.2.2) + (List.length (a3.1 :: ([] : List Int)))))) (fun (a4 : Unit) => (bindO (some (s2.2.2.2 ++ (a3.1 :: ([] : List Int)))) (fun (a5 : (List Int)) => (bindO (some (IntKind.wrap .i64 (s2.2.1 + (1 : Int)))) (fun (a6 : Int) => (again1 (a3.2, (a6, (s2.2.2.1, a5)))))))))) (bindO (guardO (lenOk ((List.length s2.2.2.2) + (List.length (a3.1 :: ([] : List Int)))))) (fun (a7 : Unit) => (bindO (some (s2.2.2.2 ++ (a3.1 :: ([] : List Int)))) (fun (a8 : (List Int)) => (bindO (some (IntKind.wrap .i64 (s2.2.1 + (1 : Int)))) (fun (a9 : Int) => (again1 (false, (a9, (s2.2.2.1, a8))))))))))))) (cond (not a0.2) (some (((0 : Int), ([] : List Int)), false)) (cond (not s2.1) (some (((0 : Int), ([] : List Int)), false)) (some ((s2.2.2.1, s2.2.2.2), true))))))) (true, ((0 : Int), (a0.1, ([] : List Int)))))))

noncomputable def c_I_Group_basesOf : Con0 := ⟨pk_I_Group_basesOf, rk_I_Group_basesOf, M_I_Group_basesOf⟩

set_option maxRecDepth 100000 in
theorem eq_I_Group_basesOf (x : In pk_I_Group_basesOf) : semF (mkE [(115, c_I_Group_derive)]) h_I_Group_basesOf (info Tryz.f82) pk_I_Group_basesOf rk_I_Group_basesOf x = M_I_Group_basesOf x := (semFF_eq _ _ _ _ _ _).symm.trans (by kernel_rfl)

set_option maxRecDepth 100000 in
theorem m_I_Group_basesOf : ConOK Tryz.prog 82 c_I_Group_basesOf := fn_ok (tyOK _) (E := mkE [(115, c_I_Group_derive)]) (consOK_cons m_I_Group_derive (consOK_nil rfl)) Tryz.func82 (h := h_I_Group_basesOf) (by kernel_rfl) eq_I_Group_basesOf

/-- I_mixBases -/
def pk_I_mixBases : List PK := [.data (.cons (.int .i64) (.cons (.int .i64) (.one (.int .i64)))), .data (.int .i64), .data (.sl (.cons (.int .i64) (.one (.int .i64))))]
def rk_I_mixBases : List (Ty × Bool) := [((.cons (.int .i64) (.one (.sl (.int .i64)))), true), (.bool, false)]
def h_I_mixBases : Hints := { loops := [] }
noncomputable def M_I_mixBases (x : ((Int × (Int × Int)) × (Int × (List (Int × Int))))) : (Option ((Int × (List Int)) × Bool)) :=
  (bindO (M_I_IsValidGroup (x.1.1, (x.1.2.1, x.1.2.2))) (fun (a0 : Bool) => (cond (not a0) (some (((0 : Int), ([] : List Int)), false)) (bindO (M_I_Group_has ((x.1.1, (x.1.2.1, x.1.2.2)), x.2.1)) (fun (a1 : Bool) => (cond (not a1) (some (((0 : Int), ([] : List Int)), false)) (bindO (M_I_Group_areMixed ((x.1.1, (x.1.2.1, x.1.2.2)), x.2.2)) (fun (a2 : Bool) => (cond (not a2) (some (((0 : Int), ([] : List Int)), false)) (bindO (M_I_Group_basesOf ((x.1.1, (x.1.2.1, x.1.2.2)), (((List.length x.2.2) : Nat) : Int))) (fun (a3 : ((Int × (List Int)) × Bool)) => (some ((a3.1.1, a3.1.2), a3.2)))))))))))))

noncomputable def c_I_mixBases : Con0 := ⟨pk_I_mixBases, rk_I_mixBases, M_I_mixBases⟩

set_option maxRecDepth 100000 in
theorem eq_I_mixBases (x : In pk_I_mixBases) : semF (mkE [(97, c_I_IsValidGroup), (98, c_I_Group_has), (52, c_I_Group_areMixed), (82, c_I_Group_basesOf)]) h_I_mixBases (info Tryz.f63) pk_I_mixBases rk_I_mixBases x = M_I_mixBases x := (semFF_eq _ _ _ _ _ _).symm.trans (by kernel_rfl)

set_option maxRecDepth 100000 in
theorem m_I_mixBases : ConOK Tryz.prog 63 c_I_mixBases := fn_ok (tyOK _) (E := mkE [(97, c_I_IsValidGroup), (98, c_I_Group_has), (52, c_I_Group_areMixed), (82, c_I_Group_basesOf)]) (consOK_cons m_I_IsValidGroup (consOK_cons m_I_Group_has (consOK_cons m_I_Group_areMixed (consOK_cons m_I_Group_basesOf (consOK_nil rfl))))) Tryz.func63 (h := h_I_mixBases) (by kernel_rfl) eq_I_mixBases

/-- I_polyBases -/
def pk_I_polyBases : List PK := [.data (.cons (.int .i64) (.cons (.int .i64) (.one (.int .i64)))), .data (.int .i64), .data (.sl (.cons (.int .i64) (.one (.int .i64))))]
def rk_I_polyBases : List (Ty × Bool) := [((.cons (.int .i64) (.one (.sl (.int .i64)))), true), (.bool, false)]
def h_I_polyBases : Hints := { loops := [] }
noncomputable def M_I_polyBases (x : ((Int × (Int × Int)) × (Int × (List (Int × Int))))) : (Option ((Int × (List Int)) × Bool)) :=
  (bindO (M_I_mixBases ((x.1.1, (x.1.2.1, x.1.2.2)), (x.2.1, x.2.2))) (fun (a0 : ((Int × (List Int)) × Bool)) => (cond (not a0.2) (some (((0 : Int), ([] : List Int)), false)) (bindO (M_I_Group_basesOf ((x.1.1, (x.1.2.1, x.1.2.2)), (0 : Int))) (fun (a1 : ((Int × (List Int)) × Bool)) => (some ((a1.1.1, a1.1.2), a1.2)))))))

noncomputable def c_I_polyBases : Con0 := ⟨pk_I_polyBases, rk_I_polyBases, M_I_polyBases⟩

set_option maxRecDepth 100000 in
theorem eq_I_polyBases (x : In pk_I_polyBases) : semF (mkE [(63, c_I_mixBases), (82, c_I_Group_basesOf)]) h_I_polyBases (info Tryz.f45) pk_I_polyBases rk_I_polyBases x = M_I_polyBases x := (semFF_eq _ _ _ _ _ _).symm.trans (by kernel_rfl)

set_option maxRecDepth 100000 in
theorem m_I_polyBases : ConOK Tryz.prog 45 c_I_polyBases := fn_ok (tyOK _) (E := mkE [(63, c_I_mixBases), (82, c_I_Group_basesOf)]) (consOK_cons m_I_mixBases (consOK_cons m_I_Group_basesOf (consOK_nil rfl))) Tryz.func45 (h := h_I_polyBases) (by kernel_rfl) eq_I_polyBases

/-- I_Group_hasAll -/
def pk_I_Group_hasAll : List PK := [.data (.cons (.int .i64) (.cons (.int .i64) (.one (.int .i64)))), .data (.sl (.int .i64))]
def rk_I_Group_hasAll : List (Ty × Bool) := [(.bool, false)]
def h_I_Group_hasAll : Hints := { loops := [] }
noncomputable def M_I_Group_hasAll (x : ((Int × (Int × Int)) × (List Int))) : (Option Bool) :=
  (bindO (M_I_areAll (x.2, (fun (a0 : Int) => (bindO (M_I_Group_has ((x.1.1, (x.1.2.1, x.1.2.2)), a0)) (fun (a1 : Bool) => (some a1)))))) (fun (a2 : Bool) => (some a2)))

noncomputable def c_I_Group_hasAll : Con0 := ⟨pk_I_Group_hasAll, rk_I_Group_hasAll, M_I_Group_hasAll⟩

set_option maxRecDepth 100000 in
theorem eq_I_Group_hasAll (x : In pk_I_Group_hasAll) : semF (mkE [(146, c_I_areAll), (98, c_I_Group_has)]) h_I_Group_hasAll (info Tryz.f180) pk_I_Group_hasAll rk_I_Group_hasAll x = M_I_Group_hasAll x := (semFF_eq _ _ _ _ _ _).symm.trans (by kernel_rfl)

set_option maxRecDepth 100000 in
theorem m_I_Group_hasAll : ConOK Tryz.prog 180 c_I_Group_hasAll := fn_ok (tyOK _) (E := mkE [(146, c_I_areAll), (98, c_I_Group_has)]) (consOK_cons m_I_areAll (consOK_cons m_I_Group_has (consOK_nil rfl))) Tryz.func180 (h := h_I_Group_hasAll) (by kernel_rfl) eq_I_Group_hasAll

/-- I_Group_isExp -/
def pk_I_Group_isExp : List PK := [.data (.cons (.int .i64) (.cons (.int .i64) (.one (.int .i64)))), .data (.int .i64)]
def rk_I_Group_isExp : List (Ty × Bool) := [(.bool, false)]
def h_I_Group_isExp : Hints := { loops := [] }
noncomputable def M_I_Group_isExp (x : ((Int × (Int × Int)) × Int)) : (Option Bool) :=
  (bindO (some (IntKind.wrap .i64 (x.1.2.1 - (1 : Int)))) (fun (a0 : Int) => (bindO (M_I_within (x.2, ((0 : Int), a0))) (fun (a1 : Bool) => (some a1)))))

noncomputable def c_I_Group_isExp : Con0 := ⟨pk_I_Group_isExp, rk_I_Group_isExp, M_I_Group_isExp⟩

set_option maxRecDepth 100000 in
theorem eq_I_Group_isExp (x : In pk_I_Group_isExp) : semF (mkE [(85, c_I_within)]) h_I_Group_isExp (info Tryz.f149) pk_I_Group_isExp rk_I_Group_isExp x = M_I_Group_isExp x := (semFF_eq _ _ _ _ _ _).symm.trans (by kernel_rfl)

set_option maxRecDepth 100000 in
theorem m_I_Group_isExp : ConOK Tryz.prog 149 c_I_Group_isExp := fn_ok (tyOK _) (E := mkE [(85, c_I_within)]) (consOK_cons m_I_within (consOK_nil rfl)) Tryz.func149 (h := h_I_Group_isExp) (by kernel_rfl) eq_I_Group_isExp

/-- I_Group_areExps -/
def pk_I_Group_areExps : List PK := [.data (.cons (.int .i64) (.cons (.int .i64) (.one (.int .i64)))), .data (.sl (.int .i64))]
def rk_I_Group_areExps : List (Ty × Bool) := [(.bool, false)]
def h_I_Group_areExps : Hints := { loops := [] }
noncomputable def M_I_Group_areExps (x : ((Int × (Int × Int)) × (List Int))) : (Option Bool) :=
  (bindO (M_I_areAll (x.2, (fun (a0 : Int) => (bindO (M_I_Group_isExp ((x.1.1, (x.1.2.1, x.1.2.2)), a0)) (fun (a1 : Bool) => (some a1)))))) (fun (a2 : Bool) => (some a2)))

noncomputable def c_I_Group_areExps : Con0 := ⟨pk_I_Group_areExps, rk_I_Group_areExps, M_I_Group_areExps⟩

set_option maxRecDepth 100000 in
theorem eq_I_Group_areExps (x : In pk_I_Group_areExps) : semF (mkE [(146, c_I_areAll), (149, c_I_Group_isExp)]) h_I_Group_areExps (info Tryz.f100) pk_I_Group_areExps rk_I_Group_areExps x = M_I_Group_areExps x := (semFF_eq _ _ _ _ _ _).symm.trans (by kernel_rfl)

set_option maxRecDepth 100000 in
theorem m_I_Group_areExps : ConOK Tryz.prog 100 c_I_Group_areExps := fn_ok (tyOK _) (E := mkE [(146, c_I_areAll), (149, c_I_Group_isExp)]) (consOK_cons m_I_areAll (consOK_cons m_I_Group_isExp (consOK_nil rfl))) Tryz.func100 (h := h_I_Group_areExps) (by kernel_rfl) eq_I_Group_areExps

/-- I_Group_isMatrixForm -/
def pk_I_Group_isMatrixForm : List PK := [.data (.cons (.int .i64) (.cons (.int .i64) (.one (.int .i64)))), .data (.cons (.sl (.int .i64)) (.cons (.sl (.int .i64)) (.one (.cons (.sl (.int .i64)) (.cons (.sl (.int .i64)) (.one (.sl (.int .i64)))))))), .data (.int .i64)]
def rk_I_Group_isMatrixForm : List (Ty × Bool) := [(.bool, false)]
def h_I_Group_isMatrixForm : Hints := { loops := [] }
noncomputable def M_I_Group_isMatrixForm (x : ((Int × (Int × Int)) × (((List Int) × ((List Int) × ((List Int) × ((List Int) × (List Int))))) × Int))) : (Option Bool) :=
  (cond ((((List.length x.2.1.1) : Nat) : Int) == x.2.2) (cond ((((List.length x.2.1.2.1) : Nat) : Int) == x.2.2) (bindO (some (IntKind.wrap .i64 (x.2.2 + (5 : Int)))) (fun (a0 : Int) => (cond ((((List.length x.2.1.2.2.1) : Nat) : Int) == a0) (cond ((((List.length x.2.1.2.2.2.1) : Nat) : Int) == (1 : Int)) (bindO (some (IntKind.wrap .i64 ((2 : Int) * x.2.2))) (fun (a1 : Int) => (bindO (some (IntKind.wrap .i64 (a1 + (4 : Int)))) (fun (a2 : Int) => (cond ((((List.length x.2.1.2.2.2.2) : Nat) : Int) == a2) (bindO (M_I_Group_hasAll ((x.1.1, (x.1.2.1, x.1.2.2)), x.2.1.1)) (fun (a3 : Bool) => (cond a3 (bindO (M_I_Group_hasAll ((x.1.1, (x.1.2.1, x.1.2.2)), x.2.1.2.1)) (fun (a4 : Bool) => (cond a4 (bindO (M_I_Group_hasAll ((x.1.1, (x.1.2.1, x.1.2.2)), x.2.1.2.2.1)) (fun (a5 : Bool) => (cond a5 (bindO (M_I_Group_areExps ((x.1.1, (x.1.2.1, x.1.2.2)), x.2.1.2.2.2.2)) (fun (a6 : Bool) => (some a6))) (some false)))) (some false)))) (some false)))) (some false)))))) (some false)) (some false)))) (some false)) (some false))

noncomputable def c_I_Group_isMatrixForm : Con0 := ⟨pk_I_Group_isMatrixForm, rk_I_Group_isMatrixForm, M_I_Group_isMatrixForm⟩

set_option maxRecDepth 100000 in
theorem eq_I_Group_isMatrixForm (x : In pk_I_Group_isMatrixForm) : semF (mkE [(180, c_I_Group_hasAll), (100, c_I_Group_areExps)]) h_I_Group_isMatrixForm (info Tryz.f119) pk_I_Group_isMatrixForm rk_I_Group_isMatrixForm x = M_I_Group_isMatrixForm x := (semFF_eq _ _ _ _ _ _).symm.trans (by kernel_rfl)

set_option maxRecDepth 100000 in
theorem m_I_Group_isMatrixForm : ConOK Tryz.prog 119 c_I_Group_isMatrixForm := fn_ok (tyOK _) (E := mkE [(180, c_I_Group_hasAll), (100, c_I_Group_areExps)]) (consOK_cons m_I_Group_hasAll (consOK_cons m_I_Group_areExps (consOK_nil rfl))) Tryz.func119 (h := h_I_Group_isMatrixForm) (by kernel_rfl) eq_I_Group_isMatrixForm

/-- slices_Clone_sI_Cipher_I_Cipher -/
def pk_slices_Clone_sI_Cipher_I_Cipher : List PK := [.data (.sl (.cons (.int .i64) (.one (.int .i64))))]
def rk_slices_Clone_sI_Cipher_I_Cipher : List (Ty × Bool) := [((.sl (.cons (.int .i64) (.one (.int .i64)))), true)]
def h_slices_Clone_sI_Cipher_I_Cipher : Hints := { loops := [] }
noncomputable def M_slices_Clone_sI_Cipher_I_Cipher (x : (List (Int × Int))) : (Option (List (Int × Int))) :=
  (cond (List.isEmpty x) (ambO (some ([] : List (Int × Int))) (cond (not true) (some ([] : List (Int × Int))) (bindO (guardO (lenOk ((List.length ([] : List (Int × Int))) + (List.length x)))) (fun (a0 : Unit) => (bindO (some (([] : List (Int × Int)) ++ x)) (fun (a1 : (List (Int × Int))) => (some a1))))))) (cond (not true) (some ([] : List (Int × Int))) (bindO (guardO (lenOk ((List.length ([] : List (Int × Int))) + (List.length x)))) (fun (a2 : Unit) => (bindO (some (([] : List (Int × Int)) ++ x)) (fun (a3 : (List (Int × Int))) => (some a3)))))))

noncomputable def c_slices_Clone_sI_Cipher_I_Cipher : Con0 := ⟨pk_slices_Clone_sI_Cipher_I_Cipher, rk_slices_Clone_sI_Cipher_I_Cipher, M_slices_Clone_sI_Cipher_I_Cipher⟩

set_option maxRecDepth 100000 in
theorem eq_slices_Clone_sI_Cipher_I_Cipher (x : In pk_slices_Clone_sI_Cipher_I_Cipher) : semF (mkE []) h_slices_Clone_sI_Cipher_I_Cipher (info Tryz.f46) pk_slices_Clone_sI_Cipher_I_Cipher rk_slices_Clone_sI_Cipher_I_Cipher x = M_slices_Clone_sI_Cipher_I_Cipher x := (semFF_eq _ _ _ _ _ _).symm.trans (by kernel_rfl)

set_option maxRecDepth 100000 in
theorem m_slices_Clone_sI_Cipher_I_Cipher : ConOK Tryz.prog 46 c_slices_Clone_sI_Cipher_I_Cipher := fn_ok (tyOK _) (E := mkE []) (consOK_nil rfl) Tryz.func46 (h := h_slices_Clone_sI_Cipher_I_Cipher) (by kernel_rfl) eq_slices_Clone_sI_Cipher_I_Cipher

/-- I_mixList -/
def pk_I_mixList : List PK := [.data (.int .i64), .data (.sl (.cons (.int .i64) (.one (.int .i64)))), .data (.sl (.cons (.int .i64) (.one (.int .i64)))), .data (.sl (.int .i64))]
def rk_I_mixList : List (Ty × Bool) := [((.sl (.int .i64)), true)]
def h_I_mixList : Hints := { loops := [(0, { items := [.slot 9 (.own (.int .i64) true), .slot 19 (.data (.int .i64) [])], kill := [0, 1, 2, 4, 5, 6, 7, 8, 10, 11, 12, 13, 14, 15, 16, 20, 21, 22, 23, 24, 25, 26, 27, 28, 29, 30, 31, 32, 33] })] }
noncomputable def M_I_mixList (x : (Int × ((List (Int × Int)) × ((List (Int × Int)) × (List Int))))) : (Option (List Int)) :=
  (bindO (M_slices_Clone_sI_Cipher_I_Cipher x.2.1) (fun (a0 : (List (Int × Int))) => (bindO (guardO (lenOk ((List.length a0) + (List.length x.2.2.1)))) (fun (a1 : Unit) => (bindO (some (a0 ++ x.2.2.1)) (fun (a2 : (List (Int × Int))) => (loopO (fun (again3 : (((List Int) × Int) → (Option (List Int)))) => (fun (s4 : ((List Int) × Int)) => (cond (decide (s4.2 < (((List.length a2) : Nat) : Int))) (bindO (getI a2 s4.2) (fun (a5 : (Int × Int)) => (bindO (guardO (lenOk ((List.length s4.1) + (List.length (a5.1 :: (a5.2 :: ([] : List Int))))))) (fun (a6 : Unit) => (bindO (some (s4.1 ++ (a5.1 :: (a5.2 :: ([] : List Int))))) (fun (a7 : (List Int)) => (bindO (some (IntKind.wrap .i64 (s4.2 + (1 : Int)))) (fun (a8 : Int) => (again3 (a7, a8)))))))))) (bindO (guardO (lenOk ((List.length s4.1) + (List.length x.2.2.2)))) (fun (a9 : Unit) => (bindO (some (s4.1 ++ x.2.2.2)) (fun (a10 : (List Int)) => (some a10)))))))) ((x.1 :: ([] : List Int)), (0 : Int)))))))))

noncomputable def c_I_mixList : Con0 := ⟨pk_I_mixList, rk_I_mixList, M_I_mixList⟩

set_option maxRecDepth 100000 in
theorem eq_I_mixList (x : In pk_I_mixList) : semF (mkE [(46, c_slices_Clone_sI_Cipher_I_Cipher)]) h_I_mixList (info Tryz.f120) pk_I_mixList rk_I_mixList x = M_I_mixList x := (semFF_eq _ _ _ _ _ _).symm.trans (by kernel_rfl)

set_option maxRecDepth 100000 in
theorem m_I_mixList : ConOK Tryz.prog 120 c_I_mixList := fn_ok (tyOK _) (E := mkE [(46, c_slices_Clone_sI_Cipher_I_Cipher)]) (consOK_cons m_slices_Clone_sI_Cipher_I_Cipher (consOK_nil rfl)) Tryz.func120 (h := h_I_mixList) (by kernel_rfl) eq_I_mixList

/-- slices_Clone_sint_int -/
def pk_slices_Clone_sint_int : List PK := [.data (.sl (.int .i64))]
def rk_slices_Clone_sint_int : List (Ty × Bool) := [((.sl (.int .i64)), true)]
def h_slices_Clone_sint_int : Hints := { loops := [] }
noncomputable def M_slices_Clone_sint_int (x : (List Int)) : (Option (List Int)) :=
  (cond (List.isEmpty x) (ambO (some ([] : List Int)) (cond (not true) (some ([] : List Int)) (bindO (guardO (lenOk ((List.length ([] : List Int)) + (List.length x)))) (fun (a0 : Unit) => (bindO (some (([] : List Int) ++ x)) (fun (a1 : (List Int)) => (some a1))))))) (cond (not true) (some ([] : List Int)) (bindO (guardO (lenOk ((List.length ([] : List Int)) + (List.length x)))) (fun (a2 : Unit) => (bindO (some (([] : List Int) ++ x)) (fun (a3 : (List Int)) => (some a3)))))))

noncomputable def c_slices_Clone_sint_int : Con0 := ⟨pk_slices_Clone_sint_int, rk_slices_Clone_sint_int, M_slices_Clone_sint_int⟩

set_option maxRecDepth 100000 in
theorem eq_slices_Clone_sint_int (x : In pk_slices_Clone_sint_int) : semF (mkE []) h_slices_Clone_sint_int (info Tryz.f132) pk_slices_Clone_sint_int rk_slices_Clone_sint_int x = M_slices_Clone_sint_int x := (semFF_eq _ _ _ _ _ _).symm.trans (by kernel_rfl)

set_option maxRecDepth 100000 in
theorem m_slices_Clone_sint_int : ConOK Tryz.prog 132 c_slices_Clone_sint_int := fn_ok (tyOK _) (E := mkE []) (consOK_nil rfl) Tryz.func132 (h := h_slices_Clone_sint_int) (by kernel_rfl) eq_slices_Clone_sint_int

/-- I_Group_challenge -/
def pk_I_Group_challenge : List PK := [.data (.cons (.int .i64) (.cons (.int .i64) (.one (.int .i64)))), .data .str, .data (.sl (.int .i64))]
def rk_I_Group_challenge : List (Ty × Bool) := [((.int .i64), false), (.bool, false)]
def h_I_Group_challenge : Hints := { loops := [] }
noncomputable def M_I_Group_challenge (x : ((Int × (Int × Int)) × (ByteArray × (List Int)))) : (Option (Int × Bool)) :=
  (bindO (guardO (lenOk ((List.length (x.1.1 :: (x.1.2.1 :: (x.1.2.2 :: ([] : List Int))))) + (List.length x.2.2)))) (fun (a0 : Unit) => (bindO (some ((x.1.1 :: (x.1.2.1 :: (x.1.2.2 :: ([] : List Int)))) ++ x.2.2)) (fun (a1 : (List Int)) => (bindO (M_I_HashLabelled (x.2.1, a1)) (fun (a2 : (Int × Bool)) => (cond (not a2.2) (some ((0 : Int), false)) (bindO (guardO (x.1.2.1 != (0 : Int))) (fun (a3 : Unit) => (bindO (some (Int.tmod a2.1 x.1.2.1)) (fun (a4 : Int) => (some (a4, true)))))))))))))

noncomputable def c_I_Group_challenge : Con0 := ⟨pk_I_Group_challenge, rk_I_Group_challenge, M_I_Group_challenge⟩

set_option maxRecDepth 100000 in
theorem eq_I_Group_challenge (x : In pk_I_Group_challenge) : semF (mkE [(178, c_I_HashLabelled)]) h_I_Group_challenge (info Tryz.f122) pk_I_Group_challenge rk_I_Group_challenge x = M_I_Group_challenge x := (semFF_eq _ _ _ _ _ _).symm.trans (by kernel_rfl)

set_option maxRecDepth 100000 in
theorem m_I_Group_challenge : ConOK Tryz.prog 122 c_I_Group_challenge := fn_ok (tyOK _) (E := mkE [(178, c_I_HashLabelled)]) (consOK_cons m_I_HashLabelled (consOK_nil rfl)) Tryz.func122 (h := h_I_Group_challenge) (by kernel_rfl) eq_I_Group_challenge

/-- I_Group_challenges -/
def pk_I_Group_challenges : List PK := [.data (.cons (.int .i64) (.cons (.int .i64) (.one (.int .i64)))), .data .str, .data (.sl (.int .i64)), .data (.int .i64)]
def rk_I_Group_challenges : List (Ty × Bool) := [((.sl (.int .i64)), true), (.bool, false)]
def h_I_Group_challenges : Hints := { loops := [(0, { items := [.slot 10 (.own (.int .i64) true), .slot 17 (.data (.int .i64) [])], kill := [0, 5, 6, 7, 8, 9, 11, 12, 13, 14, 15, 18, 19, 20, 21, 22, 23, 24, 25, 26, 27, 28, 29, 30, 31, 32, 33, 34, 35, 36, 37, 38, 39, 40] })] }
noncomputable def M_I_Group_challenges (x : ((Int × (Int × Int)) × (ByteArray × ((List Int) × Int)))) : (Option ((List Int) × Bool)) :=
  (loopO (fun (again0 : (((List Int) × Int) → (Option ((List Int) × Bool)))) => (fun (s1 : ((List Int) × Int)) => (cond (decide (s1.2 < (if (x.2.2.2 < (1 : Int)) then (1 : Int) else x.2.2.2))) (bindO (M_slices_Clone_sint_int x.2.2.1) (fun (a2 : (List Int)) => (bindO (guardO (lenOk ((List.length a2) + (List.length (s1.2 :: ([] : List Int)))))) (fun (a3 : Unit) => (bindO (some (a2 ++ (s1.2 :: ([] : List Int)))) (fun (a4 : (List Int)) => (bindO (M_I_Group_challenge ((x.1.1, (x.1.2.1, x.1.2.2)), (x.2.1, a4))) (fun (a5 : (Int × Bool)) => (cond (not a5.2) (some (([] : List Int), false)) (bindO (guardO (lenOk ((List.length s1.1) + (List.length (a5.1 :: ([] : List Int)))))) (fun (a6 : Unit) => (bindO (some (s1.1 ++ (a5.1 :: ([] : List Int)))) (fun (a7 : (List Int)) => (bindO (some (IntKind.wrap .i64 (s1.2 + (1 : Int)))) (fun (a8 : Int) => (again0 (a7, a8))))))))))))))))) (bindO (sliceNH x.2.2.2 (List.length s1.1)) (fun (a9 : (Nat × Nat)) => (some ((List.take a9.2 s1.1), true))))))) (([] : List Int), (0 : Int)))

noncomputable def c_I_Group_challenges : Con0 := ⟨pk_I_Group_challenges, rk_I_Group_challenges, M_I_Group_challenges⟩

set_option maxRecDepth 100000 in
theorem eq_I_Group_challenges (x : In pk_I_Group_challenges) : semF (mkE [(132, c_slices_Clone_sint_int), (122, c_I_Group_challenge)]) h_I_Group_challenges (info Tryz.f121) pk_I_Group_challenges rk_I_Group_challenges x = M_I_Group_challenges x := (semFF_eq _ _ _ _ _ _).symm.trans (by kernel_rfl)

set_option maxRecDepth 100000 in
theorem m_I_Group_challenges : ConOK Tryz.prog 121 c_I_Group_challenges := fn_ok (tyOK _) (E := mkE [(132, c_slices_Clone_sint_int), (122, c_I_Group_challenge)]) (consOK_cons m_slices_Clone_sint_int (consOK_cons m_I_Group_challenge (consOK_nil rfl))) Tryz.func121 (h := h_I_Group_challenges) (by kernel_rfl) eq_I_Group_challenges

/-- slices_Grow_sint_int -/
def pk_slices_Grow_sint_int : List PK := [.ow (.sl (.int .i64)), .data (.int .i64)]
def rk_slices_Grow_sint_int : List (Ty × Bool) := [((.sl (.int .i64)), true)]
noncomputable def M_slices_Grow_sint_int (x : ((List Int) × Int)) : (Option (List Int)) :=
  (if 0 ≤ x.2 ∧ (x.1.length : Int) + x.2 ≤ 68719476736 then some x.1 else Option.none)

noncomputable def c_slices_Grow_sint_int : Con0 := ⟨pk_slices_Grow_sint_int, rk_slices_Grow_sint_int, M_slices_Grow_sint_int⟩

def grow_ren : Go.Shelf.Ren := ⟨fun | 4 => 181 | n => n, fun | 0 => 0 | 3 => 3 | 4 => 4 | 9 => 9 | 20 => 20 | 22 => 28 | 25 => 3 | n => n, fun n => n⟩
set_option maxRecDepth 100000 in
theorem grow_lays : Go.Proofs.Lays8.n4 Tryz.prog grow_ren where
  mixed := by kernel_rfl
  f4 := ⟨Tryz.f181.name, of_decide_eq_true (by kernel_rfl), Tryz.func181.trans (congrArg some (by kernel_rfl))⟩
  t0 := Tryz.underlying0
  a0 := Tryz.isAgg0
  z0 := Tryz.sizeOf0
  v0 := Tryz.zeroValue0
  t3 := Tryz.underlying3
  a3 := Tryz.isAgg3
  z3 := Tryz.sizeOf3
  v3 := Tryz.zeroValue3
  t4 := Tryz.underlying4
  a4 := Tryz.isAgg4
  z4 := Tryz.sizeOf4
  v4 := Tryz.zeroValue4
  t9 := Tryz.underlying9
  a9 := Tryz.isAgg9
  z9 := Tryz.sizeOf9
  v9 := Tryz.zeroValue9
  t20 := Tryz.underlying20
  a20 := Tryz.isAgg20
  z20 := Tryz.sizeOf20
  v20 := Tryz.zeroValue20
  t22 := Tryz.underlying28
  a22 := Tryz.isAgg28
  z22 := Tryz.sizeOf28
  v22 := Tryz.zeroValue28

theorem m_slices_Grow_sint_int : ConOK Tryz.prog 181 c_slices_Grow_sint_int := grow_ok ⟨Tryz.f181, Tryz.func181, of_decide_eq_true (by kernel_rfl), by kernel_rfl⟩ (grow_room grow_lays) (grow_more grow_lays (tyOK []) (by kernel_rfl))

/-- slices_Concat_sint_int -/
def pk_slices_Concat_sint_int : List PK := [.data (.sl (.sl (.int .i64)))]
def rk_slices_Concat_sint_int : List (Ty × Bool) := [((.sl (.int .i64)), true)]
def h_slices_Concat_sint_int : Hints := { loops := [(0, { items := [.slot 3 (.data (.int .i64) []), .slot 11 (.data (.int .i64) [])], kill := [1, 2, 4, 5, 6, 7, 8, 12, 13, 14, 15, 16, 17, 18, 19, 20, 21, 22, 23, 24, 25, 26, 27, 28, 29, 30, 31, 32, 33, 34, 35] }), (2, { items := [.slot 6 (.own (.int .i64) true), .slot 27 (.data (.int .i64) [])], kill := [0, 1, 2, 3, 4, 5, 7, 8, 9, 10, 11, 12, 13, 14, 15, 16, 17, 18, 19, 20, 21, 22, 23, 24, 28, 29, 30, 31, 32, 33, 34, 35] })] }
noncomputable def M_slices_Concat_sint_int (x : (List (List Int))) : (Option (List Int)) :=
  (loopO (fun (again0 : ((Int × Int) → (Option (List Int)))) => (fun (s1 : (Int × Int)) => (cond (decide (s1.2 < (((List.length x) : Nat) : Int))) (bindO (getI x s1.2) (fun (a2 : (List Int)) => (bindO (some (IntKind.wrap .i64 (s1.1 + (((List.length a2) : Nat) : Int)))) (fun (a3 : Int) => (cond (decide (a3 < (0 : Int))) (none : Option (List Int)) (bindO (some (IntKind.wrap .i64 (s1.2 + (1 : Int)))) (fun (a4 : Int) => (again0 (a3, a4))))))))) (bindO (M_slices_Grow_sint_int (([] : List Int), s1.1)) (fun (a5 : (List Int)) => (loopO (fun (again6 : (((List Int) × Int) → (Option (List Int)))) => (fun (s7 : ((List Int) × Int)) => (cond (decide (s7.2 < (((List.length x) : Nat) : Int))) (bindO (getI x s7.2) (fun (a8 : (List Int)) => (bindO (guardO (lenOk ((List.length s7.1) + (List.length a8)))) (fun (a9 : Unit) => (bindO (some (s7.1 ++ a8)) (fun (a10 : (List Int)) => (bindO (some (IntKind.wrap .i64 (s7.2 + (1 : Int)))) (fun (a11 : Int) => (again6 (a10, a11)))))))))) (some s7.1)))) (a5, (0 : Int)))))))) ((0 : Int), (0 : Int)))

noncomputable def c_slices_Concat_sint_int : Con0 := ⟨pk_slices_Concat_sint_int, rk_slices_Concat_sint_int, M_slices_Concat_sint_int⟩

set_option maxRecDepth 100000 in
theorem eq_slices_Concat_sint_int (x : In pk_slices_Concat_sint_int) : semF (mkE [(181, c_slices_Grow_sint_int)]) h_slices_Concat_sint_int (info Tryz.f123) pk_slices_Concat_sint_int rk_slices_Concat_sint_int x = M_slices_Concat_sint_int x := (semFF_eq _ _ _ _ _ _).symm.trans (by kernel_rfl)

set_option maxRecDepth 100000 in
theorem m_slices_Concat_sint_int : ConOK Tryz.prog 123 c_slices_Concat_sint_int := fn_ok (tyOK _) (E := mkE [(181, c_slices_Grow_sint_int)]) (consOK_cons m_slices_Grow_sint_int (consOK_nil rfl)) Tryz.func123 (h := h_slices_Concat_sint_int) (by kernel_rfl) eq_slices_Concat_sint_int

/-- I_mod -/
def pk_I_mod : List PK := [.data (.int .i64), .data (.int .i64)]
def rk_I_mod : List (Ty × Bool) := [((.int .i64), false)]
def h_I_mod : Hints := { loops := [] }
noncomputable def M_I_mod (x : (Int × Int)) : (Option Int) :=
  (bindO (guardO (x.2 != (0 : Int))) (fun (a0 : Unit) => (bindO (some (Int.tmod x.1 x.2)) (fun (a1 : Int) => (bindO (some (IntKind.wrap .i64 (a1 + x.2))) (fun (a2 : Int) => (bindO (guardO (x.2 != (0 : Int))) (fun (a3 : Unit) => (bindO (some (Int.tmod a2 x.2)) (fun (a4 : Int) => (some a4)))))))))))

noncomputable def c_I_mod : Con0 := ⟨pk_I_mod, rk_I_mod, M_I_mod⟩

set_option maxRecDepth 100000 in
theorem eq_I_mod (x : In pk_I_mod) : semF (mkE []) h_I_mod (info Tryz.f182) pk_I_mod rk_I_mod x = M_I_mod x := (semFF_eq _ _ _ _ _ _).symm.trans (by kernel_rfl)

set_option maxRecDepth 100000 in
theorem m_I_mod : ConOK Tryz.prog 182 c_I_mod := fn_ok (tyOK _) (E := mkE []) (consOK_nil rfl) Tryz.func182 (h := h_I_mod) (by kernel_rfl) eq_I_mod

/-- I_Group_exp -/
def pk_I_Group_exp : List PK := [.data (.cons (.int .i64) (.cons (.int .i64) (.one (.int .i64)))), .data (.int .i64)]
def rk_I_Group_exp : List (Ty × Bool) := [((.int .i64), false)]
def h_I_Group_exp : Hints := { loops := [] }
noncomputable def M_I_Group_exp (x : ((Int × (Int × Int)) × Int)) : (Option Int) :=
  (bindO (M_I_mod (x.2, x.1.2.1)) (fun (a0 : Int) => (some a0)))

noncomputable def c_I_Group_exp : Con0 := ⟨pk_I_Group_exp, rk_I_Group_exp, M_I_Group_exp⟩

set_option maxRecDepth 100000 in
theorem eq_I_Group_exp (x : In pk_I_Group_exp) : semF (mkE [(182, c_I_mod)]) h_I_Group_exp (info Tryz.f124) pk_I_Group_exp rk_I_Group_exp x = M_I_Group_exp x := (semFF_eq _ _ _ _ _ _).symm.trans (by kernel_rfl)

set_option maxRecDepth 100000 in
theorem m_I_Group_exp : ConOK Tryz.prog 124 c_I_Group_exp := fn_ok (tyOK _) (E := mkE [(182, c_I_mod)]) (consOK_cons m_I_mod (consOK_nil rfl)) Tryz.func124 (h := h_I_Group_exp) (by kernel_rfl) eq_I_Group_exp

/-- I_sides -/
def pk_I_sides : List PK := [.data (.sl (.cons (.int .i64) (.one (.int .i64))))]
def rk_I_sides : List (Ty × Bool) := [((.sl (.int .i64)), true), ((.sl (.int .i64)), true)]
def h_I_sides : Hints := { loops := [(0, { items := [.slot 4 (.own (.int .i64) true), .slot 5 (.own (.int .i64) true), .slot 12 (.data (.int .i64) [])], kill := [0, 1, 2, 3, 6, 7, 8, 9, 13, 14, 15, 16, 17, 18, 19, 20, 21, 22, 23, 24, 25, 26, 27, 28] })] }
noncomputable def M_I_sides (x : (List (Int × Int))) : (Option ((List Int) × (List Int))) :=
  (loopO (fun (again0 : (((List Int) × ((List Int) × Int)) → (Option ((List Int) × (List Int))))) => (fun (s1 : ((List Int) × ((List Int) × Int))) => (cond (decide (s1.2.2 < (((List.length x) : Nat) : Int))) (bindO (getI x s1.2.2) (fun (a2 : (Int × Int)) => (bindO (guardO (lenOk ((List.length s1.1) + (List.length (a2.1 :: ([] : List Int)))))) (fun (a3 : Unit) => (bindO (some (s1.1 ++ (a2.1 :: ([] : List Int)))) (fun (a4 : (List Int)) => (bindO (guardO (lenOk ((List.length s1.2.1) + (List.length (a2.2 :: ([] : List Int)))))) (fun (a5 : Unit) => (bindO (some (s1.2.1 ++ (a2.2 :: ([] : List Int)))) (fun (a6 : (List Int)) => (bindO (some (IntKind.wrap .i64 (s1.2.2 + (1 : Int)))) (fun (a7 : Int) => (again0 (a4, (a6, a7))))))))))))))) (some (s1.1, s1.2.1))))) (([] : List Int), (([] : List Int), (0 : Int))))

noncomputable def c_I_sides : Con0 := ⟨pk_I_sides, rk_I_sides, M_I_sides⟩

set_option maxRecDepth 100000 in
theorem eq_I_sides (x : In pk_I_sides) : semF (mkE []) h_I_sides (info Tryz.f125) pk_I_sides rk_I_sides x = M_I_sides x := (semFF_eq _ _ _ _ _ _).symm.trans (by kernel_rfl)

set_option maxRecDepth 100000 in
theorem m_I_sides : ConOK Tryz.prog 125 c_I_sides := fn_ok (tyOK _) (E := mkE []) (consOK_nil rfl) Tryz.func125 (h := h_I_sides) (by kernel_rfl) eq_I_sides

/-- I_Group_mul -/
def pk_I_Group_mul : List PK := [.data (.cons (.int .i64) (.cons (.int .i64) (.one (.int .i64)))), .data (.sl (.int .i64))]
def rk_I_Group_mul : List (Ty × Bool) := [((.int .i64), false)]
def h_I_Group_mul : Hints := { loops := [(0, { items := [.slot 5 (.data (.int .i64) []), .slot 10 (.data (.int .i64) [])], kill := [0, 1, 3, 4, 6, 7, 11, 12, 13, 14, 15, 16, 17, 18, 19, 20, 21] })] }
noncomputable def M_I_Group_mul (x : ((Int × (Int × Int)) × (List Int))) : (Option Int) :=
  (loopO (fun (again0 : ((Int × Int) → (Option Int))) => (fun (s1 : (Int × Int)) => (cond (decide (s1.2 < (((List.length x.2) : Nat) : Int))) (bindO (getI x.2 s1.2) (fun (a2 : Int) => (bindO (some (IntKind.wrap .i64 (s1.1 * a2))) (fun (a3 : Int) => (bindO (guardO (x.1.1 != (0 : Int))) (fun (a4 : Unit) => (bindO (some (Int.tmod a3 x.1.1)) (fun (a5 : Int) => (bindO (some (IntKind.wrap .i64 (s1.2 + (1 : Int)))) (fun (a6 : Int) => (again0 (a5, a6)))))))))))) (some s1.1)))) ((1 : Int), (0 : Int)))

noncomputable def c_I_Group_mul : Con0 := ⟨pk_I_Group_mul, rk_I_Group_mul, M_I_Group_mul⟩

set_option maxRecDepth 100000 in
theorem eq_I_Group_mul (x : In pk_I_Group_mul) : semF (mkE []) h_I_Group_mul (info Tryz.f127) pk_I_Group_mul rk_I_Group_mul x = M_I_Group_mul x := (semFF_eq _ _ _ _ _ _).symm.trans (by kernel_rfl)

set_option maxRecDepth 100000 in
theorem m_I_Group_mul : ConOK Tryz.prog 127 c_I_Group_mul := fn_ok (tyOK _) (E := mkE []) (consOK_nil rfl) Tryz.func127 (h := h_I_Group_mul) (by kernel_rfl) eq_I_Group_mul

/-- I_Group_pow -/
def pk_I_Group_pow : List PK := [.data (.cons (.int .i64) (.cons (.int .i64) (.one (.int .i64)))), .data (.int .i64), .data (.int .i64)]
def rk_I_Group_pow : List (Ty × Bool) := [((.int .i64), false)]
def h_I_Group_pow : Hints := { loops := [] }
noncomputable def M_I_Group_pow (x : ((Int × (Int × Int)) × (Int × Int))) : (Option Int) :=
  (bindO (M_I_mod (x.2.2, x.1.2.1)) (fun (a0 : Int) => (bindO (M_I_power (x.2.1, (a0, x.1.1))) (fun (a1 : Int) => (some a1)))))

noncomputable def c_I_Group_pow : Con0 := ⟨pk_I_Group_pow, rk_I_Group_pow, M_I_Group_pow⟩

set_option maxRecDepth 100000 in
theorem eq_I_Group_pow (x : In pk_I_Group_pow) : semF (mkE [(182, c_I_mod), (137, c_I_power)]) h_I_Group_pow (info Tryz.f128) pk_I_Group_pow rk_I_Group_pow x = M_I_Group_pow x := (semFF_eq _ _ _ _ _ _).symm.trans (by kernel_rfl)

set_option maxRecDepth 100000 in
theorem m_I_Group_pow : ConOK Tryz.prog 128 c_I_Group_pow := fn_ok (tyOK _) (E := mkE [(182, c_I_mod), (137, c_I_power)]) (consOK_cons m_I_mod (consOK_cons m_I_power (consOK_nil rfl))) Tryz.func128 (h := h_I_Group_pow) (by kernel_rfl) eq_I_Group_pow

/-- I_Group_inv -/
def pk_I_Group_inv : List PK := [.data (.cons (.int .i64) (.cons (.int .i64) (.one (.int .i64)))), .data (.int .i64)]
def rk_I_Group_inv : List (Ty × Bool) := [((.int .i64), false)]
def h_I_Group_inv : Hints := { loops := [] }
noncomputable def M_I_Group_inv (x : ((Int × (Int × Int)) × Int)) : (Option Int) :=
  (bindO (M_I_Group_pow ((x.1.1, (x.1.2.1, x.1.2.2)), (x.2, (- (1 : Int))))) (fun (a0 : Int) => (some a0)))

noncomputable def c_I_Group_inv : Con0 := ⟨pk_I_Group_inv, rk_I_Group_inv, M_I_Group_inv⟩

set_option maxRecDepth 100000 in
theorem eq_I_Group_inv (x : In pk_I_Group_inv) : semF (mkE [(128, c_I_Group_pow)]) h_I_Group_inv (info Tryz.f183) pk_I_Group_inv rk_I_Group_inv x = M_I_Group_inv x := (semFF_eq _ _ _ _ _ _).symm.trans (by kernel_rfl)

set_option maxRecDepth 100000 in
theorem m_I_Group_inv : ConOK Tryz.prog 183 c_I_Group_inv := fn_ok (tyOK _) (E := mkE [(128, c_I_Group_pow)]) (consOK_cons m_I_Group_pow (consOK_nil rfl)) Tryz.func183 (h := h_I_Group_inv) (by kernel_rfl) eq_I_Group_inv

/-- I_Group_over -/
def pk_I_Group_over : List PK := [.data (.cons (.int .i64) (.cons (.int .i64) (.one (.int .i64)))), .data (.int .i64), .data (.int .i64)]
def rk_I_Group_over : List (Ty × Bool) := [((.int .i64), false)]
def h_I_Group_over : Hints := { loops := [] }
noncomputable def M_I_Group_over (x : ((Int × (Int × Int)) × (Int × Int))) : (Option Int) :=
  (bindO (M_I_Group_inv ((x.1.1, (x.1.2.1, x.1.2.2)), x.2.2)) (fun (a0 : Int) => (bindO (M_I_Group_mul ((x.1.1, (x.1.2.1, x.1.2.2)), (x.2.1 :: (a0 :: ([] : List Int))))) (fun (a1 : Int) => (some a1)))))

noncomputable def c_I_Group_over : Con0 := ⟨pk_I_Group_over, rk_I_Group_over, M_I_Group_over⟩

set_option maxRecDepth 100000 in
theorem eq_I_Group_over (x : In pk_I_Group_over) : semF (mkE [(183, c_I_Group_inv), (127, c_I_Group_mul)]) h_I_Group_over (info Tryz.f129) pk_I_Group_over rk_I_Group_over x = M_I_Group_over x := (semFF_eq _ _ _ _ _ _).symm.trans (by kernel_rfl)

set_option maxRecDepth 100000 in
theorem m_I_Group_over : ConOK Tryz.prog 129 c_I_Group_over := fn_ok (tyOK _) (E := mkE [(183, c_I_Group_inv), (127, c_I_Group_mul)]) (consOK_cons m_I_Group_inv (consOK_cons m_I_Group_mul (consOK_nil rfl))) Tryz.func129 (h := h_I_Group_over) (by kernel_rfl) eq_I_Group_over

/-- I_Group_powers -/
def pk_I_Group_powers : List PK := [.data (.cons (.int .i64) (.cons (.int .i64) (.one (.int .i64)))), .data (.sl (.int .i64)), .data (.sl (.int .i64))]
def rk_I_Group_powers : List (Ty × Bool) := [((.int .i64), false)]
def h_I_Group_powers : Hints := { loops := [(0, { items := [.slot 7 (.data (.int .i64) []), .slot 12 (.data (.int .i64) [])], kill := [0, 1, 4, 5, 6, 8, 9, 13, 14, 15, 16, 17, 18, 19, 20, 21, 22, 23, 24, 25, 26, 27, 28, 29] })] }
noncomputable def M_I_Group_powers (x : ((Int × (Int × Int)) × ((List Int) × (List Int)))) : (Option Int) :=
  (loopO (fun (again0 : ((Int × Int) → (Option Int))) => (fun (s1 : (Int × Int)) => (cond (decide (s1.2 < (((List.length x.2.1) : Nat) : Int))) (bindO (getI x.2.1 s1.2) (fun (a2 : Int) => (bindO (getI x.2.2 s1.2) (fun (a3 : Int) => (bindO (M_I_Group_pow ((x.1.1, (x.1.2.1, x.1.2.2)), (a2, a3))) (fun (a4 : Int) => (bindO (M_I_Group_mul ((x.1.1, (x.1.2.1, x.1.2.2)), (s1.1 :: (a4 :: ([] : List Int))))) (fun (a5 : Int) => (bindO (some (IntKind.wrap .i64 (s1.2 + (1 : Int)))) (fun (a6 : Int) => (again0 (a5, a6)))))))))))) (some s1.1)))) ((1 : Int), (0 : Int)))

noncomputable def c_I_Group_powers : Con0 := ⟨pk_I_Group_powers, rk_I_Group_powers, M_I_Group_powers⟩

set_option maxRecDepth 100000 in
theorem eq_I_Group_powers (x : In pk_I_Group_powers) : semF (mkE [(128, c_I_Group_pow), (127, c_I_Group_mul)]) h_I_Group_powers (info Tryz.f130) pk_I_Group_powers rk_I_Group_powers x = M_I_Group_powers x := (semFF_eq _ _ _ _ _ _).symm.trans (by kernel_rfl)

set_option maxRecDepth 100000 in
theorem m_I_Group_powers : ConOK Tryz.prog 130 c_I_Group_powers := fn_ok (tyOK _) (E := mkE [(128, c_I_Group_pow), (127, c_I_Group_mul)]) (consOK_cons m_I_Group_pow (consOK_cons m_I_Group_mul (consOK_nil rfl))) Tryz.func130 (h := h_I_Group_powers) (by kernel_rfl) eq_I_Group_powers

/-- I_Group_verifyMatrix_1 -/
def pk_I_Group_verifyMatrix_1 : List PK := [.data (.int .i64), .data (.int .i64), .data (.int .i64), .rp (.cons (.int .i64) (.cons (.int .i64) (.one (.int .i64)))), .rp (.int .i64)]
def rk_I_Group_verifyMatrix_1 : List (Ty × Bool) := [(.bool, false)]
def h_I_Group_verifyMatrix_1 : Hints := { loops := [] }
noncomputable def M_I_Group_verifyMatrix_1 (x : (Int × (Int × (Int × ((Int × (Int × Int)) × Int))))) : (Option Bool) :=
  (bindO (M_I_Group_pow ((x.2.2.2.1.1, (x.2.2.2.1.2.1, x.2.2.2.1.2.2)), (x.2.1, x.2.2.2.2))) (fun (a0 : Int) => (bindO (M_I_Group_mul ((x.2.2.2.1.1, (x.2.2.2.1.2.1, x.2.2.2.1.2.2)), (x.1 :: (a0 :: ([] : List Int))))) (fun (a1 : Int) => (some (a1 == x.2.2.1))))))

noncomputable def c_I_Group_verifyMatrix_1 : Con0 := ⟨pk_I_Group_verifyMatrix_1, rk_I_Group_verifyMatrix_1, M_I_Group_verifyMatrix_1⟩

set_option maxRecDepth 100000 in
theorem eq_I_Group_verifyMatrix_1 (x : In pk_I_Group_verifyMatrix_1) : semF (mkE [(128, c_I_Group_pow), (127, c_I_Group_mul)]) h_I_Group_verifyMatrix_1 (info Tryz.f126) pk_I_Group_verifyMatrix_1 rk_I_Group_verifyMatrix_1 x = M_I_Group_verifyMatrix_1 x := (semFF_eq _ _ _ _ _ _).symm.trans (by kernel_rfl)

set_option maxRecDepth 100000 in
theorem m_I_Group_verifyMatrix_1 : ConOK Tryz.prog 126 c_I_Group_verifyMatrix_1 := fn_ok (tyOK _) (E := mkE [(128, c_I_Group_pow), (127, c_I_Group_mul)]) (consOK_cons m_I_Group_pow (consOK_cons m_I_Group_mul (consOK_nil rfl))) Tryz.func126 (h := h_I_Group_verifyMatrix_1) (by kernel_rfl) eq_I_Group_verifyMatrix_1

/-- I_Group_verifyMatrix -/
def pk_I_Group_verifyMatrix : List PK := [.data (.cons (.int .i64) (.cons (.int .i64) (.one (.int .i64)))), .data (.cons (.int .i64) (.one (.sl (.int .i64)))), .data (.int .i64), .data (.sl (.cons (.int .i64) (.one (.int .i64)))), .data (.sl (.cons (.int .i64) (.one (.int .i64)))), .data (.cons (.sl (.int .i64)) (.cons (.sl (.int .i64)) (.one (.cons (.sl (.int .i64)) (.cons (.sl (.int .i64)) (.one (.sl (.int .i64))))))))]
def rk_I_Group_verifyMatrix : List (Ty × Bool) := [(.bool, false)]
def h_I_Group_verifyMatrix : Hints := { loops := [(0, { items := [.slot 22 (.data (.int .i64) []), .slot 99 (.data (.int .i64) [])], kill := [0, 1, 5, 8, 9, 10, 12, 14, 16, 18, 23, 24, 25, 26, 27, 28, 29, 30, 31, 32, 33, 34, 35, 36, 37, 38, 39, 40, 41, 42, 43, 44, 45, 46, 47, 48, 49, 50, 51, 52, 53, 54, 55, 56, 57, 58, 59, 60, 61, 62, 63, 64, 65, 66, 67, 68, 69, 70, 71, 72, 73, 74, 75, 76, 77, 78, 79, 80, 81, 82, 83, 84, 85, 86, 87, 88, 89, 90, 91, 92, 93, 94, 95, 96, 100, 101, 102, 103, 104, 105, 106, 107, 108, 109, 110, 111, 112, 113, 114, 115, 116, 117, 118, 119, 120, 121, 122, 123, 124, 125, 126, 127, 128, 129, 130, 131, 132, 133, 134, 135, 136, 137, 138, 139, 140, 141, 142, 143, 144, 145, 146, 147, 148, 149, 150, 151, 152, 153, 154, 155, 156, 157, 158, 159, 160, 161, 162, 163, 164, 165, 166, 167, 168, 169, 170, 171, 172, 173, 174, 175, 176, 177, 178, 179, 180, 181, 182, 183, 184, 185, 186, 187, 188, 189, 190, 191, 192, 193, 194, 195, 196, 197, 198, 199, 200, 201, 202, 203, 204, 205, 206, 207, 208, 209, 210, 211, 212, 213, 214, 215, 216, 217, 218, 219, 220, 221, 222, 223, 224, 225, 226, 227, 228, 229, 230, 231, 232, 233, 234, 235, 236, 237, 238, 239, 240, 241, 242, 243, 244, 245, 246, 247, 248, 249, 250, 251, 252, 253, 254, 255, 256, 257, 258, 259, 260, 261, 262, 263, 264, 265, 266, 267, 268, 269, 270, 271, 272, 273, 274, 275, 276, 277, 278, 279, 280, 281, 282, 283, 284, 285, 286, 287, 288, 289, 290, 291, 292, 293, 294, 295] }), (2, { items := [.slot 30 (.data .bool []), .slot 254 (.data (.int .i64) [])], kill := [0, 1, 2, 3, 4, 5, 7, 8, 9, 10, 12, 13, 14, 15, 16, 17, 18, 22, 23, 24, 25, 26, 27, 28, 32, 33, 34, 35, 36, 37, 38, 39, 40, 41, 42, 43, 44, 45, 46, 47, 48, 49, 50, 51, 52, 53, 54, 55, 56, 57, 58, 59, 60, 61, 62, 63, 64, 65, 66, 67, 68, 69, 70, 71, 72, 73, 74, 75, 76, 77, 78, 79, 80, 81, 82, 83, 84, 85, 86, 87, 88, 89, 90, 91, 92, 93, 94, 95, 96, 97, 98, 99, 100, 101, 102, 103, 104, 105, 106, 107, 108, 109, 110, 111, 112, 113, 114, 115, 116, 117, 118, 119, 120, 121, 122, 123, 124, 125, 126, 127, 128, 129, 130, 131, 132, 133, 134, 135, 136, 137, 138, 139, 140, 141, 142, 143, 144, 145, 146, 147, 148, 149, 150, 151, 152, 153, 154, 155, 156, 157, 158, 159, 160, 161, 162, 163, 164, 165, 166, 167, 168, 169, 170, 171, 172, 173, 174, 175, 176, 177, 178, 179, 180, 181, 182, 183, 184, 185, 186, 187, 188, 189, 190, 191, 192, 193, 194, 195, 196, 197, 198, 199, 200, 201, 202, 203, 204, 205, 206, 207, 208, 209, 210, 211, 212, 213, 214, 215, 216, 217, 218, 219, 220, 221, 222, 223, 224, 225, 226, 227, 228, 229, 230, 231, 232, 233, 234, 235, 236, 237, 238, 239, 240, 241, 242, 243, 244, 245, 246, 247, 248, 249, 250, 251, 252, 255, 256, 257, 258, 259, 260, 261, 262, 263, 264, 265, 266, 267, 268, 269, 270, 271, 272, 273, 274, 275, 276, 277, 278, 279, 280, 281, 282, 283, 284, 285, 286, 287, 288, 289, 290, 291, 292, 293, 294, 295] })] }
noncomputable def M_I_Group_verifyMatrix (x : ((Int × (Int × Int)) × ((Int × (List Int)) × (Int × ((List (Int × Int)) × ((List (Int × Int)) × ((List Int) × ((List Int) × ((List Int) × ((List Int) × (List Int))))))))))) : (Option Bool) :=
  (cond ((((List.length x.2.2.2.2.1) : Nat) : Int) != (((List.length x.2.2.2.1) : Nat) : Int)) (some false) (bindO (M_I_Group_isMatrixForm ((x.1.1, (x.1.2.1, x.1.2.2)), ((x.2.2.2.2.2.1, (x.2.2.2.2.2.2.1, (x.2.2.2.2.2.2.2.1, (x.2.2.2.2.2.2.2.2.1, x.2.2.2.2.2.2.2.2.2)))), (((List.length x.2.2.2.1) : Nat) : Int)))) (fun (a0 : Bool) => (cond (not a0) (some false) (bindO (M_I_mixList (x.2.2.1, (x.2.2.2.1, (x.2.2.2.2.1, x.2.2.2.2.2.1)))) (fun (a1 : (List Int)) => (bindO (M_I_Group_challenges ((x.1.1, (x.1.2.1, x.1.2.2)), ((bytesOf [109, 105, 120, 32, 99, 111, 108, 117, 109, 110, 115]), (a1, (((List.length x.2.2.2.1) : Nat) : Int))))) (fun (a2 : ((List Int) × Bool)) => (bindO (M_slices_Concat_sint_int (a1 :: (x.2.2.2.2.2.2.1 :: (x.2.2.2.2.2.2.2.1 :: ([] : List (List Int)))))) (fun (a3 : (List Int)) => (bindO (M_I_Group_challenge ((x.1.1, (x.1.2.1, x.1.2.2)), ((bytesOf [109, 105, 120, 32, 112, 114, 111, 111, 102]), a3))) (fun (a4 : (Int × Bool)) => (cond (not a2.2) (some false) (cond (not a4.2) (some false) (bindO (getI x.2.2.2.2.2.2.2.2.1 (0 : Int)) (fun (a5 : Int) => (cond (a5 != a4.1) (some false) (bindO (some (IntKind.wrap .i64 ((((List.length x.2.2.2.1) : Nat) : Int) + (4 : Int)))) (fun (a6 : Int) => (bindO (sliceLN a6 (List.length x.2.2.2.2.2.2.2.2.2)) (fun (a7 : (Nat × Nat)) => (loopO (fun (again8 : ((Int × Int) → (Option Bool))) => (fun (s9 : (Int × Int)) => (cond (decide (s9.2 < (((List.length a2.1) : Nat) : Int))) (bindO (getI a2.1 s9.2) (fun (a10 : Int) => (bindO (some (IntKind.wrap .i64 (s9.1 * a10))) (fun (a11 : Int) => (bindO (M_I_Group_exp ((x.1.1, (x.1.2.1, x.1.2.2)), a11)) (fun (a12 : Int) => (bindO (some (IntKind.wrap .i64 (s9.2 + (1 : Int)))) (fun (a13 : Int) => (again8 (a12, a13)))))))))) (bindO (M_I_sides x.2.2.2.1) (fun (a14 : ((List Int) × (List Int))) => (bindO (M_I_sides x.2.2.2.2.1) (fun (a15 : ((List Int) × (List Int))) => (bindO (getI x.2.2.2.2.2.2.2.1 (0 : Int)) (fun (a16 : Int) => (bindO (M_I_Group_mul ((x.1.1, (x.1.2.1, x.1.2.2)), x.2.2.2.2.2.1)) (fun (a17 : Int) => (bindO (M_I_Group_mul ((x.1.1, (x.1.2.1, x.1.2.2)), x.2.1.2)) (fun (a18 : Int) => (bindO (M_I_Group_over ((x.1.1, (x.1.2.1, x.1.2.2)), (a17, a18))) (fun (a19 : Int) => (bindO (getI x.2.2.2.2.2.2.2.2.2 (0 : Int)) (fun (a20 : Int) => (bindO (M_I_Group_pow ((x.1.1, (x.1.2.1, x.1.2.2)), (x.1.2.2, a20))) (fun (a21 : Int) => (bindO (M_I_Group_verifyMatrix_1 (a16, (a19, (a21, ((x.1.1, (x.1.2.1, x.1.2.2)), a4.1))))) (fun (a22 : Bool) => (cond a22 (bindO (getI x.2.2.2.2.2.2.2.1 (1 : Int)) (fun (a23 : Int) => (bindO (M_I_Group_powers ((x.1.1, (x.1.2.1, x.1.2.2)), (x.2.2.2.2.2.1, a2.1))) (fun (a24 : Int) => (bindO (getI x.2.2.2.2.2.2.2.2.2 (1 : Int)) (fun (a25 : Int) => (bindO (M_I_Group_pow ((x.1.1, (x.1.2.1, x.1.2.2)), (x.1.2.2, a25))) (fun (a26 : Int) => (bindO (M_I_Group_powers ((x.1.1, (x.1.2.1, x.1.2.2)), (x.2.1.2, (List.drop a7.1 (List.take a7.2 x.2.2.2.2.2.2.2.2.2))))) (fun (a27 : Int) => (bindO (M_I_Group_mul ((x.1.1, (x.1.2.1, x.1.2.2)), (a26 :: (a27 :: ([] : List Int))))) (fun (a28 : Int) => (bindO (M_I_Group_verifyMatrix_1 (a23, (a24, (a28, ((x.1.1, (x.1.2.1, x.1.2.2)), a4.1))))) (fun (a29 : Bool) => (cond a29 (bindO (getI x.2.2.2.2.2.2.2.1 (2 : Int)) (fun (a30 : Int) => (bindO (some (IntKind.wrap .i64 ((((List.length x.2.2.2.1) : Nat) : Int) - (1 : Int)))) (fun (a31 : Int) => (bindO (getI x.2.2.2.2.2.2.1 a31) (fun (a32 : Int) => (bindO (M_I_Group_pow ((x.1.1, (x.1.2.1, x.1.2.2)), (x.2.1.1, s9.1))) (fun (a33 : Int) => (bindO (M_I_Group_over ((x.1.1, (x.1.2.1, x.1.2.2)), (a32, a33))) (fun (a34 : Int) => (bindO (getI x.2.2.2.2.2.2.2.2.2 (2 : Int)) (fun (a35 : Int) => (bindO (M_I_Group_pow ((x.1.1, (x.1.2.1, x.1.2.2)), (x.1.2.2, a35))) (fun (a36 : Int) => (bindO (M_I_Group_verifyMatrix_1 (a30, (a34, (a36, ((x.1.1, (x.1.2.1, x.1.2.2)), a4.1))))) (fun (a37 : Bool) => (cond a37 (bindO (getI x.2.2.2.2.2.2.2.1 (3 : Int)) (fun (a38 : Int) => (bindO (M_I_Group_powers ((x.1.1, (x.1.2.1, x.1.2.2)), (a14.1, a2.1))) (fun (a39 : Int) => (bindO (getI x.2.2.2.2.2.2.2.2.2 (3 : Int)) (fun (a40 : Int) => (bindO (some (IntKind.wrap .i64 ((0 : Int) - a40))) (fun (a41 : Int) => (bindO (M_I_Group_pow ((x.1.1, (x.1.2.1, x.1.2.2)), (x.1.2.2, a41))) (fun (a42 : Int) => (bindO (M_I_Group_powers ((x.1.1, (x.1.2.1, x.1.2.2)), (a15.1, (List.drop a7.1 (List.take a7.2 x.2.2.2.2.2.2.2.2.2))))) (fun (a43 : Int) => (bindO (M_I_Group_mul ((x.1.1, (x.1.2.1, x.1.2.2)), (a42 :: (a43 :: ([] : List Int))))) (fun (a44 : Int) => (bindO (M_I_Group_verifyMatrix_1 (a38, (a39, (a44, ((x.1.1, (x.1.2.1, x.1.2.2)), a4.1))))) (fun (a45 : Bool) => (cond a45 (bindO (getI x.2.2.2.2.2.2.2.1 (4 : Int)) (fun (a46 : Int) => (bindO (M_I_Group_powers ((x.1.1, (x.1.2.1, x.1.2.2)), (a14.2, a2.1))) (fun (a47 : Int) => (bindO (getI x.2.2.2.2.2.2.2.2.2 (3 : Int)) (fun (a48 : Int) => (bindO (some (IntKind.wrap .i64 ((0 : Int) - a48))) (fun (a49 : Int) => (bindO (M_I_Group_pow ((x.1.1, (x.1.2.1, x.1.2.2)), (x.2.2.1, a49))) (fun (a50 : Int) => (bindO (M_I_Group_powers ((x.1.1, (x.1.2.1, x.1.2.2)), (a15.2, (List.drop a7.1 (List.take a7.2 x.2.2.2.2.2.2.2.2.2))))) (fun (a51 : Int) => (bindO (M_I_Group_mul ((x.1.1, (x.1.2.1, x.1.2.2)), (a50 :: (a51 :: ([] : List Int))))) (fun (a52 : Int) => (bindO (M_I_Group_verifyMatrix_1 (a46, (a47, (a52, ((x.1.1, (x.1.2.1, x.1.2.2)), a4.1))))) (fun (a53 : Bool) => (bindO (guardO (lenOk ((List.length (x.2.1.1 :: ([] : List Int))) + (List.length x.2.2.2.2.2.2.1)))) (fun (a54 : Unit) => (bindO (some ((x.2.1.1 :: ([] : List Int)) ++ x.2.2.2.2.2.2.1)) (fun (a55 : (List Int)) => (loopO (fun (again56 : ((Bool × Int) → (Option Bool))) => (fun (s57 : (Bool × Int)) => (cond (decide (s57.2 < (((List.length x.2.2.2.1) : Nat) : Int))) (cond s57.1 (bindO (some (IntKind.wrap .i64 ((5 : Int) + s57.2))) (fun (a58 : Int) => (bindO (getI x.2.2.2.2.2.2.2.1 a58) (fun (a59 : Int) => (bindO (getI x.2.2.2.2.2.2.1 s57.2) (fun (a60 : Int) => (bindO (some (IntKind.wrap .i64 ((4 : Int) + s57.2))) (fun (a61 : Int) => (bindO (getI x.2.2.2.2.2.2.2.2.2 a61) (fun (a62 : Int) => (bindO (M_I_Group_pow ((x.1.1, (x.1.2.1, x.1.2.2)), (x.1.2.2, a62))) (fun (a63 : Int) => (bindO (getI a55 s57.2) (fun (a64 : Int) => (bindO (getI (List.drop a7.1 (List.take a7.2 x.2.2.2.2.2.2.2.2.2)) s57.2) (fun (a65 : Int) => (bindO (M_I_Group_pow ((x.1.1, (x.1.2.1, x.1.2.2)), (a64, a65))) (fun (a66 : Int) => (bindO (M_I_Group_mul ((x.1.1, (x.1.2.1, x.1.2.2)), (a63 :: (a66 :: ([] : List Int))))) (fun (a67 : Int) => (bindO (M_I_Group_verifyMatrix_1 (a59, (a60, (a67, ((x.1.1, (x.1.2.1, x.1.2.2)), a4.1))))) (fun (a68 : Bool) => (bindO (some (IntKind.wrap .i64 (s57.2 + (1 : Int)))) (fun (a69 : Int) => (again56 (a68, a69)))))))))))))))))))))))))) (bindO (some (IntKind.wrap .i64 (s57.2 + (1 : Int)))) (fun (a70 : Int) => (again56 (false, a70))))) (some s57.1)))) (a53, (0 : Int))))))))))))))))))))))) (bindO (guardO (lenOk ((List.length (x.2.1.1 :: ([] : List Int))) + (List.length x.2.2.2.2.2.2.1)))) (fun (a71 : Unit) => (bindO (some ((x.2.1.1 :: ([] : List Int)) ++ x.2.2.2.2.2.2.1)) (fun (a72 : (List Int)) => (loopO (fun (again73 : ((Bool × Int) → (Option Bool))) => (fun (s74 : (Bool × Int)) => (cond (decide (s74.2 < (((List.length x.2.2.2.1) : Nat) : Int))) (cond s74.1 (bindO (some (IntKind.wrap .i64 ((5 : Int) + s74.2))) (fun (a75 : Int) => (bindO (getI x.2.2.2.2.2.2.2.1 a75) (fun (a76 : Int) => (bindO (getI x.2.2.2.2.2.2.1 s74.2) (fun (a77 : Int) => (bindO (some (IntKind.wrap .i64 ((4 : Int) + s74.2))) (fun (a78 : Int) => (bindO (getI x.2.2.2.2.2.2.2.2.2 a78) (fun (a79 : Int) => (bindO (M_I_Group_pow ((x.1.1, (x.1.2.1, x.1.2.2)), (x.1.2.2, a79))) (fun (a80 : Int) => (bindO (getI a72 s74.2) (fun (a81 : Int) => (bindO (getI (List.drop a7.1 (List.take a7.2 x.2.2.2.2.2.2.2.2.2)) s74.2) (fun (a82 : Int) => (bindO (M_I_Group_pow ((x.1.1, (x.1.2.1, x.1.2.2)), (a81, a82))) (fun (a83 : Int) => (bindO (M_I_Group_mul ((x.1.1, (x.1.2.1, x.1.2.2)), (a80 :: (a83 :: ([] : List Int))))) (fun (a84 : Int) => (bindO (M_I_Group_verifyMatrix_1 (a76, (a77, (a84, ((x.1.1, (x.1.2.1, x.1.2.2)), a4.1))))) (fun (a85 : Bool) => (bindO (some (IntKind.wrap .i64 (s74.2 + (1 : Int)))) (fun (a86 : Int) => (again73 (a85, a86)))))))))))))))))))))))))) (bindO (some (IntKind.wrap .i64 (s74.2 + (1 : Int)))) (fun (a87 : Int) => (again73 (false, a87))))) (some s74.1)))) (false, (0 : Int)))))))))))))))))))))))) (bindO (guardO (lenOk ((List.length (x.2.1.1 :: ([] : List Int))) + (List.length x.2.2.2.2.2.2.1)))) (fun (a88 : Unit) => (bindO (some ((x.2.1.1 :: ([] : List Int)) ++ x.2.2.2.2.2.2.1)) (fun (a89 : (List Int)) => (loopO (fun (again90 : ((Bool × Int) → (Option Bool))) => (fun (s91 : (Bool × Int)) => (cond (decide (s91.2 < (((List.length x.2.2.2.1) : Nat) : Int))) (cond s91.1 (bindO (some (IntKind.wrap .i64 ((5 : Int) + s91.2))) (fun (a92 : Int) => (bindO (getI x.2.2.2.2.2.2.2.1 a92) (fun (a93 : Int) => (bindO (getI x.2.2.2.2.2.2.1 s91.2) (fun (a94 : Int) => (bindO (some (IntKind.wrap .i64 ((4 : Int) + s91.2))) (fun (a95 : Int) => (bindO (getI x.2.2.2.2.2.2.2.2.2 a95) (fun (a96 : Int) => (bindO (M_I_Group_pow ((x.1.1, (x.1.2.1, x.1.2.2)), (x.1.2.2, a96))) (fun (a97 : Int) => (bindO (getI a89 s91.2) (fun (a98 : Int) => (bindO (getI (List.drop a7.1 (List.take a7.2 x.2.2.2.2.2.2.2.2.2)) s91.2) (fun (a99 : Int) => (bindO (M_I_Group_pow ((x.1.1, (x.1.2.1, x.1.2.2)), (a98, a99))) (fun (a100 : Int) => (bindO (M_I_Group_mul ((x.1.1, (x.1.2.1, x.1.2.2)), (a97 :: (a100 :: ([] : List Int))))) (fun (a101 : Int) => (bindO (M_I_Group_verifyMatrix_1 (a93, (a94, (a101, ((x.1.1, (x.1.2.1, x.1.2.2)), a4.1))))) (fun (a102 : Bool) => (bindO (some (IntKind.wrap .i64 (s91.2 + (1 : Int)))) (fun (a103 : Int) => (again90 (a102, a103)))))))))))))))))))))))))) (bindO (some (IntKind.wrap .i64 (s91.2 + (1 : Int)))) (fun (a104 : Int) => (again90 (false, a104))))) (some s91.1)))) (false, (0 : Int)))))))))))))))))))))))) (bindO (guardO (lenOk ((List.length (x.2.1.1 :: ([] : List Int))) + (List.length x.2.2.2.2.2.2.1)))) (fun (a105 : Unit) => (bindO (some ((x.2.1.1 :: ([] : List Int)) ++ x.2.2.2.2.2.2.1)) (fun (a106 : (List Int)) => (loopO (fun (again107 : ((Bool × Int) → (Option Bool))) => (fun (s108 : (Bool × Int)) => (cond (decide (s108.2 < (((List.length x.2.2.2.1) : Nat) : Int))) (cond s108.1 (bindO (some (IntKind.wrap .i64 ((5 : Int) + s108.2))) (fun (a109 : Int) => (bindO (getI x.2.2.2.2.2.2.2.1 a109) (fun (a110 : Int) => (bindO (getI x.2.2.2.2.2.2.1 s108.2) (fun (a111 : Int) => (bindO (some (IntKind.wrap .i64 ((4 : Int) + s108.2))) (fun (a112 : Int) => (bindO (getI x.2.2.2.2.2.2.2.2.2 a112) (fun (a113 : Int) => (bindO (M_I_Group_pow ((x.1.1, (x.1.2.1, x.1.2.2)), (x.1.2.2, a113))) (fun (a114 : Int) => (bindO (getI a106 s108.2) (fun (a115 : Int) => (bindO (getI (List.drop a7.1 (List.take a7.2 x.2.2.2.2.2.2.2.2.2)) s108.2) (fun (a116 : Int) => (bindO (M_I_Group_pow ((x.1.1, (x.1.2.1, x.1.2.2)), (a115, a116))) (fun (a117 : Int) => (bindO (M_I_Group_mul ((x.1.1, (x.1.2.1, x.1.2.2)), (a114 :: (a117 :: ([] : List Int))))) (fun (a118 : Int) => (bindO (M_I_Group_verifyMatrix_1 (a110, (a111, (a118, ((x.1.1, (x.1.2.1, x.1.2.2)), a4.1))))) (fun (a119 : Bool) => (bindO (some (IntKind.wrap .i64 (s108.2 + (1 : Int)))) (fun (a120 : Int) => (again107 (a119, a120)))))))))))))))))))))))))) (bindO (some (IntKind.wrap .i64 (s108.2 + (1 : Int)))) (fun (a121 : Int) => (again107 (false, a121))))) (some s108.1)))) (false, (0 : Int)))))))))))))))))))))) (bindO (guardO (lenOk ((List.length (x.2.1.1 :: ([] : List Int))) + (List.length x.2.2.2.2.2.2.1)))) (fun (a122 : Unit) => (bindO (some ((x.2.1.1 :: ([] : List Int)) ++ x.2.2.2.2.2.2.1)) (fun (a123 : (List Int)) => (loopO (fun (again124 : ((Bool × Int) → (Option Bool))) => (fun (s125 : (Bool × Int)) => (cond (decide (s125.2 < (((List.length x.2.2.2.1) : Nat) : Int))) (cond s125.1 (bindO (some (IntKind.wrap .i64 ((5 : Int) + s125.2))) (fun (a126 : Int) => (bindO (getI x.2.2.2.2.2.2.2.1 a126) (fun (a127 : Int) => (bindO (getI x.2.2.2.2.2.2.1 s125.2) (fun (a128 : Int) => (bindO (some (IntKind.wrap .i64 ((4 : Int) + s125.2))) (fun (a129 : Int) => (bindO (getI x.2.2.2.2.2.2.2.2.2 a129) (fun (a130 : Int) => (bindO (M_I_Group_pow ((x.1.1, (x.1.2.1, x.1.2.2)), (x.1.2.2, a130))) (fun (a131 : Int) => (bindO (getI a123 s125.2) (fun (a132 : Int) => (bindO (getI (List.drop a7.1 (List.take a7.2 x.2.2.2.2.2.2.2.2.2)) s125.2) (fun (a133 : Int) => (bindO (M_I_Group_pow ((x.1.1, (x.1.2.1, x.1.2.2)), (a132, a133))) (fun (a134 : Int) => (bindO (M_I_Group_mul ((x.1.1, (x.1.2.1, x.1.2.2)), (a131 :: (a134 :: ([] : List Int))))) (fun (a135 : Int) => (bindO (M_I_Group_verifyMatrix_1 (a127, (a128, (a135, ((x.1.1, (x.1.2.1, x.1.2.2)), a4.1))))) (fun (a136 : Bool) => (bindO (some (IntKind.wrap .i64 (s125.2 + (1 : Int)))) (fun (a137 : Int) => (again124 (a136, a137)))))))))))))))))))))))))) (bindO (some (IntKind.wrap .i64 (s125.2 + (1 : Int)))) (fun (a138 : Int) => (again124 (false, a138))))) (some s125.1)))) (false, (0 : Int))))))))))))))))))))))))))))) ((1 : Int), (0 : Int))))))))))))))))))))))))

noncomputable def c_I_Group_verifyMatrix : Con0 := ⟨pk_I_Group_verifyMatrix, rk_I_Group_verifyMatrix, M_I_Group_verifyMatrix⟩

set_option maxRecDepth 100000 in
theorem eq_I_Group_verifyMatrix (x : In pk_I_Group_verifyMatrix) : semF (mkE [(119, c_I_Group_isMatrixForm), (120, c_I_mixList), (121, c_I_Group_challenges), (123, c_slices_Concat_sint_int), (122, c_I_Group_challenge), (124, c_I_Group_exp), (125, c_I_sides), (127, c_I_Group_mul), (129, c_I_Group_over), (128, c_I_Group_pow), (130, c_I_Group_powers), (126, c_I_Group_verifyMatrix_1)]) h_I_Group_verifyMatrix (info Tryz.f87) pk_I_Group_verifyMatrix rk_I_Group_verifyMatrix x = M_I_Group_verifyMatrix x := (semFF_eq _ _ _ _ _ _).symm.trans (by kernel_rfl)

set_option maxRecDepth 100000 in
theorem m_I_Group_verifyMatrix : ConOK Tryz.prog 87 c_I_Group_verifyMatrix := fn_ok (tyOK _) (E := mkE [(119, c_I_Group_isMatrixForm), (120, c_I_mixList), (121, c_I_Group_challenges), (123, c_slices_Concat_sint_int), (122, c_I_Group_challenge), (124, c_I_Group_exp), (125, c_I_sides), (127, c_I_Group_mul), (129, c_I_Group_over), (128, c_I_Group_pow), (130, c_I_Group_powers), (126, c_I_Group_verifyMatrix_1)]) (consOK_cons m_I_Group_isMatrixForm (consOK_cons m_I_mixList (consOK_cons m_I_Group_challenges (consOK_cons m_slices_Concat_sint_int (consOK_cons m_I_Group_challenge (consOK_cons m_I_Group_exp (consOK_cons m_I_sides (consOK_cons m_I_Group_mul (consOK_cons m_I_Group_over (consOK_cons m_I_Group_pow (consOK_cons m_I_Group_powers (consOK_cons m_I_Group_verifyMatrix_1 (consOK_nil rfl))))))))))))) Tryz.func87 (h := h_I_Group_verifyMatrix) (by kernel_rfl) eq_I_Group_verifyMatrix

/-- I_VerifyMatrix -/
def pk_I_VerifyMatrix : List PK := [.data (.cons (.int .i64) (.cons (.int .i64) (.one (.int .i64)))), .data (.int .i64), .data (.sl (.cons (.int .i64) (.one (.int .i64)))), .data (.sl (.cons (.int .i64) (.one (.int .i64)))), .data (.cons (.sl (.int .i64)) (.cons (.sl (.int .i64)) (.one (.cons (.sl (.int .i64)) (.cons (.sl (.int .i64)) (.one (.sl (.int .i64))))))))]
def rk_I_VerifyMatrix : List (Ty × Bool) := [(.bool, false), (.bool, false)]
def h_I_VerifyMatrix : Hints := { loops := [] }
noncomputable def M_I_VerifyMatrix (x : ((Int × (Int × Int)) × (Int × ((List (Int × Int)) × ((List (Int × Int)) × ((List Int) × ((List Int) × ((List Int) × ((List Int) × (List Int)))))))))) : (Option (Bool × Bool)) :=
  (bindO (M_I_mixBases ((x.1.1, (x.1.2.1, x.1.2.2)), (x.2.1, x.2.2.1))) (fun (a0 : ((Int × (List Int)) × Bool)) => (cond (not a0.2) (some (false, false)) (bindO (M_I_Group_areMixed ((x.1.1, (x.1.2.1, x.1.2.2)), x.2.2.2.1)) (fun (a1 : Bool) => (cond (not a1) (some (false, false)) (bindO (M_I_Group_verifyMatrix ((x.1.1, (x.1.2.1, x.1.2.2)), ((a0.1.1, a0.1.2), (x.2.1, (x.2.2.1, (x.2.2.2.1, (x.2.2.2.2.1, (x.2.2.2.2.2.1, (x.2.2.2.2.2.2.1, (x.2.2.2.2.2.2.2.1, x.2.2.2.2.2.2.2.2)))))))))) (fun (a2 : Bool) => (some (a2, true))))))))))

noncomputable def c_I_VerifyMatrix : Con0 := ⟨pk_I_VerifyMatrix, rk_I_VerifyMatrix, M_I_VerifyMatrix⟩

set_option maxRecDepth 100000 in
theorem eq_I_VerifyMatrix (x : In pk_I_VerifyMatrix) : semF (mkE [(63, c_I_mixBases), (52, c_I_Group_areMixed), (87, c_I_Group_verifyMatrix)]) h_I_VerifyMatrix (info Tryz.f53) pk_I_VerifyMatrix rk_I_VerifyMatrix x = M_I_VerifyMatrix x := (semFF_eq _ _ _ _ _ _).symm.trans (by kernel_rfl)

set_option maxRecDepth 100000 in
theorem m_I_VerifyMatrix : ConOK Tryz.prog 53 c_I_VerifyMatrix := fn_ok (tyOK _) (E := mkE [(63, c_I_mixBases), (52, c_I_Group_areMixed), (87, c_I_Group_verifyMatrix)]) (consOK_cons m_I_mixBases (consOK_cons m_I_Group_areMixed (consOK_cons m_I_Group_verifyMatrix (consOK_nil rfl)))) Tryz.func53 (h := h_I_VerifyMatrix) (by kernel_rfl) eq_I_VerifyMatrix

/-- I_Proof_isEmpty -/
def pk_I_Proof_isEmpty : List PK := [.data (.cons (.sl (.int .i64)) (.cons (.sl (.int .i64)) (.one (.sl (.int .i64)))))]
def rk_I_Proof_isEmpty : List (Ty × Bool) := [(.bool, false)]
def h_I_Proof_isEmpty : Hints := { loops := [] }
noncomputable def M_I_Proof_isEmpty (x : ((List Int) × ((List Int) × (List Int)))) : (Option Bool) :=
  (cond ((((List.length x.1) : Nat) : Int) == (0 : Int)) (cond ((((List.length x.2.1) : Nat) : Int) == (0 : Int)) (some ((((List.length x.2.2) : Nat) : Int) == (0 : Int))) (some false)) (some false))

noncomputable def c_I_Proof_isEmpty : Con0 := ⟨pk_I_Proof_isEmpty, rk_I_Proof_isEmpty, M_I_Proof_isEmpty⟩

set_option maxRecDepth 100000 in
theorem eq_I_Proof_isEmpty (x : In pk_I_Proof_isEmpty) : semF (mkE []) h_I_Proof_isEmpty (info Tryz.f88) pk_I_Proof_isEmpty rk_I_Proof_isEmpty x = M_I_Proof_isEmpty x := (semFF_eq _ _ _ _ _ _).symm.trans (by kernel_rfl)

set_option maxRecDepth 100000 in
theorem m_I_Proof_isEmpty : ConOK Tryz.prog 88 c_I_Proof_isEmpty := fn_ok (tyOK _) (E := mkE []) (consOK_nil rfl) Tryz.func88 (h := h_I_Proof_isEmpty) (by kernel_rfl) eq_I_Proof_isEmpty

/-- I_PolyProof_isEmpty -/
def pk_I_PolyProof_isEmpty : List PK := [.data (.cons (.sl (.int .i64)) (.cons (.sl (.int .i64)) (.cons (.sl (.int .i64)) (.one (.cons (.sl (.int .i64)) (.cons (.sl (.int .i64)) (.one (.sl (.int .i64)))))))))]
def rk_I_PolyProof_isEmpty : List (Ty × Bool) := [(.bool, false)]
def h_I_PolyProof_isEmpty : Hints := { loops := [] }
noncomputable def M_I_PolyProof_isEmpty (x : ((List Int) × ((List Int) × ((List Int) × ((List Int) × ((List Int) × (List Int))))))) : (Option Bool) :=
  (cond ((((List.length x.1) : Nat) : Int) == (0 : Int)) (cond ((((List.length x.2.1) : Nat) : Int) == (0 : Int)) (cond ((((List.length x.2.2.1) : Nat) : Int) == (0 : Int)) (bindO (M_I_Proof_isEmpty (x.2.2.2.1, (x.2.2.2.2.1, x.2.2.2.2.2))) (fun (a0 : Bool) => (some a0))) (some false)) (some false)) (some false))

noncomputable def c_I_PolyProof_isEmpty : Con0 := ⟨pk_I_PolyProof_isEmpty, rk_I_PolyProof_isEmpty, M_I_PolyProof_isEmpty⟩

set_option maxRecDepth 100000 in
theorem eq_I_PolyProof_isEmpty (x : In pk_I_PolyProof_isEmpty) : semF (mkE [(88, c_I_Proof_isEmpty)]) h_I_PolyProof_isEmpty (info Tryz.f54) pk_I_PolyProof_isEmpty rk_I_PolyProof_isEmpty x = M_I_PolyProof_isEmpty x := (semFF_eq _ _ _ _ _ _).symm.trans (by kernel_rfl)

set_option maxRecDepth 100000 in
theorem m_I_PolyProof_isEmpty : ConOK Tryz.prog 54 c_I_PolyProof_isEmpty := fn_ok (tyOK _) (E := mkE [(88, c_I_Proof_isEmpty)]) (consOK_cons m_I_Proof_isEmpty (consOK_nil rfl)) Tryz.func54 (h := h_I_PolyProof_isEmpty) (by kernel_rfl) eq_I_PolyProof_isEmpty

/-- I_Group_isPolyForm -/
def pk_I_Group_isPolyForm : List PK := [.data (.cons (.int .i64) (.cons (.int .i64) (.one (.int .i64)))), .data (.cons (.sl (.int .i64)) (.cons (.sl (.int .i64)) (.cons (.sl (.int .i64)) (.one (.cons (.sl (.int .i64)) (.cons (.sl (.int .i64)) (.one (.sl (.int .i64))))))))), .data (.int .i64)]
def rk_I_Group_isPolyForm : List (Ty × Bool) := [(.bool, false)]
def h_I_Group_isPolyForm : Hints := { loops := [] }
noncomputable def M_I_Group_isPolyForm (x : ((Int × (Int × Int)) × (((List Int) × ((List Int) × ((List Int) × ((List Int) × ((List Int) × (List Int)))))) × Int))) : (Option Bool) :=
  (cond ((((List.length x.2.1.1) : Nat) : Int) == x.2.2) (cond ((((List.length x.2.1.2.1) : Nat) : Int) == x.2.2) (cond ((((List.length x.2.1.2.2.1) : Nat) : Int) == x.2.2) (bindO (some (IntKind.wrap .i64 ((3 : Int) * x.2.2))) (fun (a0 : Int) => (bindO (some (IntKind.wrap .i64 (a0 + (3 : Int)))) (fun (a1 : Int) => (cond ((((List.length x.2.1.2.2.2.1) : Nat) : Int) == a1) (cond ((((List.length x.2.1.2.2.2.2.1) : Nat) : Int) == (1 : Int)) (bindO (some (IntKind.wrap .i64 ((5 : Int) * x.2.2))) (fun (a2 : Int) => (bindO (some (IntKind.wrap .i64 (a2 + (2 : Int)))) (fun (a3 : Int) => (cond ((((List.length x.2.1.2.2.2.2.2) : Nat) : Int) == a3) (bindO (M_I_Group_hasAll ((x.1.1, (x.1.2.1, x.1.2.2)), x.2.1.1)) (fun (a4 : Bool) => (cond a4 (bindO (M_I_Group_hasAll ((x.1.1, (x.1.2.1, x.1.2.2)), x.2.1.2.1)) (fun (a5 : Bool) => (cond a5 (bindO (M_I_Group_hasAll ((x.1.1, (x.1.2.1, x.1.2.2)), x.2.1.2.2.1)) (fun (a6 : Bool) => (cond a6 (bindO (M_I_Group_hasAll ((x.1.1, (x.1.2.1, x.1.2.2)), x.2.1.2.2.2.1)) (fun (a7 : Bool) => (cond a7 (bindO (M_I_Group_areExps ((x.1.1, (x.1.2.1, x.1.2.2)), x.2.1.2.2.2.2.2)) (fun (a8 : Bool) => (some a8))) (some false)))) (some false)))) (some false)))) (some false)))) (some false)))))) (some false)) (some false)))))) (some false)) (some false)) (some false))

noncomputable def c_I_Group_isPolyForm : Con0 := ⟨pk_I_Group_isPolyForm, rk_I_Group_isPolyForm, M_I_Group_isPolyForm⟩

set_option maxRecDepth 100000 in
theorem eq_I_Group_isPolyForm (x : In pk_I_Group_isPolyForm) : semF (mkE [(180, c_I_Group_hasAll), (100, c_I_Group_areExps)]) h_I_Group_isPolyForm (info Tryz.f131) pk_I_Group_isPolyForm rk_I_Group_isPolyForm x = M_I_Group_isPolyForm x := (semFF_eq _ _ _ _ _ _).symm.trans (by kernel_rfl)

set_option maxRecDepth 100000 in
theorem m_I_Group_isPolyForm : ConOK Tryz.prog 131 c_I_Group_isPolyForm := fn_ok (tyOK _) (E := mkE [(180, c_I_Group_hasAll), (100, c_I_Group_areExps)]) (consOK_cons m_I_Group_hasAll (consOK_cons m_I_Group_areExps (consOK_nil rfl))) Tryz.func131 (h := h_I_Group_isPolyForm) (by kernel_rfl) eq_I_Group_isPolyForm

/-- I_Group_points -/
def pk_I_Group_points : List PK := [.data (.cons (.int .i64) (.cons (.int .i64) (.one (.int .i64)))), .data (.sl (.int .i64))]
def rk_I_Group_points : List (Ty × Bool) := [((.int .i64), false), ((.int .i64), false), (.bool, false)]
def h_I_Group_points : Hints := { loops := [] }
noncomputable def M_I_Group_points (x : ((Int × (Int × Int)) × (List Int))) : (Option (Int × (Int × Bool))) :=
  (bindO (M_I_Group_challenge ((x.1.1, (x.1.2.1, x.1.2.2)), ((bytesOf [109, 105, 120, 32, 121]), x.2))) (fun (a0 : (Int × Bool)) => (bindO (M_I_Group_challenge ((x.1.1, (x.1.2.1, x.1.2.2)), ((bytesOf [109, 105, 120, 32, 122]), x.2))) (fun (a1 : (Int × Bool)) => (cond (not a0.2) (some ((0 : Int), ((0 : Int), false))) (cond (not a1.2) (some ((0 : Int), ((0 : Int), false))) (some (a0.1, (a1.1, true)))))))))

noncomputable def c_I_Group_points : Con0 := ⟨pk_I_Group_points, rk_I_Group_points, M_I_Group_points⟩

set_option maxRecDepth 100000 in
theorem eq_I_Group_points (x : In pk_I_Group_points) : semF (mkE [(122, c_I_Group_challenge)]) h_I_Group_points (info Tryz.f133) pk_I_Group_points rk_I_Group_points x = M_I_Group_points x := (semFF_eq _ _ _ _ _ _).symm.trans (by kernel_rfl)

set_option maxRecDepth 100000 in
theorem m_I_Group_points : ConOK Tryz.prog 133 c_I_Group_points := fn_ok (tyOK _) (E := mkE [(122, c_I_Group_challenge)]) (consOK_cons m_I_Group_challenge (consOK_nil rfl)) Tryz.func133 (h := h_I_Group_points) (by kernel_rfl) eq_I_Group_points

/-- I_taker_take -/
def pk_I_taker_take : List PK := [.mp (.one (.sl (.int .i64))) false, .data (.int .i64)]
def rk_I_taker_take : List (Ty × Bool) := [((.sl (.int .i64)), false)]
def h_I_taker_take : Hints := { loops := [] }
noncomputable def M_I_taker_take (x : ((List Int) × Int)) : (Option ((List Int) × (List Int))) :=
  (bindO (sliceNH x.2 (List.length x.1)) (fun (a0 : (Nat × Nat)) => (bindO (sliceLN x.2 (List.length x.1)) (fun (a1 : (Nat × Nat)) => (some ((List.drop a0.1 (List.take a0.2 x.1)), (List.drop a1.1 (List.take a1.2 x.1))))))))

noncomputable def c_I_taker_take : Con0 := ⟨pk_I_taker_take, rk_I_taker_take, M_I_taker_take⟩

set_option maxRecDepth 100000 in
theorem eq_I_taker_take (x : In pk_I_taker_take) : semF (mkE []) h_I_taker_take (info Tryz.f134) pk_I_taker_take rk_I_taker_take x = M_I_taker_take x := (semFF_eq _ _ _ _ _ _).symm.trans (by kernel_rfl)

set_option maxRecDepth 100000 in
theorem m_I_taker_take : ConOK Tryz.prog 134 c_I_taker_take := fn_ok (tyOK _) (E := mkE []) (consOK_nil rfl) Tryz.func134 (h := h_I_taker_take) (by kernel_rfl) eq_I_taker_take

/-- I_taker_one -/
def pk_I_taker_one : List PK := [.mp (.one (.sl (.int .i64))) false]
def rk_I_taker_one : List (Ty × Bool) := [((.int .i64), false)]
def h_I_taker_one : Hints := { loops := [] }
noncomputable def M_I_taker_one (x : (List Int)) : (Option (Int × (List Int))) :=
  (bindO (M_I_taker_take (x, (1 : Int))) (fun (a0 : ((List Int) × (List Int))) => (bindO (getI a0.1 (0 : Int)) (fun (a1 : Int) => (some (a1, a0.2))))))

noncomputable def c_I_taker_one : Con0 := ⟨pk_I_taker_one, rk_I_taker_one, M_I_taker_one⟩

set_option maxRecDepth 100000 in
theorem eq_I_taker_one (x : In pk_I_taker_one) : semF (mkE [(134, c_I_taker_take)]) h_I_taker_one (info Tryz.f135) pk_I_taker_one rk_I_taker_one x = M_I_taker_one x := (semFF_eq _ _ _ _ _ _).symm.trans (by kernel_rfl)

set_option maxRecDepth 100000 in
theorem m_I_taker_one : ConOK Tryz.prog 135 c_I_taker_one := fn_ok (tyOK _) (E := mkE [(134, c_I_taker_take)]) (consOK_cons m_I_taker_take (consOK_nil rfl)) Tryz.func135 (h := h_I_taker_one) (by kernel_rfl) eq_I_taker_one

end Go.Proofs.YtjmpdejigkjaoaaGreat.Vd
