/- The functions of the law as plain functions on data, and that the program's functions are these. No conditions. -/
import Derived.Test.YtgjneigkkgaaiaaGreatDoorVdSI
import Derived.Test.YtgjneigkkgaaiaaGreatDoorChecked
import Derived.KernelRfl
set_option linter.unusedVariables false
namespace Go.Proofs.YtgjneigkkgaaiaaGreatDoor.Vd
def tys : List (Option Ty) := [none, none, some (.int .i64), some (.int .i64), some .bool, some (.int .u8), some (.int .u8), some (.cons (.int .i64) (.cons (.int .i64) (.cons .bool (.one (.int .u8))))), some (.cons (.int .i64) (.cons (.int .i64) (.cons .bool (.one (.int .u8))))), some .str, some .str, some .str, some (.int .u64), some (.cons .str (.one (.int .u64))), some (.cons .str (.one (.int .u64))), none, none, none, none, none, none, some (.int .i32), some (.cons (.int .i64) (.cons (.int .i64) (.one (.int .i64)))), some (.cons (.int .i64) (.cons (.int .i64) (.one (.int .i64)))), some (.cons (.int .i64) (.cons (.int .i64) (.cons (.int .i64) (.cons (.int .i64) (.one (.int .i64)))))), some (.cons (.int .i64) (.cons (.int .i64) (.cons (.int .i64) (.cons (.int .i64) (.one (.int .i64)))))), some (.sl (.cons (.int .i64) (.one (.int .i64)))), some (.sl (.cons (.sl (.int .i64)) (.cons (.sl (.int .i64)) (.one (.sl (.int .i64)))))), some (.sl (.int .i64)), some (.cons (.sl (.int .i64)) (.cons (.sl (.int .i64)) (.one (.sl (.int .i64))))), some (.cons (.sl (.int .i64)) (.cons (.sl (.int .i64)) (.one (.sl (.int .i64))))), some (.cons (.int .i64) (.cons (.sl (.cons (.int .i64) (.one (.int .i64)))) (.cons (.sl (.cons (.sl (.int .i64)) (.cons (.sl (.int .i64)) (.one (.sl (.int .i64)))))) (.one (.cons (.sl (.int .i64)) (.cons (.sl (.int .i64)) (.one (.sl (.int .i64))))))))), some (.cons (.int .i64) (.cons (.sl (.cons (.int .i64) (.one (.int .i64)))) (.cons (.sl (.cons (.sl (.int .i64)) (.cons (.sl (.int .i64)) (.one (.sl (.int .i64)))))) (.one (.cons (.sl (.int .i64)) (.cons (.sl (.int .i64)) (.one (.sl (.int .i64))))))))), none, none, none, some (.cons (.int .i64) (.cons (.int .i64) (.one (.int .i64)))), none, some (.cons (.int .i64) (.cons (.int .i64) (.cons (.int .i64) (.cons (.int .i64) (.one (.int .i64)))))), none, some (.sl (.cons (.int .i64) (.one (.int .i64)))), some (.sl (.cons (.sl (.int .i64)) (.cons (.sl (.int .i64)) (.one (.sl (.int .i64)))))), some (.cons (.sl (.int .i64)) (.cons (.sl (.int .i64)) (.one (.sl (.int .i64))))), some (.cons (.int .i64) (.cons (.sl (.cons (.int .i64) (.one (.int .i64)))) (.cons (.sl (.cons (.sl (.int .i64)) (.cons (.sl (.int .i64)) (.one (.sl (.int .i64)))))) (.one (.cons (.sl (.int .i64)) (.cons (.sl (.int .i64)) (.one (.sl (.int .i64))))))))), some (.cons (.int .i64) (.cons (.sl (.cons (.int .i64) (.one (.int .i64)))) (.cons (.sl (.cons (.sl (.int .i64)) (.cons (.sl (.int .i64)) (.one (.sl (.int .i64)))))) (.one (.cons (.sl (.int .i64)) (.cons (.sl (.int .i64)) (.one (.sl (.int .i64))))))))), none, none, none, none, none, none, none, none, none, none, none, none, none, none, none, none, none, none, none, none, none, none, none, none, none, none, some (.sl (.sl (.int .i64))), some (.cons (.int .i64) (.one (.int .i64))), some (.cons (.int .i64) (.one (.int .i64))), none, none, some (.sl (.cons (.int .i64) (.cons (.int .i64) (.cons (.int .i64) (.one (.int .i64)))))), none, none, none, some (.cons (.int .i64) (.one (.int .i64))), none, none, none, none, none, none, none, none, none, none, none, none, none, none, none, none, none, none, some (.cons (.int .i64) (.cons (.int .i64) (.cons (.int .i64) (.one (.int .i64))))), some (.cons (.int .i64) (.cons (.int .i64) (.cons (.int .i64) (.one (.int .i64))))), some (.int .u64), none, none, none, none, none, none, none, none, none, none, none, none, none, some (.sl (.int .u8)), none, none, none, none, none, none, none, none, none, none, none, none, none, some (.cons (.int .i64) (.one (.int .i64))), some (.cons (.int .i64) (.one (.int .i64))), none, some (.cons (.int .u8) (.cons (.int .u8) (.cons (.int .u8) (.cons (.int .u8) (.cons (.int .u8) (.cons (.int .u8) (.cons (.int .u8) (.cons (.int .u8) (.cons (.int .u8) (.cons (.int .u8) (.cons (.int .u8) (.cons (.int .u8) (.cons (.int .u8) (.cons (.int .u8) (.cons (.int .u8) (.cons (.int .u8) (.cons (.int .u8) (.cons (.int .u8) (.cons (.int .u8) (.cons (.int .u8) (.cons (.int .u8) (.cons (.int .u8) (.cons (.int .u8) (.one (.int .u8))))))))))))))))))))))))), some (.int .u64), none, none, none, none, none, none, none, none, some (.cons (.int .u64) (.cons (.int .u64) (.cons (.int .u64) (.cons (.int .u64) (.cons (.int .u64) (.cons (.int .u64) (.cons (.int .u64) (.cons (.int .u64) (.cons (.int .u64) (.cons (.int .u64) (.cons (.int .u64) (.cons (.int .u64) (.cons (.int .u64) (.cons (.int .u64) (.cons (.int .u64) (.cons (.int .u64) (.cons (.int .u64) (.cons (.int .u64) (.cons (.int .u64) (.one (.int .u64))))))))))))))))))))), some (.int .u32), some (.cons (.int .u8) (.cons (.int .u8) (.cons (.int .u8) (.cons (.int .u8) (.cons (.int .u8) (.cons (.int .u8) (.cons (.int .u8) (.cons (.int .u8) (.cons (.int .u8) (.cons (.int .u8) (.cons (.int .u8) (.cons (.int .u8) (.cons (.int .u8) (.cons (.int .u8) (.cons (.int .u8) (.cons (.int .u8) (.cons (.int .u8) (.cons (.int .u8) (.cons (.int .u8) (.cons (.int .u8) (.cons (.int .u8) (.cons (.int .u8) (.cons (.int .u8) (.cons (.int .u8) (.cons (.int .u8) (.cons (.int .u8) (.cons (.int .u8) (.cons (.int .u8) (.cons (.int .u8) (.cons (.int .u8) (.cons (.int .u8) (.cons (.int .u8) (.cons (.int .u8) (.cons (.int .u8) (.cons (.int .u8) (.cons (.int .u8) (.cons (.int .u8) (.cons (.int .u8) (.cons (.int .u8) (.cons (.int .u8) (.cons (.int .u8) (.cons (.int .u8) (.cons (.int .u8) (.cons (.int .u8) (.cons (.int .u8) (.cons (.int .u8) (.cons (.int .u8) (.cons (.int .u8) (.cons (.int .u8) (.cons (.int .u8) (.cons (.int .u8) (.cons (.int .u8) (.cons (.int .u8) (.cons (.int .u8) (.cons (.int .u8) (.cons (.int .u8) (.cons (.int .u8) (.cons (.int .u8) (.cons (.int .u8) (.cons (.int .u8) (.cons (.int .u8) (.cons (.int .u8) (.cons (.int .u8) (.cons (.int .u8) (.one (.int .u8)))))))))))))))))))))))))))))))))))))))))))))))))))))))))))))))))), none, none, some (.cons (.int .u8) (.cons (.int .u8) (.cons (.int .u8) (.cons (.int .u8) (.cons (.int .u8) (.cons (.int .u8) (.cons (.int .u8) (.cons (.int .u8) (.cons (.int .u8) (.cons (.int .u8) (.cons (.int .u8) (.cons (.int .u8) (.cons (.int .u8) (.cons (.int .u8) (.cons (.int .u8) (.cons (.int .u8) (.cons (.int .u8) (.cons (.int .u8) (.cons (.int .u8) (.cons (.int .u8) (.cons (.int .u8) (.cons (.int .u8) (.cons (.int .u8) (.cons (.int .u8) (.cons (.int .u8) (.cons (.int .u8) (.cons (.int .u8) (.cons (.int .u8) (.cons (.int .u8) (.cons (.int .u8) (.cons (.int .u8) (.one (.int .u8))))))))))))))))))))))))))))))))), some (.cons (.int .u8) (.cons (.int .u8) (.cons (.int .u8) (.cons (.int .u8) (.cons (.int .u8) (.cons (.int .u8) (.cons (.int .u8) (.cons (.int .u8) (.cons (.int .u8) (.cons (.int .u8) (.cons (.int .u8) (.cons (.int .u8) (.cons (.int .u8) (.cons (.int .u8) (.cons (.int .u8) (.cons (.int .u8) (.cons (.int .u8) (.cons (.int .u8) (.cons (.int .u8) (.cons (.int .u8) (.cons (.int .u8) (.cons (.int .u8) (.cons (.int .u8) (.cons (.int .u8) (.cons (.int .u8) (.cons (.int .u8) (.cons (.int .u8) (.cons (.int .u8) (.cons (.int .u8) (.cons (.int .u8) (.cons (.int .u8) (.cons (.int .u8) (.cons (.int .u8) (.cons (.int .u8) (.cons (.int .u8) (.cons (.int .u8) (.cons (.int .u8) (.cons (.int .u8) (.cons (.int .u8) (.cons (.int .u8) (.cons (.int .u8) (.cons (.int .u8) (.cons (.int .u8) (.cons (.int .u8) (.cons (.int .u8) (.cons (.int .u8) (.cons (.int .u8) (.cons (.int .u8) (.cons (.int .u8) (.cons (.int .u8) (.cons (.int .u8) (.cons (.int .u8) (.cons (.int .u8) (.cons (.int .u8) (.cons (.int .u8) (.cons (.int .u8) (.cons (.int .u8) (.cons (.int .u8) (.cons (.int .u8) (.cons (.int .u8) (.cons (.int .u8) (.cons (.int .u8) (.cons (.int .u8) (.one (.int .u8))))))))))))))))))))))))))))))))))))))))))))))))))))))))))))))))), none, none, none, none, none, none, some (.int .u8), some (.int .u8), none, none, some (.int .i32), some (.int .i32), none, none, none]
def others : List Nat := [1, 15, 16, 17, 33, 35, 37, 39, 45, 46, 47, 48, 49, 50, 51, 52, 53, 54, 55, 56, 57, 58, 59, 60, 61, 62, 63, 64, 65, 66, 67, 68, 69, 70, 74, 75, 77, 78, 79, 81, 82, 83, 84, 85, 86, 87, 88, 89, 90, 91, 92, 93, 94, 95, 96, 97, 98, 102, 103, 104, 106, 107, 108, 109, 110, 111, 112, 113, 114, 116, 117, 118, 119, 120, 121, 123, 124, 125, 126, 127, 128, 131, 134, 135, 137, 138, 139, 140, 141, 145, 146, 149, 157, 158]
def pairs : List Nat := [72, 73, 80, 129, 130]
instance : Laid Tryz.prog := ⟨[(0, (Go.Lib.pow10Tab.map fun z => Value.int .u64 z).toArray)]⟩

def sgN : Nat → Nat → List Nat
  | _, 0 => []
  | a, n + 1 => a :: sgN (a + 1) n

noncomputable def mkE (con : List (Nat × Con0)) : Env := ⟨[], tys, others, pairs, con, []⟩

set_option maxRecDepth 100000 in
theorem tyOK (con : List (Nat × Con0)) : TyOK Tryz.prog (mkE con) := tyOK_of (E := mkE con) (by kernel_rfl) (by kernel_rfl) (by kernel_rfl)

/-- L_szCipherS -/
def pk_L_szCipherS : List PK := [.data (.sl (.cons (.int .i64) (.one (.int .i64)))), .data (.int .i64)]
def rk_L_szCipherS : List (Ty × Bool) := [((.int .i64), false)]
def h_L_szCipherS : Hints := { loops := [] }
noncomputable def M_L_szCipherS (x : ((List (Int × Int)) × Int)) : (Option Int) :=
  (bindO (some (IntKind.wrap .i64 (x.2 - (((List.length x.1) : Nat) : Int)))) (fun (a0 : Int) => (cond (decide (a0 < (0 : Int))) (some (- (1 : Int))) (some a0))))

noncomputable def c_L_szCipherS : Con0 := ⟨pk_L_szCipherS, rk_L_szCipherS, M_L_szCipherS⟩

set_option maxRecDepth 100000 in
theorem eq_L_szCipherS (x : In pk_L_szCipherS) : semF (mkE []) h_L_szCipherS (info Tryz.f11) pk_L_szCipherS rk_L_szCipherS x = M_L_szCipherS x := (semFF_eq _ _ _ _ _ _).symm.trans (by kernel_rfl)

set_option maxRecDepth 100000 in
theorem m_L_szCipherS : ConOK Tryz.prog 11 c_L_szCipherS := fn_ok (tyOK _) (E := mkE []) (consOK_nil rfl) Tryz.func11 (h := h_L_szCipherS) (by kernel_rfl) eq_L_szCipherS

/-- L_szIntS -/
def pk_L_szIntS : List PK := [.data (.sl (.int .i64)), .data (.int .i64)]
def rk_L_szIntS : List (Ty × Bool) := [((.int .i64), false)]
def h_L_szIntS : Hints := { loops := [] }
noncomputable def M_L_szIntS (x : ((List Int) × Int)) : (Option Int) :=
  (bindO (some (IntKind.wrap .i64 (x.2 - (((List.length x.1) : Nat) : Int)))) (fun (a0 : Int) => (cond (decide (a0 < (0 : Int))) (some (- (1 : Int))) (some a0))))

noncomputable def c_L_szIntS : Con0 := ⟨pk_L_szIntS, rk_L_szIntS, M_L_szIntS⟩

set_option maxRecDepth 100000 in
theorem eq_L_szIntS (x : In pk_L_szIntS) : semF (mkE []) h_L_szIntS (info Tryz.f26) pk_L_szIntS rk_L_szIntS x = M_L_szIntS x := (semFF_eq _ _ _ _ _ _).symm.trans (by kernel_rfl)

set_option maxRecDepth 100000 in
theorem m_L_szIntS : ConOK Tryz.prog 26 c_L_szIntS := fn_ok (tyOK _) (E := mkE []) (consOK_nil rfl) Tryz.func26 (h := h_L_szIntS) (by kernel_rfl) eq_L_szIntS

/-- L_szProof -/
def pk_L_szProof : List PK := [.data (.cons (.sl (.int .i64)) (.cons (.sl (.int .i64)) (.one (.sl (.int .i64))))), .data (.int .i64)]
def rk_L_szProof : List (Ty × Bool) := [((.int .i64), false)]
def h_L_szProof : Hints := { loops := [] }
noncomputable def M_L_szProof (x : (((List Int) × ((List Int) × (List Int))) × Int)) : (Option Int) :=
  (bindO (M_L_szIntS (x.1.1, x.2)) (fun (a0 : Int) => (cond (decide (a0 < (0 : Int))) (some (- (1 : Int))) (bindO (M_L_szIntS (x.1.2.1, a0)) (fun (a1 : Int) => (cond (decide (a1 < (0 : Int))) (some (- (1 : Int))) (bindO (M_L_szIntS (x.1.2.2, a1)) (fun (a2 : Int) => (cond (decide (a2 < (0 : Int))) (some (- (1 : Int))) (some a2))))))))))

noncomputable def c_L_szProof : Con0 := ⟨pk_L_szProof, rk_L_szProof, M_L_szProof⟩

set_option maxRecDepth 100000 in
theorem eq_L_szProof (x : In pk_L_szProof) : semF (mkE [(26, c_L_szIntS)]) h_L_szProof (info Tryz.f13) pk_L_szProof rk_L_szProof x = M_L_szProof x := (semFF_eq _ _ _ _ _ _).symm.trans (by kernel_rfl)

set_option maxRecDepth 100000 in
theorem m_L_szProof : ConOK Tryz.prog 13 c_L_szProof := fn_ok (tyOK _) (E := mkE [(26, c_L_szIntS)]) (consOK_cons m_L_szIntS (consOK_nil rfl)) Tryz.func13 (h := h_L_szProof) (by kernel_rfl) eq_L_szProof

/-- L_szProofS -/
def pk_L_szProofS : List PK := [.data (.sl (.cons (.sl (.int .i64)) (.cons (.sl (.int .i64)) (.one (.sl (.int .i64)))))), .data (.int .i64)]
def rk_L_szProofS : List (Ty × Bool) := [((.int .i64), false)]
def h_L_szProofS : Hints := { loops := [(0, { items := [.slot 1 (.data (.int .i64) []), .slot 5 (.data (.int .i64) [])], kill := [2, 3, 4] ++ (sgN 6 21) })] }
noncomputable def M_L_szProofS (x : ((List ((List Int) × ((List Int) × (List Int)))) × Int)) : (Option Int) :=
  (bindO (some (IntKind.wrap .i64 (x.2 - (((List.length x.1) : Nat) : Int)))) (fun (a0 : Int) => (cond (decide (a0 < (0 : Int))) (some (- (1 : Int))) (loopO (fun (again1 : ((Int × Int) → (Option Int))) => (fun (s2 : (Int × Int)) => (cond (decide (s2.2 < (((List.length x.1) : Nat) : Int))) (bindO (getI x.1 s2.2) (fun (a3 : ((List Int) × ((List Int) × (List Int)))) => (bindO (M_L_szProof ((a3.1, (a3.2.1, a3.2.2)), s2.1)) (fun (a4 : Int) => (cond (decide (a4 < (0 : Int))) (some (- (1 : Int))) (bindO (some (IntKind.wrap .i64 (s2.2 + (1 : Int)))) (fun (a5 : Int) => (again1 (a4, a5))))))))) (some s2.1)))) (a0, (0 : Int))))))

noncomputable def c_L_szProofS : Con0 := ⟨pk_L_szProofS, rk_L_szProofS, M_L_szProofS⟩

set_option maxRecDepth 100000 in
theorem eq_L_szProofS (x : In pk_L_szProofS) : semF (mkE [(13, c_L_szProof)]) h_L_szProofS (info Tryz.f12) pk_L_szProofS rk_L_szProofS x = M_L_szProofS x := (semFF_eq _ _ _ _ _ _).symm.trans (by kernel_rfl)

set_option maxRecDepth 100000 in
theorem m_L_szProofS : ConOK Tryz.prog 12 c_L_szProofS := fn_ok (tyOK _) (E := mkE [(13, c_L_szProof)]) (consOK_cons m_L_szProof (consOK_nil rfl)) Tryz.func12 (h := h_L_szProofS) (by kernel_rfl) eq_L_szProofS

/-- L_szSealed -/
def pk_L_szSealed : List PK := [.data (.cons (.int .i64) (.cons (.sl (.cons (.int .i64) (.one (.int .i64)))) (.cons (.sl (.cons (.sl (.int .i64)) (.cons (.sl (.int .i64)) (.one (.sl (.int .i64)))))) (.one (.cons (.sl (.int .i64)) (.cons (.sl (.int .i64)) (.one (.sl (.int .i64))))))))), .data (.int .i64)]
def rk_L_szSealed : List (Ty × Bool) := [((.int .i64), false)]
def h_L_szSealed : Hints := { loops := [] }
noncomputable def M_L_szSealed (x : ((Int × ((List (Int × Int)) × ((List ((List Int) × ((List Int) × (List Int)))) × ((List Int) × ((List Int) × (List Int)))))) × Int)) : (Option Int) :=
  (bindO (M_L_szCipherS (x.1.2.1, x.2)) (fun (a0 : Int) => (cond (decide (a0 < (0 : Int))) (some (- (1 : Int))) (bindO (M_L_szProofS (x.1.2.2.1, a0)) (fun (a1 : Int) => (cond (decide (a1 < (0 : Int))) (some (- (1 : Int))) (bindO (M_L_szProof ((x.1.2.2.2.1, (x.1.2.2.2.2.1, x.1.2.2.2.2.2)), a1)) (fun (a2 : Int) => (cond (decide (a2 < (0 : Int))) (some (- (1 : Int))) (some a2))))))))))

noncomputable def c_L_szSealed : Con0 := ⟨pk_L_szSealed, rk_L_szSealed, M_L_szSealed⟩

set_option maxRecDepth 100000 in
theorem eq_L_szSealed (x : In pk_L_szSealed) : semF (mkE [(11, c_L_szCipherS), (12, c_L_szProofS), (13, c_L_szProof)]) h_L_szSealed (info Tryz.f4) pk_L_szSealed rk_L_szSealed x = M_L_szSealed x := (semFF_eq _ _ _ _ _ _).symm.trans (by kernel_rfl)

set_option maxRecDepth 100000 in
theorem m_L_szSealed : ConOK Tryz.prog 4 c_L_szSealed := fn_ok (tyOK _) (E := mkE [(11, c_L_szCipherS), (12, c_L_szProofS), (13, c_L_szProof)]) (consOK_cons m_L_szCipherS (consOK_cons m_L_szProofS (consOK_cons m_L_szProof (consOK_nil rfl)))) Tryz.func4 (h := h_L_szSealed) (by kernel_rfl) eq_L_szSealed

/-- L_toGroup -/
def pk_L_toGroup : List PK := [.data (.cons (.int .i64) (.cons (.int .i64) (.one (.int .i64))))]
def rk_L_toGroup : List (Ty × Bool) := [((.cons (.int .i64) (.cons (.int .i64) (.one (.int .i64)))), false)]
def h_L_toGroup : Hints := { loops := [] }
noncomputable def M_L_toGroup (x : (Int × (Int × Int))) : (Option (Int × (Int × Int))) :=
  (some (x.1, (x.2.1, x.2.2)))

noncomputable def c_L_toGroup : Con0 := ⟨pk_L_toGroup, rk_L_toGroup, M_L_toGroup⟩

set_option maxRecDepth 100000 in
theorem eq_L_toGroup (x : In pk_L_toGroup) : semF (mkE []) h_L_toGroup (info Tryz.f6) pk_L_toGroup rk_L_toGroup x = M_L_toGroup x := (semFF_eq _ _ _ _ _ _).symm.trans (by kernel_rfl)

set_option maxRecDepth 100000 in
theorem m_L_toGroup : ConOK Tryz.prog 6 c_L_toGroup := fn_ok (tyOK _) (E := mkE []) (consOK_nil rfl) Tryz.func6 (h := h_L_toGroup) (by kernel_rfl) eq_L_toGroup

/-- L_toContest -/
def pk_L_toContest : List PK := [.data (.cons (.int .i64) (.cons (.int .i64) (.cons (.int .i64) (.cons (.int .i64) (.one (.int .i64))))))]
def rk_L_toContest : List (Ty × Bool) := [((.cons (.int .i64) (.cons (.int .i64) (.cons (.int .i64) (.cons (.int .i64) (.one (.int .i64)))))), false)]
def h_L_toContest : Hints := { loops := [] }
noncomputable def M_L_toContest (x : (Int × (Int × (Int × (Int × Int))))) : (Option (Int × (Int × (Int × (Int × Int))))) :=
  (some (x.1, (x.2.1, (x.2.2.1, (x.2.2.2.1, x.2.2.2.2)))))

noncomputable def c_L_toContest : Con0 := ⟨pk_L_toContest, rk_L_toContest, M_L_toContest⟩

set_option maxRecDepth 100000 in
theorem eq_L_toContest (x : In pk_L_toContest) : semF (mkE []) h_L_toContest (info Tryz.f7) pk_L_toContest rk_L_toContest x = M_L_toContest x := (semFF_eq _ _ _ _ _ _).symm.trans (by kernel_rfl)

set_option maxRecDepth 100000 in
theorem m_L_toContest : ConOK Tryz.prog 7 c_L_toContest := fn_ok (tyOK _) (E := mkE []) (consOK_nil rfl) Tryz.func7 (h := h_L_toContest) (by kernel_rfl) eq_L_toContest

/-- L_toCipher -/
def pk_L_toCipher : List PK := [.data (.cons (.int .i64) (.one (.int .i64)))]
def rk_L_toCipher : List (Ty × Bool) := [((.cons (.int .i64) (.one (.int .i64))), false)]
def h_L_toCipher : Hints := { loops := [] }
noncomputable def M_L_toCipher (x : (Int × Int)) : (Option (Int × Int)) :=
  (some (x.1, x.2))

noncomputable def c_L_toCipher : Con0 := ⟨pk_L_toCipher, rk_L_toCipher, M_L_toCipher⟩

set_option maxRecDepth 100000 in
theorem eq_L_toCipher (x : In pk_L_toCipher) : semF (mkE []) h_L_toCipher (info Tryz.f42) pk_L_toCipher rk_L_toCipher x = M_L_toCipher x := (semFF_eq _ _ _ _ _ _).symm.trans (by kernel_rfl)

set_option maxRecDepth 100000 in
theorem m_L_toCipher : ConOK Tryz.prog 42 c_L_toCipher := fn_ok (tyOK _) (E := mkE []) (consOK_nil rfl) Tryz.func42 (h := h_L_toCipher) (by kernel_rfl) eq_L_toCipher

/-- L_toCipherS -/
def pk_L_toCipherS : List PK := [.data (.sl (.cons (.int .i64) (.one (.int .i64))))]
def rk_L_toCipherS : List (Ty × Bool) := [((.sl (.cons (.int .i64) (.one (.int .i64)))), true)]
def h_L_toCipherS : Hints := { loops := [(0, { items := [.slot 4 (.data (.int .i64) []), .arr 3 (.cons (.int .i64) (.one (.int .i64))) true], kill := [1, 2] ++ (sgN 5 18) })] }
noncomputable def M_L_toCipherS (x : (List (Int × Int))) : (Option (List (Int × Int))) :=
  (bindO (guardO (((decide ((0 : Int) ≤ (((List.length x) : Nat) : Int))) && (decide ((((List.length x) : Nat) : Int) ≤ (((List.length x) : Nat) : Int)))) && (decide ((((List.length x) : Nat) : Int) ≤ ((lim : Nat) : Int))))) (fun (a0 : Unit) => (loopO (fun (again1 : ((Int × (List (Int × Int))) → (Option (List (Int × Int))))) => (fun (s2 : (Int × (List (Int × Int)))) => (cond (decide (s2.1 < (((List.length x) : Nat) : Int))) (bindO (getI x s2.1) (fun (a3 : (Int × Int)) => (bindO (M_L_toCipher (a3.1, a3.2)) (fun (a4 : (Int × Int)) => (bindO (getI s2.2 s2.1) (fun (a5 : (Int × Int)) => (bindO (some (List.set s2.2 (Int.toNat s2.1) (a4.1, a4.2))) (fun (a6 : (List (Int × Int))) => (bindO (some (IntKind.wrap .i64 (s2.1 + (1 : Int)))) (fun (a7 : Int) => (again1 (a7, a6)))))))))))) (some s2.2)))) ((0 : Int), (List.replicate (Int.toNat (((List.length x) : Nat) : Int)) ((0 : Int), (0 : Int)))))))

noncomputable def c_L_toCipherS : Con0 := ⟨pk_L_toCipherS, rk_L_toCipherS, M_L_toCipherS⟩

set_option maxRecDepth 100000 in
theorem eq_L_toCipherS (x : In pk_L_toCipherS) : semF (mkE [(42, c_L_toCipher)]) h_L_toCipherS (info Tryz.f17) pk_L_toCipherS rk_L_toCipherS x = M_L_toCipherS x := (semFF_eq _ _ _ _ _ _).symm.trans (by kernel_rfl)

set_option maxRecDepth 100000 in
theorem m_L_toCipherS : ConOK Tryz.prog 17 c_L_toCipherS := fn_ok (tyOK _) (E := mkE [(42, c_L_toCipher)]) (consOK_cons m_L_toCipher (consOK_nil rfl)) Tryz.func17 (h := h_L_toCipherS) (by kernel_rfl) eq_L_toCipherS

/-- L_toIntS -/
def pk_L_toIntS : List PK := [.data (.sl (.int .i64))]
def rk_L_toIntS : List (Ty × Bool) := [((.sl (.int .i64)), true)]
def h_L_toIntS : Hints := { loops := [(0, { items := [.slot 4 (.data (.int .i64) []), .arr 3 (.int .i64) true], kill := [1, 2] ++ (sgN 5 17) })] }
noncomputable def M_L_toIntS (x : (List Int)) : (Option (List Int)) :=
  (bindO (guardO (((decide ((0 : Int) ≤ (((List.length x) : Nat) : Int))) && (decide ((((List.length x) : Nat) : Int) ≤ (((List.length x) : Nat) : Int)))) && (decide ((((List.length x) : Nat) : Int) ≤ ((lim : Nat) : Int))))) (fun (a0 : Unit) => (loopO (fun (again1 : ((Int × (List Int)) → (Option (List Int)))) => (fun (s2 : (Int × (List Int))) => (cond (decide (s2.1 < (((List.length x) : Nat) : Int))) (bindO (getI x s2.1) (fun (a3 : Int) => (bindO (getI s2.2 s2.1) (fun (a4 : Int) => (bindO (some (List.set s2.2 (Int.toNat s2.1) a3)) (fun (a5 : (List Int)) => (bindO (some (IntKind.wrap .i64 (s2.1 + (1 : Int)))) (fun (a6 : Int) => (again1 (a6, a5)))))))))) (some s2.2)))) ((0 : Int), (List.replicate (Int.toNat (((List.length x) : Nat) : Int)) (0 : Int))))))

noncomputable def c_L_toIntS : Con0 := ⟨pk_L_toIntS, rk_L_toIntS, M_L_toIntS⟩

set_option maxRecDepth 100000 in
theorem eq_L_toIntS (x : In pk_L_toIntS) : semF (mkE []) h_L_toIntS (info Tryz.f43) pk_L_toIntS rk_L_toIntS x = M_L_toIntS x := (semFF_eq _ _ _ _ _ _).symm.trans (by kernel_rfl)

set_option maxRecDepth 100000 in
theorem m_L_toIntS : ConOK Tryz.prog 43 c_L_toIntS := fn_ok (tyOK _) (E := mkE []) (consOK_nil rfl) Tryz.func43 (h := h_L_toIntS) (by kernel_rfl) eq_L_toIntS

/-- L_toProof -/
def pk_L_toProof : List PK := [.data (.cons (.sl (.int .i64)) (.cons (.sl (.int .i64)) (.one (.sl (.int .i64)))))]
def rk_L_toProof : List (Ty × Bool) := [((.cons (.sl (.int .i64)) (.cons (.sl (.int .i64)) (.one (.sl (.int .i64))))), true)]
def h_L_toProof : Hints := { loops := [] }
noncomputable def M_L_toProof (x : ((List Int) × ((List Int) × (List Int)))) : (Option ((List Int) × ((List Int) × (List Int)))) :=
  (bindO (M_L_toIntS x.1) (fun (a0 : (List Int)) => (bindO (M_L_toIntS x.2.1) (fun (a1 : (List Int)) => (bindO (M_L_toIntS x.2.2) (fun (a2 : (List Int)) => (some (a0, (a1, a2)))))))))

noncomputable def c_L_toProof : Con0 := ⟨pk_L_toProof, rk_L_toProof, M_L_toProof⟩

set_option maxRecDepth 100000 in
theorem eq_L_toProof (x : In pk_L_toProof) : semF (mkE [(43, c_L_toIntS)]) h_L_toProof (info Tryz.f19) pk_L_toProof rk_L_toProof x = M_L_toProof x := (semFF_eq _ _ _ _ _ _).symm.trans (by kernel_rfl)

set_option maxRecDepth 100000 in
theorem m_L_toProof : ConOK Tryz.prog 19 c_L_toProof := fn_ok (tyOK _) (E := mkE [(43, c_L_toIntS)]) (consOK_cons m_L_toIntS (consOK_nil rfl)) Tryz.func19 (h := h_L_toProof) (by kernel_rfl) eq_L_toProof

/-- L_toProofS -/
def pk_L_toProofS : List PK := [.data (.sl (.cons (.sl (.int .i64)) (.cons (.sl (.int .i64)) (.one (.sl (.int .i64))))))]
def rk_L_toProofS : List (Ty × Bool) := [((.sl (.cons (.sl (.int .i64)) (.cons (.sl (.int .i64)) (.one (.sl (.int .i64)))))), true)]
def h_L_toProofS : Hints := { loops := [(0, { items := [.slot 4 (.data (.int .i64) []), .arr 3 (.cons (.sl (.int .i64)) (.cons (.sl (.int .i64)) (.one (.sl (.int .i64))))) true], kill := [1, 2] ++ (sgN 5 18) })] }
noncomputable def M_L_toProofS (x : (List ((List Int) × ((List Int) × (List Int))))) : (Option (List ((List Int) × ((List Int) × (List Int))))) :=
  (bindO (guardO (((decide ((0 : Int) ≤ (((List.length x) : Nat) : Int))) && (decide ((((List.length x) : Nat) : Int) ≤ (((List.length x) : Nat) : Int)))) && (decide ((((List.length x) : Nat) : Int) ≤ ((lim : Nat) : Int))))) (fun (a0 : Unit) => (loopO (fun (again1 : ((Int × (List ((List Int) × ((List Int) × (List Int))))) → (Option (List ((List Int) × ((List Int) × (List Int))))))) => (fun (s2 : (Int × (List ((List Int) × ((List Int) × (List Int)))))) => (cond (decide (s2.1 < (((List.length x) : Nat) : Int))) (bindO (getI x s2.1) (fun (a3 : ((List Int) × ((List Int) × (List Int)))) => (bindO (M_L_toProof (a3.1, (a3.2.1, a3.2.2))) (fun (a4 : ((List Int) × ((List Int) × (List Int)))) => (bindO (getI s2.2 s2.1) (fun (a5 : ((List Int) × ((List Int) × (List Int)))) => (bindO (some (List.set s2.2 (Int.toNat s2.1) (a4.1, (a4.2.1, a4.2.2)))) (fun (a6 : (List ((List Int) × ((List Int) × (List Int))))) => (bindO (some (IntKind.wrap .i64 (s2.1 + (1 : Int)))) (fun (a7 : Int) => (again1 (a7, a6)))))))))))) (some s2.2)))) ((0 : Int), (List.replicate (Int.toNat (((List.length x) : Nat) : Int)) (([] : List Int), (([] : List Int), ([] : List Int))))))))

noncomputable def c_L_toProofS : Con0 := ⟨pk_L_toProofS, rk_L_toProofS, M_L_toProofS⟩

set_option maxRecDepth 100000 in
theorem eq_L_toProofS (x : In pk_L_toProofS) : semF (mkE [(19, c_L_toProof)]) h_L_toProofS (info Tryz.f18) pk_L_toProofS rk_L_toProofS x = M_L_toProofS x := (semFF_eq _ _ _ _ _ _).symm.trans (by kernel_rfl)

set_option maxRecDepth 100000 in
theorem m_L_toProofS : ConOK Tryz.prog 18 c_L_toProofS := fn_ok (tyOK _) (E := mkE [(19, c_L_toProof)]) (consOK_cons m_L_toProof (consOK_nil rfl)) Tryz.func18 (h := h_L_toProofS) (by kernel_rfl) eq_L_toProofS

/-- L_toSealed -/
def pk_L_toSealed : List PK := [.data (.cons (.int .i64) (.cons (.sl (.cons (.int .i64) (.one (.int .i64)))) (.cons (.sl (.cons (.sl (.int .i64)) (.cons (.sl (.int .i64)) (.one (.sl (.int .i64)))))) (.one (.cons (.sl (.int .i64)) (.cons (.sl (.int .i64)) (.one (.sl (.int .i64)))))))))]
def rk_L_toSealed : List (Ty × Bool) := [((.cons (.int .i64) (.cons (.sl (.cons (.int .i64) (.one (.int .i64)))) (.cons (.sl (.cons (.sl (.int .i64)) (.cons (.sl (.int .i64)) (.one (.sl (.int .i64)))))) (.one (.cons (.sl (.int .i64)) (.cons (.sl (.int .i64)) (.one (.sl (.int .i64))))))))), true)]
def h_L_toSealed : Hints := { loops := [] }
noncomputable def M_L_toSealed (x : (Int × ((List (Int × Int)) × ((List ((List Int) × ((List Int) × (List Int)))) × ((List Int) × ((List Int) × (List Int))))))) : (Option (Int × ((List (Int × Int)) × ((List ((List Int) × ((List Int) × (List Int)))) × ((List Int) × ((List Int) × (List Int))))))) :=
  (bindO (M_L_toCipherS x.2.1) (fun (a0 : (List (Int × Int))) => (bindO (M_L_toProofS x.2.2.1) (fun (a1 : (List ((List Int) × ((List Int) × (List Int))))) => (bindO (M_L_toProof (x.2.2.2.1, (x.2.2.2.2.1, x.2.2.2.2.2))) (fun (a2 : ((List Int) × ((List Int) × (List Int)))) => (some (x.1, (a0, (a1, (a2.1, (a2.2.1, a2.2.2))))))))))))

noncomputable def c_L_toSealed : Con0 := ⟨pk_L_toSealed, rk_L_toSealed, M_L_toSealed⟩

set_option maxRecDepth 100000 in
theorem eq_L_toSealed (x : In pk_L_toSealed) : semF (mkE [(17, c_L_toCipherS), (18, c_L_toProofS), (19, c_L_toProof)]) h_L_toSealed (info Tryz.f8) pk_L_toSealed rk_L_toSealed x = M_L_toSealed x := (semFF_eq _ _ _ _ _ _).symm.trans (by kernel_rfl)

set_option maxRecDepth 100000 in
theorem m_L_toSealed : ConOK Tryz.prog 8 c_L_toSealed := fn_ok (tyOK _) (E := mkE [(17, c_L_toCipherS), (18, c_L_toProofS), (19, c_L_toProof)]) (consOK_cons m_L_toCipherS (consOK_cons m_L_toProofS (consOK_cons m_L_toProof (consOK_nil rfl)))) Tryz.func8 (h := h_L_toSealed) (by kernel_rfl) eq_L_toSealed

/-- S_l1In -/
def pk_S_l1In : List PK := [.data (.int .i64), .data (.int .i64), .data (.int .i64)]
def rk_S_l1In : List (Ty × Bool) := [(.bool, false)]
def h_S_l1In : Hints := { loops := [] }
noncomputable def M_S_l1In (x : (Int × (Int × Int))) : (Option Bool) :=
  (cond (decide (x.1 ≥ x.2.1)) (some (decide (x.1 ≤ x.2.2))) (some false))

noncomputable def c_S_l1In : Con0 := ⟨pk_S_l1In, rk_S_l1In, M_S_l1In⟩

set_option maxRecDepth 100000 in
theorem eq_S_l1In (x : In pk_S_l1In) : semF (mkE []) h_S_l1In (info Tryz.f31) pk_S_l1In rk_S_l1In x = M_S_l1In x := (semFF_eq _ _ _ _ _ _).symm.trans (by kernel_rfl)

set_option maxRecDepth 100000 in
theorem m_S_l1In : ConOK Tryz.prog 31 c_S_l1In := fn_ok (tyOK _) (E := mkE []) (consOK_nil rfl) Tryz.func31 (h := h_S_l1In) (by kernel_rfl) eq_S_l1In

/-- S_nPower -/
def pk_S_nPower : List PK := [.data (.int .i64), .data (.int .i64), .data (.int .i64)]
def rk_S_nPower : List (Ty × Bool) := [((.int .i64), false)]
def h_S_nPower : Hints := { loops := [(0, { items := [.slot 0 (.data (.int .i64) []), .slot 1 (.data (.int .i64) []), .slot 7 (.data (.int .i64) [])], kill := sgN 3 4 ++ (sgN 8 20) })] }
noncomputable def M_S_nPower (x : (Int × (Int × Int))) : (Option Int) :=
  (bindO (guardO (x.2.2 != (0 : Int))) (fun (a0 : Unit) => (bindO (some (Int.tmod (1 : Int) x.2.2)) (fun (a1 : Int) => (loopO (fun (again2 : ((Int × (Int × Int)) → (Option Int))) => (fun (s3 : (Int × (Int × Int))) => (cond (decide (s3.2.1 > (0 : Int))) (bindO (guardO ((2 : Int) != (0 : Int))) (fun (a4 : Unit) => (bindO (some (Int.tmod s3.2.1 (2 : Int))) (fun (a5 : Int) => (cond (a5 == (1 : Int)) (bindO (some (IntKind.wrap .i64 (s3.2.2 * s3.1))) (fun (a6 : Int) => (bindO (guardO (x.2.2 != (0 : Int))) (fun (a7 : Unit) => (bindO (some (Int.tmod a6 x.2.2)) (fun (a8 : Int) => (bindO (some (IntKind.wrap .i64 (s3.1 * s3.1))) (fun (a9 : Int) => (bindO (guardO (x.2.2 != (0 : Int))) (fun (a10 : Unit) => (bindO (some (Int.tmod a9 x.2.2)) (fun (a11 : Int) => (bindO (guardO ((2 : Int) != (0 : Int))) (fun (a12 : Unit) => (bindO (some (IntKind.wrap .i64 (Int.tdiv s3.2.1 (2 : Int)))) (fun (a13 : Int) => (again2 (a11, (a13, a8))))))))))))))))))) (bindO (some (IntKind.wrap .i64 (s3.1 * s3.1))) (fun (a14 : Int) => (bindO (guardO (x.2.2 != (0 : Int))) (fun (a15 : Unit) => (bindO (some (Int.tmod a14 x.2.2)) (fun (a16 : Int) => (bindO (guardO ((2 : Int) != (0 : Int))) (fun (a17 : Unit) => (bindO (some (IntKind.wrap .i64 (Int.tdiv s3.2.1 (2 : Int)))) (fun (a18 : Int) => (again2 (a16, (a18, s3.2.2)))))))))))))))))) (some s3.2.2)))) (x.1, (x.2.1, a1)))))))

noncomputable def c_S_nPower : Con0 := ⟨pk_S_nPower, rk_S_nPower, M_S_nPower⟩

set_option maxRecDepth 100000 in
theorem eq_S_nPower (x : In pk_S_nPower) : semF (mkE []) h_S_nPower (info Tryz.f32) pk_S_nPower rk_S_nPower x = M_S_nPower x := (semFF_eq _ _ _ _ _ _).symm.trans (by kernel_rfl)

set_option maxRecDepth 100000 in
theorem m_S_nPower : ConOK Tryz.prog 32 c_S_nPower := fn_ok (tyOK _) (E := mkE []) (consOK_nil rfl) Tryz.func32 (h := h_S_nPower) (by kernel_rfl) eq_S_nPower

/-- S_nPrime -/
def pk_S_nPrime : List PK := [.data (.int .i64)]
def rk_S_nPrime : List (Ty × Bool) := [(.bool, false)]
def h_S_nPrime : Hints := { loops := [(0, { items := [.slot 3 (.data (.int .i64) [])], kill := [1, 2] ++ (sgN 4 13) })] }
noncomputable def M_S_nPrime (x : Int) : (Option Bool) :=
  (cond (decide (x < (2 : Int))) (some false) (loopO (fun (again0 : (Int → (Option Bool))) => (fun (s1 : Int) => (bindO (some (IntKind.wrap .i64 (s1 * s1))) (fun (a2 : Int) => (cond (decide (a2 ≤ x)) (bindO (guardO (s1 != (0 : Int))) (fun (a3 : Unit) => (bindO (some (Int.tmod x s1)) (fun (a4 : Int) => (cond (a4 == (0 : Int)) (some false) (bindO (some (IntKind.wrap .i64 (s1 + (1 : Int)))) (fun (a5 : Int) => (again0 a5)))))))) (some true)))))) (2 : Int)))

noncomputable def c_S_nPrime : Con0 := ⟨pk_S_nPrime, rk_S_nPrime, M_S_nPrime⟩

set_option maxRecDepth 100000 in
theorem eq_S_nPrime (x : In pk_S_nPrime) : semF (mkE []) h_S_nPrime (info Tryz.f62) pk_S_nPrime rk_S_nPrime x = M_S_nPrime x := (semFF_eq _ _ _ _ _ _).symm.trans (by kernel_rfl)

set_option maxRecDepth 100000 in
theorem m_S_nPrime : ConOK Tryz.prog 62 c_S_nPrime := fn_ok (tyOK _) (E := mkE []) (consOK_nil rfl) Tryz.func62 (h := h_S_nPrime) (by kernel_rfl) eq_S_nPrime

/-- S_l2Good -/
def pk_S_l2Good : List PK := [.data (.cons (.int .i64) (.cons (.int .i64) (.one (.int .i64))))]
def rk_S_l2Good : List (Ty × Bool) := [(.bool, false)]
def h_S_l2Good : Hints := { loops := [] }
noncomputable def M_S_l2Good (x : (Int × (Int × Int))) : (Option Bool) :=
  (bindO (M_S_l1In (x.1, ((3 : Int), (2000000000 : Int)))) (fun (a0 : Bool) => (cond a0 (bindO (some (IntKind.wrap .i64 (x.1 - (1 : Int)))) (fun (a1 : Int) => (bindO (M_S_l1In (x.2.1, ((2 : Int), a1))) (fun (a2 : Bool) => (cond a2 (bindO (some (IntKind.wrap .i64 (x.1 - (1 : Int)))) (fun (a3 : Int) => (bindO (guardO (x.2.1 != (0 : Int))) (fun (a4 : Unit) => (bindO (some (Int.tmod a3 x.2.1)) (fun (a5 : Int) => (cond (a5 == (0 : Int)) (bindO (some (IntKind.wrap .i64 (x.1 - (1 : Int)))) (fun (a6 : Int) => (bindO (M_S_l1In (x.2.2, ((2 : Int), a6))) (fun (a7 : Bool) => (cond a7 (bindO (M_S_nPower (x.2.2, (x.2.1, x.1))) (fun (a8 : Int) => (cond (a8 == (1 : Int)) (bindO (M_S_nPrime x.2.1) (fun (a9 : Bool) => (cond a9 (bindO (M_S_nPrime x.1) (fun (a10 : Bool) => (some a10))) (some false)))) (some false)))) (some false)))))) (some false)))))))) (some false)))))) (some false))))

noncomputable def c_S_l2Good : Con0 := ⟨pk_S_l2Good, rk_S_l2Good, M_S_l2Good⟩

set_option maxRecDepth 100000 in
theorem eq_S_l2Good (x : In pk_S_l2Good) : semF (mkE [(31, c_S_l1In), (32, c_S_nPower), (62, c_S_nPrime)]) h_S_l2Good (info Tryz.f27) pk_S_l2Good rk_S_l2Good x = M_S_l2Good x := (semFF_eq _ _ _ _ _ _).symm.trans (by kernel_rfl)

set_option maxRecDepth 100000 in
theorem m_S_l2Good : ConOK Tryz.prog 27 c_S_l2Good := fn_ok (tyOK _) (E := mkE [(31, c_S_l1In), (32, c_S_nPower), (62, c_S_nPrime)]) (consOK_cons m_S_l1In (consOK_cons m_S_nPower (consOK_cons m_S_nPrime (consOK_nil rfl)))) Tryz.func27 (h := h_S_l2Good) (by kernel_rfl) eq_S_l2Good

/-- S_vContest -/
def pk_S_vContest : List PK := [.data (.cons (.int .i64) (.cons (.int .i64) (.cons (.int .i64) (.cons (.int .i64) (.one (.int .i64))))))]
def rk_S_vContest : List (Ty × Bool) := [(.bool, false)]
def h_S_vContest : Hints := { loops := [] }
noncomputable def M_S_vContest (x : (Int × (Int × (Int × (Int × Int))))) : (Option Bool) :=
  (cond (decide (x.2.2.1 < (0 : Int))) (some false) (cond (decide (x.2.2.1 > x.2.2.2.1)) (some false) (cond (x.1 == (1 : Int)) (cond (x.1 == (1 : Int)) (bindO (M_S_l1In (x.2.1, ((1 : Int), (8 : Int)))) (fun (a0 : Bool) => (cond a0 (cond (decide (x.2.2.2.1 ≤ x.2.1)) (some (x.2.2.2.2 == (0 : Int))) (some false)) (some false)))) (cond (x.1 == (2 : Int)) (bindO (M_S_l1In (x.2.1, ((1 : Int), (8 : Int)))) (fun (a1 : Bool) => (cond a1 (bindO (M_S_l1In (x.2.2.2.2, ((1 : Int), (5 : Int)))) (fun (a2 : Bool) => (cond a2 (bindO (some (IntKind.wrap .i64 (x.2.1 * x.2.2.2.2))) (fun (a3 : Int) => (some (decide (x.2.2.2.1 ≤ a3))))) (some false)))) (some false)))) (cond (x.1 == (4 : Int)) (cond (x.2.1 == (0 : Int)) (cond (decide (x.2.2.2.1 ≤ (5 : Int))) (some (x.2.2.2.2 == (0 : Int))) (some false)) (some false)) (some false)))) (cond (x.1 == (3 : Int)) (bindO (M_S_l1In (x.2.1, ((1 : Int), (8 : Int)))) (fun (a4 : Bool) => (cond a4 (cond (decide (x.2.2.2.1 ≤ x.2.1)) (some (x.2.2.2.2 == (0 : Int))) (some false)) (some false)))) (cond (x.1 == (2 : Int)) (bindO (M_S_l1In (x.2.1, ((1 : Int), (8 : Int)))) (fun (a5 : Bool) => (cond a5 (bindO (M_S_l1In (x.2.2.2.2, ((1 : Int), (5 : Int)))) (fun (a6 : Bool) => (cond a6 (bindO (some (IntKind.wrap .i64 (x.2.1 * x.2.2.2.2))) (fun (a7 : Int) => (some (decide (x.2.2.2.1 ≤ a7))))) (some false)))) (some false)))) (cond (x.1 == (4 : Int)) (cond (x.2.1 == (0 : Int)) (cond (decide (x.2.2.2.1 ≤ (5 : Int))) (some (x.2.2.2.2 == (0 : Int))) (some false)) (some false)) (some false)))))))

noncomputable def c_S_vContest : Con0 := ⟨pk_S_vContest, rk_S_vContest, M_S_vContest⟩

set_option maxRecDepth 100000 in
theorem eq_S_vContest (x : In pk_S_vContest) : semF (mkE [(31, c_S_l1In)]) h_S_vContest (info Tryz.f28) pk_S_vContest rk_S_vContest x = M_S_vContest x := (semFF_eq _ _ _ _ _ _).symm.trans (by kernel_rfl)

set_option maxRecDepth 100000 in
theorem m_S_vContest : ConOK Tryz.prog 28 c_S_vContest := fn_ok (tyOK _) (E := mkE [(31, c_S_l1In)]) (consOK_cons m_S_l1In (consOK_nil rfl)) Tryz.func28 (h := h_S_vContest) (by kernel_rfl) eq_S_vContest

/-- S_l1Least -/
def pk_S_l1Least : List PK := [.data (.int .i64), .data (.int .i64)]
def rk_S_l1Least : List (Ty × Bool) := [((.int .i64), false)]
def h_S_l1Least : Hints := { loops := [] }
noncomputable def M_S_l1Least (x : (Int × Int)) : (Option Int) :=
  (cond (decide (x.1 < x.2)) (some x.1) (some x.2))

noncomputable def c_S_l1Least : Con0 := ⟨pk_S_l1Least, rk_S_l1Least, M_S_l1Least⟩

set_option maxRecDepth 100000 in
theorem eq_S_l1Least (x : In pk_S_l1Least) : semF (mkE []) h_S_l1Least (info Tryz.f63) pk_S_l1Least rk_S_l1Least x = M_S_l1Least x := (semFF_eq _ _ _ _ _ _).symm.trans (by kernel_rfl)

set_option maxRecDepth 100000 in
theorem m_S_l1Least : ConOK Tryz.prog 63 c_S_l1Least := fn_ok (tyOK _) (E := mkE []) (consOK_nil rfl) Tryz.func63 (h := h_S_l1Least) (by kernel_rfl) eq_S_l1Least

/-- S_vMarks -/
def pk_S_vMarks : List PK := [.data (.cons (.int .i64) (.cons (.int .i64) (.cons (.int .i64) (.cons (.int .i64) (.one (.int .i64)))))), .data (.sl (.int .i64))]
def rk_S_vMarks : List (Ty × Bool) := [((.sl (.int .i64)), true)]
def h_S_vMarks : Hints := { loops := [(0, { items := [.slot 13 (.data (.int .i64) []), .arr 5 (.int .i64) true], kill := sgN 0 5 ++ (sgN 6 5 ++ (sgN 14 8)) })] }
noncomputable def M_S_vMarks (x : ((Int × (Int × (Int × (Int × Int)))) × (List Int))) : (Option (List Int)) :=
  (bindO (guardO (((decide ((0 : Int) ≤ x.1.2.1)) && (decide (x.1.2.1 ≤ x.1.2.1))) && (decide (x.1.2.1 ≤ ((lim : Nat) : Int))))) (fun (a0 : Unit) => (loopO (fun (again1 : ((Int × (List Int)) → (Option (List Int)))) => (fun (s2 : (Int × (List Int))) => (cond (decide (s2.1 < (((List.length x.2) : Nat) : Int))) (bindO (getI x.2 s2.1) (fun (a3 : Int) => (bindO (getI s2.2 a3) (fun (a4 : Int) => (bindO (some (List.set s2.2 (Int.toNat a3) (1 : Int))) (fun (a5 : (List Int)) => (bindO (some (IntKind.wrap .i64 (s2.1 + (1 : Int)))) (fun (a6 : Int) => (again1 (a6, a5)))))))))) (some s2.2)))) ((0 : Int), (List.replicate (Int.toNat x.1.2.1) (0 : Int))))))

noncomputable def c_S_vMarks : Con0 := ⟨pk_S_vMarks, rk_S_vMarks, M_S_vMarks⟩

set_option maxRecDepth 100000 in
theorem eq_S_vMarks (x : In pk_S_vMarks) : semF (mkE []) h_S_vMarks (info Tryz.f93) pk_S_vMarks rk_S_vMarks x = M_S_vMarks x := (semFF_eq _ _ _ _ _ _).symm.trans (by kernel_rfl)

set_option maxRecDepth 100000 in
theorem m_S_vMarks : ConOK Tryz.prog 93 c_S_vMarks := fn_ok (tyOK _) (E := mkE []) (consOK_nil rfl) Tryz.func93 (h := h_S_vMarks) (by kernel_rfl) eq_S_vMarks

/-- S_vNumber -/
def pk_S_vNumber : List PK := [.data (.sl (.int .i64)), .data (.int .i64), .data (.int .i64)]
def rk_S_vNumber : List (Ty × Bool) := [((.int .i64), false)]
def h_S_vNumber : Hints := { loops := [(0, { items := [.slot 7 (.data (.int .i64) []), .slot 8 (.data (.int .i64) [])], kill := sgN 3 4 ++ (sgN 9 18) })] }
noncomputable def M_S_vNumber (x : ((List Int) × (Int × Int))) : (Option Int) :=
  (bindO (some (IntKind.wrap .i64 ((((List.length x.1) : Nat) : Int) - (1 : Int)))) (fun (a0 : Int) => (loopO (fun (again1 : ((Int × Int) → (Option Int))) => (fun (s2 : (Int × Int)) => (cond (decide (s2.2 ≥ (0 : Int))) (bindO (some (IntKind.wrap .i64 (s2.1 * x.2.1))) (fun (a3 : Int) => (bindO (getI x.1 s2.2) (fun (a4 : Int) => (bindO (some (IntKind.wrap .i64 (a3 + a4))) (fun (a5 : Int) => (bindO (some (IntKind.wrap .i64 (a5 + x.2.2))) (fun (a6 : Int) => (bindO (some (IntKind.wrap .i64 (s2.2 - (1 : Int)))) (fun (a7 : Int) => (again1 (a6, a7)))))))))))) (some s2.1)))) ((0 : Int), a0))))

noncomputable def c_S_vNumber : Con0 := ⟨pk_S_vNumber, rk_S_vNumber, M_S_vNumber⟩

set_option maxRecDepth 100000 in
theorem eq_S_vNumber (x : In pk_S_vNumber) : semF (mkE []) h_S_vNumber (info Tryz.f92) pk_S_vNumber rk_S_vNumber x = M_S_vNumber x := (semFF_eq _ _ _ _ _ _).symm.trans (by kernel_rfl)

set_option maxRecDepth 100000 in
theorem m_S_vNumber : ConOK Tryz.prog 92 c_S_vNumber := fn_ok (tyOK _) (E := mkE []) (consOK_nil rfl) Tryz.func92 (h := h_S_vNumber) (by kernel_rfl) eq_S_vNumber

/-- S_vCode -/
def pk_S_vCode : List PK := [.data (.cons (.int .i64) (.cons (.int .i64) (.cons (.int .i64) (.cons (.int .i64) (.one (.int .i64)))))), .data (.sl (.int .i64))]
def rk_S_vCode : List (Ty × Bool) := [((.int .i64), false)]
def h_S_vCode : Hints := { loops := [] }
noncomputable def M_S_vCode (x : ((Int × (Int × (Int × (Int × Int)))) × (List Int))) : (Option Int) :=
  (cond (x.1.1 == (1 : Int)) (bindO (M_S_vMarks ((x.1.1, (x.1.2.1, (x.1.2.2.1, (x.1.2.2.2.1, x.1.2.2.2.2)))), x.2)) (fun (a0 : (List Int)) => (bindO (M_S_vNumber (a0, ((2 : Int), (0 : Int)))) (fun (a1 : Int) => (some a1))))) (cond (x.1.1 == (2 : Int)) (bindO (some (IntKind.wrap .i64 (x.1.2.2.2.2 + (1 : Int)))) (fun (a2 : Int) => (bindO (M_S_vNumber (x.2, (a2, (0 : Int)))) (fun (a3 : Int) => (some a3))))) (cond (x.1.1 == (3 : Int)) (bindO (some (IntKind.wrap .i64 (x.1.2.1 + (1 : Int)))) (fun (a4 : Int) => (bindO (M_S_vNumber (x.2, (a4, (1 : Int)))) (fun (a5 : Int) => (some a5))))) (bindO (M_S_vNumber (x.2, ((27 : Int), (0 : Int)))) (fun (a6 : Int) => (some a6))))))

noncomputable def c_S_vCode : Con0 := ⟨pk_S_vCode, rk_S_vCode, M_S_vCode⟩

set_option maxRecDepth 100000 in
theorem eq_S_vCode (x : In pk_S_vCode) : semF (mkE [(93, c_S_vMarks), (92, c_S_vNumber)]) h_S_vCode (info Tryz.f64) pk_S_vCode rk_S_vCode x = M_S_vCode x := (semFF_eq _ _ _ _ _ _).symm.trans (by kernel_rfl)

set_option maxRecDepth 100000 in
theorem m_S_vCode : ConOK Tryz.prog 64 c_S_vCode := fn_ok (tyOK _) (E := mkE [(93, c_S_vMarks), (92, c_S_vNumber)]) (consOK_cons m_S_vMarks (consOK_cons m_S_vNumber (consOK_nil rfl))) Tryz.func64 (h := h_S_vCode) (by kernel_rfl) eq_S_vCode

/-- S_bGreatest -/
def pk_S_bGreatest : List PK := [.data (.cons (.int .i64) (.cons (.int .i64) (.cons (.int .i64) (.cons (.int .i64) (.one (.int .i64))))))]
def rk_S_bGreatest : List (Ty × Bool) := [((.int .i64), false)]
def h_S_bGreatest : Hints := { loops := [(3, { items := [.slot 3 (.own (.int .i64) true), .slot 4 (.data (.int .i64) [])], kill := [0, 2] ++ (sgN 5 79) }), (5, { items := [.slot 5 (.data (.int .i64) []), .slot 6 (.data (.int .i64) []), .arr 3 (.int .i64) true], kill := [0, 2, 4] ++ (sgN 7 77) }), (7, { items := [.slot 3 (.own (.int .i64) true), .slot 7 (.data (.int .i64) [])], kill := [0, 2, 4, 5, 6] ++ (sgN 8 76) }), (1, { items := [.slot 3 (.own (.int .i64) true), .slot 8 (.data (.int .i64) [])], kill := [0, 2] ++ (sgN 4 4 ++ (sgN 9 75)) })] }
noncomputable def M_S_bGreatest (x : (Int × (Int × (Int × (Int × Int))))) : (Option Int) :=
  (cond (x.1 == (1 : Int)) (bindO (some (IntKind.wrap .i64 (x.2.1 - x.2.2.2.1))) (fun (a0 : Int) => (loopO (fun (again1 : (((List Int) × Int) → (Option Int))) => (fun (s2 : ((List Int) × Int)) => (cond (decide (s2.2 < x.2.1)) (bindO (guardO (lenOk ((List.length s2.1) + (List.length (s2.2 :: ([] : List Int)))))) (fun (a3 : Unit) => (bindO (some (s2.1 ++ (s2.2 :: ([] : List Int)))) (fun (a4 : (List Int)) => (bindO (some (IntKind.wrap .i64 (s2.2 + (1 : Int)))) (fun (a5 : Int) => (again1 (a4, a5)))))))) (bindO (M_S_vCode ((x.1, (x.2.1, (x.2.2.1, (x.2.2.2.1, x.2.2.2.2)))), s2.1)) (fun (a6 : Int) => (some a6)))))) (([] : List Int), a0)))) (cond (x.1 == (2 : Int)) (bindO (guardO (((decide ((0 : Int) ≤ x.2.1)) && (decide (x.2.1 ≤ x.2.1))) && (decide (x.2.1 ≤ ((lim : Nat) : Int))))) (fun (a7 : Unit) => (bindO (some (IntKind.wrap .i64 (x.2.1 - (1 : Int)))) (fun (a8 : Int) => (loopO (fun (again9 : ((Int × (Int × (List Int))) → (Option Int))) => (fun (s10 : (Int × (Int × (List Int)))) => (cond (decide (s10.2.1 ≥ (0 : Int))) (bindO (M_S_l1Least (s10.1, x.2.2.2.2)) (fun (a11 : Int) => (bindO (getI s10.2.2 s10.2.1) (fun (a12 : Int) => (bindO (some (List.set s10.2.2 (Int.toNat s10.2.1) a11)) (fun (a13 : (List Int)) => (bindO (getI a13 s10.2.1) (fun (a14 : Int) => (bindO (some (IntKind.wrap .i64 (s10.1 - a14))) (fun (a15 : Int) => (bindO (some (IntKind.wrap .i64 (s10.2.1 - (1 : Int)))) (fun (a16 : Int) => (again9 (a15, (a16, a13))))))))))))))) (bindO (M_S_vCode ((x.1, (x.2.1, (x.2.2.1, (x.2.2.2.1, x.2.2.2.2)))), s10.2.2)) (fun (a17 : Int) => (some a17)))))) (x.2.2.2.1, (a8, (List.replicate (Int.toNat x.2.1) (0 : Int))))))))) (cond (x.1 == (3 : Int)) (bindO (some (IntKind.wrap .i64 (x.2.1 - x.2.2.2.1))) (fun (a18 : Int) => (loopO (fun (again19 : (((List Int) × Int) → (Option Int))) => (fun (s20 : ((List Int) × Int)) => (cond (decide (s20.2 < x.2.1)) (bindO (guardO (lenOk ((List.length s20.1) + (List.length (s20.2 :: ([] : List Int)))))) (fun (a21 : Unit) => (bindO (some (s20.1 ++ (s20.2 :: ([] : List Int)))) (fun (a22 : (List Int)) => (bindO (some (IntKind.wrap .i64 (s20.2 + (1 : Int)))) (fun (a23 : Int) => (again19 (a22, a23)))))))) (bindO (M_S_vCode ((x.1, (x.2.1, (x.2.2.1, (x.2.2.2.1, x.2.2.2.2)))), s20.1)) (fun (a24 : Int) => (some a24)))))) (([] : List Int), a18)))) (loopO (fun (again25 : (((List Int) × Int) → (Option Int))) => (fun (s26 : ((List Int) × Int)) => (cond (decide (s26.2 < x.2.2.2.1)) (bindO (guardO (lenOk ((List.length s26.1) + (List.length ((26 : Int) :: ([] : List Int)))))) (fun (a27 : Unit) => (bindO (some (s26.1 ++ ((26 : Int) :: ([] : List Int)))) (fun (a28 : (List Int)) => (bindO (some (IntKind.wrap .i64 (s26.2 + (1 : Int)))) (fun (a29 : Int) => (again25 (a28, a29)))))))) (bindO (M_S_vCode ((x.1, (x.2.1, (x.2.2.1, (x.2.2.2.1, x.2.2.2.2)))), s26.1)) (fun (a30 : Int) => (some a30)))))) (([] : List Int), (0 : Int))))))

noncomputable def c_S_bGreatest : Con0 := ⟨pk_S_bGreatest, rk_S_bGreatest, M_S_bGreatest⟩

set_option maxRecDepth 100000 in
theorem eq_S_bGreatest (x : In pk_S_bGreatest) : semF (mkE [(63, c_S_l1Least), (64, c_S_vCode)]) h_S_bGreatest (info Tryz.f29) pk_S_bGreatest rk_S_bGreatest x = M_S_bGreatest x := (semFF_eq _ _ _ _ _ _).symm.trans (by kernel_rfl)

set_option maxRecDepth 100000 in
theorem m_S_bGreatest : ConOK Tryz.prog 29 c_S_bGreatest := fn_ok (tyOK _) (E := mkE [(63, c_S_l1Least), (64, c_S_vCode)]) (consOK_cons m_S_l1Least (consOK_cons m_S_vCode (consOK_nil rfl))) Tryz.func29 (h := h_S_bGreatest) (by kernel_rfl) eq_S_bGreatest

/-- S_bRows -/
def pk_S_bRows : List PK := [.data (.cons (.int .i64) (.cons (.int .i64) (.cons (.int .i64) (.cons (.int .i64) (.one (.int .i64))))))]
def rk_S_bRows : List (Ty × Bool) := [(.bool, false)]
def h_S_bRows : Hints := { loops := [] }
noncomputable def M_S_bRows (x : (Int × (Int × (Int × (Int × Int))))) : (Option Bool) :=
  (cond (x.1 == (1 : Int)) (some true) (some (x.1 == (2 : Int))))

noncomputable def c_S_bRows : Con0 := ⟨pk_S_bRows, rk_S_bRows, M_S_bRows⟩

set_option maxRecDepth 100000 in
theorem eq_S_bRows (x : In pk_S_bRows) : semF (mkE []) h_S_bRows (info Tryz.f30) pk_S_bRows rk_S_bRows x = M_S_bRows x := (semFF_eq _ _ _ _ _ _).symm.trans (by kernel_rfl)

set_option maxRecDepth 100000 in
theorem m_S_bRows : ConOK Tryz.prog 30 c_S_bRows := fn_ok (tyOK _) (E := mkE []) (consOK_nil rfl) Tryz.func30 (h := h_S_bRows) (by kernel_rfl) eq_S_bRows

/-- S_bGood -/
def pk_S_bGood : List PK := [.data (.cons (.int .i64) (.cons (.int .i64) (.one (.int .i64)))), .data (.cons (.int .i64) (.cons (.int .i64) (.cons (.int .i64) (.cons (.int .i64) (.one (.int .i64))))))]
def rk_S_bGood : List (Ty × Bool) := [(.bool, false)]
def h_S_bGood : Hints := { loops := [] }
noncomputable def M_S_bGood (x : ((Int × (Int × Int)) × (Int × (Int × (Int × (Int × Int)))))) : (Option Bool) :=
  (bindO (M_S_l2Good (x.1.1, (x.1.2.1, x.1.2.2))) (fun (a0 : Bool) => (cond (not a0) (some false) (bindO (M_S_vContest (x.2.1, (x.2.2.1, (x.2.2.2.1, (x.2.2.2.2.1, x.2.2.2.2.2))))) (fun (a1 : Bool) => (cond (not a1) (some false) (bindO (M_S_bGreatest (x.2.1, (x.2.2.1, (x.2.2.2.1, (x.2.2.2.2.1, x.2.2.2.2.2))))) (fun (a2 : Int) => (cond (decide (a2 > (100000 : Int))) (some false) (bindO (M_S_bGreatest (x.2.1, (x.2.2.1, (x.2.2.2.1, (x.2.2.2.2.1, x.2.2.2.2.2))))) (fun (a3 : Int) => (cond (decide (a3 ≥ x.1.2.1)) (some false) (bindO (M_S_bRows (x.2.1, (x.2.2.1, (x.2.2.2.1, (x.2.2.2.2.1, x.2.2.2.2.2))))) (fun (a4 : Bool) => (cond (not a4) (some true) (bindO (some (IntKind.wrap .i64 (x.2.2.2.2.1 - x.2.2.2.1))) (fun (a5 : Int) => (cond (decide (a5 < (8 : Int))) (some (decide (x.2.2.2.2.1 < x.1.2.1))) (some false)))))))))))))))))))

noncomputable def c_S_bGood : Con0 := ⟨pk_S_bGood, rk_S_bGood, M_S_bGood⟩

set_option maxRecDepth 100000 in
theorem eq_S_bGood (x : In pk_S_bGood) : semF (mkE [(27, c_S_l2Good), (28, c_S_vContest), (29, c_S_bGreatest), (30, c_S_bRows)]) h_S_bGood (info Tryz.f14) pk_S_bGood rk_S_bGood x = M_S_bGood x := (semFF_eq _ _ _ _ _ _).symm.trans (by kernel_rfl)

set_option maxRecDepth 100000 in
theorem m_S_bGood : ConOK Tryz.prog 14 c_S_bGood := fn_ok (tyOK _) (E := mkE [(27, c_S_l2Good), (28, c_S_vContest), (29, c_S_bGreatest), (30, c_S_bRows)]) (consOK_cons m_S_l2Good (consOK_cons m_S_vContest (consOK_cons m_S_bGreatest (consOK_cons m_S_bRows (consOK_nil rfl))))) Tryz.func14 (h := h_S_bGood) (by kernel_rfl) eq_S_bGood

/-- S_gIs -/
def pk_S_gIs : List PK := [.data (.cons (.int .i64) (.cons (.int .i64) (.one (.int .i64)))), .data (.sl (.int .i64))]
def rk_S_gIs : List (Ty × Bool) := [(.bool, false)]
def h_S_gIs : Hints := { loops := [(0, { items := [.slot 9 (.data (.int .i64) [])], kill := [0, 1] ++ (sgN 3 4 ++ (sgN 10 19)) })] }
noncomputable def M_S_gIs (x : ((Int × (Int × Int)) × (List Int))) : (Option Bool) :=
  (loopO (fun (again0 : (Int → (Option Bool))) => (fun (s1 : Int) => (cond (decide (s1 < (((List.length x.2) : Nat) : Int))) (bindO (getI x.2 s1) (fun (a2 : Int) => (bindO (some (IntKind.wrap .i64 (x.1.1 - (1 : Int)))) (fun (a3 : Int) => (bindO (M_S_l1In (a2, ((1 : Int), a3))) (fun (a4 : Bool) => (cond (not a4) (some false) (bindO (M_S_nPower (a2, (x.1.2.1, x.1.1))) (fun (a5 : Int) => (cond (a5 != (1 : Int)) (some false) (bindO (some (IntKind.wrap .i64 (s1 + (1 : Int)))) (fun (a6 : Int) => (again0 a6))))))))))))) (some true)))) (0 : Int))

noncomputable def c_S_gIs : Con0 := ⟨pk_S_gIs, rk_S_gIs, M_S_gIs⟩

set_option maxRecDepth 100000 in
theorem eq_S_gIs (x : In pk_S_gIs) : semF (mkE [(31, c_S_l1In), (32, c_S_nPower)]) h_S_gIs (info Tryz.f15) pk_S_gIs rk_S_gIs x = M_S_gIs x := (semFF_eq _ _ _ _ _ _).symm.trans (by kernel_rfl)

set_option maxRecDepth 100000 in
theorem m_S_gIs : ConOK Tryz.prog 15 c_S_gIs := fn_ok (tyOK _) (E := mkE [(31, c_S_l1In), (32, c_S_nPower)]) (consOK_cons m_S_l1In (consOK_cons m_S_nPower (consOK_nil rfl))) Tryz.func15 (h := h_S_gIs) (by kernel_rfl) eq_S_gIs

/-- S_bWidth -/
def pk_S_bWidth : List PK := [.data (.cons (.int .i64) (.cons (.int .i64) (.cons (.int .i64) (.cons (.int .i64) (.one (.int .i64))))))]
def rk_S_bWidth : List (Ty × Bool) := [((.int .i64), false)]
def h_S_bWidth : Hints := { loops := [] }
noncomputable def M_S_bWidth (x : (Int × (Int × (Int × (Int × Int))))) : (Option Int) :=
  (bindO (M_S_bRows (x.1, (x.2.1, (x.2.2.1, (x.2.2.2.1, x.2.2.2.2))))) (fun (a0 : Bool) => (cond a0 (some x.2.1) (some (1 : Int)))))

noncomputable def c_S_bWidth : Con0 := ⟨pk_S_bWidth, rk_S_bWidth, M_S_bWidth⟩

set_option maxRecDepth 100000 in
theorem eq_S_bWidth (x : In pk_S_bWidth) : semF (mkE [(30, c_S_bRows)]) h_S_bWidth (info Tryz.f33) pk_S_bWidth rk_S_bWidth x = M_S_bWidth x := (semFF_eq _ _ _ _ _ _).symm.trans (by kernel_rfl)

set_option maxRecDepth 100000 in
theorem m_S_bWidth : ConOK Tryz.prog 33 c_S_bWidth := fn_ok (tyOK _) (E := mkE [(30, c_S_bRows)]) (consOK_cons m_S_bRows (consOK_nil rfl)) Tryz.func33 (h := h_S_bWidth) (by kernel_rfl) eq_S_bWidth

/-- S_eGood -/
def pk_S_eGood : List PK := [.data (.cons (.int .i64) (.cons (.int .i64) (.one (.int .i64)))), .data (.sl (.cons (.int .i64) (.one (.int .i64))))]
def rk_S_eGood : List (Ty × Bool) := [(.bool, false)]
def h_S_eGood : Hints := { loops := [(0, { items := [.slot 12 (.data (.int .i64) [])], kill := [0, 1] ++ (sgN 3 7 ++ (sgN 13 12)) })] }
noncomputable def M_S_eGood (x : ((Int × (Int × Int)) × (List (Int × Int)))) : (Option Bool) :=
  (cond (decide ((((List.length x.2) : Nat) : Int) > (24 : Int))) (some false) (loopO (fun (again0 : (Int → (Option Bool))) => (fun (s1 : Int) => (cond (decide (s1 < (((List.length x.2) : Nat) : Int))) (bindO (getI x.2 s1) (fun (a2 : (Int × Int)) => (bindO (M_S_gIs ((x.1.1, (x.1.2.1, x.1.2.2)), (a2.1 :: (a2.2 :: ([] : List Int))))) (fun (a3 : Bool) => (cond (not a3) (some false) (bindO (some (IntKind.wrap .i64 (s1 + (1 : Int)))) (fun (a4 : Int) => (again0 a4)))))))) (some true)))) (0 : Int)))

noncomputable def c_S_eGood : Con0 := ⟨pk_S_eGood, rk_S_eGood, M_S_eGood⟩

set_option maxRecDepth 100000 in
theorem eq_S_eGood (x : In pk_S_eGood) : semF (mkE [(15, c_S_gIs)]) h_S_eGood (info Tryz.f34) pk_S_eGood rk_S_eGood x = M_S_eGood x := (semFF_eq _ _ _ _ _ _).symm.trans (by kernel_rfl)

set_option maxRecDepth 100000 in
theorem m_S_eGood : ConOK Tryz.prog 34 c_S_eGood := fn_ok (tyOK _) (E := mkE [(15, c_S_gIs)]) (consOK_cons m_S_gIs (consOK_nil rfl)) Tryz.func34 (h := h_S_eGood) (by kernel_rfl) eq_S_eGood

/-- S_l1Num -/
def pk_S_l1Num : List PK := [.data (.int .i64)]
def rk_S_l1Num : List (Ty × Bool) := [(.str, false)]
def h_S_l1Num : Hints := { loops := [] }
noncomputable def R_S_l1Num : Nat → Int → (Option ByteArray)
  | 0, _ => none
  | n + 1, x => (cond (decide (x < (10 : Int))) (bindO (some (IntKind.wrap .i64 ((48 : Int) + x))) (fun (a0 : Int) => (some (strOf ((IntKind.wrap .u8 a0) :: ([] : List Int)))))) (bindO (guardO ((10 : Int) != (0 : Int))) (fun (a1 : Unit) => (bindO (some (IntKind.wrap .i64 (Int.tdiv x (10 : Int)))) (fun (a2 : Int) => (bindO (R_S_l1Num n a2) (fun (a3 : ByteArray) => (bindO (guardO ((10 : Int) != (0 : Int))) (fun (a4 : Unit) => (bindO (some (Int.tmod x (10 : Int))) (fun (a5 : Int) => (bindO (some (IntKind.wrap .i64 ((48 : Int) + a5))) (fun (a6 : Int) => (bindO (guardO (lenOk ((ByteArray.size a3) + (ByteArray.size (strOf ((IntKind.wrap .u8 a6) :: ([] : List Int))))))) (fun (a7 : Unit) => (some (a3 ++ (strOf ((IntKind.wrap .u8 a6) :: ([] : List Int))))))))))))))))))))

noncomputable def M_S_l1Num (x : Int) : (Option ByteArray) := limO R_S_l1Num x

noncomputable def c_S_l1Num : Con0 := ⟨pk_S_l1Num, rk_S_l1Num, M_S_l1Num⟩

set_option maxRecDepth 100000 in
theorem eq_S_l1Num (n : Nat) (x : In pk_S_l1Num) : semF (mkE ((65, ⟨pk_S_l1Num, rk_S_l1Num, R_S_l1Num n⟩) :: [])) h_S_l1Num (info Tryz.f65) pk_S_l1Num rk_S_l1Num x = R_S_l1Num (n + 1) x := (semFF_eq _ _ _ _ _ _).symm.trans (by kernel_rfl)

set_option maxRecDepth 100000 in
theorem mR_S_l1Num : ∀ n, ConOK Tryz.prog 65 ⟨pk_S_l1Num, rk_S_l1Num, R_S_l1Num n⟩
  | 0 => conOK_none Tryz.func65 (h := h_S_l1Num) (by kernel_rfl)
  | n + 1 => fn_ok (tyOK _) (E := mkE ((65, ⟨pk_S_l1Num, rk_S_l1Num, R_S_l1Num n⟩) :: [])) (consOK_cons (mR_S_l1Num n) (consOK_nil rfl)) Tryz.func65 (h := h_S_l1Num) (by kernel_rfl) (eq_S_l1Num n)

theorem m_S_l1Num : ConOK Tryz.prog 65 c_S_l1Num := conOK_lim mR_S_l1Num

/-- S_bLabel -/
def pk_S_bLabel : List PK := [.data (.int .i64)]
def rk_S_bLabel : List (Ty × Bool) := [(.str, false)]
def h_S_bLabel : Hints := { loops := [] }
noncomputable def M_S_bLabel (x : Int) : (Option ByteArray) :=
  (bindO (M_S_l1Num x) (fun (a0 : ByteArray) => (bindO (guardO (lenOk ((ByteArray.size (bytesOf [98, 97, 108, 108, 111, 116, 32])) + (ByteArray.size a0)))) (fun (a1 : Unit) => (some ((bytesOf [98, 97, 108, 108, 111, 116, 32]) ++ a0))))))

noncomputable def c_S_bLabel : Con0 := ⟨pk_S_bLabel, rk_S_bLabel, M_S_bLabel⟩

set_option maxRecDepth 100000 in
theorem eq_S_bLabel (x : In pk_S_bLabel) : semF (mkE [(65, c_S_l1Num)]) h_S_bLabel (info Tryz.f35) pk_S_bLabel rk_S_bLabel x = M_S_bLabel x := (semFF_eq _ _ _ _ _ _).symm.trans (by kernel_rfl)

set_option maxRecDepth 100000 in
theorem m_S_bLabel : ConOK Tryz.prog 35 c_S_bLabel := fn_ok (tyOK _) (E := mkE [(65, c_S_l1Num)]) (consOK_cons m_S_l1Num (consOK_nil rfl)) Tryz.func35 (h := h_S_bLabel) (by kernel_rfl) eq_S_bLabel

/-- S_l1All -/
def pk_S_l1All : List PK := [.data (.sl (.int .i64)), .data (.int .i64), .data (.int .i64)]
def rk_S_l1All : List (Ty × Bool) := [(.bool, false)]
def h_S_l1All : Hints := { loops := [(0, { items := [.slot 11 (.data (.int .i64) [])], kill := [0] ++ (sgN 3 6 ++ (sgN 12 9)) })] }
noncomputable def M_S_l1All (x : ((List Int) × (Int × Int))) : (Option Bool) :=
  (loopO (fun (again0 : (Int → (Option Bool))) => (fun (s1 : Int) => (cond (decide (s1 < (((List.length x.1) : Nat) : Int))) (bindO (getI x.1 s1) (fun (a2 : Int) => (bindO (M_S_l1In (a2, (x.2.1, x.2.2))) (fun (a3 : Bool) => (cond (not a3) (some false) (bindO (some (IntKind.wrap .i64 (s1 + (1 : Int)))) (fun (a4 : Int) => (again0 a4)))))))) (some true)))) (0 : Int))

noncomputable def c_S_l1All : Con0 := ⟨pk_S_l1All, rk_S_l1All, M_S_l1All⟩

set_option maxRecDepth 100000 in
theorem eq_S_l1All (x : In pk_S_l1All) : semF (mkE [(31, c_S_l1In)]) h_S_l1All (info Tryz.f94) pk_S_l1All rk_S_l1All x = M_S_l1All x := (semFF_eq _ _ _ _ _ _).symm.trans (by kernel_rfl)

set_option maxRecDepth 100000 in
theorem m_S_l1All : ConOK Tryz.prog 94 c_S_l1All := fn_ok (tyOK _) (E := mkE [(31, c_S_l1In)]) (consOK_cons m_S_l1In (consOK_nil rfl)) Tryz.func94 (h := h_S_l1All) (by kernel_rfl) eq_S_l1All

/-- S_gExps -/
def pk_S_gExps : List PK := [.data (.cons (.int .i64) (.cons (.int .i64) (.one (.int .i64)))), .data (.sl (.int .i64))]
def rk_S_gExps : List (Ty × Bool) := [(.bool, false)]
def h_S_gExps : Hints := { loops := [] }
noncomputable def M_S_gExps (x : ((Int × (Int × Int)) × (List Int))) : (Option Bool) :=
  (bindO (some (IntKind.wrap .i64 (x.1.2.1 - (1 : Int)))) (fun (a0 : Int) => (bindO (M_S_l1All (x.2, ((0 : Int), a0))) (fun (a1 : Bool) => (some a1)))))

noncomputable def c_S_gExps : Con0 := ⟨pk_S_gExps, rk_S_gExps, M_S_gExps⟩

set_option maxRecDepth 100000 in
theorem eq_S_gExps (x : In pk_S_gExps) : semF (mkE [(94, c_S_l1All)]) h_S_gExps (info Tryz.f66) pk_S_gExps rk_S_gExps x = M_S_gExps x := (semFF_eq _ _ _ _ _ _).symm.trans (by kernel_rfl)

set_option maxRecDepth 100000 in
theorem m_S_gExps : ConOK Tryz.prog 66 c_S_gExps := fn_ok (tyOK _) (E := mkE [(94, c_S_l1All)]) (consOK_cons m_S_l1All (consOK_nil rfl)) Tryz.func66 (h := h_S_gExps) (by kernel_rfl) eq_S_gExps

/-- S_sStatement -/
def pk_S_sStatement : List PK := [.data (.sl (.sl (.int .i64))), .data (.sl (.int .i64)), .data (.sl (.int .i64))]
def rk_S_sStatement : List (Ty × Bool) := [((.sl (.int .i64)), true)]
def h_S_sStatement : Hints := { loops := [(0, { items := [.slot 7 (.own (.int .i64) true), .slot 12 (.data (.int .i64) [])], kill := [0] ++ (sgN 3 4 ++ ([8, 9] ++ (sgN 13 12))) })] }
noncomputable def M_S_sStatement (x : ((List (List Int)) × ((List Int) × (List Int)))) : (Option (List Int)) :=
  (loopO (fun (again0 : (((List Int) × Int) → (Option (List Int)))) => (fun (s1 : ((List Int) × Int)) => (cond (decide (s1.2 < (((List.length x.1) : Nat) : Int))) (bindO (getI x.1 s1.2) (fun (a2 : (List Int)) => (bindO (guardO (lenOk ((List.length s1.1) + (List.length a2)))) (fun (a3 : Unit) => (bindO (some (s1.1 ++ a2)) (fun (a4 : (List Int)) => (bindO (some (IntKind.wrap .i64 (s1.2 + (1 : Int)))) (fun (a5 : Int) => (again0 (a4, a5)))))))))) (bindO (guardO (lenOk ((List.length s1.1) + (List.length x.2.1)))) (fun (a6 : Unit) => (bindO (some (s1.1 ++ x.2.1)) (fun (a7 : (List Int)) => (bindO (guardO (lenOk ((List.length a7) + (List.length x.2.2)))) (fun (a8 : Unit) => (bindO (some (a7 ++ x.2.2)) (fun (a9 : (List Int)) => (some a9)))))))))))) (([] : List Int), (0 : Int)))

noncomputable def c_S_sStatement : Con0 := ⟨pk_S_sStatement, rk_S_sStatement, M_S_sStatement⟩

set_option maxRecDepth 100000 in
theorem eq_S_sStatement (x : In pk_S_sStatement) : semF (mkE []) h_S_sStatement (info Tryz.f68) pk_S_sStatement rk_S_sStatement x = M_S_sStatement x := (semFF_eq _ _ _ _ _ _).symm.trans (by kernel_rfl)

set_option maxRecDepth 100000 in
theorem m_S_sStatement : ConOK Tryz.prog 68 c_S_sStatement := fn_ok (tyOK _) (E := mkE []) (consOK_nil rfl) Tryz.func68 (h := h_S_sStatement) (by kernel_rfl) eq_S_sStatement

/-- S_l3With -/
def pk_S_l3With : List PK := [.data .str, .data (.sl (.int .i64))]
def rk_S_l3With : List (Ty × Bool) := [((.sl (.int .i64)), true)]
def h_S_l3With : Hints := { loops := [(0, { items := [.slot 5 (.own (.int .i64) true), .slot 6 (.data (.int .i64) [])], kill := [2, 3, 4] ++ (sgN 7 19) })] }
noncomputable def M_S_l3With (x : (ByteArray × (List Int))) : (Option (List Int)) :=
  (loopO (fun (again0 : (((List Int) × Int) → (Option (List Int)))) => (fun (s1 : ((List Int) × Int)) => (cond (decide (s1.2 < (((ByteArray.size x.1) : Nat) : Int))) (bindO (if ((0 : Int) ≤ s1.2) then (x.1[(Int.toNat s1.2)]?) else (none : Option (UInt8))) (fun (a2 : (UInt8)) => (bindO (guardO (lenOk ((List.length s1.1) + (List.length ((IntKind.wrap .i64 (((UInt8.toNat a2) : Nat) : Int)) :: ([] : List Int)))))) (fun (a3 : Unit) => (bindO (some (s1.1 ++ ((IntKind.wrap .i64 (((UInt8.toNat a2) : Nat) : Int)) :: ([] : List Int)))) (fun (a4 : (List Int)) => (bindO (some (IntKind.wrap .i64 (s1.2 + (1 : Int)))) (fun (a5 : Int) => (again0 (a4, a5)))))))))) (bindO (guardO (lenOk ((List.length s1.1) + (List.length x.2)))) (fun (a6 : Unit) => (bindO (some (s1.1 ++ x.2)) (fun (a7 : (List Int)) => (some a7)))))))) (((((ByteArray.size x.1) : Nat) : Int) :: ([] : List Int)), (0 : Int)))

noncomputable def c_S_l3With : Con0 := ⟨pk_S_l3With, rk_S_l3With, M_S_l3With⟩

set_option maxRecDepth 100000 in
theorem eq_S_l3With (x : In pk_S_l3With) : semF (mkE []) h_S_l3With (info Tryz.f108) pk_S_l3With rk_S_l3With x = M_S_l3With x := (semFF_eq _ _ _ _ _ _).symm.trans (by kernel_rfl)

set_option maxRecDepth 100000 in
theorem m_S_l3With : ConOK Tryz.prog 108 c_S_l3With := fn_ok (tyOK _) (E := mkE []) (consOK_nil rfl) Tryz.func108 (h := h_S_l3With) (by kernel_rfl) eq_S_l3With

/-- S_l3State_absorb -/
def pk_S_l3State_absorb : List PK := [.mp (.cons (.int .i64) (.one (.int .i64))) false, .data (.int .i64)]
def rk_S_l3State_absorb : List (Ty × Bool) := []
def h_S_l3State_absorb : Hints := { loops := [(0, { items := [.slot 12 (.data (.int .i64) []), .cell 0 0 (.data (.int .i64) []), .cell 0 1 (.data (.int .i64) [])], kill := sgN 1 9 ++ (sgN 13 28) })] }
noncomputable def M_S_l3State_absorb (x : ((Int × Int) × Int)) : (Option (Int × Int)) :=
  (bindO (guardO ((2147483648 : Int) != (0 : Int))) (fun (a0 : Unit) => (bindO (some (Int.tmod x.2 (2147483648 : Int))) (fun (a1 : Int) => (bindO (guardO ((2147483648 : Int) != (0 : Int))) (fun (a2 : Unit) => (bindO (some (IntKind.wrap .i64 (Int.tdiv x.2 (2147483648 : Int)))) (fun (a3 : Int) => (loopO (fun (again4 : ((Int × (Int × Int)) → (Option (Int × Int)))) => (fun (s5 : (Int × (Int × Int))) => (cond (decide (s5.1 < (((List.length (a1 :: (a3 :: ([] : List Int)))) : Nat) : Int))) (bindO (getI (a1 :: (a3 :: ([] : List Int))) s5.1) (fun (a6 : Int) => (bindO (some (IntKind.wrap .i64 ((48271 : Int) * s5.2.1))) (fun (a7 : Int) => (bindO (some (IntKind.wrap .i64 (a7 + a6))) (fun (a8 : Int) => (bindO (some (IntKind.wrap .i64 (a8 + (1 : Int)))) (fun (a9 : Int) => (bindO (guardO ((2147483647 : Int) != (0 : Int))) (fun (a10 : Unit) => (bindO (some (Int.tmod a9 (2147483647 : Int))) (fun (a11 : Int) => (bindO (some (IntKind.wrap .i64 ((69621 : Int) * s5.2.2))) (fun (a12 : Int) => (bindO (some (IntKind.wrap .i64 (a12 + a6))) (fun (a13 : Int) => (bindO (some (IntKind.wrap .i64 (a13 + (1 : Int)))) (fun (a14 : Int) => (bindO (guardO ((2147483647 : Int) != (0 : Int))) (fun (a15 : Unit) => (bindO (some (Int.tmod a14 (2147483647 : Int))) (fun (a16 : Int) => (bindO (some (IntKind.wrap .i64 (s5.1 + (1 : Int)))) (fun (a17 : Int) => (again4 (a17, (a11, a16))))))))))))))))))))))))))) (some (s5.2.1, s5.2.2))))) ((0 : Int), (x.1.1, x.1.2)))))))))))

noncomputable def c_S_l3State_absorb : Con0 := ⟨pk_S_l3State_absorb, rk_S_l3State_absorb, M_S_l3State_absorb⟩

set_option maxRecDepth 100000 in
theorem eq_S_l3State_absorb (x : In pk_S_l3State_absorb) : semF (mkE []) h_S_l3State_absorb (info Tryz.f114) pk_S_l3State_absorb rk_S_l3State_absorb x = M_S_l3State_absorb x := (semFF_eq _ _ _ _ _ _).symm.trans (by kernel_rfl)

set_option maxRecDepth 100000 in
theorem m_S_l3State_absorb : ConOK Tryz.prog 114 c_S_l3State_absorb := fn_ok (tyOK _) (E := mkE []) (consOK_nil rfl) Tryz.func114 (h := h_S_l3State_absorb) (by kernel_rfl) eq_S_l3State_absorb

/-- S_hInts -/
def pk_S_hInts : List PK := [.data (.sl (.int .i64))]
def rk_S_hInts : List (Ty × Bool) := [((.int .i64), false)]
def h_S_hInts : Hints := { loops := [(0, { items := [.slot 14 (.data (.int .i64) []), .cell 7 0 (.data (.int .i64) []), .cell 7 1 (.data (.int .i64) [])], kill := [0, 1, 2, 4, 5, 6] ++ (sgN 8 4 ++ (sgN 15 17)) })] }
noncomputable def M_S_hInts (x : (List Int)) : (Option Int) :=
  (bindO (M_S_l3State_absorb (((1 : Int), (2 : Int)), (((List.length x) : Nat) : Int))) (fun (a0 : (Int × Int)) => (loopO (fun (again1 : ((Int × (Int × Int)) → (Option Int))) => (fun (s2 : (Int × (Int × Int))) => (cond (decide (s2.1 < (((List.length x) : Nat) : Int))) (bindO (getI x s2.1) (fun (a3 : Int) => (bindO (M_S_l3State_absorb ((s2.2.1, s2.2.2), a3)) (fun (a4 : (Int × Int)) => (bindO (some (IntKind.wrap .i64 (s2.1 + (1 : Int)))) (fun (a5 : Int) => (again1 (a5, (a4.1, a4.2))))))))) (bindO (some (IntKind.wrap .i64 (s2.2.1 * (2147483648 : Int)))) (fun (a6 : Int) => (bindO (some (IntKind.wrap .i64 (a6 + s2.2.2))) (fun (a7 : Int) => (some a7)))))))) ((0 : Int), (a0.1, a0.2)))))

noncomputable def c_S_hInts : Con0 := ⟨pk_S_hInts, rk_S_hInts, M_S_hInts⟩

set_option maxRecDepth 100000 in
theorem eq_S_hInts (x : In pk_S_hInts) : semF (mkE [(114, c_S_l3State_absorb)]) h_S_hInts (info Tryz.f107) pk_S_hInts rk_S_hInts x = M_S_hInts x := (semFF_eq _ _ _ _ _ _).symm.trans (by kernel_rfl)

set_option maxRecDepth 100000 in
theorem m_S_hInts : ConOK Tryz.prog 107 c_S_hInts := fn_ok (tyOK _) (E := mkE [(114, c_S_l3State_absorb)]) (consOK_cons m_S_l3State_absorb (consOK_nil rfl)) Tryz.func107 (h := h_S_hInts) (by kernel_rfl) eq_S_hInts

/-- S_hLabelled -/
def pk_S_hLabelled : List PK := [.data .str, .data (.sl (.int .i64))]
def rk_S_hLabelled : List (Ty × Bool) := [((.int .i64), false)]
def h_S_hLabelled : Hints := { loops := [] }
noncomputable def M_S_hLabelled (x : (ByteArray × (List Int))) : (Option Int) :=
  (bindO (M_S_l3With (x.1, x.2)) (fun (a0 : (List Int)) => (bindO (M_S_hInts a0) (fun (a1 : Int) => (some a1)))))

noncomputable def c_S_hLabelled : Con0 := ⟨pk_S_hLabelled, rk_S_hLabelled, M_S_hLabelled⟩

set_option maxRecDepth 100000 in
theorem eq_S_hLabelled (x : In pk_S_hLabelled) : semF (mkE [(108, c_S_l3With), (107, c_S_hInts)]) h_S_hLabelled (info Tryz.f95) pk_S_hLabelled rk_S_hLabelled x = M_S_hLabelled x := (semFF_eq _ _ _ _ _ _).symm.trans (by kernel_rfl)

set_option maxRecDepth 100000 in
theorem m_S_hLabelled : ConOK Tryz.prog 95 c_S_hLabelled := fn_ok (tyOK _) (E := mkE [(108, c_S_l3With), (107, c_S_hInts)]) (consOK_cons m_S_l3With (consOK_cons m_S_hInts (consOK_nil rfl))) Tryz.func95 (h := h_S_hLabelled) (by kernel_rfl) eq_S_hLabelled

/-- S_hChallenge -/
def pk_S_hChallenge : List PK := [.data (.cons (.int .i64) (.cons (.int .i64) (.one (.int .i64)))), .data .str, .data (.sl (.int .i64))]
def rk_S_hChallenge : List (Ty × Bool) := [((.int .i64), false)]
def h_S_hChallenge : Hints := { loops := [] }
noncomputable def M_S_hChallenge (x : ((Int × (Int × Int)) × (ByteArray × (List Int)))) : (Option Int) :=
  (bindO (guardO (lenOk ((List.length (x.1.1 :: (x.1.2.1 :: (x.1.2.2 :: ([] : List Int))))) + (List.length x.2.2)))) (fun (a0 : Unit) => (bindO (some ((x.1.1 :: (x.1.2.1 :: (x.1.2.2 :: ([] : List Int)))) ++ x.2.2)) (fun (a1 : (List Int)) => (bindO (M_S_hLabelled (x.2.1, a1)) (fun (a2 : Int) => (bindO (guardO (x.1.2.1 != (0 : Int))) (fun (a3 : Unit) => (bindO (some (Int.tmod a2 x.1.2.1)) (fun (a4 : Int) => (some a4)))))))))))

noncomputable def c_S_hChallenge : Con0 := ⟨pk_S_hChallenge, rk_S_hChallenge, M_S_hChallenge⟩

set_option maxRecDepth 100000 in
theorem eq_S_hChallenge (x : In pk_S_hChallenge) : semF (mkE [(95, c_S_hLabelled)]) h_S_hChallenge (info Tryz.f67) pk_S_hChallenge rk_S_hChallenge x = M_S_hChallenge x := (semFF_eq _ _ _ _ _ _).symm.trans (by kernel_rfl)

set_option maxRecDepth 100000 in
theorem m_S_hChallenge : ConOK Tryz.prog 67 c_S_hChallenge := fn_ok (tyOK _) (E := mkE [(95, c_S_hLabelled)]) (consOK_cons m_S_hLabelled (consOK_nil rfl)) Tryz.func67 (h := h_S_hChallenge) (by kernel_rfl) eq_S_hChallenge

/-- S_nMod -/
def pk_S_nMod : List PK := [.data (.int .i64), .data (.int .i64)]
def rk_S_nMod : List (Ty × Bool) := [((.int .i64), false)]
def h_S_nMod : Hints := { loops := [] }
noncomputable def M_S_nMod (x : (Int × Int)) : (Option Int) :=
  (bindO (guardO (x.2 != (0 : Int))) (fun (a0 : Unit) => (bindO (some (Int.tmod x.1 x.2)) (fun (a1 : Int) => (bindO (some (IntKind.wrap .i64 (a1 + x.2))) (fun (a2 : Int) => (bindO (guardO (x.2 != (0 : Int))) (fun (a3 : Unit) => (bindO (some (Int.tmod a2 x.2)) (fun (a4 : Int) => (some a4)))))))))))

noncomputable def c_S_nMod : Con0 := ⟨pk_S_nMod, rk_S_nMod, M_S_nMod⟩

set_option maxRecDepth 100000 in
theorem eq_S_nMod (x : In pk_S_nMod) : semF (mkE []) h_S_nMod (info Tryz.f96) pk_S_nMod rk_S_nMod x = M_S_nMod x := (semFF_eq _ _ _ _ _ _).symm.trans (by kernel_rfl)

set_option maxRecDepth 100000 in
theorem m_S_nMod : ConOK Tryz.prog 96 c_S_nMod := fn_ok (tyOK _) (E := mkE []) (consOK_nil rfl) Tryz.func96 (h := h_S_nMod) (by kernel_rfl) eq_S_nMod

/-- S_gExp -/
def pk_S_gExp : List PK := [.data (.cons (.int .i64) (.cons (.int .i64) (.one (.int .i64)))), .data (.int .i64), .data (.int .i64)]
def rk_S_gExp : List (Ty × Bool) := [((.int .i64), false)]
def h_S_gExp : Hints := { loops := [] }
noncomputable def M_S_gExp (x : ((Int × (Int × Int)) × (Int × Int))) : (Option Int) :=
  (bindO (M_S_nMod (x.2.2, x.1.2.1)) (fun (a0 : Int) => (bindO (M_S_nPower (x.2.1, (a0, x.1.1))) (fun (a1 : Int) => (some a1)))))

noncomputable def c_S_gExp : Con0 := ⟨pk_S_gExp, rk_S_gExp, M_S_gExp⟩

set_option maxRecDepth 100000 in
theorem eq_S_gExp (x : In pk_S_gExp) : semF (mkE [(96, c_S_nMod), (32, c_S_nPower)]) h_S_gExp (info Tryz.f71) pk_S_gExp rk_S_gExp x = M_S_gExp x := (semFF_eq _ _ _ _ _ _).symm.trans (by kernel_rfl)

set_option maxRecDepth 100000 in
theorem m_S_gExp : ConOK Tryz.prog 71 c_S_gExp := fn_ok (tyOK _) (E := mkE [(96, c_S_nMod), (32, c_S_nPower)]) (consOK_cons m_S_nMod (consOK_cons m_S_nPower (consOK_nil rfl))) Tryz.func71 (h := h_S_gExp) (by kernel_rfl) eq_S_gExp

/-- S_gProd -/
def pk_S_gProd : List PK := [.data (.cons (.int .i64) (.cons (.int .i64) (.one (.int .i64)))), .data (.sl (.int .i64)), .data (.sl (.int .i64))]
def rk_S_gProd : List (Ty × Bool) := [((.int .i64), false)]
def h_S_gProd : Hints := { loops := [(0, { items := [.slot 7 (.data (.int .i64) []), .slot 12 (.data (.int .i64) [])], kill := [0, 1, 4, 5, 6, 8, 9] ++ (sgN 13 18) })] }
noncomputable def M_S_gProd (x : ((Int × (Int × Int)) × ((List Int) × (List Int)))) : (Option Int) :=
  (loopO (fun (again0 : ((Int × Int) → (Option Int))) => (fun (s1 : (Int × Int)) => (cond (decide (s1.2 < (((List.length x.2.1) : Nat) : Int))) (bindO (getI x.2.1 s1.2) (fun (a2 : Int) => (bindO (getI x.2.2 s1.2) (fun (a3 : Int) => (bindO (M_S_gExp ((x.1.1, (x.1.2.1, x.1.2.2)), (a2, a3))) (fun (a4 : Int) => (bindO (some (IntKind.wrap .i64 (s1.1 * a4))) (fun (a5 : Int) => (bindO (guardO (x.1.1 != (0 : Int))) (fun (a6 : Unit) => (bindO (some (Int.tmod a5 x.1.1)) (fun (a7 : Int) => (bindO (some (IntKind.wrap .i64 (s1.2 + (1 : Int)))) (fun (a8 : Int) => (again0 (a7, a8)))))))))))))))) (some s1.1)))) ((1 : Int), (0 : Int)))

noncomputable def c_S_gProd : Con0 := ⟨pk_S_gProd, rk_S_gProd, M_S_gProd⟩

set_option maxRecDepth 100000 in
theorem eq_S_gProd (x : In pk_S_gProd) : semF (mkE [(71, c_S_gExp)]) h_S_gProd (info Tryz.f69) pk_S_gProd rk_S_gProd x = M_S_gProd x := (semFF_eq _ _ _ _ _ _).symm.trans (by kernel_rfl)

set_option maxRecDepth 100000 in
theorem m_S_gProd : ConOK Tryz.prog 69 c_S_gProd := fn_ok (tyOK _) (E := mkE [(71, c_S_gExp)]) (consOK_cons m_S_gExp (consOK_nil rfl)) Tryz.func69 (h := h_S_gProd) (by kernel_rfl) eq_S_gProd

/-- S_gMul -/
def pk_S_gMul : List PK := [.data (.cons (.int .i64) (.cons (.int .i64) (.one (.int .i64)))), .data (.sl (.int .i64))]
def rk_S_gMul : List (Ty × Bool) := [((.int .i64), false)]
def h_S_gMul : Hints := { loops := [(0, { items := [.slot 5 (.data (.int .i64) []), .slot 10 (.data (.int .i64) [])], kill := [0, 1, 3, 4, 6, 7] ++ (sgN 11 11) })] }
noncomputable def M_S_gMul (x : ((Int × (Int × Int)) × (List Int))) : (Option Int) :=
  (loopO (fun (again0 : ((Int × Int) → (Option Int))) => (fun (s1 : (Int × Int)) => (cond (decide (s1.2 < (((List.length x.2) : Nat) : Int))) (bindO (getI x.2 s1.2) (fun (a2 : Int) => (bindO (some (IntKind.wrap .i64 (s1.1 * a2))) (fun (a3 : Int) => (bindO (guardO (x.1.1 != (0 : Int))) (fun (a4 : Unit) => (bindO (some (Int.tmod a3 x.1.1)) (fun (a5 : Int) => (bindO (some (IntKind.wrap .i64 (s1.2 + (1 : Int)))) (fun (a6 : Int) => (again0 (a5, a6)))))))))))) (some s1.1)))) ((1 : Int), (0 : Int)))

noncomputable def c_S_gMul : Con0 := ⟨pk_S_gMul, rk_S_gMul, M_S_gMul⟩

set_option maxRecDepth 100000 in
theorem eq_S_gMul (x : In pk_S_gMul) : semF (mkE []) h_S_gMul (info Tryz.f70) pk_S_gMul rk_S_gMul x = M_S_gMul x := (semFF_eq _ _ _ _ _ _).symm.trans (by kernel_rfl)

set_option maxRecDepth 100000 in
theorem m_S_gMul : ConOK Tryz.prog 70 c_S_gMul := fn_ok (tyOK _) (E := mkE []) (consOK_nil rfl) Tryz.func70 (h := h_S_gMul) (by kernel_rfl) eq_S_gMul

/-- S_sVerify -/
def pk_S_sVerify : List PK := [.data (.cons (.int .i64) (.cons (.int .i64) (.one (.int .i64)))), .data .str, .data (.sl (.sl (.int .i64))), .data (.sl (.int .i64)), .data (.cons (.sl (.int .i64)) (.cons (.sl (.int .i64)) (.one (.sl (.int .i64)))))]
def rk_S_sVerify : List (Ty × Bool) := [(.bool, false)]
def h_S_sVerify : Hints := { loops := [(0, { items := [.slot 66 (.data (.int .i64) [])], kill := [0, 1, 2, 4, 6, 7, 8, 10] ++ (sgN 12 52 ++ (sgN 67 26)) })] }
noncomputable def M_S_sVerify (x : ((Int × (Int × Int)) × (ByteArray × ((List (List Int)) × ((List Int) × ((List Int) × ((List Int) × (List Int)))))))) : (Option Bool) :=
  (cond ((((List.length x.2.2.2.2.1) : Nat) : Int) != (((List.length x.2.2.1) : Nat) : Int)) (some false) (cond ((((List.length x.2.2.2.2.2.1) : Nat) : Int) != (1 : Int)) (some false) (bindO (getI x.2.2.1 (0 : Int)) (fun (a0 : (List Int)) => (cond ((((List.length x.2.2.2.2.2.2) : Nat) : Int) != (((List.length a0) : Nat) : Int)) (some false) (bindO (M_S_gIs ((x.1.1, (x.1.2.1, x.1.2.2)), x.2.2.2.2.1)) (fun (a1 : Bool) => (cond (not a1) (some false) (bindO (M_S_gExps ((x.1.1, (x.1.2.1, x.1.2.2)), x.2.2.2.2.2.2)) (fun (a2 : Bool) => (cond (not a2) (some false) (bindO (getI x.2.2.2.2.2.1 (0 : Int)) (fun (a3 : Int) => (bindO (M_S_sStatement (x.2.2.1, (x.2.2.2.1, x.2.2.2.2.1))) (fun (a4 : (List Int)) => (bindO (M_S_hChallenge ((x.1.1, (x.1.2.1, x.1.2.2)), (x.2.1, a4))) (fun (a5 : Int) => (cond (a3 != a5) (some false) (loopO (fun (again6 : (Int → (Option Bool))) => (fun (s7 : Int) => (cond (decide (s7 < (((List.length x.2.2.1) : Nat) : Int))) (bindO (getI x.2.2.1 s7) (fun (a8 : (List Int)) => (bindO (M_S_gProd ((x.1.1, (x.1.2.1, x.1.2.2)), (a8, x.2.2.2.2.2.2))) (fun (a9 : Int) => (bindO (getI x.2.2.2.2.1 s7) (fun (a10 : Int) => (bindO (getI x.2.2.2.1 s7) (fun (a11 : Int) => (bindO (M_S_gExp ((x.1.1, (x.1.2.1, x.1.2.2)), (a11, a3))) (fun (a12 : Int) => (bindO (M_S_gMul ((x.1.1, (x.1.2.1, x.1.2.2)), (a10 :: (a12 :: ([] : List Int))))) (fun (a13 : Int) => (cond (a9 != a13) (some false) (bindO (some (IntKind.wrap .i64 (s7 + (1 : Int)))) (fun (a14 : Int) => (again6 a14)))))))))))))))) (some true)))) (0 : Int))))))))))))))))))))

noncomputable def c_S_sVerify : Con0 := ⟨pk_S_sVerify, rk_S_sVerify, M_S_sVerify⟩

set_option maxRecDepth 100000 in
theorem eq_S_sVerify (x : In pk_S_sVerify) : semF (mkE [(15, c_S_gIs), (66, c_S_gExps), (68, c_S_sStatement), (67, c_S_hChallenge), (69, c_S_gProd), (71, c_S_gExp), (70, c_S_gMul)]) h_S_sVerify (info Tryz.f36) pk_S_sVerify rk_S_sVerify x = M_S_sVerify x := (semFF_eq _ _ _ _ _ _).symm.trans (by kernel_rfl)

set_option maxRecDepth 100000 in
theorem m_S_sVerify : ConOK Tryz.prog 36 c_S_sVerify := fn_ok (tyOK _) (E := mkE [(15, c_S_gIs), (66, c_S_gExps), (68, c_S_sStatement), (67, c_S_hChallenge), (69, c_S_gProd), (71, c_S_gExp), (70, c_S_gMul)]) (consOK_cons m_S_gIs (consOK_cons m_S_gExps (consOK_cons m_S_sStatement (consOK_cons m_S_hChallenge (consOK_cons m_S_gProd (consOK_cons m_S_gExp (consOK_cons m_S_gMul (consOK_nil rfl)))))))) Tryz.func36 (h := h_S_sVerify) (by kernel_rfl) eq_S_sVerify

/-- S_bNone -/
def pk_S_bNone : List PK := [.data (.cons (.sl (.int .i64)) (.cons (.sl (.int .i64)) (.one (.sl (.int .i64)))))]
def rk_S_bNone : List (Ty × Bool) := [(.bool, false)]
def h_S_bNone : Hints := { loops := [] }
noncomputable def M_S_bNone (x : ((List Int) × ((List Int) × (List Int)))) : (Option Bool) :=
  (bindO (some (IntKind.wrap .i64 ((((List.length x.1) : Nat) : Int) + (((List.length x.2.1) : Nat) : Int)))) (fun (a0 : Int) => (bindO (some (IntKind.wrap .i64 (a0 + (((List.length x.2.2) : Nat) : Int)))) (fun (a1 : Int) => (some (a1 == (0 : Int)))))))

noncomputable def c_S_bNone : Con0 := ⟨pk_S_bNone, rk_S_bNone, M_S_bNone⟩

set_option maxRecDepth 100000 in
theorem eq_S_bNone (x : In pk_S_bNone) : semF (mkE []) h_S_bNone (info Tryz.f37) pk_S_bNone rk_S_bNone x = M_S_bNone x := (semFF_eq _ _ _ _ _ _).symm.trans (by kernel_rfl)

set_option maxRecDepth 100000 in
theorem m_S_bNone : ConOK Tryz.prog 37 c_S_bNone := fn_ok (tyOK _) (E := mkE []) (consOK_nil rfl) Tryz.func37 (h := h_S_bNone) (by kernel_rfl) eq_S_bNone

/-- S_bTop -/
def pk_S_bTop : List PK := [.data (.cons (.int .i64) (.cons (.int .i64) (.cons (.int .i64) (.cons (.int .i64) (.one (.int .i64))))))]
def rk_S_bTop : List (Ty × Bool) := [((.int .i64), false)]
def h_S_bTop : Hints := { loops := [] }
noncomputable def M_S_bTop (x : (Int × (Int × (Int × (Int × Int))))) : (Option Int) :=
  (cond (x.1 == (1 : Int)) (some (1 : Int)) (some x.2.2.2.2))

noncomputable def c_S_bTop : Con0 := ⟨pk_S_bTop, rk_S_bTop, M_S_bTop⟩

set_option maxRecDepth 100000 in
theorem eq_S_bTop (x : In pk_S_bTop) : semF (mkE []) h_S_bTop (info Tryz.f40) pk_S_bTop rk_S_bTop x = M_S_bTop x := (semFF_eq _ _ _ _ _ _).symm.trans (by kernel_rfl)

set_option maxRecDepth 100000 in
theorem m_S_bTop : ConOK Tryz.prog 40 c_S_bTop := fn_ok (tyOK _) (E := mkE []) (consOK_nil rfl) Tryz.func40 (h := h_S_bTop) (by kernel_rfl) eq_S_bTop

/-- S_bStatements -/
def pk_S_bStatements : List PK := [.data (.cons (.int .i64) (.cons (.int .i64) (.one (.int .i64)))), .data (.int .i64), .data (.cons (.int .i64) (.one (.int .i64))), .data (.int .i64), .data (.int .i64)]
def rk_S_bStatements : List (Ty × Bool) := [((.sl (.cons (.int .i64) (.cons (.int .i64) (.cons (.int .i64) (.one (.int .i64)))))), true)]
def h_S_bStatements : Hints := { loops := [(0, { items := [.slot 11 (.own (.cons (.int .i64) (.cons (.int .i64) (.cons (.int .i64) (.one (.int .i64))))) true), .slot 12 (.data (.int .i64) [])], kill := [0, 2, 3, 6, 8, 9, 10] ++ (sgN 13 27) })] }
noncomputable def M_S_bStatements (x : ((Int × (Int × Int)) × (Int × ((Int × Int) × (Int × Int))))) : (Option (List (Int × (Int × (Int × Int))))) :=
  (loopO (fun (again0 : (((List (Int × (Int × (Int × Int)))) × Int) → (Option (List (Int × (Int × (Int × Int))))))) => (fun (s1 : ((List (Int × (Int × (Int × Int)))) × Int)) => (cond (decide (s1.2 ≤ x.2.2.2.2)) (bindO (some (IntKind.wrap .i64 ((0 : Int) - s1.2))) (fun (a2 : Int) => (bindO (M_S_gExp ((x.1.1, (x.1.2.1, x.1.2.2)), (x.1.2.2, a2))) (fun (a3 : Int) => (bindO (M_S_gMul ((x.1.1, (x.1.2.1, x.1.2.2)), (x.2.2.1.2 :: (a3 :: ([] : List Int))))) (fun (a4 : Int) => (bindO (guardO (lenOk ((List.length s1.1) + (List.length ((x.1.2.2, (x.2.2.1.1, (x.2.1, a4))) :: ([] : List (Int × (Int × (Int × Int))))))))) (fun (a5 : Unit) => (bindO (some (s1.1 ++ ((x.1.2.2, (x.2.2.1.1, (x.2.1, a4))) :: ([] : List (Int × (Int × (Int × Int))))))) (fun (a6 : (List (Int × (Int × (Int × Int))))) => (bindO (some (IntKind.wrap .i64 (s1.2 + (1 : Int)))) (fun (a7 : Int) => (again0 (a6, a7)))))))))))))) (some s1.1)))) (([] : List (Int × (Int × (Int × Int)))), x.2.2.2.1))

noncomputable def c_S_bStatements : Con0 := ⟨pk_S_bStatements, rk_S_bStatements, M_S_bStatements⟩

set_option maxRecDepth 100000 in
theorem eq_S_bStatements (x : In pk_S_bStatements) : semF (mkE [(71, c_S_gExp), (70, c_S_gMul)]) h_S_bStatements (info Tryz.f39) pk_S_bStatements rk_S_bStatements x = M_S_bStatements x := (semFF_eq _ _ _ _ _ _).symm.trans (by kernel_rfl)

set_option maxRecDepth 100000 in
theorem m_S_bStatements : ConOK Tryz.prog 39 c_S_bStatements := fn_ok (tyOK _) (E := mkE [(71, c_S_gExp), (70, c_S_gMul)]) (consOK_cons m_S_gExp (consOK_cons m_S_gMul (consOK_nil rfl))) Tryz.func39 (h := h_S_bStatements) (by kernel_rfl) eq_S_bStatements

/-- S_nSum -/
def pk_S_nSum : List PK := [.data (.sl (.int .i64)), .data (.int .i64)]
def rk_S_nSum : List (Ty × Bool) := [((.int .i64), false)]
def h_S_nSum : Hints := { loops := [(0, { items := [.slot 5 (.data (.int .i64) []), .slot 10 (.data (.int .i64) [])], kill := [0, 2, 3, 4, 6, 7] ++ (sgN 11 10) })] }
noncomputable def M_S_nSum (x : ((List Int) × Int)) : (Option Int) :=
  (loopO (fun (again0 : ((Int × Int) → (Option Int))) => (fun (s1 : (Int × Int)) => (cond (decide (s1.2 < (((List.length x.1) : Nat) : Int))) (bindO (getI x.1 s1.2) (fun (a2 : Int) => (bindO (some (IntKind.wrap .i64 (s1.1 + a2))) (fun (a3 : Int) => (bindO (guardO (x.2 != (0 : Int))) (fun (a4 : Unit) => (bindO (some (Int.tmod a3 x.2)) (fun (a5 : Int) => (bindO (some (IntKind.wrap .i64 (s1.2 + (1 : Int)))) (fun (a6 : Int) => (again0 (a5, a6)))))))))))) (some s1.1)))) ((0 : Int), (0 : Int)))

noncomputable def c_S_nSum : Con0 := ⟨pk_S_nSum, rk_S_nSum, M_S_nSum⟩

set_option maxRecDepth 100000 in
theorem eq_S_nSum (x : In pk_S_nSum) : semF (mkE []) h_S_nSum (info Tryz.f72) pk_S_nSum rk_S_nSum x = M_S_nSum x := (semFF_eq _ _ _ _ _ _).symm.trans (by kernel_rfl)

set_option maxRecDepth 100000 in
theorem m_S_nSum : ConOK Tryz.prog 72 c_S_nSum := fn_ok (tyOK _) (E := mkE []) (consOK_nil rfl) Tryz.func72 (h := h_S_nSum) (by kernel_rfl) eq_S_nSum

/-- S_sJoint -/
def pk_S_sJoint : List PK := [.data (.cons (.int .i64) (.cons (.int .i64) (.one (.int .i64)))), .data .str, .data (.sl (.cons (.int .i64) (.cons (.int .i64) (.cons (.int .i64) (.one (.int .i64)))))), .data (.sl (.int .i64))]
def rk_S_sJoint : List (Ty × Bool) := [((.int .i64), false)]
def h_S_sJoint : Hints := { loops := [(0, { items := [.slot 9 (.own (.int .i64) true), .slot 14 (.data (.int .i64) [])], kill := [0, 2] ++ (sgN 5 4 ++ ([10, 11] ++ (sgN 15 21))) })] }
noncomputable def M_S_sJoint (x : ((Int × (Int × Int)) × (ByteArray × ((List (Int × (Int × (Int × Int)))) × (List Int))))) : (Option Int) :=
  (loopO (fun (again0 : (((List Int) × Int) → (Option Int))) => (fun (s1 : ((List Int) × Int)) => (cond (decide (s1.2 < (((List.length x.2.2.1) : Nat) : Int))) (bindO (getI x.2.2.1 s1.2) (fun (a2 : (Int × (Int × (Int × Int)))) => (bindO (guardO (lenOk ((List.length s1.1) + (List.length (a2.1 :: (a2.2.1 :: (a2.2.2.1 :: (a2.2.2.2 :: ([] : List Int))))))))) (fun (a3 : Unit) => (bindO (some (s1.1 ++ (a2.1 :: (a2.2.1 :: (a2.2.2.1 :: (a2.2.2.2 :: ([] : List Int))))))) (fun (a4 : (List Int)) => (bindO (some (IntKind.wrap .i64 (s1.2 + (1 : Int)))) (fun (a5 : Int) => (again0 (a4, a5)))))))))) (bindO (guardO (lenOk ((List.length s1.1) + (List.length x.2.2.2)))) (fun (a6 : Unit) => (bindO (some (s1.1 ++ x.2.2.2)) (fun (a7 : (List Int)) => (bindO (M_S_hChallenge ((x.1.1, (x.1.2.1, x.1.2.2)), (x.2.1, a7))) (fun (a8 : Int) => (some a8)))))))))) (([] : List Int), (0 : Int)))

noncomputable def c_S_sJoint : Con0 := ⟨pk_S_sJoint, rk_S_sJoint, M_S_sJoint⟩

set_option maxRecDepth 100000 in
theorem eq_S_sJoint (x : In pk_S_sJoint) : semF (mkE [(67, c_S_hChallenge)]) h_S_sJoint (info Tryz.f73) pk_S_sJoint rk_S_sJoint x = M_S_sJoint x := (semFF_eq _ _ _ _ _ _).symm.trans (by kernel_rfl)

set_option maxRecDepth 100000 in
theorem m_S_sJoint : ConOK Tryz.prog 73 c_S_sJoint := fn_ok (tyOK _) (E := mkE [(67, c_S_hChallenge)]) (consOK_cons m_S_hChallenge (consOK_nil rfl)) Tryz.func73 (h := h_S_sJoint) (by kernel_rfl) eq_S_sJoint

/-- S_sVerifyOne -/
def pk_S_sVerifyOne : List PK := [.data (.cons (.int .i64) (.cons (.int .i64) (.one (.int .i64)))), .data .str, .data (.sl (.cons (.int .i64) (.cons (.int .i64) (.cons (.int .i64) (.one (.int .i64)))))), .data (.cons (.sl (.int .i64)) (.cons (.sl (.int .i64)) (.one (.sl (.int .i64)))))]
def rk_S_sVerifyOne : List (Ty × Bool) := [(.bool, false)]
def h_S_sVerifyOne : Hints := { loops := [(0, { items := [.slot 71 (.data (.int .i64) [])], kill := sgN 0 4 ++ ([5, 6] ++ (sgN 8 61 ++ (sgN 72 58))) })] }
noncomputable def M_S_sVerifyOne (x : ((Int × (Int × Int)) × (ByteArray × ((List (Int × (Int × (Int × Int)))) × ((List Int) × ((List Int) × (List Int))))))) : (Option Bool) :=
  (bindO (some (IntKind.wrap .i64 ((2 : Int) * (((List.length x.2.2.1) : Nat) : Int)))) (fun (a0 : Int) => (cond ((((List.length x.2.2.2.1) : Nat) : Int) != a0) (some false) (cond ((((List.length x.2.2.2.2.1) : Nat) : Int) != (((List.length x.2.2.1) : Nat) : Int)) (some false) (cond ((((List.length x.2.2.2.2.2) : Nat) : Int) != (((List.length x.2.2.1) : Nat) : Int)) (some false) (bindO (M_S_gIs ((x.1.1, (x.1.2.1, x.1.2.2)), x.2.2.2.1)) (fun (a1 : Bool) => (cond (not a1) (some false) (bindO (M_S_gExps ((x.1.1, (x.1.2.1, x.1.2.2)), x.2.2.2.2.1)) (fun (a2 : Bool) => (cond (not a2) (some false) (bindO (M_S_gExps ((x.1.1, (x.1.2.1, x.1.2.2)), x.2.2.2.2.2)) (fun (a3 : Bool) => (cond (not a3) (some false) (bindO (M_S_nSum (x.2.2.2.2.1, x.1.2.1)) (fun (a4 : Int) => (bindO (M_S_sJoint ((x.1.1, (x.1.2.1, x.1.2.2)), (x.2.1, (x.2.2.1, x.2.2.2.1)))) (fun (a5 : Int) => (cond (a4 != a5) (some false) (loopO (fun (again6 : (Int → (Option Bool))) => (fun (s7 : Int) => (cond (decide (s7 < (((List.length x.2.2.1) : Nat) : Int))) (bindO (getI x.2.2.1 s7) (fun (a8 : (Int × (Int × (Int × Int)))) => (bindO (getI x.2.2.2.2.1 s7) (fun (a9 : Int) => (bindO (getI x.2.2.2.2.2 s7) (fun (a10 : Int) => (bindO (M_S_gExp ((x.1.1, (x.1.2.1, x.1.2.2)), (a8.1, a10))) (fun (a11 : Int) => (bindO (some (IntKind.wrap .i64 ((2 : Int) * s7))) (fun (a12 : Int) => (bindO (getI x.2.2.2.1 a12) (fun (a13 : Int) => (bindO (M_S_gExp ((x.1.1, (x.1.2.1, x.1.2.2)), (a8.2.1, a9))) (fun (a14 : Int) => (bindO (M_S_gMul ((x.1.1, (x.1.2.1, x.1.2.2)), (a13 :: (a14 :: ([] : List Int))))) (fun (a15 : Int) => (cond (a11 != a15) (some false) (bindO (M_S_gExp ((x.1.1, (x.1.2.1, x.1.2.2)), (a8.2.2.1, a10))) (fun (a16 : Int) => (bindO (some (IntKind.wrap .i64 ((2 : Int) * s7))) (fun (a17 : Int) => (bindO (some (IntKind.wrap .i64 (a17 + (1 : Int)))) (fun (a18 : Int) => (bindO (getI x.2.2.2.1 a18) (fun (a19 : Int) => (bindO (M_S_gExp ((x.1.1, (x.1.2.1, x.1.2.2)), (a8.2.2.2, a9))) (fun (a20 : Int) => (bindO (M_S_gMul ((x.1.1, (x.1.2.1, x.1.2.2)), (a19 :: (a20 :: ([] : List Int))))) (fun (a21 : Int) => (cond (a16 != a21) (some false) (bindO (some (IntKind.wrap .i64 (s7 + (1 : Int)))) (fun (a22 : Int) => (again6 a22))))))))))))))))))))))))))))))))) (some true)))) (0 : Int)))))))))))))))))))))

noncomputable def c_S_sVerifyOne : Con0 := ⟨pk_S_sVerifyOne, rk_S_sVerifyOne, M_S_sVerifyOne⟩

set_option maxRecDepth 100000 in
theorem eq_S_sVerifyOne (x : In pk_S_sVerifyOne) : semF (mkE [(15, c_S_gIs), (66, c_S_gExps), (72, c_S_nSum), (73, c_S_sJoint), (71, c_S_gExp), (70, c_S_gMul)]) h_S_sVerifyOne (info Tryz.f38) pk_S_sVerifyOne rk_S_sVerifyOne x = M_S_sVerifyOne x := (semFF_eq _ _ _ _ _ _).symm.trans (by kernel_rfl)

set_option maxRecDepth 100000 in
theorem m_S_sVerifyOne : ConOK Tryz.prog 38 c_S_sVerifyOne := fn_ok (tyOK _) (E := mkE [(15, c_S_gIs), (66, c_S_gExps), (72, c_S_nSum), (73, c_S_sJoint), (71, c_S_gExp), (70, c_S_gMul)]) (consOK_cons m_S_gIs (consOK_cons m_S_gExps (consOK_cons m_S_nSum (consOK_cons m_S_sJoint (consOK_cons m_S_gExp (consOK_cons m_S_gMul (consOK_nil rfl))))))) Tryz.func38 (h := h_S_sVerifyOne) (by kernel_rfl) eq_S_sVerifyOne

/-- S_eMul -/
def pk_S_eMul : List PK := [.data (.cons (.int .i64) (.cons (.int .i64) (.one (.int .i64)))), .data (.sl (.cons (.int .i64) (.one (.int .i64))))]
def rk_S_eMul : List (Ty × Bool) := [((.cons (.int .i64) (.one (.int .i64))), false)]
def h_S_eMul : Hints := { loops := [(0, { items := [.slot 11 (.data (.int .i64) []), .cell 5 0 (.data (.int .i64) []), .cell 5 1 (.data (.int .i64) [])], kill := [0, 1, 3, 6, 7, 8] ++ (sgN 12 20) })] }
noncomputable def M_S_eMul (x : ((Int × (Int × Int)) × (List (Int × Int)))) : (Option (Int × Int)) :=
  (loopO (fun (again0 : ((Int × (Int × Int)) → (Option (Int × Int)))) => (fun (s1 : (Int × (Int × Int))) => (cond (decide (s1.1 < (((List.length x.2) : Nat) : Int))) (bindO (getI x.2 s1.1) (fun (a2 : (Int × Int)) => (bindO (M_S_gMul ((x.1.1, (x.1.2.1, x.1.2.2)), (s1.2.1 :: (a2.1 :: ([] : List Int))))) (fun (a3 : Int) => (bindO (M_S_gMul ((x.1.1, (x.1.2.1, x.1.2.2)), (s1.2.2 :: (a2.2 :: ([] : List Int))))) (fun (a4 : Int) => (bindO (some (IntKind.wrap .i64 (s1.1 + (1 : Int)))) (fun (a5 : Int) => (again0 (a5, (a3, a4))))))))))) (some (s1.2.1, s1.2.2))))) ((0 : Int), ((1 : Int), (1 : Int))))

noncomputable def c_S_eMul : Con0 := ⟨pk_S_eMul, rk_S_eMul, M_S_eMul⟩

set_option maxRecDepth 100000 in
theorem eq_S_eMul (x : In pk_S_eMul) : semF (mkE [(70, c_S_gMul)]) h_S_eMul (info Tryz.f41) pk_S_eMul rk_S_eMul x = M_S_eMul x := (semFF_eq _ _ _ _ _ _).symm.trans (by kernel_rfl)

set_option maxRecDepth 100000 in
theorem m_S_eMul : ConOK Tryz.prog 41 c_S_eMul := fn_ok (tyOK _) (E := mkE [(70, c_S_gMul)]) (consOK_cons m_S_gMul (consOK_nil rfl)) Tryz.func41 (h := h_S_eMul) (by kernel_rfl) eq_S_eMul

/-- S_bVerify -/
def pk_S_bVerify : List PK := [.data (.cons (.int .i64) (.cons (.int .i64) (.one (.int .i64)))), .data (.int .i64), .data (.cons (.int .i64) (.cons (.int .i64) (.cons (.int .i64) (.cons (.int .i64) (.one (.int .i64)))))), .data (.cons (.int .i64) (.cons (.sl (.cons (.int .i64) (.one (.int .i64)))) (.cons (.sl (.cons (.sl (.int .i64)) (.cons (.sl (.int .i64)) (.one (.sl (.int .i64)))))) (.one (.cons (.sl (.int .i64)) (.cons (.sl (.int .i64)) (.one (.sl (.int .i64)))))))))]
def rk_S_bVerify : List (Ty × Bool) := [(.bool, false)]
def h_S_bVerify : Hints := { loops := [(0, { items := [.slot 70 (.data (.int .i64) [])], kill := [0, 2, 3, 5, 8] ++ (sgN 10 58 ++ (sgN 71 36)) })] }
noncomputable def M_S_bVerify (x : ((Int × (Int × Int)) × (Int × ((Int × (Int × (Int × (Int × Int)))) × (Int × ((List (Int × Int)) × ((List ((List Int) × ((List Int) × (List Int)))) × ((List Int) × ((List Int) × (List Int)))))))))) : (Option Bool) :=
  (bindO (M_S_l1In (x.2.2.2.1, ((0 : Int), (999999 : Int)))) (fun (a0 : Bool) => (cond (not a0) (some false) (bindO (M_S_bWidth (x.2.2.1.1, (x.2.2.1.2.1, (x.2.2.1.2.2.1, (x.2.2.1.2.2.2.1, x.2.2.1.2.2.2.2))))) (fun (a1 : Int) => (cond ((((List.length x.2.2.2.2.1) : Nat) : Int) != a1) (some false) (bindO (M_S_bWidth (x.2.2.1.1, (x.2.2.1.2.1, (x.2.2.1.2.2.1, (x.2.2.1.2.2.2.1, x.2.2.1.2.2.2.2))))) (fun (a2 : Int) => (cond ((((List.length x.2.2.2.2.2.1) : Nat) : Int) != a2) (some false) (bindO (M_S_eGood ((x.1.1, (x.1.2.1, x.1.2.2)), x.2.2.2.2.1)) (fun (a3 : Bool) => (cond (not a3) (some false) (bindO (M_S_bLabel x.2.2.2.1) (fun (a4 : ByteArray) => (bindO (M_S_bRows (x.2.2.1.1, (x.2.2.1.2.1, (x.2.2.1.2.2.1, (x.2.2.1.2.2.2.1, x.2.2.1.2.2.2.2))))) (fun (a5 : Bool) => (cond (not a5) (bindO (getI x.2.2.2.2.1 (0 : Int)) (fun (a6 : (Int × Int)) => (bindO (getI x.2.2.2.2.2.1 (0 : Int)) (fun (a7 : ((List Int) × ((List Int) × (List Int)))) => (bindO (M_S_sVerify ((x.1.1, (x.1.2.1, x.1.2.2)), (a4, (((x.1.2.2 :: ([] : List Int)) :: ([] : List (List Int))), ((a6.1 :: ([] : List Int)), (a7.1, (a7.2.1, a7.2.2))))))) (fun (a8 : Bool) => (cond a8 (bindO (M_S_bNone (x.2.2.2.2.2.2.1, (x.2.2.2.2.2.2.2.1, x.2.2.2.2.2.2.2.2))) (fun (a9 : Bool) => (some a9))) (some false)))))))) (loopO (fun (again10 : (Int → (Option Bool))) => (fun (s11 : Int) => (cond (decide (s11 < (((List.length x.2.2.2.2.1) : Nat) : Int))) (bindO (getI x.2.2.2.2.1 s11) (fun (a12 : (Int × Int)) => (bindO (M_S_bTop (x.2.2.1.1, (x.2.2.1.2.1, (x.2.2.1.2.2.1, (x.2.2.1.2.2.2.1, x.2.2.1.2.2.2.2))))) (fun (a13 : Int) => (bindO (M_S_bStatements ((x.1.1, (x.1.2.1, x.1.2.2)), (x.2.1, ((a12.1, a12.2), ((0 : Int), a13))))) (fun (a14 : (List (Int × (Int × (Int × Int))))) => (bindO (getI x.2.2.2.2.2.1 s11) (fun (a15 : ((List Int) × ((List Int) × (List Int)))) => (bindO (M_S_sVerifyOne ((x.1.1, (x.1.2.1, x.1.2.2)), (a4, (a14, (a15.1, (a15.2.1, a15.2.2)))))) (fun (a16 : Bool) => (cond (not a16) (some false) (bindO (some (IntKind.wrap .i64 (s11 + (1 : Int)))) (fun (a17 : Int) => (again10 a17)))))))))))))) (bindO (M_S_eMul ((x.1.1, (x.1.2.1, x.1.2.2)), x.2.2.2.2.1)) (fun (a18 : (Int × Int)) => (bindO (M_S_bStatements ((x.1.1, (x.1.2.1, x.1.2.2)), (x.2.1, ((a18.1, a18.2), (x.2.2.1.2.2.1, x.2.2.1.2.2.2.1))))) (fun (a19 : (List (Int × (Int × (Int × Int))))) => (bindO (M_S_sVerifyOne ((x.1.1, (x.1.2.1, x.1.2.2)), (a4, (a19, (x.2.2.2.2.2.2.1, (x.2.2.2.2.2.2.2.1, x.2.2.2.2.2.2.2.2)))))) (fun (a20 : Bool) => (some a20)))))))))) (0 : Int)))))))))))))))))))

noncomputable def c_S_bVerify : Con0 := ⟨pk_S_bVerify, rk_S_bVerify, M_S_bVerify⟩

set_option maxRecDepth 100000 in
theorem eq_S_bVerify (x : In pk_S_bVerify) : semF (mkE [(31, c_S_l1In), (33, c_S_bWidth), (34, c_S_eGood), (35, c_S_bLabel), (30, c_S_bRows), (36, c_S_sVerify), (37, c_S_bNone), (40, c_S_bTop), (39, c_S_bStatements), (38, c_S_sVerifyOne), (41, c_S_eMul)]) h_S_bVerify (info Tryz.f16) pk_S_bVerify rk_S_bVerify x = M_S_bVerify x := (semFF_eq _ _ _ _ _ _).symm.trans (by kernel_rfl)

set_option maxRecDepth 100000 in
theorem m_S_bVerify : ConOK Tryz.prog 16 c_S_bVerify := fn_ok (tyOK _) (E := mkE [(31, c_S_l1In), (33, c_S_bWidth), (34, c_S_eGood), (35, c_S_bLabel), (30, c_S_bRows), (36, c_S_sVerify), (37, c_S_bNone), (40, c_S_bTop), (39, c_S_bStatements), (38, c_S_sVerifyOne), (41, c_S_eMul)]) (consOK_cons m_S_l1In (consOK_cons m_S_bWidth (consOK_cons m_S_eGood (consOK_cons m_S_bLabel (consOK_cons m_S_bRows (consOK_cons m_S_sVerify (consOK_cons m_S_bNone (consOK_cons m_S_bTop (consOK_cons m_S_bStatements (consOK_cons m_S_sVerifyOne (consOK_cons m_S_eMul (consOK_nil rfl)))))))))))) Tryz.func16 (h := h_S_bVerify) (by kernel_rfl) eq_S_bVerify

/-- S_VerifySealed -/
def pk_S_VerifySealed : List PK := [.data (.cons (.int .i64) (.cons (.int .i64) (.one (.int .i64)))), .data (.int .i64), .data (.cons (.int .i64) (.cons (.int .i64) (.cons (.int .i64) (.cons (.int .i64) (.one (.int .i64)))))), .data (.cons (.int .i64) (.cons (.sl (.cons (.int .i64) (.one (.int .i64)))) (.cons (.sl (.cons (.sl (.int .i64)) (.cons (.sl (.int .i64)) (.one (.sl (.int .i64)))))) (.one (.cons (.sl (.int .i64)) (.cons (.sl (.int .i64)) (.one (.sl (.int .i64)))))))))]
def rk_S_VerifySealed : List (Ty × Bool) := [(.bool, false), (.bool, false)]
def h_S_VerifySealed : Hints := { loops := [] }
noncomputable def M_S_VerifySealed (x : ((Int × (Int × Int)) × (Int × ((Int × (Int × (Int × (Int × Int)))) × (Int × ((List (Int × Int)) × ((List ((List Int) × ((List Int) × (List Int)))) × ((List Int) × ((List Int) × (List Int)))))))))) : (Option (Bool × Bool)) :=
  (bindO (M_S_bGood ((x.1.1, (x.1.2.1, x.1.2.2)), (x.2.2.1.1, (x.2.2.1.2.1, (x.2.2.1.2.2.1, (x.2.2.1.2.2.2.1, x.2.2.1.2.2.2.2)))))) (fun (a0 : Bool) => (cond (not a0) (some (false, false)) (bindO (M_S_gIs ((x.1.1, (x.1.2.1, x.1.2.2)), (x.2.1 :: ([] : List Int)))) (fun (a1 : Bool) => (cond (not a1) (some (false, false)) (bindO (M_S_bVerify ((x.1.1, (x.1.2.1, x.1.2.2)), (x.2.1, ((x.2.2.1.1, (x.2.2.1.2.1, (x.2.2.1.2.2.1, (x.2.2.1.2.2.2.1, x.2.2.1.2.2.2.2)))), (x.2.2.2.1, (x.2.2.2.2.1, (x.2.2.2.2.2.1, (x.2.2.2.2.2.2.1, (x.2.2.2.2.2.2.2.1, x.2.2.2.2.2.2.2.2))))))))) (fun (a2 : Bool) => (some (a2, true))))))))))

noncomputable def c_S_VerifySealed : Con0 := ⟨pk_S_VerifySealed, rk_S_VerifySealed, M_S_VerifySealed⟩

set_option maxRecDepth 100000 in
theorem eq_S_VerifySealed (x : In pk_S_VerifySealed) : semF (mkE [(14, c_S_bGood), (15, c_S_gIs), (16, c_S_bVerify)]) h_S_VerifySealed (info Tryz.f5) pk_S_VerifySealed rk_S_VerifySealed x = M_S_VerifySealed x := (semFF_eq _ _ _ _ _ _).symm.trans (by kernel_rfl)

set_option maxRecDepth 100000 in
theorem m_S_VerifySealed : ConOK Tryz.prog 5 c_S_VerifySealed := fn_ok (tyOK _) (E := mkE [(14, c_S_bGood), (15, c_S_gIs), (16, c_S_bVerify)]) (consOK_cons m_S_bGood (consOK_cons m_S_gIs (consOK_cons m_S_bVerify (consOK_nil rfl)))) Tryz.func5 (h := h_S_VerifySealed) (by kernel_rfl) eq_S_VerifySealed

/-- I_within -/
def pk_I_within : List PK := [.data (.int .i64), .data (.int .i64), .data (.int .i64)]
def rk_I_within : List (Ty × Bool) := [(.bool, false)]
def h_I_within : Hints := { loops := [] }
noncomputable def M_I_within (x : (Int × (Int × Int))) : (Option Bool) :=
  (cond (decide (x.1 ≥ x.2.1)) (some (decide (x.1 ≤ x.2.2))) (some false))

noncomputable def c_I_within : Con0 := ⟨pk_I_within, rk_I_within, M_I_within⟩

set_option maxRecDepth 100000 in
theorem eq_I_within (x : In pk_I_within) : semF (mkE []) h_I_within (info Tryz.f48) pk_I_within rk_I_within x = M_I_within x := (semFF_eq _ _ _ _ _ _).symm.trans (by kernel_rfl)

set_option maxRecDepth 100000 in
theorem m_I_within : ConOK Tryz.prog 48 c_I_within := fn_ok (tyOK _) (E := mkE []) (consOK_nil rfl) Tryz.func48 (h := h_I_within) (by kernel_rfl) eq_I_within

/-- I_isModulus -/
def pk_I_isModulus : List PK := [.data (.int .i64)]
def rk_I_isModulus : List (Ty × Bool) := [(.bool, false)]
def h_I_isModulus : Hints := { loops := [] }
noncomputable def M_I_isModulus (x : Int) : (Option Bool) :=
  (bindO (M_I_within (x, ((2 : Int), (2000000000 : Int)))) (fun (a0 : Bool) => (some a0)))

noncomputable def c_I_isModulus : Con0 := ⟨pk_I_isModulus, rk_I_isModulus, M_I_isModulus⟩

set_option maxRecDepth 100000 in
theorem eq_I_isModulus (x : In pk_I_isModulus) : semF (mkE [(48, c_I_within)]) h_I_isModulus (info Tryz.f97) pk_I_isModulus rk_I_isModulus x = M_I_isModulus x := (semFF_eq _ _ _ _ _ _).symm.trans (by kernel_rfl)

set_option maxRecDepth 100000 in
theorem m_I_isModulus : ConOK Tryz.prog 97 c_I_isModulus := fn_ok (tyOK _) (E := mkE [(48, c_I_within)]) (consOK_cons m_I_within (consOK_nil rfl)) Tryz.func97 (h := h_I_isModulus) (by kernel_rfl) eq_I_isModulus

/-- I_isPrime -/
def pk_I_isPrime : List PK := [.data (.int .i64)]
def rk_I_isPrime : List (Ty × Bool) := [(.bool, false)]
def h_I_isPrime : Hints := { loops := [(0, { items := [.slot 3 (.data (.int .i64) [])], kill := [1, 2] ++ (sgN 4 23) })] }
noncomputable def M_I_isPrime (x : Int) : (Option Bool) :=
  (bindO (M_I_isModulus x) (fun (a0 : Bool) => (cond (not a0) (some false) (bindO (guardO ((2 : Int) != (0 : Int))) (fun (a1 : Unit) => (bindO (some (Int.tmod x (2 : Int))) (fun (a2 : Int) => (cond (a2 == (0 : Int)) (cond (x != (2 : Int)) (some false) (loopO (fun (again3 : (Int → (Option Bool))) => (fun (s4 : Int) => (bindO (some (IntKind.wrap .i64 (s4 * s4))) (fun (a5 : Int) => (cond (decide (a5 ≤ x)) (bindO (guardO (s4 != (0 : Int))) (fun (a6 : Unit) => (bindO (some (Int.tmod x s4)) (fun (a7 : Int) => (cond (a7 == (0 : Int)) (some false) (bindO (some (IntKind.wrap .i64 (s4 + (2 : Int)))) (fun (a8 : Int) => (again3 a8)))))))) (some true)))))) (3 : Int))) (loopO (fun (again9 : (Int → (Option Bool))) => (fun (s10 : Int) => (bindO (some (IntKind.wrap .i64 (s10 * s10))) (fun (a11 : Int) => (cond (decide (a11 ≤ x)) (bindO (guardO (s10 != (0 : Int))) (fun (a12 : Unit) => (bindO (some (Int.tmod x s10)) (fun (a13 : Int) => (cond (a13 == (0 : Int)) (some false) (bindO (some (IntKind.wrap .i64 (s10 + (2 : Int)))) (fun (a14 : Int) => (again9 a14)))))))) (some true)))))) (3 : Int))))))))))

noncomputable def c_I_isPrime : Con0 := ⟨pk_I_isPrime, rk_I_isPrime, M_I_isPrime⟩

set_option maxRecDepth 100000 in
theorem eq_I_isPrime (x : In pk_I_isPrime) : semF (mkE [(97, c_I_isModulus)]) h_I_isPrime (info Tryz.f74) pk_I_isPrime rk_I_isPrime x = M_I_isPrime x := (semFF_eq _ _ _ _ _ _).symm.trans (by kernel_rfl)

set_option maxRecDepth 100000 in
theorem m_I_isPrime : ConOK Tryz.prog 74 c_I_isPrime := fn_ok (tyOK _) (E := mkE [(97, c_I_isModulus)]) (consOK_cons m_I_isModulus (consOK_nil rfl)) Tryz.func74 (h := h_I_isPrime) (by kernel_rfl) eq_I_isPrime

/-- I_power -/
def pk_I_power : List PK := [.data (.int .i64), .data (.int .i64), .data (.int .i64)]
def rk_I_power : List (Ty × Bool) := [((.int .i64), false)]
def h_I_power : Hints := { loops := [(0, { items := [.slot 0 (.data (.int .i64) []), .slot 1 (.data (.int .i64) []), .slot 7 (.data (.int .i64) [])], kill := sgN 3 4 ++ (sgN 8 20) })] }
noncomputable def M_I_power (x : (Int × (Int × Int))) : (Option Int) :=
  (bindO (guardO (x.2.2 != (0 : Int))) (fun (a0 : Unit) => (bindO (some (Int.tmod (1 : Int) x.2.2)) (fun (a1 : Int) => (loopO (fun (again2 : ((Int × (Int × Int)) → (Option Int))) => (fun (s3 : (Int × (Int × Int))) => (cond (decide (s3.2.1 > (0 : Int))) (bindO (some (bits .and .i64 s3.2.1 (1 : Int))) (fun (a4 : Int) => (cond (a4 == (1 : Int)) (bindO (some (IntKind.wrap .i64 (s3.2.2 * s3.1))) (fun (a5 : Int) => (bindO (guardO (x.2.2 != (0 : Int))) (fun (a6 : Unit) => (bindO (some (Int.tmod a5 x.2.2)) (fun (a7 : Int) => (bindO (some (IntKind.wrap .i64 (s3.1 * s3.1))) (fun (a8 : Int) => (bindO (guardO (x.2.2 != (0 : Int))) (fun (a9 : Unit) => (bindO (some (Int.tmod a8 x.2.2)) (fun (a10 : Int) => (bindO (guardO (decide ((0 : Int) ≤ (1 : Int)))) (fun (a11 : Unit) => (bindO (some (shr .i64 s3.2.1 (1 : Int))) (fun (a12 : Int) => (again2 (a10, (a12, a7))))))))))))))))))) (bindO (some (IntKind.wrap .i64 (s3.1 * s3.1))) (fun (a13 : Int) => (bindO (guardO (x.2.2 != (0 : Int))) (fun (a14 : Unit) => (bindO (some (Int.tmod a13 x.2.2)) (fun (a15 : Int) => (bindO (guardO (decide ((0 : Int) ≤ (1 : Int)))) (fun (a16 : Unit) => (bindO (some (shr .i64 s3.2.1 (1 : Int))) (fun (a17 : Int) => (again2 (a15, (a17, s3.2.2)))))))))))))))) (some s3.2.2)))) (x.1, (x.2.1, a1)))))))

noncomputable def c_I_power : Con0 := ⟨pk_I_power, rk_I_power, M_I_power⟩

set_option maxRecDepth 100000 in
theorem eq_I_power (x : In pk_I_power) : semF (mkE []) h_I_power (info Tryz.f49) pk_I_power rk_I_power x = M_I_power x := (semFF_eq _ _ _ _ _ _).symm.trans (by kernel_rfl)

set_option maxRecDepth 100000 in
theorem m_I_power : ConOK Tryz.prog 49 c_I_power := fn_ok (tyOK _) (E := mkE []) (consOK_nil rfl) Tryz.func49 (h := h_I_power) (by kernel_rfl) eq_I_power

/-- I_IsValidGroup -/
def pk_I_IsValidGroup : List PK := [.data (.cons (.int .i64) (.cons (.int .i64) (.one (.int .i64))))]
def rk_I_IsValidGroup : List (Ty × Bool) := [(.bool, false)]
def h_I_IsValidGroup : Hints := { loops := [] }
noncomputable def M_I_IsValidGroup (x : (Int × (Int × Int))) : (Option Bool) :=
  (bindO (M_I_within (x.1, ((3 : Int), (2000000000 : Int)))) (fun (a0 : Bool) => (cond a0 (bindO (some (IntKind.wrap .i64 (x.1 - (1 : Int)))) (fun (a1 : Int) => (bindO (M_I_within (x.2.1, ((2 : Int), a1))) (fun (a2 : Bool) => (cond a2 (bindO (some (IntKind.wrap .i64 (x.1 - (1 : Int)))) (fun (a3 : Int) => (bindO (guardO (x.2.1 != (0 : Int))) (fun (a4 : Unit) => (bindO (some (Int.tmod a3 x.2.1)) (fun (a5 : Int) => (cond (a5 == (0 : Int)) (bindO (some (IntKind.wrap .i64 (x.1 - (1 : Int)))) (fun (a6 : Int) => (bindO (M_I_within (x.2.2, ((2 : Int), a6))) (fun (a7 : Bool) => (cond a7 (bindO (M_I_isPrime x.1) (fun (a8 : Bool) => (cond a8 (bindO (M_I_isPrime x.2.1) (fun (a9 : Bool) => (cond a9 (bindO (M_I_power (x.2.2, (x.2.1, x.1))) (fun (a10 : Int) => (some (a10 == (1 : Int))))) (some false)))) (some false)))) (some false)))))) (some false)))))))) (some false)))))) (some false))))

noncomputable def c_I_IsValidGroup : Con0 := ⟨pk_I_IsValidGroup, rk_I_IsValidGroup, M_I_IsValidGroup⟩

set_option maxRecDepth 100000 in
theorem eq_I_IsValidGroup (x : In pk_I_IsValidGroup) : semF (mkE [(48, c_I_within), (74, c_I_isPrime), (49, c_I_power)]) h_I_IsValidGroup (info Tryz.f44) pk_I_IsValidGroup rk_I_IsValidGroup x = M_I_IsValidGroup x := (semFF_eq _ _ _ _ _ _).symm.trans (by kernel_rfl)

set_option maxRecDepth 100000 in
theorem m_I_IsValidGroup : ConOK Tryz.prog 44 c_I_IsValidGroup := fn_ok (tyOK _) (E := mkE [(48, c_I_within), (74, c_I_isPrime), (49, c_I_power)]) (consOK_cons m_I_within (consOK_cons m_I_isPrime (consOK_cons m_I_power (consOK_nil rfl)))) Tryz.func44 (h := h_I_IsValidGroup) (by kernel_rfl) eq_I_IsValidGroup

/-- I_IsValidContest -/
def pk_I_IsValidContest : List PK := [.data (.cons (.int .i64) (.cons (.int .i64) (.cons (.int .i64) (.cons (.int .i64) (.one (.int .i64))))))]
def rk_I_IsValidContest : List (Ty × Bool) := [(.bool, false)]
def h_I_IsValidContest : Hints := { loops := [] }
noncomputable def M_I_IsValidContest (x : (Int × (Int × (Int × (Int × Int))))) : (Option Bool) :=
  (cond (decide (x.2.2.1 < (0 : Int))) (some false) (cond (decide (x.2.2.1 > x.2.2.2.1)) (some false) (cond (x.1 == (1 : Int)) (cond (x.1 == (1 : Int)) (bindO (M_I_within (x.2.1, ((1 : Int), (8 : Int)))) (fun (a0 : Bool) => (cond a0 (cond (decide (x.2.2.2.1 ≤ x.2.1)) (some (x.2.2.2.2 == (0 : Int))) (some false)) (some false)))) (cond (x.1 == (2 : Int)) (bindO (M_I_within (x.2.1, ((1 : Int), (8 : Int)))) (fun (a1 : Bool) => (cond a1 (bindO (M_I_within (x.2.2.2.2, ((1 : Int), (5 : Int)))) (fun (a2 : Bool) => (cond a2 (bindO (some (IntKind.wrap .i64 (x.2.1 * x.2.2.2.2))) (fun (a3 : Int) => (some (decide (x.2.2.2.1 ≤ a3))))) (some false)))) (some false)))) (cond (x.1 == (4 : Int)) (cond (x.2.1 == (0 : Int)) (cond (decide (x.2.2.2.1 ≤ (5 : Int))) (some (x.2.2.2.2 == (0 : Int))) (some false)) (some false)) (some false)))) (cond (x.1 == (3 : Int)) (bindO (M_I_within (x.2.1, ((1 : Int), (8 : Int)))) (fun (a4 : Bool) => (cond a4 (cond (decide (x.2.2.2.1 ≤ x.2.1)) (some (x.2.2.2.2 == (0 : Int))) (some false)) (some false)))) (cond (x.1 == (2 : Int)) (bindO (M_I_within (x.2.1, ((1 : Int), (8 : Int)))) (fun (a5 : Bool) => (cond a5 (bindO (M_I_within (x.2.2.2.2, ((1 : Int), (5 : Int)))) (fun (a6 : Bool) => (cond a6 (bindO (some (IntKind.wrap .i64 (x.2.1 * x.2.2.2.2))) (fun (a7 : Int) => (some (decide (x.2.2.2.1 ≤ a7))))) (some false)))) (some false)))) (cond (x.1 == (4 : Int)) (cond (x.2.1 == (0 : Int)) (cond (decide (x.2.2.2.1 ≤ (5 : Int))) (some (x.2.2.2.2 == (0 : Int))) (some false)) (some false)) (some false)))))))

noncomputable def c_I_IsValidContest : Con0 := ⟨pk_I_IsValidContest, rk_I_IsValidContest, M_I_IsValidContest⟩

set_option maxRecDepth 100000 in
theorem eq_I_IsValidContest (x : In pk_I_IsValidContest) : semF (mkE [(48, c_I_within)]) h_I_IsValidContest (info Tryz.f45) pk_I_IsValidContest rk_I_IsValidContest x = M_I_IsValidContest x := (semFF_eq _ _ _ _ _ _).symm.trans (by kernel_rfl)

set_option maxRecDepth 100000 in
theorem m_I_IsValidContest : ConOK Tryz.prog 45 c_I_IsValidContest := fn_ok (tyOK _) (E := mkE [(48, c_I_within)]) (consOK_cons m_I_within (consOK_nil rfl)) Tryz.func45 (h := h_I_IsValidContest) (by kernel_rfl) eq_I_IsValidContest

/-- I_Contest_base -/
def pk_I_Contest_base : List PK := [.data (.cons (.int .i64) (.cons (.int .i64) (.cons (.int .i64) (.cons (.int .i64) (.one (.int .i64))))))]
def rk_I_Contest_base : List (Ty × Bool) := [((.int .i64), false)]
def h_I_Contest_base : Hints := { loops := [] }
noncomputable def M_I_Contest_base (x : (Int × (Int × (Int × (Int × Int))))) : (Option Int) :=
  (cond (x.1 == (2 : Int)) (bindO (some (IntKind.wrap .i64 (x.2.2.2.2 + (1 : Int)))) (fun (a0 : Int) => (some a0))) (cond (x.1 == (3 : Int)) (bindO (some (IntKind.wrap .i64 (x.2.1 + (1 : Int)))) (fun (a1 : Int) => (some a1))) (cond (x.1 == (4 : Int)) (some (27 : Int)) (some (2 : Int)))))

noncomputable def c_I_Contest_base : Con0 := ⟨pk_I_Contest_base, rk_I_Contest_base, M_I_Contest_base⟩

set_option maxRecDepth 100000 in
theorem eq_I_Contest_base (x : In pk_I_Contest_base) : semF (mkE []) h_I_Contest_base (info Tryz.f76) pk_I_Contest_base rk_I_Contest_base x = M_I_Contest_base x := (semFF_eq _ _ _ _ _ _).symm.trans (by kernel_rfl)

set_option maxRecDepth 100000 in
theorem m_I_Contest_base : ConOK Tryz.prog 76 c_I_Contest_base := fn_ok (tyOK _) (E := mkE []) (consOK_nil rfl) Tryz.func76 (h := h_I_Contest_base) (by kernel_rfl) eq_I_Contest_base

/-- I_codeOf -/
def pk_I_codeOf : List PK := [.data (.sl (.int .i64)), .data (.int .i64)]
def rk_I_codeOf : List (Ty × Bool) := [((.int .i64), false)]
def h_I_codeOf : Hints := { loops := [(0, { items := [.slot 5 (.data (.int .i64) []), .slot 6 (.data (.int .i64) [])], kill := [2, 3, 4] ++ (sgN 7 16) })] }
noncomputable def M_I_codeOf (x : ((List Int) × Int)) : (Option Int) :=
  (bindO (some (IntKind.wrap .i64 ((((List.length x.1) : Nat) : Int) - (1 : Int)))) (fun (a0 : Int) => (loopO (fun (again1 : ((Int × Int) → (Option Int))) => (fun (s2 : (Int × Int)) => (cond (decide (s2.2 ≥ (0 : Int))) (bindO (some (IntKind.wrap .i64 (s2.1 * x.2))) (fun (a3 : Int) => (bindO (getI x.1 s2.2) (fun (a4 : Int) => (bindO (some (IntKind.wrap .i64 (a3 + a4))) (fun (a5 : Int) => (bindO (some (IntKind.wrap .i64 (s2.2 - (1 : Int)))) (fun (a6 : Int) => (again1 (a5, a6)))))))))) (some s2.1)))) ((0 : Int), a0))))

noncomputable def c_I_codeOf : Con0 := ⟨pk_I_codeOf, rk_I_codeOf, M_I_codeOf⟩

set_option maxRecDepth 100000 in
theorem eq_I_codeOf (x : In pk_I_codeOf) : semF (mkE []) h_I_codeOf (info Tryz.f75) pk_I_codeOf rk_I_codeOf x = M_I_codeOf x := (semFF_eq _ _ _ _ _ _).symm.trans (by kernel_rfl)

set_option maxRecDepth 100000 in
theorem m_I_codeOf : ConOK Tryz.prog 75 c_I_codeOf := fn_ok (tyOK _) (E := mkE []) (consOK_nil rfl) Tryz.func75 (h := h_I_codeOf) (by kernel_rfl) eq_I_codeOf

/-- I_Contest_greatest -/
def pk_I_Contest_greatest : List PK := [.data (.cons (.int .i64) (.cons (.int .i64) (.cons (.int .i64) (.cons (.int .i64) (.one (.int .i64))))))]
def rk_I_Contest_greatest : List (Ty × Bool) := [((.int .i64), false)]
def h_I_Contest_greatest : Hints := { loops := [(3, { items := [.slot 3 (.own (.int .i64) true), .slot 24 (.data (.int .i64) [])], kill := [0, 2] ++ (sgN 4 19 ++ (sgN 25 64)) }), (5, { items := [.slot 6 (.data (.int .i64) []), .slot 7 (.data (.int .i64) []), .arr 3 (.int .i64) true], kill := [0, 2, 4, 5] ++ (sgN 8 81) }), (7, { items := [.slot 3 (.own (.int .i64) true), .slot 70 (.data (.int .i64) [])], kill := [0, 2] ++ (sgN 4 65 ++ (sgN 71 18)) }), (1, { items := [.slot 3 (.own (.int .i64) true), .slot 14 (.data (.int .i64) [])], kill := [0, 2] ++ (sgN 4 9 ++ (sgN 15 74)) })] }
noncomputable def M_I_Contest_greatest (x : (Int × (Int × (Int × (Int × Int))))) : (Option Int) :=
  (cond (x.1 == (1 : Int)) (loopO (fun (again0 : (((List Int) × Int) → (Option Int))) => (fun (s1 : ((List Int) × Int)) => (cond (decide (s1.2 < x.2.1)) (bindO (some (IntKind.wrap .i64 (x.2.1 - x.2.2.2.1))) (fun (a2 : Int) => (cond (decide (s1.2 ≥ a2)) (bindO (guardO (lenOk ((List.length s1.1) + (List.length ((1 : Int) :: ([] : List Int)))))) (fun (a3 : Unit) => (bindO (some (s1.1 ++ ((1 : Int) :: ([] : List Int)))) (fun (a4 : (List Int)) => (bindO (some (IntKind.wrap .i64 (s1.2 + (1 : Int)))) (fun (a5 : Int) => (again0 (a4, a5)))))))) (bindO (guardO (lenOk ((List.length s1.1) + (List.length ((0 : Int) :: ([] : List Int)))))) (fun (a6 : Unit) => (bindO (some (s1.1 ++ ((0 : Int) :: ([] : List Int)))) (fun (a7 : (List Int)) => (bindO (some (IntKind.wrap .i64 (s1.2 + (1 : Int)))) (fun (a8 : Int) => (again0 (a7, a8))))))))))) (bindO (M_I_Contest_base (x.1, (x.2.1, (x.2.2.1, (x.2.2.2.1, x.2.2.2.2))))) (fun (a9 : Int) => (bindO (M_I_codeOf (s1.1, a9)) (fun (a10 : Int) => (some a10)))))))) (([] : List Int), (0 : Int))) (cond (x.1 == (2 : Int)) (bindO (guardO (((decide ((0 : Int) ≤ x.2.1)) && (decide (x.2.1 ≤ x.2.1))) && (decide (x.2.1 ≤ ((lim : Nat) : Int))))) (fun (a11 : Unit) => (bindO (some (IntKind.wrap .i64 (x.2.1 - (1 : Int)))) (fun (a12 : Int) => (loopO (fun (again13 : ((Int × (Int × (List Int))) → (Option Int))) => (fun (s14 : (Int × (Int × (List Int)))) => (cond (decide (s14.2.1 ≥ (0 : Int))) (bindO (getI s14.2.2 s14.2.1) (fun (a15 : Int) => (bindO (some (List.set s14.2.2 (Int.toNat s14.2.1) (if (x.2.2.2.2 < s14.1) then x.2.2.2.2 else s14.1))) (fun (a16 : (List Int)) => (bindO (getI a16 s14.2.1) (fun (a17 : Int) => (bindO (some (IntKind.wrap .i64 (s14.1 - a17))) (fun (a18 : Int) => (bindO (some (IntKind.wrap .i64 (s14.2.1 - (1 : Int)))) (fun (a19 : Int) => (again13 (a18, (a19, a16))))))))))))) (bindO (M_I_Contest_base (x.1, (x.2.1, (x.2.2.1, (x.2.2.2.1, x.2.2.2.2))))) (fun (a20 : Int) => (bindO (M_I_codeOf (s14.2.2, a20)) (fun (a21 : Int) => (some a21)))))))) (x.2.2.2.1, (a12, (List.replicate (Int.toNat x.2.1) (0 : Int))))))))) (cond (x.1 == (3 : Int)) (loopO (fun (again22 : (((List Int) × Int) → (Option Int))) => (fun (s23 : ((List Int) × Int)) => (cond (decide (s23.2 < x.2.2.2.1)) (bindO (some (IntKind.wrap .i64 (x.2.1 - x.2.2.2.1))) (fun (a24 : Int) => (bindO (some (IntKind.wrap .i64 (a24 + (1 : Int)))) (fun (a25 : Int) => (bindO (some (IntKind.wrap .i64 (a25 + s23.2))) (fun (a26 : Int) => (bindO (guardO (lenOk ((List.length s23.1) + (List.length (a26 :: ([] : List Int)))))) (fun (a27 : Unit) => (bindO (some (s23.1 ++ (a26 :: ([] : List Int)))) (fun (a28 : (List Int)) => (bindO (some (IntKind.wrap .i64 (s23.2 + (1 : Int)))) (fun (a29 : Int) => (again22 (a28, a29)))))))))))))) (bindO (M_I_Contest_base (x.1, (x.2.1, (x.2.2.1, (x.2.2.2.1, x.2.2.2.2))))) (fun (a30 : Int) => (bindO (M_I_codeOf (s23.1, a30)) (fun (a31 : Int) => (some a31)))))))) (([] : List Int), (0 : Int))) (loopO (fun (again32 : (((List Int) × Int) → (Option Int))) => (fun (s33 : ((List Int) × Int)) => (cond (decide (s33.2 < x.2.2.2.1)) (bindO (guardO (lenOk ((List.length s33.1) + (List.length ((26 : Int) :: ([] : List Int)))))) (fun (a34 : Unit) => (bindO (some (s33.1 ++ ((26 : Int) :: ([] : List Int)))) (fun (a35 : (List Int)) => (bindO (some (IntKind.wrap .i64 (s33.2 + (1 : Int)))) (fun (a36 : Int) => (again32 (a35, a36)))))))) (bindO (M_I_Contest_base (x.1, (x.2.1, (x.2.2.1, (x.2.2.2.1, x.2.2.2.2))))) (fun (a37 : Int) => (bindO (M_I_codeOf (s33.1, a37)) (fun (a38 : Int) => (some a38)))))))) (([] : List Int), (0 : Int))))))

noncomputable def c_I_Contest_greatest : Con0 := ⟨pk_I_Contest_greatest, rk_I_Contest_greatest, M_I_Contest_greatest⟩

set_option maxRecDepth 100000 in
theorem eq_I_Contest_greatest (x : In pk_I_Contest_greatest) : semF (mkE [(76, c_I_Contest_base), (75, c_I_codeOf)]) h_I_Contest_greatest (info Tryz.f46) pk_I_Contest_greatest rk_I_Contest_greatest x = M_I_Contest_greatest x := (semFF_eq _ _ _ _ _ _).symm.trans (by kernel_rfl)

set_option maxRecDepth 100000 in
theorem m_I_Contest_greatest : ConOK Tryz.prog 46 c_I_Contest_greatest := fn_ok (tyOK _) (E := mkE [(76, c_I_Contest_base), (75, c_I_codeOf)]) (consOK_cons m_I_Contest_base (consOK_cons m_I_codeOf (consOK_nil rfl))) Tryz.func46 (h := h_I_Contest_greatest) (by kernel_rfl) eq_I_Contest_greatest

/-- I_Contest_isForm -/
def pk_I_Contest_isForm : List PK := [.data (.cons (.int .i64) (.cons (.int .i64) (.cons (.int .i64) (.cons (.int .i64) (.one (.int .i64))))))]
def rk_I_Contest_isForm : List (Ty × Bool) := [(.bool, false)]
def h_I_Contest_isForm : Hints := { loops := [] }
noncomputable def M_I_Contest_isForm (x : (Int × (Int × (Int × (Int × Int))))) : (Option Bool) :=
  (cond (x.1 == (1 : Int)) (some true) (some (x.1 == (2 : Int))))

noncomputable def c_I_Contest_isForm : Con0 := ⟨pk_I_Contest_isForm, rk_I_Contest_isForm, M_I_Contest_isForm⟩

set_option maxRecDepth 100000 in
theorem eq_I_Contest_isForm (x : In pk_I_Contest_isForm) : semF (mkE []) h_I_Contest_isForm (info Tryz.f47) pk_I_Contest_isForm rk_I_Contest_isForm x = M_I_Contest_isForm x := (semFF_eq _ _ _ _ _ _).symm.trans (by kernel_rfl)

set_option maxRecDepth 100000 in
theorem m_I_Contest_isForm : ConOK Tryz.prog 47 c_I_Contest_isForm := fn_ok (tyOK _) (E := mkE []) (consOK_nil rfl) Tryz.func47 (h := h_I_Contest_isForm) (by kernel_rfl) eq_I_Contest_isForm

/-- I_IsSealable -/
def pk_I_IsSealable : List PK := [.data (.cons (.int .i64) (.cons (.int .i64) (.one (.int .i64)))), .data (.cons (.int .i64) (.cons (.int .i64) (.cons (.int .i64) (.cons (.int .i64) (.one (.int .i64))))))]
def rk_I_IsSealable : List (Ty × Bool) := [(.bool, false)]
def h_I_IsSealable : Hints := { loops := [] }
noncomputable def M_I_IsSealable (x : ((Int × (Int × Int)) × (Int × (Int × (Int × (Int × Int)))))) : (Option Bool) :=
  (bindO (M_I_IsValidGroup (x.1.1, (x.1.2.1, x.1.2.2))) (fun (a0 : Bool) => (cond (not a0) (some false) (bindO (M_I_IsValidContest (x.2.1, (x.2.2.1, (x.2.2.2.1, (x.2.2.2.2.1, x.2.2.2.2.2))))) (fun (a1 : Bool) => (cond (not a1) (some false) (bindO (M_I_Contest_greatest (x.2.1, (x.2.2.1, (x.2.2.2.1, (x.2.2.2.2.1, x.2.2.2.2.2))))) (fun (a2 : Int) => (cond (decide (a2 > (100000 : Int))) (some false) (bindO (M_I_Contest_greatest (x.2.1, (x.2.2.1, (x.2.2.2.1, (x.2.2.2.2.1, x.2.2.2.2.2))))) (fun (a3 : Int) => (cond (decide (a3 ≥ x.1.2.1)) (some false) (bindO (M_I_Contest_isForm (x.2.1, (x.2.2.1, (x.2.2.2.1, (x.2.2.2.2.1, x.2.2.2.2.2))))) (fun (a4 : Bool) => (cond (not a4) (some true) (bindO (some (IntKind.wrap .i64 (x.2.2.2.2.1 - x.2.2.2.1))) (fun (a5 : Int) => (cond (decide (a5 < (8 : Int))) (some (decide (x.2.2.2.2.1 < x.1.2.1))) (some false)))))))))))))))))))

noncomputable def c_I_IsSealable : Con0 := ⟨pk_I_IsSealable, rk_I_IsSealable, M_I_IsSealable⟩

set_option maxRecDepth 100000 in
theorem eq_I_IsSealable (x : In pk_I_IsSealable) : semF (mkE [(44, c_I_IsValidGroup), (45, c_I_IsValidContest), (46, c_I_Contest_greatest), (47, c_I_Contest_isForm)]) h_I_IsSealable (info Tryz.f20) pk_I_IsSealable rk_I_IsSealable x = M_I_IsSealable x := (semFF_eq _ _ _ _ _ _).symm.trans (by kernel_rfl)

set_option maxRecDepth 100000 in
theorem m_I_IsSealable : ConOK Tryz.prog 20 c_I_IsSealable := fn_ok (tyOK _) (E := mkE [(44, c_I_IsValidGroup), (45, c_I_IsValidContest), (46, c_I_Contest_greatest), (47, c_I_Contest_isForm)]) (consOK_cons m_I_IsValidGroup (consOK_cons m_I_IsValidContest (consOK_cons m_I_Contest_greatest (consOK_cons m_I_Contest_isForm (consOK_nil rfl))))) Tryz.func20 (h := h_I_IsSealable) (by kernel_rfl) eq_I_IsSealable

/-- I_Group_has -/
def pk_I_Group_has : List PK := [.data (.cons (.int .i64) (.cons (.int .i64) (.one (.int .i64)))), .data (.int .i64)]
def rk_I_Group_has : List (Ty × Bool) := [(.bool, false)]
def h_I_Group_has : Hints := { loops := [] }
noncomputable def M_I_Group_has (x : ((Int × (Int × Int)) × Int)) : (Option Bool) :=
  (bindO (some (IntKind.wrap .i64 (x.1.1 - (1 : Int)))) (fun (a0 : Int) => (bindO (M_I_within (x.2, ((1 : Int), a0))) (fun (a1 : Bool) => (cond a1 (bindO (M_I_power (x.2, (x.1.2.1, x.1.1))) (fun (a2 : Int) => (some (a2 == (1 : Int))))) (some false))))))

noncomputable def c_I_Group_has : Con0 := ⟨pk_I_Group_has, rk_I_Group_has, M_I_Group_has⟩

set_option maxRecDepth 100000 in
theorem eq_I_Group_has (x : In pk_I_Group_has) : semF (mkE [(48, c_I_within), (49, c_I_power)]) h_I_Group_has (info Tryz.f21) pk_I_Group_has rk_I_Group_has x = M_I_Group_has x := (semFF_eq _ _ _ _ _ _).symm.trans (by kernel_rfl)

set_option maxRecDepth 100000 in
theorem m_I_Group_has : ConOK Tryz.prog 21 c_I_Group_has := fn_ok (tyOK _) (E := mkE [(48, c_I_within), (49, c_I_power)]) (consOK_cons m_I_within (consOK_cons m_I_power (consOK_nil rfl))) Tryz.func21 (h := h_I_Group_has) (by kernel_rfl) eq_I_Group_has

/-- I_Contest_width -/
def pk_I_Contest_width : List PK := [.data (.cons (.int .i64) (.cons (.int .i64) (.cons (.int .i64) (.cons (.int .i64) (.one (.int .i64))))))]
def rk_I_Contest_width : List (Ty × Bool) := [((.int .i64), false)]
def h_I_Contest_width : Hints := { loops := [] }
noncomputable def M_I_Contest_width (x : (Int × (Int × (Int × (Int × Int))))) : (Option Int) :=
  (bindO (M_I_Contest_isForm (x.1, (x.2.1, (x.2.2.1, (x.2.2.2.1, x.2.2.2.2))))) (fun (a0 : Bool) => (cond a0 (some x.2.1) (some (1 : Int)))))

noncomputable def c_I_Contest_width : Con0 := ⟨pk_I_Contest_width, rk_I_Contest_width, M_I_Contest_width⟩

set_option maxRecDepth 100000 in
theorem eq_I_Contest_width (x : In pk_I_Contest_width) : semF (mkE [(47, c_I_Contest_isForm)]) h_I_Contest_width (info Tryz.f50) pk_I_Contest_width rk_I_Contest_width x = M_I_Contest_width x := (semFF_eq _ _ _ _ _ _).symm.trans (by kernel_rfl)

set_option maxRecDepth 100000 in
theorem m_I_Contest_width : ConOK Tryz.prog 50 c_I_Contest_width := fn_ok (tyOK _) (E := mkE [(47, c_I_Contest_isForm)]) (consOK_cons m_I_Contest_isForm (consOK_nil rfl)) Tryz.func50 (h := h_I_Contest_width) (by kernel_rfl) eq_I_Contest_width

/-- I_isVoter -/
def pk_I_isVoter : List PK := [.data (.int .i64)]
def rk_I_isVoter : List (Ty × Bool) := [(.bool, false)]
def h_I_isVoter : Hints := { loops := [] }
noncomputable def M_I_isVoter (x : Int) : (Option Bool) :=
  (bindO (M_I_within (x, ((0 : Int), (999999 : Int)))) (fun (a0 : Bool) => (some a0)))

noncomputable def c_I_isVoter : Con0 := ⟨pk_I_isVoter, rk_I_isVoter, M_I_isVoter⟩

set_option maxRecDepth 100000 in
theorem eq_I_isVoter (x : In pk_I_isVoter) : semF (mkE [(48, c_I_within)]) h_I_isVoter (info Tryz.f51) pk_I_isVoter rk_I_isVoter x = M_I_isVoter x := (semFF_eq _ _ _ _ _ _).symm.trans (by kernel_rfl)

set_option maxRecDepth 100000 in
theorem m_I_isVoter : ConOK Tryz.prog 51 c_I_isVoter := fn_ok (tyOK _) (E := mkE [(48, c_I_within)]) (consOK_cons m_I_within (consOK_nil rfl)) Tryz.func51 (h := h_I_isVoter) (by kernel_rfl) eq_I_isVoter

/-- slices_IndexFunc_sI_Cipher_I_Cipher -/
def pk_slices_IndexFunc_sI_Cipher_I_Cipher : List PK := [.data (.sl (.cons (.int .i64) (.one (.int .i64)))), .fn [(.cons (.int .i64) (.one (.int .i64)))] .bool]
def rk_slices_IndexFunc_sI_Cipher_I_Cipher : List (Ty × Bool) := [((.int .i64), false)]
def h_slices_IndexFunc_sI_Cipher_I_Cipher : Hints := { loops := [(0, { items := [.slot 8 (.data (.int .i64) [])], kill := sgN 2 5 ++ (sgN 9 10) })] }
noncomputable def M_slices_IndexFunc_sI_Cipher_I_Cipher (x : ((List (Int × Int)) × ((Int × Int) → (Option Bool)))) : (Option Int) :=
  (loopO (fun (again0 : (Int → (Option Int))) => (fun (s1 : Int) => (cond (decide (s1 < (((List.length x.1) : Nat) : Int))) (bindO (getI x.1 s1) (fun (a2 : (Int × Int)) => (bindO (x.2 (a2.1, a2.2)) (fun (a3 : Bool) => (cond a3 (some s1) (bindO (some (IntKind.wrap .i64 (s1 + (1 : Int)))) (fun (a4 : Int) => (again0 a4)))))))) (some (- (1 : Int)))))) (0 : Int))

noncomputable def c_slices_IndexFunc_sI_Cipher_I_Cipher : Con0 := ⟨pk_slices_IndexFunc_sI_Cipher_I_Cipher, rk_slices_IndexFunc_sI_Cipher_I_Cipher, M_slices_IndexFunc_sI_Cipher_I_Cipher⟩

set_option maxRecDepth 100000 in
theorem eq_slices_IndexFunc_sI_Cipher_I_Cipher (x : In pk_slices_IndexFunc_sI_Cipher_I_Cipher) : semF (mkE []) h_slices_IndexFunc_sI_Cipher_I_Cipher (info Tryz.f98) pk_slices_IndexFunc_sI_Cipher_I_Cipher rk_slices_IndexFunc_sI_Cipher_I_Cipher x = M_slices_IndexFunc_sI_Cipher_I_Cipher x := (semFF_eq _ _ _ _ _ _).symm.trans (by kernel_rfl)

set_option maxRecDepth 100000 in
theorem m_slices_IndexFunc_sI_Cipher_I_Cipher : ConOK Tryz.prog 98 c_slices_IndexFunc_sI_Cipher_I_Cipher := fn_ok (tyOK _) (E := mkE []) (consOK_nil rfl) Tryz.func98 (h := h_slices_IndexFunc_sI_Cipher_I_Cipher) (by kernel_rfl) eq_slices_IndexFunc_sI_Cipher_I_Cipher

/-- slices_ContainsFunc_sI_Cipher_I_Cipher -/
def pk_slices_ContainsFunc_sI_Cipher_I_Cipher : List PK := [.data (.sl (.cons (.int .i64) (.one (.int .i64)))), .fn [(.cons (.int .i64) (.one (.int .i64)))] .bool]
def rk_slices_ContainsFunc_sI_Cipher_I_Cipher : List (Ty × Bool) := [(.bool, false)]
def h_slices_ContainsFunc_sI_Cipher_I_Cipher : Hints := { loops := [] }
noncomputable def M_slices_ContainsFunc_sI_Cipher_I_Cipher (x : ((List (Int × Int)) × ((Int × Int) → (Option Bool)))) : (Option Bool) :=
  (bindO (M_slices_IndexFunc_sI_Cipher_I_Cipher (x.1, x.2)) (fun (a0 : Int) => (some (decide (a0 ≥ (0 : Int))))))

noncomputable def c_slices_ContainsFunc_sI_Cipher_I_Cipher : Con0 := ⟨pk_slices_ContainsFunc_sI_Cipher_I_Cipher, rk_slices_ContainsFunc_sI_Cipher_I_Cipher, M_slices_ContainsFunc_sI_Cipher_I_Cipher⟩

set_option maxRecDepth 100000 in
theorem eq_slices_ContainsFunc_sI_Cipher_I_Cipher (x : In pk_slices_ContainsFunc_sI_Cipher_I_Cipher) : semF (mkE [(98, c_slices_IndexFunc_sI_Cipher_I_Cipher)]) h_slices_ContainsFunc_sI_Cipher_I_Cipher (info Tryz.f77) pk_slices_ContainsFunc_sI_Cipher_I_Cipher rk_slices_ContainsFunc_sI_Cipher_I_Cipher x = M_slices_ContainsFunc_sI_Cipher_I_Cipher x := (semFF_eq _ _ _ _ _ _).symm.trans (by kernel_rfl)

set_option maxRecDepth 100000 in
theorem m_slices_ContainsFunc_sI_Cipher_I_Cipher : ConOK Tryz.prog 77 c_slices_ContainsFunc_sI_Cipher_I_Cipher := fn_ok (tyOK _) (E := mkE [(98, c_slices_IndexFunc_sI_Cipher_I_Cipher)]) (consOK_cons m_slices_IndexFunc_sI_Cipher_I_Cipher (consOK_nil rfl)) Tryz.func77 (h := h_slices_ContainsFunc_sI_Cipher_I_Cipher) (by kernel_rfl) eq_slices_ContainsFunc_sI_Cipher_I_Cipher

/-- I_Group_hasCipher -/
def pk_I_Group_hasCipher : List PK := [.data (.cons (.int .i64) (.cons (.int .i64) (.one (.int .i64)))), .data (.cons (.int .i64) (.one (.int .i64)))]
def rk_I_Group_hasCipher : List (Ty × Bool) := [(.bool, false)]
def h_I_Group_hasCipher : Hints := { loops := [] }
noncomputable def M_I_Group_hasCipher (x : ((Int × (Int × Int)) × (Int × Int))) : (Option Bool) :=
  (bindO (M_I_Group_has ((x.1.1, (x.1.2.1, x.1.2.2)), x.2.1)) (fun (a0 : Bool) => (cond a0 (bindO (M_I_Group_has ((x.1.1, (x.1.2.1, x.1.2.2)), x.2.2)) (fun (a1 : Bool) => (some a1))) (some false))))

noncomputable def c_I_Group_hasCipher : Con0 := ⟨pk_I_Group_hasCipher, rk_I_Group_hasCipher, M_I_Group_hasCipher⟩

set_option maxRecDepth 100000 in
theorem eq_I_Group_hasCipher (x : In pk_I_Group_hasCipher) : semF (mkE [(21, c_I_Group_has)]) h_I_Group_hasCipher (info Tryz.f79) pk_I_Group_hasCipher rk_I_Group_hasCipher x = M_I_Group_hasCipher x := (semFF_eq _ _ _ _ _ _).symm.trans (by kernel_rfl)

set_option maxRecDepth 100000 in
theorem m_I_Group_hasCipher : ConOK Tryz.prog 79 c_I_Group_hasCipher := fn_ok (tyOK _) (E := mkE [(21, c_I_Group_has)]) (consOK_cons m_I_Group_has (consOK_nil rfl)) Tryz.func79 (h := h_I_Group_hasCipher) (by kernel_rfl) eq_I_Group_hasCipher

/-- I_Group_hasCiphers_1 -/
def pk_I_Group_hasCiphers_1 : List PK := [.data (.cons (.int .i64) (.one (.int .i64))), .rp (.cons (.int .i64) (.cons (.int .i64) (.one (.int .i64))))]
def rk_I_Group_hasCiphers_1 : List (Ty × Bool) := [(.bool, false)]
def h_I_Group_hasCiphers_1 : Hints := { loops := [] }
noncomputable def M_I_Group_hasCiphers_1 (x : ((Int × Int) × (Int × (Int × Int)))) : (Option Bool) :=
  (bindO (M_I_Group_hasCipher ((x.2.1, (x.2.2.1, x.2.2.2)), (x.1.1, x.1.2))) (fun (a0 : Bool) => (some (not a0))))

noncomputable def c_I_Group_hasCiphers_1 : Con0 := ⟨pk_I_Group_hasCiphers_1, rk_I_Group_hasCiphers_1, M_I_Group_hasCiphers_1⟩

set_option maxRecDepth 100000 in
theorem eq_I_Group_hasCiphers_1 (x : In pk_I_Group_hasCiphers_1) : semF (mkE [(79, c_I_Group_hasCipher)]) h_I_Group_hasCiphers_1 (info Tryz.f78) pk_I_Group_hasCiphers_1 rk_I_Group_hasCiphers_1 x = M_I_Group_hasCiphers_1 x := (semFF_eq _ _ _ _ _ _).symm.trans (by kernel_rfl)

set_option maxRecDepth 100000 in
theorem m_I_Group_hasCiphers_1 : ConOK Tryz.prog 78 c_I_Group_hasCiphers_1 := fn_ok (tyOK _) (E := mkE [(79, c_I_Group_hasCipher)]) (consOK_cons m_I_Group_hasCipher (consOK_nil rfl)) Tryz.func78 (h := h_I_Group_hasCiphers_1) (by kernel_rfl) eq_I_Group_hasCiphers_1

/-- I_Group_hasCiphers -/
def pk_I_Group_hasCiphers : List PK := [.data (.cons (.int .i64) (.cons (.int .i64) (.one (.int .i64)))), .data (.sl (.cons (.int .i64) (.one (.int .i64))))]
def rk_I_Group_hasCiphers : List (Ty × Bool) := [(.bool, false)]
def h_I_Group_hasCiphers : Hints := { loops := [] }
noncomputable def M_I_Group_hasCiphers (x : ((Int × (Int × Int)) × (List (Int × Int)))) : (Option Bool) :=
  (cond (decide ((((List.length x.2) : Nat) : Int) ≤ (24 : Int))) (bindO (M_slices_ContainsFunc_sI_Cipher_I_Cipher (x.2, (fun (a0 : (Int × Int)) => (bindO (M_I_Group_hasCiphers_1 (a0, (x.1.1, (x.1.2.1, x.1.2.2)))) (fun (a1 : Bool) => (some a1)))))) (fun (a2 : Bool) => (some (not a2)))) (some false))

noncomputable def c_I_Group_hasCiphers : Con0 := ⟨pk_I_Group_hasCiphers, rk_I_Group_hasCiphers, M_I_Group_hasCiphers⟩

set_option maxRecDepth 100000 in
theorem eq_I_Group_hasCiphers (x : In pk_I_Group_hasCiphers) : semF (mkE [(77, c_slices_ContainsFunc_sI_Cipher_I_Cipher), (78, c_I_Group_hasCiphers_1)]) h_I_Group_hasCiphers (info Tryz.f52) pk_I_Group_hasCiphers rk_I_Group_hasCiphers x = M_I_Group_hasCiphers x := (semFF_eq _ _ _ _ _ _).symm.trans (by kernel_rfl)

set_option maxRecDepth 100000 in
theorem m_I_Group_hasCiphers : ConOK Tryz.prog 52 c_I_Group_hasCiphers := fn_ok (tyOK _) (E := mkE [(77, c_slices_ContainsFunc_sI_Cipher_I_Cipher), (78, c_I_Group_hasCiphers_1)]) (consOK_cons m_slices_ContainsFunc_sI_Cipher_I_Cipher (consOK_cons m_I_Group_hasCiphers_1 (consOK_nil rfl))) Tryz.func52 (h := h_I_Group_hasCiphers) (by kernel_rfl) eq_I_Group_hasCiphers

/-- strconv_Itoa -/
def pk_strconv_Itoa : List PK := [.data (.int .i64)]
def rk_strconv_Itoa : List (Ty × Bool) := [(.str, false)]
noncomputable def M_strconv_Itoa (x : Int) : (Option ByteArray) :=
  (if -9223372036854775808 ≤ x ∧ x ≤ 9223372036854775807 then some (⟨(Go.Lib.itoa x).toArray⟩ : ByteArray) else Option.none)

noncomputable def c_strconv_Itoa : Con0 := ⟨pk_strconv_Itoa, rk_strconv_Itoa, M_strconv_Itoa⟩

def ito_ren : Go.Shelf.Ren := ⟨fun | 171 => 80 | 243 => 99 | 246 => 109 | 283 => 115 | 284 => 116 | 285 => 117 | 286 => 118 | 129 => 123 | 317 => 122 | 318 => 124 | 319 => 125 | 320 => 126 | 337 => 128 | 338 => 129 | n => n, fun | 3 => 3 | 9 => 9 | 2 => 2 | 4 => 4 | 171 => 132 | 0 => 0 | 53 => 133 | 37 => 115 | 5 => 5 | 173 => 136 | 212 => 142 | 51 => 143 | 20 => 20 | 213 => 144 | 46 => 101 | 232 => 147 | 233 => 148 | n => n, fun | 17 => 0 | 18 => 1 | 19 => 2 | n => n⟩
set_option maxRecDepth 100000 in
theorem ito_lays : Go.Proofs.LaysM.n171 Tryz.prog ito_ren where
  mixed := by kernel_rfl
  f129 := Tryz.func123.trans (congrArg some (by kernel_rfl))
  f171 := Tryz.func80.trans (congrArg some (by kernel_rfl))
  f243 := Tryz.func99.trans (congrArg some (by kernel_rfl))
  f246 := Tryz.func109.trans (congrArg some (by kernel_rfl))
  f283 := Tryz.func115.trans (congrArg some (by kernel_rfl))
  f284 := Tryz.func116.trans (congrArg some (by kernel_rfl))
  f285 := Tryz.func117.trans (congrArg some (by kernel_rfl))
  f286 := Tryz.func118.trans (congrArg some (by kernel_rfl))
  f317 := Tryz.func122.trans (congrArg some (by kernel_rfl))
  f318 := Tryz.func124.trans (congrArg some (by kernel_rfl))
  f319 := Tryz.func125.trans (congrArg some (by kernel_rfl))
  f320 := Tryz.func126.trans (congrArg some (by kernel_rfl))
  f337 := Tryz.func128.trans (congrArg some (by kernel_rfl))
  f338 := Tryz.func129.trans (congrArg some (by kernel_rfl))
  t0 := Tryz.underlying0
  a0 := Tryz.isAgg0
  z0 := Tryz.sizeOf0
  v0 := Tryz.zeroValue0
  t2 := Tryz.underlying2
  a2 := Tryz.isAgg2
  z2 := Tryz.sizeOf2
  v2 := Tryz.zeroValue2
  t3 := Tryz.underlying3
  a3 := Tryz.isAgg3
  z3 := Tryz.sizeOf3
  v3 := Tryz.zeroValue3
  t4 := Tryz.underlying4
  a4 := Tryz.isAgg4
  z4 := Tryz.sizeOf4
  v4 := Tryz.zeroValue4
  t5 := Tryz.underlying5
  a5 := Tryz.isAgg5
  z5 := Tryz.sizeOf5
  v5 := Tryz.zeroValue5
  t9 := Tryz.underlying9
  a9 := Tryz.isAgg9
  z9 := Tryz.sizeOf9
  v9 := Tryz.zeroValue9
  t20 := Tryz.underlying20
  a20 := Tryz.isAgg20
  z20 := Tryz.sizeOf20
  v20 := Tryz.zeroValue20
  t37 := Tryz.underlying115
  a37 := Tryz.isAgg115
  z37 := Tryz.sizeOf115
  v37 := Tryz.zeroValue115
  t46 := Tryz.underlying101
  a46 := Tryz.isAgg101
  z46 := Tryz.sizeOf101
  v46 := Tryz.zeroValue101
  t51 := Tryz.underlying143
  a51 := Tryz.isAgg143
  z51 := Tryz.sizeOf143
  v51 := Tryz.zeroValue143
  t53 := Tryz.underlying133
  a53 := Tryz.isAgg133
  z53 := Tryz.sizeOf133
  v53 := Tryz.zeroValue133
  t171 := Tryz.underlying132
  a171 := Tryz.isAgg132
  z171 := Tryz.sizeOf132
  v171 := Tryz.zeroValue132
  t173 := Tryz.underlying136
  a173 := Tryz.isAgg136
  z173 := Tryz.sizeOf136
  v173 := Tryz.zeroValue136
  t212 := Tryz.underlying142
  a212 := Tryz.isAgg142
  z212 := Tryz.sizeOf142
  v212 := Tryz.zeroValue142
  t213 := Tryz.underlying144
  a213 := Tryz.isAgg144
  z213 := Tryz.sizeOf144
  t232 := Tryz.underlying147
  a232 := Tryz.isAgg147
  z232 := Tryz.sizeOf147
  v232 := Tryz.zeroValue147
  t233 := Tryz.underlying148
  a233 := Tryz.isAgg148
  z233 := Tryz.sizeOf148
  v233 := Tryz.zeroValue148
  g17 := by kernel_rfl
  g18 := by kernel_rfl
  g19 := by kernel_rfl
  i0 := by kernel_rfl
  i2 := by kernel_rfl
  i3 := by kernel_rfl
  i4 := by kernel_rfl
  i5 := by kernel_rfl
  i9 := by kernel_rfl
  i20 := by kernel_rfl
  i37 := by kernel_rfl
  i46 := by kernel_rfl
  i51 := by kernel_rfl
  i53 := by kernel_rfl
  i171 := by kernel_rfl
  i173 := by kernel_rfl
  i212 := by kernel_rfl
  i232 := by kernel_rfl
  i233 := by kernel_rfl
  m17 := by kernel_rfl
  m18 := by kernel_rfl
  m19 := by kernel_rfl

theorem ito_tab : Tryz.prog.globalNamed "internal/strconv.uint64pow10" = some 0 := by kernel_rfl

theorem m_strconv_Itoa : ConOK Tryz.prog 80 c_strconv_Itoa := ito_ok ⟨Tryz.f80, Tryz.func80, of_decide_eq_true (by kernel_rfl), by kernel_rfl⟩ (ito_law ito_lays (tab_of_met ito_tab (List.mem_singleton.2 rfl)))

/-- I_ballotLabel -/
def pk_I_ballotLabel : List PK := [.data (.int .i64)]
def rk_I_ballotLabel : List (Ty × Bool) := [(.str, false)]
def h_I_ballotLabel : Hints := { loops := [] }
noncomputable def M_I_ballotLabel (x : Int) : (Option ByteArray) :=
  (bindO (M_strconv_Itoa x) (fun (a0 : ByteArray) => (bindO (guardO (lenOk ((ByteArray.size (bytesOf [98, 97, 108, 108, 111, 116, 32])) + (ByteArray.size a0)))) (fun (a1 : Unit) => (some ((bytesOf [98, 97, 108, 108, 111, 116, 32]) ++ a0))))))

noncomputable def c_I_ballotLabel : Con0 := ⟨pk_I_ballotLabel, rk_I_ballotLabel, M_I_ballotLabel⟩

set_option maxRecDepth 100000 in
theorem eq_I_ballotLabel (x : In pk_I_ballotLabel) : semF (mkE [(80, c_strconv_Itoa)]) h_I_ballotLabel (info Tryz.f53) pk_I_ballotLabel rk_I_ballotLabel x = M_I_ballotLabel x := (semFF_eq _ _ _ _ _ _).symm.trans (by kernel_rfl)

set_option maxRecDepth 100000 in
theorem m_I_ballotLabel : ConOK Tryz.prog 53 c_I_ballotLabel := fn_ok (tyOK _) (E := mkE [(80, c_strconv_Itoa)]) (consOK_cons m_strconv_Itoa (consOK_nil rfl)) Tryz.func53 (h := h_I_ballotLabel) (by kernel_rfl) eq_I_ballotLabel

/-- I_Proof_isEmpty -/
def pk_I_Proof_isEmpty : List PK := [.data (.cons (.sl (.int .i64)) (.cons (.sl (.int .i64)) (.one (.sl (.int .i64)))))]
def rk_I_Proof_isEmpty : List (Ty × Bool) := [(.bool, false)]
def h_I_Proof_isEmpty : Hints := { loops := [] }
noncomputable def M_I_Proof_isEmpty (x : ((List Int) × ((List Int) × (List Int)))) : (Option Bool) :=
  (cond ((((List.length x.1) : Nat) : Int) == (0 : Int)) (cond ((((List.length x.2.1) : Nat) : Int) == (0 : Int)) (some ((((List.length x.2.2) : Nat) : Int) == (0 : Int))) (some false)) (some false))

noncomputable def c_I_Proof_isEmpty : Con0 := ⟨pk_I_Proof_isEmpty, rk_I_Proof_isEmpty, M_I_Proof_isEmpty⟩

set_option maxRecDepth 100000 in
theorem eq_I_Proof_isEmpty (x : In pk_I_Proof_isEmpty) : semF (mkE []) h_I_Proof_isEmpty (info Tryz.f54) pk_I_Proof_isEmpty rk_I_Proof_isEmpty x = M_I_Proof_isEmpty x := (semFF_eq _ _ _ _ _ _).symm.trans (by kernel_rfl)

set_option maxRecDepth 100000 in
theorem m_I_Proof_isEmpty : ConOK Tryz.prog 54 c_I_Proof_isEmpty := fn_ok (tyOK _) (E := mkE []) (consOK_nil rfl) Tryz.func54 (h := h_I_Proof_isEmpty) (by kernel_rfl) eq_I_Proof_isEmpty

/-- slices_IndexFunc_sint_int -/
def pk_slices_IndexFunc_sint_int : List PK := [.data (.sl (.int .i64)), .fn [(.int .i64)] .bool]
def rk_slices_IndexFunc_sint_int : List (Ty × Bool) := [((.int .i64), false)]
def h_slices_IndexFunc_sint_int : Hints := { loops := [(0, { items := [.slot 8 (.data (.int .i64) [])], kill := sgN 2 5 ++ (sgN 9 10) })] }
noncomputable def M_slices_IndexFunc_sint_int (x : ((List Int) × (Int → (Option Bool)))) : (Option Int) :=
  (loopO (fun (again0 : (Int → (Option Int))) => (fun (s1 : Int) => (cond (decide (s1 < (((List.length x.1) : Nat) : Int))) (bindO (getI x.1 s1) (fun (a2 : Int) => (bindO (x.2 a2) (fun (a3 : Bool) => (cond a3 (some s1) (bindO (some (IntKind.wrap .i64 (s1 + (1 : Int)))) (fun (a4 : Int) => (again0 a4)))))))) (some (- (1 : Int)))))) (0 : Int))

noncomputable def c_slices_IndexFunc_sint_int : Con0 := ⟨pk_slices_IndexFunc_sint_int, rk_slices_IndexFunc_sint_int, M_slices_IndexFunc_sint_int⟩

set_option maxRecDepth 100000 in
theorem eq_slices_IndexFunc_sint_int (x : In pk_slices_IndexFunc_sint_int) : semF (mkE []) h_slices_IndexFunc_sint_int (info Tryz.f119) pk_slices_IndexFunc_sint_int rk_slices_IndexFunc_sint_int x = M_slices_IndexFunc_sint_int x := (semFF_eq _ _ _ _ _ _).symm.trans (by kernel_rfl)

set_option maxRecDepth 100000 in
theorem m_slices_IndexFunc_sint_int : ConOK Tryz.prog 119 c_slices_IndexFunc_sint_int := fn_ok (tyOK _) (E := mkE []) (consOK_nil rfl) Tryz.func119 (h := h_slices_IndexFunc_sint_int) (by kernel_rfl) eq_slices_IndexFunc_sint_int

/-- slices_ContainsFunc_sint_int -/
def pk_slices_ContainsFunc_sint_int : List PK := [.data (.sl (.int .i64)), .fn [(.int .i64)] .bool]
def rk_slices_ContainsFunc_sint_int : List (Ty × Bool) := [(.bool, false)]
def h_slices_ContainsFunc_sint_int : Hints := { loops := [] }
noncomputable def M_slices_ContainsFunc_sint_int (x : ((List Int) × (Int → (Option Bool)))) : (Option Bool) :=
  (bindO (M_slices_IndexFunc_sint_int (x.1, x.2)) (fun (a0 : Int) => (some (decide (a0 ≥ (0 : Int))))))

noncomputable def c_slices_ContainsFunc_sint_int : Con0 := ⟨pk_slices_ContainsFunc_sint_int, rk_slices_ContainsFunc_sint_int, M_slices_ContainsFunc_sint_int⟩

set_option maxRecDepth 100000 in
theorem eq_slices_ContainsFunc_sint_int (x : In pk_slices_ContainsFunc_sint_int) : semF (mkE [(119, c_slices_IndexFunc_sint_int)]) h_slices_ContainsFunc_sint_int (info Tryz.f110) pk_slices_ContainsFunc_sint_int rk_slices_ContainsFunc_sint_int x = M_slices_ContainsFunc_sint_int x := (semFF_eq _ _ _ _ _ _).symm.trans (by kernel_rfl)

set_option maxRecDepth 100000 in
theorem m_slices_ContainsFunc_sint_int : ConOK Tryz.prog 110 c_slices_ContainsFunc_sint_int := fn_ok (tyOK _) (E := mkE [(119, c_slices_IndexFunc_sint_int)]) (consOK_cons m_slices_IndexFunc_sint_int (consOK_nil rfl)) Tryz.func110 (h := h_slices_ContainsFunc_sint_int) (by kernel_rfl) eq_slices_ContainsFunc_sint_int

/-- I_areAll_1 -/
def pk_I_areAll_1 : List PK := [.data (.int .i64), .rfn [(.int .i64)] .bool]
def rk_I_areAll_1 : List (Ty × Bool) := [(.bool, false)]
def h_I_areAll_1 : Hints := { loops := [] }
noncomputable def M_I_areAll_1 (x : (Int × (Int → (Option Bool)))) : (Option Bool) :=
  (bindO (x.2 x.1) (fun (a0 : Bool) => (some (not a0))))

noncomputable def c_I_areAll_1 : Con0 := ⟨pk_I_areAll_1, rk_I_areAll_1, M_I_areAll_1⟩

set_option maxRecDepth 100000 in
theorem eq_I_areAll_1 (x : In pk_I_areAll_1) : semF (mkE []) h_I_areAll_1 (info Tryz.f111) pk_I_areAll_1 rk_I_areAll_1 x = M_I_areAll_1 x := (semFF_eq _ _ _ _ _ _).symm.trans (by kernel_rfl)

set_option maxRecDepth 100000 in
theorem m_I_areAll_1 : ConOK Tryz.prog 111 c_I_areAll_1 := fn_ok (tyOK _) (E := mkE []) (consOK_nil rfl) Tryz.func111 (h := h_I_areAll_1) (by kernel_rfl) eq_I_areAll_1

/-- I_areAll -/
def pk_I_areAll : List PK := [.data (.sl (.int .i64)), .fn [(.int .i64)] .bool]
def rk_I_areAll : List (Ty × Bool) := [(.bool, false)]
def h_I_areAll : Hints := { loops := [] }
noncomputable def M_I_areAll (x : ((List Int) × (Int → (Option Bool)))) : (Option Bool) :=
  (bindO (M_slices_ContainsFunc_sint_int (x.1, (fun (a0 : Int) => (bindO (M_I_areAll_1 (a0, x.2)) (fun (a1 : Bool) => (some a1)))))) (fun (a2 : Bool) => (some (not a2))))

noncomputable def c_I_areAll : Con0 := ⟨pk_I_areAll, rk_I_areAll, M_I_areAll⟩

set_option maxRecDepth 100000 in
theorem eq_I_areAll (x : In pk_I_areAll) : semF (mkE [(110, c_slices_ContainsFunc_sint_int), (111, c_I_areAll_1)]) h_I_areAll (info Tryz.f100) pk_I_areAll rk_I_areAll x = M_I_areAll x := (semFF_eq _ _ _ _ _ _).symm.trans (by kernel_rfl)

set_option maxRecDepth 100000 in
theorem m_I_areAll : ConOK Tryz.prog 100 c_I_areAll := fn_ok (tyOK _) (E := mkE [(110, c_slices_ContainsFunc_sint_int), (111, c_I_areAll_1)]) (consOK_cons m_slices_ContainsFunc_sint_int (consOK_cons m_I_areAll_1 (consOK_nil rfl))) Tryz.func100 (h := h_I_areAll) (by kernel_rfl) eq_I_areAll

/-- I_Group_hasAll -/
def pk_I_Group_hasAll : List PK := [.data (.cons (.int .i64) (.cons (.int .i64) (.one (.int .i64)))), .data (.sl (.int .i64))]
def rk_I_Group_hasAll : List (Ty × Bool) := [(.bool, false)]
def h_I_Group_hasAll : Hints := { loops := [] }
noncomputable def M_I_Group_hasAll (x : ((Int × (Int × Int)) × (List Int))) : (Option Bool) :=
  (bindO (M_I_areAll (x.2, (fun (a0 : Int) => (bindO (M_I_Group_has ((x.1.1, (x.1.2.1, x.1.2.2)), a0)) (fun (a1 : Bool) => (some a1)))))) (fun (a2 : Bool) => (some a2)))

noncomputable def c_I_Group_hasAll : Con0 := ⟨pk_I_Group_hasAll, rk_I_Group_hasAll, M_I_Group_hasAll⟩

set_option maxRecDepth 100000 in
theorem eq_I_Group_hasAll (x : In pk_I_Group_hasAll) : semF (mkE [(100, c_I_areAll), (21, c_I_Group_has)]) h_I_Group_hasAll (info Tryz.f81) pk_I_Group_hasAll rk_I_Group_hasAll x = M_I_Group_hasAll x := (semFF_eq _ _ _ _ _ _).symm.trans (by kernel_rfl)

set_option maxRecDepth 100000 in
theorem m_I_Group_hasAll : ConOK Tryz.prog 81 c_I_Group_hasAll := fn_ok (tyOK _) (E := mkE [(100, c_I_areAll), (21, c_I_Group_has)]) (consOK_cons m_I_areAll (consOK_cons m_I_Group_has (consOK_nil rfl))) Tryz.func81 (h := h_I_Group_hasAll) (by kernel_rfl) eq_I_Group_hasAll

/-- I_Group_isExp -/
def pk_I_Group_isExp : List PK := [.data (.cons (.int .i64) (.cons (.int .i64) (.one (.int .i64)))), .data (.int .i64)]
def rk_I_Group_isExp : List (Ty × Bool) := [(.bool, false)]
def h_I_Group_isExp : Hints := { loops := [] }
noncomputable def M_I_Group_isExp (x : ((Int × (Int × Int)) × Int)) : (Option Bool) :=
  (bindO (some (IntKind.wrap .i64 (x.1.2.1 - (1 : Int)))) (fun (a0 : Int) => (bindO (M_I_within (x.2, ((0 : Int), a0))) (fun (a1 : Bool) => (some a1)))))

noncomputable def c_I_Group_isExp : Con0 := ⟨pk_I_Group_isExp, rk_I_Group_isExp, M_I_Group_isExp⟩

set_option maxRecDepth 100000 in
theorem eq_I_Group_isExp (x : In pk_I_Group_isExp) : semF (mkE [(48, c_I_within)]) h_I_Group_isExp (info Tryz.f101) pk_I_Group_isExp rk_I_Group_isExp x = M_I_Group_isExp x := (semFF_eq _ _ _ _ _ _).symm.trans (by kernel_rfl)

set_option maxRecDepth 100000 in
theorem m_I_Group_isExp : ConOK Tryz.prog 101 c_I_Group_isExp := fn_ok (tyOK _) (E := mkE [(48, c_I_within)]) (consOK_cons m_I_within (consOK_nil rfl)) Tryz.func101 (h := h_I_Group_isExp) (by kernel_rfl) eq_I_Group_isExp

/-- I_Group_areExps -/
def pk_I_Group_areExps : List PK := [.data (.cons (.int .i64) (.cons (.int .i64) (.one (.int .i64)))), .data (.sl (.int .i64))]
def rk_I_Group_areExps : List (Ty × Bool) := [(.bool, false)]
def h_I_Group_areExps : Hints := { loops := [] }
noncomputable def M_I_Group_areExps (x : ((Int × (Int × Int)) × (List Int))) : (Option Bool) :=
  (bindO (M_I_areAll (x.2, (fun (a0 : Int) => (bindO (M_I_Group_isExp ((x.1.1, (x.1.2.1, x.1.2.2)), a0)) (fun (a1 : Bool) => (some a1)))))) (fun (a2 : Bool) => (some a2)))

noncomputable def c_I_Group_areExps : Con0 := ⟨pk_I_Group_areExps, rk_I_Group_areExps, M_I_Group_areExps⟩

set_option maxRecDepth 100000 in
theorem eq_I_Group_areExps (x : In pk_I_Group_areExps) : semF (mkE [(100, c_I_areAll), (101, c_I_Group_isExp)]) h_I_Group_areExps (info Tryz.f82) pk_I_Group_areExps rk_I_Group_areExps x = M_I_Group_areExps x := (semFF_eq _ _ _ _ _ _).symm.trans (by kernel_rfl)

set_option maxRecDepth 100000 in
theorem m_I_Group_areExps : ConOK Tryz.prog 82 c_I_Group_areExps := fn_ok (tyOK _) (E := mkE [(100, c_I_areAll), (101, c_I_Group_isExp)]) (consOK_cons m_I_areAll (consOK_cons m_I_Group_isExp (consOK_nil rfl))) Tryz.func82 (h := h_I_Group_areExps) (by kernel_rfl) eq_I_Group_areExps

/-- slices_Grow_sint_int -/
def pk_slices_Grow_sint_int : List PK := [.ow (.sl (.int .i64)), .data (.int .i64)]
def rk_slices_Grow_sint_int : List (Ty × Bool) := [((.sl (.int .i64)), true)]
noncomputable def M_slices_Grow_sint_int (x : ((List Int) × Int)) : (Option (List Int)) :=
  (if 0 ≤ x.2 ∧ (x.1.length : Int) + x.2 ≤ 68719476736 then some x.1 else Option.none)

noncomputable def c_slices_Grow_sint_int : Con0 := ⟨pk_slices_Grow_sint_int, rk_slices_Grow_sint_int, M_slices_Grow_sint_int⟩

def grow_ren : Go.Shelf.Ren := ⟨fun | 4 => 103 | n => n, fun | 0 => 0 | 3 => 3 | 4 => 4 | 9 => 9 | 20 => 20 | 22 => 28 | 25 => 3 | n => n, fun n => n⟩
set_option maxRecDepth 100000 in
theorem grow_lays : Go.Proofs.Lays8.n4 Tryz.prog grow_ren where
  mixed := by kernel_rfl
  f4 := ⟨Tryz.f103.name, of_decide_eq_true (by kernel_rfl), Tryz.func103.trans (congrArg some (by kernel_rfl))⟩
  t0 := Tryz.underlying0
  a0 := Tryz.isAgg0
  z0 := Tryz.sizeOf0
  v0 := Tryz.zeroValue0
  t3 := Tryz.underlying3
  a3 := Tryz.isAgg3
  z3 := Tryz.sizeOf3
  v3 := Tryz.zeroValue3
  t4 := Tryz.underlying4
  a4 := Tryz.isAgg4
  z4 := Tryz.sizeOf4
  v4 := Tryz.zeroValue4
  t9 := Tryz.underlying9
  a9 := Tryz.isAgg9
  z9 := Tryz.sizeOf9
  v9 := Tryz.zeroValue9
  t20 := Tryz.underlying20
  a20 := Tryz.isAgg20
  z20 := Tryz.sizeOf20
  v20 := Tryz.zeroValue20
  t22 := Tryz.underlying28
  a22 := Tryz.isAgg28
  z22 := Tryz.sizeOf28
  v22 := Tryz.zeroValue28

theorem m_slices_Grow_sint_int : ConOK Tryz.prog 103 c_slices_Grow_sint_int := grow_ok ⟨Tryz.f103, Tryz.func103, of_decide_eq_true (by kernel_rfl), by kernel_rfl⟩ (grow_room grow_lays) (grow_more grow_lays (tyOK []) (by kernel_rfl))

/-- slices_Concat_sint_int -/
def pk_slices_Concat_sint_int : List PK := [.data (.sl (.sl (.int .i64)))]
def rk_slices_Concat_sint_int : List (Ty × Bool) := [((.sl (.int .i64)), true)]
def h_slices_Concat_sint_int : Hints := { loops := [(0, { items := [.slot 3 (.data (.int .i64) []), .slot 11 (.data (.int .i64) [])], kill := [1, 2] ++ (sgN 4 5 ++ (sgN 12 24)) }), (2, { items := [.slot 6 (.own (.int .i64) true), .slot 27 (.data (.int .i64) [])], kill := sgN 0 6 ++ (sgN 7 18 ++ (sgN 28 8)) })] }
noncomputable def M_slices_Concat_sint_int (x : (List (List Int))) : (Option (List Int)) :=
  (loopO (fun (again0 : ((Int × Int) → (Option (List Int)))) => (fun (s1 : (Int × Int)) => (cond (decide (s1.2 < (((List.length x) : Nat) : Int))) (bindO (getI x s1.2) (fun (a2 : (List Int)) => (bindO (some (IntKind.wrap .i64 (s1.1 + (((List.length a2) : Nat) : Int)))) (fun (a3 : Int) => (cond (decide (a3 < (0 : Int))) (none : Option (List Int)) (bindO (some (IntKind.wrap .i64 (s1.2 + (1 : Int)))) (fun (a4 : Int) => (again0 (a3, a4))))))))) (bindO (M_slices_Grow_sint_int (([] : List Int), s1.1)) (fun (a5 : (List Int)) => (loopO (fun (again6 : (((List Int) × Int) → (Option (List Int)))) => (fun (s7 : ((List Int) × Int)) => (cond (decide (s7.2 < (((List.length x) : Nat) : Int))) (bindO (getI x s7.2) (fun (a8 : (List Int)) => (bindO (guardO (lenOk ((List.length s7.1) + (List.length a8)))) (fun (a9 : Unit) => (bindO (some (s7.1 ++ a8)) (fun (a10 : (List Int)) => (bindO (some (IntKind.wrap .i64 (s7.2 + (1 : Int)))) (fun (a11 : Int) => (again6 (a10, a11)))))))))) (some s7.1)))) (a5, (0 : Int)))))))) ((0 : Int), (0 : Int)))

noncomputable def c_slices_Concat_sint_int : Con0 := ⟨pk_slices_Concat_sint_int, rk_slices_Concat_sint_int, M_slices_Concat_sint_int⟩

set_option maxRecDepth 100000 in
theorem eq_slices_Concat_sint_int (x : In pk_slices_Concat_sint_int) : semF (mkE [(103, c_slices_Grow_sint_int)]) h_slices_Concat_sint_int (info Tryz.f84) pk_slices_Concat_sint_int rk_slices_Concat_sint_int x = M_slices_Concat_sint_int x := (semFF_eq _ _ _ _ _ _).symm.trans (by kernel_rfl)

set_option maxRecDepth 100000 in
theorem m_slices_Concat_sint_int : ConOK Tryz.prog 84 c_slices_Concat_sint_int := fn_ok (tyOK _) (E := mkE [(103, c_slices_Grow_sint_int)]) (consOK_cons m_slices_Grow_sint_int (consOK_nil rfl)) Tryz.func84 (h := h_slices_Concat_sint_int) (by kernel_rfl) eq_slices_Concat_sint_int

/-- I_labelled -/
def pk_I_labelled : List PK := [.data .str, .data (.sl (.int .i64))]
def rk_I_labelled : List (Ty × Bool) := [((.sl (.int .i64)), true)]
def h_I_labelled : Hints := { loops := [(0, { items := [.slot 5 (.own (.int .i64) true), .slot 12 (.data (.int .i64) [])], kill := [2, 3, 4] ++ (sgN 6 5 ++ (sgN 13 13)) })] }
noncomputable def M_I_labelled (x : (ByteArray × (List Int))) : (Option (List Int)) :=
  (loopO (fun (again0 : (((List Int) × Int) → (Option (List Int)))) => (fun (s1 : ((List Int) × Int)) => (cond (decide (s1.2 < (((ByteArray.size x.1) : Nat) : Int))) (bindO (if ((0 : Int) ≤ s1.2) then (x.1[(Int.toNat s1.2)]?) else (none : Option (UInt8))) (fun (a2 : (UInt8)) => (bindO (guardO (lenOk ((List.length s1.1) + (List.length ((IntKind.wrap .i64 (((UInt8.toNat a2) : Nat) : Int)) :: ([] : List Int)))))) (fun (a3 : Unit) => (bindO (some (s1.1 ++ ((IntKind.wrap .i64 (((UInt8.toNat a2) : Nat) : Int)) :: ([] : List Int)))) (fun (a4 : (List Int)) => (bindO (some (IntKind.wrap .i64 (s1.2 + (1 : Int)))) (fun (a5 : Int) => (again0 (a4, a5)))))))))) (bindO (guardO (lenOk ((List.length s1.1) + (List.length x.2)))) (fun (a6 : Unit) => (bindO (some (s1.1 ++ x.2)) (fun (a7 : (List Int)) => (some a7)))))))) (((((ByteArray.size x.1) : Nat) : Int) :: ([] : List Int)), (0 : Int)))

noncomputable def c_I_labelled : Con0 := ⟨pk_I_labelled, rk_I_labelled, M_I_labelled⟩

set_option maxRecDepth 100000 in
theorem eq_I_labelled (x : In pk_I_labelled) : semF (mkE []) h_I_labelled (info Tryz.f113) pk_I_labelled rk_I_labelled x = M_I_labelled x := (semFF_eq _ _ _ _ _ _).symm.trans (by kernel_rfl)

set_option maxRecDepth 100000 in
theorem m_I_labelled : ConOK Tryz.prog 113 c_I_labelled := fn_ok (tyOK _) (E := mkE []) (consOK_nil rfl) Tryz.func113 (h := h_I_labelled) (by kernel_rfl) eq_I_labelled

/-- I_isDigest -/
def pk_I_isDigest : List PK := [.data (.int .i64)]
def rk_I_isDigest : List (Ty × Bool) := [(.bool, false)]
def h_I_isDigest : Hints := { loops := [] }
noncomputable def M_I_isDigest (x : Int) : (Option Bool) :=
  (bindO (M_I_within (x, ((0 : Int), (4611686018427387903 : Int)))) (fun (a0 : Bool) => (some a0)))

noncomputable def c_I_isDigest : Con0 := ⟨pk_I_isDigest, rk_I_isDigest, M_I_isDigest⟩

set_option maxRecDepth 100000 in
theorem eq_I_isDigest (x : In pk_I_isDigest) : semF (mkE [(48, c_I_within)]) h_I_isDigest (info Tryz.f127) pk_I_isDigest rk_I_isDigest x = M_I_isDigest x := (semFF_eq _ _ _ _ _ _).symm.trans (by kernel_rfl)

set_option maxRecDepth 100000 in
theorem m_I_isDigest : ConOK Tryz.prog 127 c_I_isDigest := fn_ok (tyOK _) (E := mkE [(48, c_I_within)]) (consOK_cons m_I_within (consOK_nil rfl)) Tryz.func127 (h := h_I_isDigest) (by kernel_rfl) eq_I_isDigest

/-- I_areDigests -/
def pk_I_areDigests : List PK := [.data (.sl (.int .i64))]
def rk_I_areDigests : List (Ty × Bool) := [(.bool, false)]
def h_I_areDigests : Hints := { loops := [] }
noncomputable def M_I_areDigests (x : (List Int)) : (Option Bool) :=
  (cond (decide ((((List.length x) : Nat) : Int) ≤ (400 : Int))) (bindO (M_I_areAll (x, (fun (a0 : Int) => (bindO (M_I_isDigest a0) (fun (a1 : Bool) => (some a1)))))) (fun (a2 : Bool) => (some a2))) (some false))

noncomputable def c_I_areDigests : Con0 := ⟨pk_I_areDigests, rk_I_areDigests, M_I_areDigests⟩

set_option maxRecDepth 100000 in
theorem eq_I_areDigests (x : In pk_I_areDigests) : semF (mkE [(100, c_I_areAll), (127, c_I_isDigest)]) h_I_areDigests (info Tryz.f120) pk_I_areDigests rk_I_areDigests x = M_I_areDigests x := (semFF_eq _ _ _ _ _ _).symm.trans (by kernel_rfl)

set_option maxRecDepth 100000 in
theorem m_I_areDigests : ConOK Tryz.prog 120 c_I_areDigests := fn_ok (tyOK _) (E := mkE [(100, c_I_areAll), (127, c_I_isDigest)]) (consOK_cons m_I_areAll (consOK_cons m_I_isDigest (consOK_nil rfl))) Tryz.func120 (h := h_I_areDigests) (by kernel_rfl) eq_I_areDigests

/-- I_hash -/
def pk_I_hash : List PK := [.data (.sl (.int .i64))]
def rk_I_hash : List (Ty × Bool) := [((.int .i64), false)]
def h_I_hash : Hints := { loops := [(0, { items := [.slot 3 (.data (.int .i64) []), .slot 4 (.data (.int .i64) []), .slot 15 (.data (.int .i64) [])], kill := [0, 1, 2] ++ (sgN 5 8 ++ (sgN 16 36)) })] }
noncomputable def M_I_hash (x : (List Int)) : (Option Int) :=
  (bindO (guardO (lenOk ((List.length ((((List.length x) : Nat) : Int) :: ([] : List Int))) + (List.length x)))) (fun (a0 : Unit) => (bindO (some (((((List.length x) : Nat) : Int) :: ([] : List Int)) ++ x)) (fun (a1 : (List Int)) => (loopO (fun (again2 : ((Int × (Int × Int)) → (Option Int))) => (fun (s3 : (Int × (Int × Int))) => (cond (decide (s3.2.2 < (((List.length a1) : Nat) : Int))) (bindO (getI a1 s3.2.2) (fun (a4 : Int) => (bindO (guardO (decide ((0 : Int) ≤ (31 : Int)))) (fun (a5 : Unit) => (bindO (some (shr .i64 a4 (31 : Int))) (fun (a6 : Int) => (bindO (some (bits .and .i64 a4 (2147483647 : Int))) (fun (a7 : Int) => (bindO (some (IntKind.wrap .i64 ((48271 : Int) * s3.1))) (fun (a8 : Int) => (bindO (some (IntKind.wrap .i64 (a8 + a7))) (fun (a9 : Int) => (bindO (some (IntKind.wrap .i64 (a9 + (1 : Int)))) (fun (a10 : Int) => (bindO (guardO ((2147483647 : Int) != (0 : Int))) (fun (a11 : Unit) => (bindO (some (Int.tmod a10 (2147483647 : Int))) (fun (a12 : Int) => (bindO (some (IntKind.wrap .i64 ((48271 : Int) * a12))) (fun (a13 : Int) => (bindO (some (IntKind.wrap .i64 (a13 + a6))) (fun (a14 : Int) => (bindO (some (IntKind.wrap .i64 (a14 + (1 : Int)))) (fun (a15 : Int) => (bindO (guardO ((2147483647 : Int) != (0 : Int))) (fun (a16 : Unit) => (bindO (some (Int.tmod a15 (2147483647 : Int))) (fun (a17 : Int) => (bindO (some (IntKind.wrap .i64 ((69621 : Int) * s3.2.1))) (fun (a18 : Int) => (bindO (some (IntKind.wrap .i64 (a18 + a7))) (fun (a19 : Int) => (bindO (some (IntKind.wrap .i64 (a19 + (1 : Int)))) (fun (a20 : Int) => (bindO (guardO ((2147483647 : Int) != (0 : Int))) (fun (a21 : Unit) => (bindO (some (Int.tmod a20 (2147483647 : Int))) (fun (a22 : Int) => (bindO (some (IntKind.wrap .i64 ((69621 : Int) * a22))) (fun (a23 : Int) => (bindO (some (IntKind.wrap .i64 (a23 + a6))) (fun (a24 : Int) => (bindO (some (IntKind.wrap .i64 (a24 + (1 : Int)))) (fun (a25 : Int) => (bindO (guardO ((2147483647 : Int) != (0 : Int))) (fun (a26 : Unit) => (bindO (some (Int.tmod a25 (2147483647 : Int))) (fun (a27 : Int) => (bindO (some (IntKind.wrap .i64 (s3.2.2 + (1 : Int)))) (fun (a28 : Int) => (again2 (a17, (a27, a28))))))))))))))))))))))))))))))))))))))))))))))))))))) (bindO (guardO (decide ((0 : Int) ≤ (31 : Int)))) (fun (a29 : Unit) => (bindO (some (shl .i64 s3.1 (31 : Int))) (fun (a30 : Int) => (bindO (some (IntKind.wrap .i64 (a30 + s3.2.1))) (fun (a31 : Int) => (some a31)))))))))) ((1 : Int), ((2 : Int), (0 : Int))))))))

noncomputable def c_I_hash : Con0 := ⟨pk_I_hash, rk_I_hash, M_I_hash⟩

set_option maxRecDepth 100000 in
theorem eq_I_hash (x : In pk_I_hash) : semF (mkE []) h_I_hash (info Tryz.f121) pk_I_hash rk_I_hash x = M_I_hash x := (semFF_eq _ _ _ _ _ _).symm.trans (by kernel_rfl)

set_option maxRecDepth 100000 in
theorem m_I_hash : ConOK Tryz.prog 121 c_I_hash := fn_ok (tyOK _) (E := mkE []) (consOK_nil rfl) Tryz.func121 (h := h_I_hash) (by kernel_rfl) eq_I_hash

/-- I_HashInts -/
def pk_I_HashInts : List PK := [.data (.sl (.int .i64))]
def rk_I_HashInts : List (Ty × Bool) := [((.int .i64), false), (.bool, false)]
def h_I_HashInts : Hints := { loops := [] }
noncomputable def M_I_HashInts (x : (List Int)) : (Option (Int × Bool)) :=
  (bindO (M_I_areDigests x) (fun (a0 : Bool) => (cond (not a0) (some ((0 : Int), false)) (bindO (M_I_hash x) (fun (a1 : Int) => (some (a1, true)))))))

noncomputable def c_I_HashInts : Con0 := ⟨pk_I_HashInts, rk_I_HashInts, M_I_HashInts⟩

set_option maxRecDepth 100000 in
theorem eq_I_HashInts (x : In pk_I_HashInts) : semF (mkE [(120, c_I_areDigests), (121, c_I_hash)]) h_I_HashInts (info Tryz.f112) pk_I_HashInts rk_I_HashInts x = M_I_HashInts x := (semFF_eq _ _ _ _ _ _).symm.trans (by kernel_rfl)

set_option maxRecDepth 100000 in
theorem m_I_HashInts : ConOK Tryz.prog 112 c_I_HashInts := fn_ok (tyOK _) (E := mkE [(120, c_I_areDigests), (121, c_I_hash)]) (consOK_cons m_I_areDigests (consOK_cons m_I_hash (consOK_nil rfl))) Tryz.func112 (h := h_I_HashInts) (by kernel_rfl) eq_I_HashInts

/-- I_HashLabelled -/
def pk_I_HashLabelled : List PK := [.data .str, .data (.sl (.int .i64))]
def rk_I_HashLabelled : List (Ty × Bool) := [((.int .i64), false), (.bool, false)]
def h_I_HashLabelled : Hints := { loops := [] }
noncomputable def M_I_HashLabelled (x : (ByteArray × (List Int))) : (Option (Int × Bool)) :=
  (cond (decide ((((ByteArray.size x.1) : Nat) : Int) > (40 : Int))) (some ((0 : Int), false)) (cond (decide ((((List.length x.2) : Nat) : Int) > (400 : Int))) (some ((0 : Int), false)) (bindO (M_I_labelled (x.1, x.2)) (fun (a0 : (List Int)) => (bindO (M_I_HashInts a0) (fun (a1 : (Int × Bool)) => (some (a1.1, a1.2))))))))

noncomputable def c_I_HashLabelled : Con0 := ⟨pk_I_HashLabelled, rk_I_HashLabelled, M_I_HashLabelled⟩

set_option maxRecDepth 100000 in
theorem eq_I_HashLabelled (x : In pk_I_HashLabelled) : semF (mkE [(113, c_I_labelled), (112, c_I_HashInts)]) h_I_HashLabelled (info Tryz.f102) pk_I_HashLabelled rk_I_HashLabelled x = M_I_HashLabelled x := (semFF_eq _ _ _ _ _ _).symm.trans (by kernel_rfl)

set_option maxRecDepth 100000 in
theorem m_I_HashLabelled : ConOK Tryz.prog 102 c_I_HashLabelled := fn_ok (tyOK _) (E := mkE [(113, c_I_labelled), (112, c_I_HashInts)]) (consOK_cons m_I_labelled (consOK_cons m_I_HashInts (consOK_nil rfl))) Tryz.func102 (h := h_I_HashLabelled) (by kernel_rfl) eq_I_HashLabelled

/-- I_Group_challenge -/
def pk_I_Group_challenge : List PK := [.data (.cons (.int .i64) (.cons (.int .i64) (.one (.int .i64)))), .data .str, .data (.sl (.int .i64))]
def rk_I_Group_challenge : List (Ty × Bool) := [((.int .i64), false), (.bool, false)]
def h_I_Group_challenge : Hints := { loops := [] }
noncomputable def M_I_Group_challenge (x : ((Int × (Int × Int)) × (ByteArray × (List Int)))) : (Option (Int × Bool)) :=
  (bindO (guardO (lenOk ((List.length (x.1.1 :: (x.1.2.1 :: (x.1.2.2 :: ([] : List Int))))) + (List.length x.2.2)))) (fun (a0 : Unit) => (bindO (some ((x.1.1 :: (x.1.2.1 :: (x.1.2.2 :: ([] : List Int)))) ++ x.2.2)) (fun (a1 : (List Int)) => (bindO (M_I_HashLabelled (x.2.1, a1)) (fun (a2 : (Int × Bool)) => (cond (not a2.2) (some ((0 : Int), false)) (bindO (guardO (x.1.2.1 != (0 : Int))) (fun (a3 : Unit) => (bindO (some (Int.tmod a2.1 x.1.2.1)) (fun (a4 : Int) => (some (a4, true)))))))))))))

noncomputable def c_I_Group_challenge : Con0 := ⟨pk_I_Group_challenge, rk_I_Group_challenge, M_I_Group_challenge⟩

set_option maxRecDepth 100000 in
theorem eq_I_Group_challenge (x : In pk_I_Group_challenge) : semF (mkE [(102, c_I_HashLabelled)]) h_I_Group_challenge (info Tryz.f83) pk_I_Group_challenge rk_I_Group_challenge x = M_I_Group_challenge x := (semFF_eq _ _ _ _ _ _).symm.trans (by kernel_rfl)

set_option maxRecDepth 100000 in
theorem m_I_Group_challenge : ConOK Tryz.prog 83 c_I_Group_challenge := fn_ok (tyOK _) (E := mkE [(102, c_I_HashLabelled)]) (consOK_cons m_I_HashLabelled (consOK_nil rfl)) Tryz.func83 (h := h_I_Group_challenge) (by kernel_rfl) eq_I_Group_challenge

/-- I_mod -/
def pk_I_mod : List PK := [.data (.int .i64), .data (.int .i64)]
def rk_I_mod : List (Ty × Bool) := [((.int .i64), false)]
def h_I_mod : Hints := { loops := [] }
noncomputable def M_I_mod (x : (Int × Int)) : (Option Int) :=
  (bindO (guardO (x.2 != (0 : Int))) (fun (a0 : Unit) => (bindO (some (Int.tmod x.1 x.2)) (fun (a1 : Int) => (bindO (some (IntKind.wrap .i64 (a1 + x.2))) (fun (a2 : Int) => (bindO (guardO (x.2 != (0 : Int))) (fun (a3 : Unit) => (bindO (some (Int.tmod a2 x.2)) (fun (a4 : Int) => (some a4)))))))))))

noncomputable def c_I_mod : Con0 := ⟨pk_I_mod, rk_I_mod, M_I_mod⟩

set_option maxRecDepth 100000 in
theorem eq_I_mod (x : In pk_I_mod) : semF (mkE []) h_I_mod (info Tryz.f105) pk_I_mod rk_I_mod x = M_I_mod x := (semFF_eq _ _ _ _ _ _).symm.trans (by kernel_rfl)

set_option maxRecDepth 100000 in
theorem m_I_mod : ConOK Tryz.prog 105 c_I_mod := fn_ok (tyOK _) (E := mkE []) (consOK_nil rfl) Tryz.func105 (h := h_I_mod) (by kernel_rfl) eq_I_mod

/-- I_Group_pow -/
def pk_I_Group_pow : List PK := [.data (.cons (.int .i64) (.cons (.int .i64) (.one (.int .i64)))), .data (.int .i64), .data (.int .i64)]
def rk_I_Group_pow : List (Ty × Bool) := [((.int .i64), false)]
def h_I_Group_pow : Hints := { loops := [] }
noncomputable def M_I_Group_pow (x : ((Int × (Int × Int)) × (Int × Int))) : (Option Int) :=
  (bindO (M_I_mod (x.2.2, x.1.2.1)) (fun (a0 : Int) => (bindO (M_I_power (x.2.1, (a0, x.1.1))) (fun (a1 : Int) => (some a1)))))

noncomputable def c_I_Group_pow : Con0 := ⟨pk_I_Group_pow, rk_I_Group_pow, M_I_Group_pow⟩

set_option maxRecDepth 100000 in
theorem eq_I_Group_pow (x : In pk_I_Group_pow) : semF (mkE [(105, c_I_mod), (49, c_I_power)]) h_I_Group_pow (info Tryz.f87) pk_I_Group_pow rk_I_Group_pow x = M_I_Group_pow x := (semFF_eq _ _ _ _ _ _).symm.trans (by kernel_rfl)

set_option maxRecDepth 100000 in
theorem m_I_Group_pow : ConOK Tryz.prog 87 c_I_Group_pow := fn_ok (tyOK _) (E := mkE [(105, c_I_mod), (49, c_I_power)]) (consOK_cons m_I_mod (consOK_cons m_I_power (consOK_nil rfl))) Tryz.func87 (h := h_I_Group_pow) (by kernel_rfl) eq_I_Group_pow

/-- I_Group_mul -/
def pk_I_Group_mul : List PK := [.data (.cons (.int .i64) (.cons (.int .i64) (.one (.int .i64)))), .data (.sl (.int .i64))]
def rk_I_Group_mul : List (Ty × Bool) := [((.int .i64), false)]
def h_I_Group_mul : Hints := { loops := [(0, { items := [.slot 5 (.data (.int .i64) []), .slot 10 (.data (.int .i64) [])], kill := [0, 1, 3, 4, 6, 7] ++ (sgN 11 11) })] }
noncomputable def M_I_Group_mul (x : ((Int × (Int × Int)) × (List Int))) : (Option Int) :=
  (loopO (fun (again0 : ((Int × Int) → (Option Int))) => (fun (s1 : (Int × Int)) => (cond (decide (s1.2 < (((List.length x.2) : Nat) : Int))) (bindO (getI x.2 s1.2) (fun (a2 : Int) => (bindO (some (IntKind.wrap .i64 (s1.1 * a2))) (fun (a3 : Int) => (bindO (guardO (x.1.1 != (0 : Int))) (fun (a4 : Unit) => (bindO (some (Int.tmod a3 x.1.1)) (fun (a5 : Int) => (bindO (some (IntKind.wrap .i64 (s1.2 + (1 : Int)))) (fun (a6 : Int) => (again0 (a5, a6)))))))))))) (some s1.1)))) ((1 : Int), (0 : Int)))

noncomputable def c_I_Group_mul : Con0 := ⟨pk_I_Group_mul, rk_I_Group_mul, M_I_Group_mul⟩

set_option maxRecDepth 100000 in
theorem eq_I_Group_mul (x : In pk_I_Group_mul) : semF (mkE []) h_I_Group_mul (info Tryz.f86) pk_I_Group_mul rk_I_Group_mul x = M_I_Group_mul x := (semFF_eq _ _ _ _ _ _).symm.trans (by kernel_rfl)

set_option maxRecDepth 100000 in
theorem m_I_Group_mul : ConOK Tryz.prog 86 c_I_Group_mul := fn_ok (tyOK _) (E := mkE []) (consOK_nil rfl) Tryz.func86 (h := h_I_Group_mul) (by kernel_rfl) eq_I_Group_mul

/-- I_Group_powers -/
def pk_I_Group_powers : List PK := [.data (.cons (.int .i64) (.cons (.int .i64) (.one (.int .i64)))), .data (.sl (.int .i64)), .data (.sl (.int .i64))]
def rk_I_Group_powers : List (Ty × Bool) := [((.int .i64), false)]
def h_I_Group_powers : Hints := { loops := [(0, { items := [.slot 7 (.data (.int .i64) []), .slot 12 (.data (.int .i64) [])], kill := [0, 1, 4, 5, 6, 8, 9] ++ (sgN 13 17) })] }
noncomputable def M_I_Group_powers (x : ((Int × (Int × Int)) × ((List Int) × (List Int)))) : (Option Int) :=
  (loopO (fun (again0 : ((Int × Int) → (Option Int))) => (fun (s1 : (Int × Int)) => (cond (decide (s1.2 < (((List.length x.2.1) : Nat) : Int))) (bindO (getI x.2.1 s1.2) (fun (a2 : Int) => (bindO (getI x.2.2 s1.2) (fun (a3 : Int) => (bindO (M_I_Group_pow ((x.1.1, (x.1.2.1, x.1.2.2)), (a2, a3))) (fun (a4 : Int) => (bindO (M_I_Group_mul ((x.1.1, (x.1.2.1, x.1.2.2)), (s1.1 :: (a4 :: ([] : List Int))))) (fun (a5 : Int) => (bindO (some (IntKind.wrap .i64 (s1.2 + (1 : Int)))) (fun (a6 : Int) => (again0 (a5, a6)))))))))))) (some s1.1)))) ((1 : Int), (0 : Int)))

noncomputable def c_I_Group_powers : Con0 := ⟨pk_I_Group_powers, rk_I_Group_powers, M_I_Group_powers⟩

set_option maxRecDepth 100000 in
theorem eq_I_Group_powers (x : In pk_I_Group_powers) : semF (mkE [(87, c_I_Group_pow), (86, c_I_Group_mul)]) h_I_Group_powers (info Tryz.f104) pk_I_Group_powers rk_I_Group_powers x = M_I_Group_powers x := (semFF_eq _ _ _ _ _ _).symm.trans (by kernel_rfl)

set_option maxRecDepth 100000 in
theorem m_I_Group_powers : ConOK Tryz.prog 104 c_I_Group_powers := fn_ok (tyOK _) (E := mkE [(87, c_I_Group_pow), (86, c_I_Group_mul)]) (consOK_cons m_I_Group_pow (consOK_cons m_I_Group_mul (consOK_nil rfl))) Tryz.func104 (h := h_I_Group_powers) (by kernel_rfl) eq_I_Group_powers

/-- I_Group_images -/
def pk_I_Group_images : List PK := [.data (.cons (.int .i64) (.cons (.int .i64) (.one (.int .i64)))), .data (.sl (.sl (.int .i64))), .data (.sl (.int .i64))]
def rk_I_Group_images : List (Ty × Bool) := [((.sl (.int .i64)), true)]
def h_I_Group_images : Hints := { loops := [(0, { items := [.slot 7 (.own (.int .i64) true), .slot 13 (.data (.int .i64) [])], kill := [0, 1, 4, 5, 6, 8, 9, 10] ++ (sgN 14 12) })] }
noncomputable def M_I_Group_images (x : ((Int × (Int × Int)) × ((List (List Int)) × (List Int)))) : (Option (List Int)) :=
  (loopO (fun (again0 : (((List Int) × Int) → (Option (List Int)))) => (fun (s1 : ((List Int) × Int)) => (cond (decide (s1.2 < (((List.length x.2.1) : Nat) : Int))) (bindO (getI x.2.1 s1.2) (fun (a2 : (List Int)) => (bindO (M_I_Group_powers ((x.1.1, (x.1.2.1, x.1.2.2)), (a2, x.2.2))) (fun (a3 : Int) => (bindO (guardO (lenOk ((List.length s1.1) + (List.length (a3 :: ([] : List Int)))))) (fun (a4 : Unit) => (bindO (some (s1.1 ++ (a3 :: ([] : List Int)))) (fun (a5 : (List Int)) => (bindO (some (IntKind.wrap .i64 (s1.2 + (1 : Int)))) (fun (a6 : Int) => (again0 (a5, a6)))))))))))) (some s1.1)))) (([] : List Int), (0 : Int)))

noncomputable def c_I_Group_images : Con0 := ⟨pk_I_Group_images, rk_I_Group_images, M_I_Group_images⟩

set_option maxRecDepth 100000 in
theorem eq_I_Group_images (x : In pk_I_Group_images) : semF (mkE [(104, c_I_Group_powers)]) h_I_Group_images (info Tryz.f85) pk_I_Group_images rk_I_Group_images x = M_I_Group_images x := (semFF_eq _ _ _ _ _ _).symm.trans (by kernel_rfl)

set_option maxRecDepth 100000 in
theorem m_I_Group_images : ConOK Tryz.prog 85 c_I_Group_images := fn_ok (tyOK _) (E := mkE [(104, c_I_Group_powers)]) (consOK_cons m_I_Group_powers (consOK_nil rfl)) Tryz.func85 (h := h_I_Group_images) (by kernel_rfl) eq_I_Group_images

/-- I_Group_verifyLinear -/
def pk_I_Group_verifyLinear : List PK := [.data (.cons (.int .i64) (.cons (.int .i64) (.one (.int .i64)))), .data .str, .data (.sl (.sl (.int .i64))), .data (.sl (.int .i64)), .data (.cons (.sl (.int .i64)) (.cons (.sl (.int .i64)) (.one (.sl (.int .i64)))))]
def rk_I_Group_verifyLinear : List (Ty × Bool) := [(.bool, false)]
def h_I_Group_verifyLinear : Hints := { loops := [(0, { items := [.slot 80 (.data (.int .i64) [])], kill := [0, 1, 2, 4, 6, 7, 8, 10] ++ (sgN 12 66 ++ (sgN 81 22)) })] }
noncomputable def M_I_Group_verifyLinear (x : ((Int × (Int × Int)) × (ByteArray × ((List (List Int)) × ((List Int) × ((List Int) × ((List Int) × (List Int)))))))) : (Option Bool) :=
  (cond ((((List.length x.2.2.2.2.1) : Nat) : Int) != (((List.length x.2.2.1) : Nat) : Int)) (some false) (cond ((((List.length x.2.2.2.2.2.1) : Nat) : Int) != (1 : Int)) (some false) (bindO (getI x.2.2.1 (0 : Int)) (fun (a0 : (List Int)) => (cond ((((List.length x.2.2.2.2.2.2) : Nat) : Int) != (((List.length a0) : Nat) : Int)) (some false) (bindO (M_I_Group_hasAll ((x.1.1, (x.1.2.1, x.1.2.2)), x.2.2.2.2.1)) (fun (a1 : Bool) => (cond (not a1) (some false) (bindO (M_I_Group_areExps ((x.1.1, (x.1.2.1, x.1.2.2)), x.2.2.2.2.2.2)) (fun (a2 : Bool) => (cond (not a2) (some false) (bindO (M_slices_Concat_sint_int x.2.2.1) (fun (a3 : (List Int)) => (bindO (M_slices_Concat_sint_int (a3 :: (x.2.2.2.1 :: (x.2.2.2.2.1 :: ([] : List (List Int)))))) (fun (a4 : (List Int)) => (bindO (M_I_Group_challenge ((x.1.1, (x.1.2.1, x.1.2.2)), (x.2.1, a4))) (fun (a5 : (Int × Bool)) => (cond (not a5.2) (some false) (bindO (getI x.2.2.2.2.2.1 (0 : Int)) (fun (a6 : Int) => (cond (a6 != a5.1) (some false) (bindO (M_I_Group_images ((x.1.1, (x.1.2.1, x.1.2.2)), (x.2.2.1, x.2.2.2.2.2.2))) (fun (a7 : (List Int)) => (loopO (fun (again8 : (Int → (Option Bool))) => (fun (s9 : Int) => (cond (decide (s9 < (((List.length a7) : Nat) : Int))) (bindO (getI a7 s9) (fun (a10 : Int) => (bindO (getI x.2.2.2.2.1 s9) (fun (a11 : Int) => (bindO (getI x.2.2.2.1 s9) (fun (a12 : Int) => (bindO (M_I_Group_pow ((x.1.1, (x.1.2.1, x.1.2.2)), (a12, a5.1))) (fun (a13 : Int) => (bindO (M_I_Group_mul ((x.1.1, (x.1.2.1, x.1.2.2)), (a11 :: (a13 :: ([] : List Int))))) (fun (a14 : Int) => (cond (a10 != a14) (some false) (bindO (some (IntKind.wrap .i64 (s9 + (1 : Int)))) (fun (a15 : Int) => (again8 a15)))))))))))))) (some true)))) (0 : Int)))))))))))))))))))))))))

noncomputable def c_I_Group_verifyLinear : Con0 := ⟨pk_I_Group_verifyLinear, rk_I_Group_verifyLinear, M_I_Group_verifyLinear⟩

set_option maxRecDepth 100000 in
theorem eq_I_Group_verifyLinear (x : In pk_I_Group_verifyLinear) : semF (mkE [(81, c_I_Group_hasAll), (82, c_I_Group_areExps), (84, c_slices_Concat_sint_int), (83, c_I_Group_challenge), (85, c_I_Group_images), (87, c_I_Group_pow), (86, c_I_Group_mul)]) h_I_Group_verifyLinear (info Tryz.f55) pk_I_Group_verifyLinear rk_I_Group_verifyLinear x = M_I_Group_verifyLinear x := (semFF_eq _ _ _ _ _ _).symm.trans (by kernel_rfl)

set_option maxRecDepth 100000 in
theorem m_I_Group_verifyLinear : ConOK Tryz.prog 55 c_I_Group_verifyLinear := fn_ok (tyOK _) (E := mkE [(81, c_I_Group_hasAll), (82, c_I_Group_areExps), (84, c_slices_Concat_sint_int), (83, c_I_Group_challenge), (85, c_I_Group_images), (87, c_I_Group_pow), (86, c_I_Group_mul)]) (consOK_cons m_I_Group_hasAll (consOK_cons m_I_Group_areExps (consOK_cons m_slices_Concat_sint_int (consOK_cons m_I_Group_challenge (consOK_cons m_I_Group_images (consOK_cons m_I_Group_pow (consOK_cons m_I_Group_mul (consOK_nil rfl)))))))) Tryz.func55 (h := h_I_Group_verifyLinear) (by kernel_rfl) eq_I_Group_verifyLinear

/-- I_Contest_most -/
def pk_I_Contest_most : List PK := [.data (.cons (.int .i64) (.cons (.int .i64) (.cons (.int .i64) (.cons (.int .i64) (.one (.int .i64))))))]
def rk_I_Contest_most : List (Ty × Bool) := [((.int .i64), false)]
def h_I_Contest_most : Hints := { loops := [] }
noncomputable def M_I_Contest_most (x : (Int × (Int × (Int × (Int × Int))))) : (Option Int) :=
  (cond (x.1 == (2 : Int)) (some x.2.2.2.2) (some (1 : Int)))

noncomputable def c_I_Contest_most : Con0 := ⟨pk_I_Contest_most, rk_I_Contest_most, M_I_Contest_most⟩

set_option maxRecDepth 100000 in
theorem eq_I_Contest_most (x : In pk_I_Contest_most) : semF (mkE []) h_I_Contest_most (info Tryz.f58) pk_I_Contest_most rk_I_Contest_most x = M_I_Contest_most x := (semFF_eq _ _ _ _ _ _).symm.trans (by kernel_rfl)

set_option maxRecDepth 100000 in
theorem m_I_Contest_most : ConOK Tryz.prog 58 c_I_Contest_most := fn_ok (tyOK _) (E := mkE []) (consOK_nil rfl) Tryz.func58 (h := h_I_Contest_most) (by kernel_rfl) eq_I_Contest_most

/-- I_Group_statements -/
def pk_I_Group_statements : List PK := [.data (.cons (.int .i64) (.cons (.int .i64) (.one (.int .i64)))), .data (.int .i64), .data (.cons (.int .i64) (.one (.int .i64))), .data (.int .i64), .data (.int .i64)]
def rk_I_Group_statements : List (Ty × Bool) := [((.sl (.cons (.int .i64) (.cons (.int .i64) (.cons (.int .i64) (.one (.int .i64)))))), true)]
def h_I_Group_statements : Hints := { loops := [(0, { items := [.slot 11 (.own (.cons (.int .i64) (.cons (.int .i64) (.cons (.int .i64) (.one (.int .i64))))) true), .slot 12 (.data (.int .i64) [])], kill := [0, 2, 3, 6, 8, 9, 10] ++ (sgN 13 28) })] }
noncomputable def M_I_Group_statements (x : ((Int × (Int × Int)) × (Int × ((Int × Int) × (Int × Int))))) : (Option (List (Int × (Int × (Int × Int))))) :=
  (loopO (fun (again0 : (((List (Int × (Int × (Int × Int)))) × Int) → (Option (List (Int × (Int × (Int × Int))))))) => (fun (s1 : ((List (Int × (Int × (Int × Int)))) × Int)) => (cond (decide (s1.2 ≤ x.2.2.2.2)) (bindO (some (IntKind.wrap .i64 ((0 : Int) - s1.2))) (fun (a2 : Int) => (bindO (M_I_Group_pow ((x.1.1, (x.1.2.1, x.1.2.2)), (x.1.2.2, a2))) (fun (a3 : Int) => (bindO (M_I_Group_mul ((x.1.1, (x.1.2.1, x.1.2.2)), (x.2.2.1.2 :: (a3 :: ([] : List Int))))) (fun (a4 : Int) => (bindO (guardO (lenOk ((List.length s1.1) + (List.length ((x.1.2.2, (x.2.2.1.1, (x.2.1, a4))) :: ([] : List (Int × (Int × (Int × Int))))))))) (fun (a5 : Unit) => (bindO (some (s1.1 ++ ((x.1.2.2, (x.2.2.1.1, (x.2.1, a4))) :: ([] : List (Int × (Int × (Int × Int))))))) (fun (a6 : (List (Int × (Int × (Int × Int))))) => (bindO (some (IntKind.wrap .i64 (s1.2 + (1 : Int)))) (fun (a7 : Int) => (again0 (a6, a7)))))))))))))) (some s1.1)))) (([] : List (Int × (Int × (Int × Int)))), x.2.2.2.1))

noncomputable def c_I_Group_statements : Con0 := ⟨pk_I_Group_statements, rk_I_Group_statements, M_I_Group_statements⟩

set_option maxRecDepth 100000 in
theorem eq_I_Group_statements (x : In pk_I_Group_statements) : semF (mkE [(87, c_I_Group_pow), (86, c_I_Group_mul)]) h_I_Group_statements (info Tryz.f57) pk_I_Group_statements rk_I_Group_statements x = M_I_Group_statements x := (semFF_eq _ _ _ _ _ _).symm.trans (by kernel_rfl)

set_option maxRecDepth 100000 in
theorem m_I_Group_statements : ConOK Tryz.prog 57 c_I_Group_statements := fn_ok (tyOK _) (E := mkE [(87, c_I_Group_pow), (86, c_I_Group_mul)]) (consOK_cons m_I_Group_pow (consOK_cons m_I_Group_mul (consOK_nil rfl))) Tryz.func57 (h := h_I_Group_statements) (by kernel_rfl) eq_I_Group_statements

/-- I_Group_simulated -/
def pk_I_Group_simulated : List PK := [.data (.cons (.int .i64) (.cons (.int .i64) (.one (.int .i64)))), .data (.cons (.int .i64) (.cons (.int .i64) (.cons (.int .i64) (.one (.int .i64))))), .data (.int .i64), .data (.int .i64)]
def rk_I_Group_simulated : List (Ty × Bool) := [((.int .i64), false), ((.int .i64), false)]
def h_I_Group_simulated : Hints := { loops := [] }
noncomputable def M_I_Group_simulated (x : ((Int × (Int × Int)) × ((Int × (Int × (Int × Int))) × (Int × Int)))) : (Option (Int × Int)) :=
  (bindO (M_I_Group_pow ((x.1.1, (x.1.2.1, x.1.2.2)), (x.2.1.1, x.2.2.2))) (fun (a0 : Int) => (bindO (some (IntKind.wrap .i64 ((0 : Int) - x.2.2.1))) (fun (a1 : Int) => (bindO (M_I_Group_pow ((x.1.1, (x.1.2.1, x.1.2.2)), (x.2.1.2.1, a1))) (fun (a2 : Int) => (bindO (M_I_Group_mul ((x.1.1, (x.1.2.1, x.1.2.2)), (a0 :: (a2 :: ([] : List Int))))) (fun (a3 : Int) => (bindO (M_I_Group_pow ((x.1.1, (x.1.2.1, x.1.2.2)), (x.2.1.2.2.1, x.2.2.2))) (fun (a4 : Int) => (bindO (some (IntKind.wrap .i64 ((0 : Int) - x.2.2.1))) (fun (a5 : Int) => (bindO (M_I_Group_pow ((x.1.1, (x.1.2.1, x.1.2.2)), (x.2.1.2.2.2, a5))) (fun (a6 : Int) => (bindO (M_I_Group_mul ((x.1.1, (x.1.2.1, x.1.2.2)), (a4 :: (a6 :: ([] : List Int))))) (fun (a7 : Int) => (some (a3, a7))))))))))))))))))

noncomputable def c_I_Group_simulated : Con0 := ⟨pk_I_Group_simulated, rk_I_Group_simulated, M_I_Group_simulated⟩

set_option maxRecDepth 100000 in
theorem eq_I_Group_simulated (x : In pk_I_Group_simulated) : semF (mkE [(87, c_I_Group_pow), (86, c_I_Group_mul)]) h_I_Group_simulated (info Tryz.f106) pk_I_Group_simulated rk_I_Group_simulated x = M_I_Group_simulated x := (semFF_eq _ _ _ _ _ _).symm.trans (by kernel_rfl)

set_option maxRecDepth 100000 in
theorem m_I_Group_simulated : ConOK Tryz.prog 106 c_I_Group_simulated := fn_ok (tyOK _) (E := mkE [(87, c_I_Group_pow), (86, c_I_Group_mul)]) (consOK_cons m_I_Group_pow (consOK_cons m_I_Group_mul (consOK_nil rfl))) Tryz.func106 (h := h_I_Group_simulated) (by kernel_rfl) eq_I_Group_simulated

/-- I_Group_fulfils -/
def pk_I_Group_fulfils : List PK := [.data (.cons (.int .i64) (.cons (.int .i64) (.one (.int .i64)))), .data (.sl (.cons (.int .i64) (.cons (.int .i64) (.cons (.int .i64) (.one (.int .i64)))))), .data (.cons (.sl (.int .i64)) (.cons (.sl (.int .i64)) (.one (.sl (.int .i64)))))]
def rk_I_Group_fulfils : List (Ty × Bool) := [(.bool, false)]
def h_I_Group_fulfils : Hints := { loops := [(0, { items := [.slot 57 (.data (.int .i64) [])], kill := [0, 1, 2, 4] ++ (sgN 6 49 ++ (sgN 58 40)) })] }
noncomputable def M_I_Group_fulfils (x : ((Int × (Int × Int)) × ((List (Int × (Int × (Int × Int)))) × ((List Int) × ((List Int) × (List Int)))))) : (Option Bool) :=
  (bindO (some (IntKind.wrap .i64 ((2 : Int) * (((List.length x.2.1) : Nat) : Int)))) (fun (a0 : Int) => (cond ((((List.length x.2.2.1) : Nat) : Int) != a0) (some false) (cond ((((List.length x.2.2.2.1) : Nat) : Int) != (((List.length x.2.1) : Nat) : Int)) (some false) (cond ((((List.length x.2.2.2.2) : Nat) : Int) != (((List.length x.2.1) : Nat) : Int)) (some false) (bindO (M_I_Group_hasAll ((x.1.1, (x.1.2.1, x.1.2.2)), x.2.2.1)) (fun (a1 : Bool) => (cond (not a1) (some false) (bindO (M_I_Group_areExps ((x.1.1, (x.1.2.1, x.1.2.2)), x.2.2.2.1)) (fun (a2 : Bool) => (cond (not a2) (some false) (bindO (M_I_Group_areExps ((x.1.1, (x.1.2.1, x.1.2.2)), x.2.2.2.2)) (fun (a3 : Bool) => (cond (not a3) (some false) (loopO (fun (again4 : (Int → (Option Bool))) => (fun (s5 : Int) => (cond (decide (s5 < (((List.length x.2.1) : Nat) : Int))) (bindO (getI x.2.1 s5) (fun (a6 : (Int × (Int × (Int × Int)))) => (bindO (getI x.2.2.2.1 s5) (fun (a7 : Int) => (bindO (getI x.2.2.2.2 s5) (fun (a8 : Int) => (bindO (M_I_Group_simulated ((x.1.1, (x.1.2.1, x.1.2.2)), ((a6.1, (a6.2.1, (a6.2.2.1, a6.2.2.2))), (a7, a8)))) (fun (a9 : (Int × Int)) => (bindO (some (IntKind.wrap .i64 ((2 : Int) * s5))) (fun (a10 : Int) => (bindO (getI x.2.2.1 a10) (fun (a11 : Int) => (cond (a9.1 != a11) (some false) (bindO (some (IntKind.wrap .i64 ((2 : Int) * s5))) (fun (a12 : Int) => (bindO (some (IntKind.wrap .i64 (a12 + (1 : Int)))) (fun (a13 : Int) => (bindO (getI x.2.2.1 a13) (fun (a14 : Int) => (cond (a9.2 != a14) (some false) (bindO (some (IntKind.wrap .i64 (s5 + (1 : Int)))) (fun (a15 : Int) => (again4 a15))))))))))))))))))))))) (some true)))) (0 : Int))))))))))))))))

noncomputable def c_I_Group_fulfils : Con0 := ⟨pk_I_Group_fulfils, rk_I_Group_fulfils, M_I_Group_fulfils⟩

set_option maxRecDepth 100000 in
theorem eq_I_Group_fulfils (x : In pk_I_Group_fulfils) : semF (mkE [(81, c_I_Group_hasAll), (82, c_I_Group_areExps), (106, c_I_Group_simulated)]) h_I_Group_fulfils (info Tryz.f88) pk_I_Group_fulfils rk_I_Group_fulfils x = M_I_Group_fulfils x := (semFF_eq _ _ _ _ _ _).symm.trans (by kernel_rfl)

set_option maxRecDepth 100000 in
theorem m_I_Group_fulfils : ConOK Tryz.prog 88 c_I_Group_fulfils := fn_ok (tyOK _) (E := mkE [(81, c_I_Group_hasAll), (82, c_I_Group_areExps), (106, c_I_Group_simulated)]) (consOK_cons m_I_Group_hasAll (consOK_cons m_I_Group_areExps (consOK_cons m_I_Group_simulated (consOK_nil rfl)))) Tryz.func88 (h := h_I_Group_fulfils) (by kernel_rfl) eq_I_Group_fulfils

/-- I_Group_oneOfChallenge -/
def pk_I_Group_oneOfChallenge : List PK := [.data (.cons (.int .i64) (.cons (.int .i64) (.one (.int .i64)))), .data .str, .data (.sl (.cons (.int .i64) (.cons (.int .i64) (.cons (.int .i64) (.one (.int .i64)))))), .data (.sl (.int .i64))]
def rk_I_Group_oneOfChallenge : List (Ty × Bool) := [((.int .i64), false), (.bool, false)]
def h_I_Group_oneOfChallenge : Hints := { loops := [(0, { items := [.slot 10 (.own (.int .i64) true), .slot 16 (.data (.int .i64) [])], kill := [0, 2] ++ (sgN 5 5 ++ ([11, 12, 13] ++ (sgN 17 23))) })] }
noncomputable def M_I_Group_oneOfChallenge (x : ((Int × (Int × Int)) × (ByteArray × ((List (Int × (Int × (Int × Int)))) × (List Int))))) : (Option (Int × Bool)) :=
  (loopO (fun (again0 : (((List Int) × Int) → (Option (Int × Bool)))) => (fun (s1 : ((List Int) × Int)) => (cond (decide (s1.2 < (((List.length x.2.2.1) : Nat) : Int))) (bindO (getI x.2.2.1 s1.2) (fun (a2 : (Int × (Int × (Int × Int)))) => (bindO (guardO (lenOk ((List.length s1.1) + (List.length (a2.1 :: (a2.2.1 :: (a2.2.2.1 :: (a2.2.2.2 :: ([] : List Int))))))))) (fun (a3 : Unit) => (bindO (some (s1.1 ++ (a2.1 :: (a2.2.1 :: (a2.2.2.1 :: (a2.2.2.2 :: ([] : List Int))))))) (fun (a4 : (List Int)) => (bindO (some (IntKind.wrap .i64 (s1.2 + (1 : Int)))) (fun (a5 : Int) => (again0 (a4, a5)))))))))) (bindO (guardO (lenOk ((List.length s1.1) + (List.length x.2.2.2)))) (fun (a6 : Unit) => (bindO (some (s1.1 ++ x.2.2.2)) (fun (a7 : (List Int)) => (bindO (M_I_Group_challenge ((x.1.1, (x.1.2.1, x.1.2.2)), (x.2.1, a7))) (fun (a8 : (Int × Bool)) => (some (a8.1, a8.2))))))))))) (([] : List Int), (0 : Int)))

noncomputable def c_I_Group_oneOfChallenge : Con0 := ⟨pk_I_Group_oneOfChallenge, rk_I_Group_oneOfChallenge, M_I_Group_oneOfChallenge⟩

set_option maxRecDepth 100000 in
theorem eq_I_Group_oneOfChallenge (x : In pk_I_Group_oneOfChallenge) : semF (mkE [(83, c_I_Group_challenge)]) h_I_Group_oneOfChallenge (info Tryz.f89) pk_I_Group_oneOfChallenge rk_I_Group_oneOfChallenge x = M_I_Group_oneOfChallenge x := (semFF_eq _ _ _ _ _ _).symm.trans (by kernel_rfl)

set_option maxRecDepth 100000 in
theorem m_I_Group_oneOfChallenge : ConOK Tryz.prog 89 c_I_Group_oneOfChallenge := fn_ok (tyOK _) (E := mkE [(83, c_I_Group_challenge)]) (consOK_cons m_I_Group_challenge (consOK_nil rfl)) Tryz.func89 (h := h_I_Group_oneOfChallenge) (by kernel_rfl) eq_I_Group_oneOfChallenge

/-- I_sum -/
def pk_I_sum : List PK := [.data (.sl (.int .i64)), .data (.int .i64)]
def rk_I_sum : List (Ty × Bool) := [((.int .i64), false)]
def h_I_sum : Hints := { loops := [(0, { items := [.slot 5 (.data (.int .i64) []), .slot 10 (.data (.int .i64) [])], kill := [0, 2, 3, 4, 6, 7] ++ (sgN 11 10) })] }
noncomputable def M_I_sum (x : ((List Int) × Int)) : (Option Int) :=
  (loopO (fun (again0 : ((Int × Int) → (Option Int))) => (fun (s1 : (Int × Int)) => (cond (decide (s1.2 < (((List.length x.1) : Nat) : Int))) (bindO (getI x.1 s1.2) (fun (a2 : Int) => (bindO (some (IntKind.wrap .i64 (s1.1 + a2))) (fun (a3 : Int) => (bindO (guardO (x.2 != (0 : Int))) (fun (a4 : Unit) => (bindO (some (Int.tmod a3 x.2)) (fun (a5 : Int) => (bindO (some (IntKind.wrap .i64 (s1.2 + (1 : Int)))) (fun (a6 : Int) => (again0 (a5, a6)))))))))))) (some s1.1)))) ((0 : Int), (0 : Int)))

noncomputable def c_I_sum : Con0 := ⟨pk_I_sum, rk_I_sum, M_I_sum⟩

set_option maxRecDepth 100000 in
theorem eq_I_sum (x : In pk_I_sum) : semF (mkE []) h_I_sum (info Tryz.f90) pk_I_sum rk_I_sum x = M_I_sum x := (semFF_eq _ _ _ _ _ _).symm.trans (by kernel_rfl)

set_option maxRecDepth 100000 in
theorem m_I_sum : ConOK Tryz.prog 90 c_I_sum := fn_ok (tyOK _) (E := mkE []) (consOK_nil rfl) Tryz.func90 (h := h_I_sum) (by kernel_rfl) eq_I_sum

/-- I_Group_verifyOneOf -/
def pk_I_Group_verifyOneOf : List PK := [.data (.cons (.int .i64) (.cons (.int .i64) (.one (.int .i64)))), .data .str, .data (.sl (.cons (.int .i64) (.cons (.int .i64) (.cons (.int .i64) (.one (.int .i64)))))), .data (.cons (.sl (.int .i64)) (.cons (.sl (.int .i64)) (.one (.sl (.int .i64)))))]
def rk_I_Group_verifyOneOf : List (Ty × Bool) := [(.bool, false)]
def h_I_Group_verifyOneOf : Hints := { loops := [] }
noncomputable def M_I_Group_verifyOneOf (x : ((Int × (Int × Int)) × (ByteArray × ((List (Int × (Int × (Int × Int)))) × ((List Int) × ((List Int) × (List Int))))))) : (Option Bool) :=
  (bindO (M_I_Group_fulfils ((x.1.1, (x.1.2.1, x.1.2.2)), (x.2.2.1, (x.2.2.2.1, (x.2.2.2.2.1, x.2.2.2.2.2))))) (fun (a0 : Bool) => (cond (not a0) (some false) (bindO (M_I_Group_oneOfChallenge ((x.1.1, (x.1.2.1, x.1.2.2)), (x.2.1, (x.2.2.1, x.2.2.2.1)))) (fun (a1 : (Int × Bool)) => (cond a1.2 (bindO (M_I_sum (x.2.2.2.2.1, x.1.2.1)) (fun (a2 : Int) => (some (a2 == a1.1)))) (some false)))))))

noncomputable def c_I_Group_verifyOneOf : Con0 := ⟨pk_I_Group_verifyOneOf, rk_I_Group_verifyOneOf, M_I_Group_verifyOneOf⟩

set_option maxRecDepth 100000 in
theorem eq_I_Group_verifyOneOf (x : In pk_I_Group_verifyOneOf) : semF (mkE [(88, c_I_Group_fulfils), (89, c_I_Group_oneOfChallenge), (90, c_I_sum)]) h_I_Group_verifyOneOf (info Tryz.f56) pk_I_Group_verifyOneOf rk_I_Group_verifyOneOf x = M_I_Group_verifyOneOf x := (semFF_eq _ _ _ _ _ _).symm.trans (by kernel_rfl)

set_option maxRecDepth 100000 in
theorem m_I_Group_verifyOneOf : ConOK Tryz.prog 56 c_I_Group_verifyOneOf := fn_ok (tyOK _) (E := mkE [(88, c_I_Group_fulfils), (89, c_I_Group_oneOfChallenge), (90, c_I_sum)]) (consOK_cons m_I_Group_fulfils (consOK_cons m_I_Group_oneOfChallenge (consOK_cons m_I_sum (consOK_nil rfl)))) Tryz.func56 (h := h_I_Group_verifyOneOf) (by kernel_rfl) eq_I_Group_verifyOneOf

/-- I_Group_mulTwo -/
def pk_I_Group_mulTwo : List PK := [.data (.cons (.int .i64) (.cons (.int .i64) (.one (.int .i64)))), .data (.cons (.int .i64) (.one (.int .i64))), .data (.cons (.int .i64) (.one (.int .i64)))]
def rk_I_Group_mulTwo : List (Ty × Bool) := [((.cons (.int .i64) (.one (.int .i64))), false)]
def h_I_Group_mulTwo : Hints := { loops := [] }
noncomputable def M_I_Group_mulTwo (x : ((Int × (Int × Int)) × ((Int × Int) × (Int × Int)))) : (Option (Int × Int)) :=
  (bindO (M_I_Group_mul ((x.1.1, (x.1.2.1, x.1.2.2)), (x.2.1.1 :: (x.2.2.1 :: ([] : List Int))))) (fun (a0 : Int) => (bindO (M_I_Group_mul ((x.1.1, (x.1.2.1, x.1.2.2)), (x.2.1.2 :: (x.2.2.2 :: ([] : List Int))))) (fun (a1 : Int) => (some (a0, a1))))))

noncomputable def c_I_Group_mulTwo : Con0 := ⟨pk_I_Group_mulTwo, rk_I_Group_mulTwo, M_I_Group_mulTwo⟩

set_option maxRecDepth 100000 in
theorem eq_I_Group_mulTwo (x : In pk_I_Group_mulTwo) : semF (mkE [(86, c_I_Group_mul)]) h_I_Group_mulTwo (info Tryz.f91) pk_I_Group_mulTwo rk_I_Group_mulTwo x = M_I_Group_mulTwo x := (semFF_eq _ _ _ _ _ _).symm.trans (by kernel_rfl)

set_option maxRecDepth 100000 in
theorem m_I_Group_mulTwo : ConOK Tryz.prog 91 c_I_Group_mulTwo := fn_ok (tyOK _) (E := mkE [(86, c_I_Group_mul)]) (consOK_cons m_I_Group_mul (consOK_nil rfl)) Tryz.func91 (h := h_I_Group_mulTwo) (by kernel_rfl) eq_I_Group_mulTwo

/-- I_Group_mulCiphers -/
def pk_I_Group_mulCiphers : List PK := [.data (.cons (.int .i64) (.cons (.int .i64) (.one (.int .i64)))), .data (.sl (.cons (.int .i64) (.one (.int .i64))))]
def rk_I_Group_mulCiphers : List (Ty × Bool) := [((.cons (.int .i64) (.one (.int .i64))), false)]
def h_I_Group_mulCiphers : Hints := { loops := [(0, { items := [.slot 11 (.data (.int .i64) []), .cell 5 0 (.data (.int .i64) []), .cell 5 1 (.data (.int .i64) [])], kill := [0, 1, 3, 6, 7, 8] ++ (sgN 12 9) })] }
noncomputable def M_I_Group_mulCiphers (x : ((Int × (Int × Int)) × (List (Int × Int)))) : (Option (Int × Int)) :=
  (loopO (fun (again0 : ((Int × (Int × Int)) → (Option (Int × Int)))) => (fun (s1 : (Int × (Int × Int))) => (cond (decide (s1.1 < (((List.length x.2) : Nat) : Int))) (bindO (getI x.2 s1.1) (fun (a2 : (Int × Int)) => (bindO (M_I_Group_mulTwo ((x.1.1, (x.1.2.1, x.1.2.2)), ((s1.2.1, s1.2.2), (a2.1, a2.2)))) (fun (a3 : (Int × Int)) => (bindO (some (IntKind.wrap .i64 (s1.1 + (1 : Int)))) (fun (a4 : Int) => (again0 (a4, (a3.1, a3.2))))))))) (some (s1.2.1, s1.2.2))))) ((0 : Int), ((1 : Int), (1 : Int))))

noncomputable def c_I_Group_mulCiphers : Con0 := ⟨pk_I_Group_mulCiphers, rk_I_Group_mulCiphers, M_I_Group_mulCiphers⟩

set_option maxRecDepth 100000 in
theorem eq_I_Group_mulCiphers (x : In pk_I_Group_mulCiphers) : semF (mkE [(91, c_I_Group_mulTwo)]) h_I_Group_mulCiphers (info Tryz.f59) pk_I_Group_mulCiphers rk_I_Group_mulCiphers x = M_I_Group_mulCiphers x := (semFF_eq _ _ _ _ _ _).symm.trans (by kernel_rfl)

set_option maxRecDepth 100000 in
theorem m_I_Group_mulCiphers : ConOK Tryz.prog 59 c_I_Group_mulCiphers := fn_ok (tyOK _) (E := mkE [(91, c_I_Group_mulTwo)]) (consOK_cons m_I_Group_mulTwo (consOK_nil rfl)) Tryz.func59 (h := h_I_Group_mulCiphers) (by kernel_rfl) eq_I_Group_mulCiphers

/-- I_Group_isSealed -/
def pk_I_Group_isSealed : List PK := [.data (.cons (.int .i64) (.cons (.int .i64) (.one (.int .i64)))), .data (.int .i64), .data (.cons (.int .i64) (.cons (.int .i64) (.cons (.int .i64) (.cons (.int .i64) (.one (.int .i64)))))), .data (.cons (.int .i64) (.cons (.sl (.cons (.int .i64) (.one (.int .i64)))) (.cons (.sl (.cons (.sl (.int .i64)) (.cons (.sl (.int .i64)) (.one (.sl (.int .i64)))))) (.one (.cons (.sl (.int .i64)) (.cons (.sl (.int .i64)) (.one (.sl (.int .i64)))))))))]
def rk_I_Group_isSealed : List (Ty × Bool) := [(.bool, false)]
def h_I_Group_isSealed : Hints := { loops := [(0, { items := [.slot 71 (.data (.int .i64) [])], kill := [0, 2, 3, 5, 8, 9] ++ (sgN 11 58 ++ (sgN 72 36)) })] }
noncomputable def M_I_Group_isSealed (x : ((Int × (Int × Int)) × (Int × ((Int × (Int × (Int × (Int × Int)))) × (Int × ((List (Int × Int)) × ((List ((List Int) × ((List Int) × (List Int)))) × ((List Int) × ((List Int) × (List Int)))))))))) : (Option Bool) :=
  (bindO (M_I_Contest_width (x.2.2.1.1, (x.2.2.1.2.1, (x.2.2.1.2.2.1, (x.2.2.1.2.2.2.1, x.2.2.1.2.2.2.2))))) (fun (a0 : Int) => (bindO (M_I_isVoter x.2.2.2.1) (fun (a1 : Bool) => (cond (not a1) (some false) (cond ((((List.length x.2.2.2.2.1) : Nat) : Int) != a0) (some false) (cond ((((List.length x.2.2.2.2.2.1) : Nat) : Int) != a0) (some false) (bindO (M_I_Group_hasCiphers ((x.1.1, (x.1.2.1, x.1.2.2)), x.2.2.2.2.1)) (fun (a2 : Bool) => (cond (not a2) (some false) (bindO (M_I_ballotLabel x.2.2.2.1) (fun (a3 : ByteArray) => (bindO (M_I_Contest_isForm (x.2.2.1.1, (x.2.2.1.2.1, (x.2.2.1.2.2.1, (x.2.2.1.2.2.2.1, x.2.2.1.2.2.2.2))))) (fun (a4 : Bool) => (cond (not a4) (bindO (M_I_Proof_isEmpty (x.2.2.2.2.2.2.1, (x.2.2.2.2.2.2.2.1, x.2.2.2.2.2.2.2.2))) (fun (a5 : Bool) => (cond a5 (bindO (getI x.2.2.2.2.1 (0 : Int)) (fun (a6 : (Int × Int)) => (bindO (getI x.2.2.2.2.2.1 (0 : Int)) (fun (a7 : ((List Int) × ((List Int) × (List Int)))) => (bindO (M_I_Group_verifyLinear ((x.1.1, (x.1.2.1, x.1.2.2)), (a3, (((x.1.2.2 :: ([] : List Int)) :: ([] : List (List Int))), ((a6.1 :: ([] : List Int)), (a7.1, (a7.2.1, a7.2.2))))))) (fun (a8 : Bool) => (some a8))))))) (some false)))) (loopO (fun (again9 : (Int → (Option Bool))) => (fun (s10 : Int) => (cond (decide (s10 < (((List.length x.2.2.2.2.1) : Nat) : Int))) (bindO (getI x.2.2.2.2.1 s10) (fun (a11 : (Int × Int)) => (bindO (M_I_Contest_most (x.2.2.1.1, (x.2.2.1.2.1, (x.2.2.1.2.2.1, (x.2.2.1.2.2.2.1, x.2.2.1.2.2.2.2))))) (fun (a12 : Int) => (bindO (M_I_Group_statements ((x.1.1, (x.1.2.1, x.1.2.2)), (x.2.1, ((a11.1, a11.2), ((0 : Int), a12))))) (fun (a13 : (List (Int × (Int × (Int × Int))))) => (bindO (getI x.2.2.2.2.2.1 s10) (fun (a14 : ((List Int) × ((List Int) × (List Int)))) => (bindO (M_I_Group_verifyOneOf ((x.1.1, (x.1.2.1, x.1.2.2)), (a3, (a13, (a14.1, (a14.2.1, a14.2.2)))))) (fun (a15 : Bool) => (cond (not a15) (some false) (bindO (some (IntKind.wrap .i64 (s10 + (1 : Int)))) (fun (a16 : Int) => (again9 a16)))))))))))))) (bindO (M_I_Group_mulCiphers ((x.1.1, (x.1.2.1, x.1.2.2)), x.2.2.2.2.1)) (fun (a17 : (Int × Int)) => (bindO (M_I_Group_statements ((x.1.1, (x.1.2.1, x.1.2.2)), (x.2.1, ((a17.1, a17.2), (x.2.2.1.2.2.1, x.2.2.1.2.2.2.1))))) (fun (a18 : (List (Int × (Int × (Int × Int))))) => (bindO (M_I_Group_verifyOneOf ((x.1.1, (x.1.2.1, x.1.2.2)), (a3, (a18, (x.2.2.2.2.2.2.1, (x.2.2.2.2.2.2.2.1, x.2.2.2.2.2.2.2.2)))))) (fun (a19 : Bool) => (some a19)))))))))) (0 : Int)))))))))))))))))

noncomputable def c_I_Group_isSealed : Con0 := ⟨pk_I_Group_isSealed, rk_I_Group_isSealed, M_I_Group_isSealed⟩

set_option maxRecDepth 100000 in
theorem eq_I_Group_isSealed (x : In pk_I_Group_isSealed) : semF (mkE [(50, c_I_Contest_width), (51, c_I_isVoter), (52, c_I_Group_hasCiphers), (53, c_I_ballotLabel), (47, c_I_Contest_isForm), (54, c_I_Proof_isEmpty), (55, c_I_Group_verifyLinear), (58, c_I_Contest_most), (57, c_I_Group_statements), (56, c_I_Group_verifyOneOf), (59, c_I_Group_mulCiphers)]) h_I_Group_isSealed (info Tryz.f22) pk_I_Group_isSealed rk_I_Group_isSealed x = M_I_Group_isSealed x := (semFF_eq _ _ _ _ _ _).symm.trans (by kernel_rfl)

set_option maxRecDepth 100000 in
theorem m_I_Group_isSealed : ConOK Tryz.prog 22 c_I_Group_isSealed := fn_ok (tyOK _) (E := mkE [(50, c_I_Contest_width), (51, c_I_isVoter), (52, c_I_Group_hasCiphers), (53, c_I_ballotLabel), (47, c_I_Contest_isForm), (54, c_I_Proof_isEmpty), (55, c_I_Group_verifyLinear), (58, c_I_Contest_most), (57, c_I_Group_statements), (56, c_I_Group_verifyOneOf), (59, c_I_Group_mulCiphers)]) (consOK_cons m_I_Contest_width (consOK_cons m_I_isVoter (consOK_cons m_I_Group_hasCiphers (consOK_cons m_I_ballotLabel (consOK_cons m_I_Contest_isForm (consOK_cons m_I_Proof_isEmpty (consOK_cons m_I_Group_verifyLinear (consOK_cons m_I_Contest_most (consOK_cons m_I_Group_statements (consOK_cons m_I_Group_verifyOneOf (consOK_cons m_I_Group_mulCiphers (consOK_nil rfl)))))))))))) Tryz.func22 (h := h_I_Group_isSealed) (by kernel_rfl) eq_I_Group_isSealed

/-- I_VerifySealed -/
def pk_I_VerifySealed : List PK := [.data (.cons (.int .i64) (.cons (.int .i64) (.one (.int .i64)))), .data (.int .i64), .data (.cons (.int .i64) (.cons (.int .i64) (.cons (.int .i64) (.cons (.int .i64) (.one (.int .i64)))))), .data (.cons (.int .i64) (.cons (.sl (.cons (.int .i64) (.one (.int .i64)))) (.cons (.sl (.cons (.sl (.int .i64)) (.cons (.sl (.int .i64)) (.one (.sl (.int .i64)))))) (.one (.cons (.sl (.int .i64)) (.cons (.sl (.int .i64)) (.one (.sl (.int .i64)))))))))]
def rk_I_VerifySealed : List (Ty × Bool) := [(.bool, false), (.bool, false)]
def h_I_VerifySealed : Hints := { loops := [] }
noncomputable def M_I_VerifySealed (x : ((Int × (Int × Int)) × (Int × ((Int × (Int × (Int × (Int × Int)))) × (Int × ((List (Int × Int)) × ((List ((List Int) × ((List Int) × (List Int)))) × ((List Int) × ((List Int) × (List Int)))))))))) : (Option (Bool × Bool)) :=
  (bindO (M_I_IsSealable ((x.1.1, (x.1.2.1, x.1.2.2)), (x.2.2.1.1, (x.2.2.1.2.1, (x.2.2.1.2.2.1, (x.2.2.1.2.2.2.1, x.2.2.1.2.2.2.2)))))) (fun (a0 : Bool) => (cond (not a0) (some (false, false)) (bindO (M_I_Group_has ((x.1.1, (x.1.2.1, x.1.2.2)), x.2.1)) (fun (a1 : Bool) => (cond (not a1) (some (false, false)) (bindO (M_I_Group_isSealed ((x.1.1, (x.1.2.1, x.1.2.2)), (x.2.1, ((x.2.2.1.1, (x.2.2.1.2.1, (x.2.2.1.2.2.1, (x.2.2.1.2.2.2.1, x.2.2.1.2.2.2.2)))), (x.2.2.2.1, (x.2.2.2.2.1, (x.2.2.2.2.2.1, (x.2.2.2.2.2.2.1, (x.2.2.2.2.2.2.2.1, x.2.2.2.2.2.2.2.2))))))))) (fun (a2 : Bool) => (some (a2, true))))))))))

noncomputable def c_I_VerifySealed : Con0 := ⟨pk_I_VerifySealed, rk_I_VerifySealed, M_I_VerifySealed⟩

set_option maxRecDepth 100000 in
theorem eq_I_VerifySealed (x : In pk_I_VerifySealed) : semF (mkE [(20, c_I_IsSealable), (21, c_I_Group_has), (22, c_I_Group_isSealed)]) h_I_VerifySealed (info Tryz.f9) pk_I_VerifySealed rk_I_VerifySealed x = M_I_VerifySealed x := (semFF_eq _ _ _ _ _ _).symm.trans (by kernel_rfl)

set_option maxRecDepth 100000 in
theorem m_I_VerifySealed : ConOK Tryz.prog 9 c_I_VerifySealed := fn_ok (tyOK _) (E := mkE [(20, c_I_IsSealable), (21, c_I_Group_has), (22, c_I_Group_isSealed)]) (consOK_cons m_I_IsSealable (consOK_cons m_I_Group_has (consOK_cons m_I_Group_isSealed (consOK_nil rfl)))) Tryz.func9 (h := h_I_VerifySealed) (by kernel_rfl) eq_I_VerifySealed

/-- L_eqCipher -/
def pk_L_eqCipher : List PK := [.data (.cons (.int .i64) (.one (.int .i64))), .data (.cons (.int .i64) (.one (.int .i64)))]
def rk_L_eqCipher : List (Ty × Bool) := [(.bool, false)]
def h_L_eqCipher : Hints := { loops := [] }
noncomputable def M_L_eqCipher (x : ((Int × Int) × (Int × Int))) : (Option Bool) :=
  (cond (x.1.1 != x.2.1) (some false) (cond (x.1.2 != x.2.2) (some false) (some true)))

noncomputable def c_L_eqCipher : Con0 := ⟨pk_L_eqCipher, rk_L_eqCipher, M_L_eqCipher⟩

set_option maxRecDepth 100000 in
theorem eq_L_eqCipher (x : In pk_L_eqCipher) : semF (mkE []) h_L_eqCipher (info Tryz.f60) pk_L_eqCipher rk_L_eqCipher x = M_L_eqCipher x := (semFF_eq _ _ _ _ _ _).symm.trans (by kernel_rfl)

set_option maxRecDepth 100000 in
theorem m_L_eqCipher : ConOK Tryz.prog 60 c_L_eqCipher := fn_ok (tyOK _) (E := mkE []) (consOK_nil rfl) Tryz.func60 (h := h_L_eqCipher) (by kernel_rfl) eq_L_eqCipher

/-- L_eqCipherS -/
def pk_L_eqCipherS : List PK := [.data (.sl (.cons (.int .i64) (.one (.int .i64)))), .data (.sl (.cons (.int .i64) (.one (.int .i64))))]
def rk_L_eqCipherS : List (Ty × Bool) := [(.bool, false)]
def h_L_eqCipherS : Hints := { loops := [(0, { items := [.slot 5 (.data (.int .i64) [])], kill := [2, 3, 4] ++ (sgN 6 21) })] }
noncomputable def M_L_eqCipherS (x : ((List (Int × Int)) × (List (Int × Int)))) : (Option Bool) :=
  (cond ((((List.length x.1) : Nat) : Int) != (((List.length x.2) : Nat) : Int)) (some false) (loopO (fun (again0 : (Int → (Option Bool))) => (fun (s1 : Int) => (cond (decide (s1 < (((List.length x.1) : Nat) : Int))) (bindO (getI x.1 s1) (fun (a2 : (Int × Int)) => (bindO (getI x.2 s1) (fun (a3 : (Int × Int)) => (bindO (M_L_eqCipher ((a2.1, a2.2), (a3.1, a3.2))) (fun (a4 : Bool) => (cond (not a4) (some false) (bindO (some (IntKind.wrap .i64 (s1 + (1 : Int)))) (fun (a5 : Int) => (again0 a5)))))))))) (some true)))) (0 : Int)))

noncomputable def c_L_eqCipherS : Con0 := ⟨pk_L_eqCipherS, rk_L_eqCipherS, M_L_eqCipherS⟩

set_option maxRecDepth 100000 in
theorem eq_L_eqCipherS (x : In pk_L_eqCipherS) : semF (mkE [(60, c_L_eqCipher)]) h_L_eqCipherS (info Tryz.f23) pk_L_eqCipherS rk_L_eqCipherS x = M_L_eqCipherS x := (semFF_eq _ _ _ _ _ _).symm.trans (by kernel_rfl)

set_option maxRecDepth 100000 in
theorem m_L_eqCipherS : ConOK Tryz.prog 23 c_L_eqCipherS := fn_ok (tyOK _) (E := mkE [(60, c_L_eqCipher)]) (consOK_cons m_L_eqCipher (consOK_nil rfl)) Tryz.func23 (h := h_L_eqCipherS) (by kernel_rfl) eq_L_eqCipherS

/-- L_eqIntS -/
def pk_L_eqIntS : List PK := [.data (.sl (.int .i64)), .data (.sl (.int .i64))]
def rk_L_eqIntS : List (Ty × Bool) := [(.bool, false)]
def h_L_eqIntS : Hints := { loops := [(0, { items := [.slot 5 (.data (.int .i64) [])], kill := [2, 3, 4] ++ (sgN 6 20) })] }
noncomputable def M_L_eqIntS (x : ((List Int) × (List Int))) : (Option Bool) :=
  (cond ((((List.length x.1) : Nat) : Int) != (((List.length x.2) : Nat) : Int)) (some false) (loopO (fun (again0 : (Int → (Option Bool))) => (fun (s1 : Int) => (cond (decide (s1 < (((List.length x.1) : Nat) : Int))) (bindO (getI x.1 s1) (fun (a2 : Int) => (bindO (getI x.2 s1) (fun (a3 : Int) => (cond (a2 != a3) (some false) (bindO (some (IntKind.wrap .i64 (s1 + (1 : Int)))) (fun (a4 : Int) => (again0 a4)))))))) (some true)))) (0 : Int)))

noncomputable def c_L_eqIntS : Con0 := ⟨pk_L_eqIntS, rk_L_eqIntS, M_L_eqIntS⟩

set_option maxRecDepth 100000 in
theorem eq_L_eqIntS (x : In pk_L_eqIntS) : semF (mkE []) h_L_eqIntS (info Tryz.f61) pk_L_eqIntS rk_L_eqIntS x = M_L_eqIntS x := (semFF_eq _ _ _ _ _ _).symm.trans (by kernel_rfl)

set_option maxRecDepth 100000 in
theorem m_L_eqIntS : ConOK Tryz.prog 61 c_L_eqIntS := fn_ok (tyOK _) (E := mkE []) (consOK_nil rfl) Tryz.func61 (h := h_L_eqIntS) (by kernel_rfl) eq_L_eqIntS

/-- L_eqProof -/
def pk_L_eqProof : List PK := [.data (.cons (.sl (.int .i64)) (.cons (.sl (.int .i64)) (.one (.sl (.int .i64))))), .data (.cons (.sl (.int .i64)) (.cons (.sl (.int .i64)) (.one (.sl (.int .i64)))))]
def rk_L_eqProof : List (Ty × Bool) := [(.bool, false)]
def h_L_eqProof : Hints := { loops := [] }
noncomputable def M_L_eqProof (x : (((List Int) × ((List Int) × (List Int))) × ((List Int) × ((List Int) × (List Int))))) : (Option Bool) :=
  (bindO (M_L_eqIntS (x.1.1, x.2.1)) (fun (a0 : Bool) => (cond (not a0) (some false) (bindO (M_L_eqIntS (x.1.2.1, x.2.2.1)) (fun (a1 : Bool) => (cond (not a1) (some false) (bindO (M_L_eqIntS (x.1.2.2, x.2.2.2)) (fun (a2 : Bool) => (cond (not a2) (some false) (some true))))))))))

noncomputable def c_L_eqProof : Con0 := ⟨pk_L_eqProof, rk_L_eqProof, M_L_eqProof⟩

set_option maxRecDepth 100000 in
theorem eq_L_eqProof (x : In pk_L_eqProof) : semF (mkE [(61, c_L_eqIntS)]) h_L_eqProof (info Tryz.f25) pk_L_eqProof rk_L_eqProof x = M_L_eqProof x := (semFF_eq _ _ _ _ _ _).symm.trans (by kernel_rfl)

set_option maxRecDepth 100000 in
theorem m_L_eqProof : ConOK Tryz.prog 25 c_L_eqProof := fn_ok (tyOK _) (E := mkE [(61, c_L_eqIntS)]) (consOK_cons m_L_eqIntS (consOK_nil rfl)) Tryz.func25 (h := h_L_eqProof) (by kernel_rfl) eq_L_eqProof

/-- L_eqProofS -/
def pk_L_eqProofS : List PK := [.data (.sl (.cons (.sl (.int .i64)) (.cons (.sl (.int .i64)) (.one (.sl (.int .i64)))))), .data (.sl (.cons (.sl (.int .i64)) (.cons (.sl (.int .i64)) (.one (.sl (.int .i64))))))]
def rk_L_eqProofS : List (Ty × Bool) := [(.bool, false)]
def h_L_eqProofS : Hints := { loops := [(0, { items := [.slot 5 (.data (.int .i64) [])], kill := [2, 3, 4] ++ (sgN 6 21) })] }
noncomputable def M_L_eqProofS (x : ((List ((List Int) × ((List Int) × (List Int)))) × (List ((List Int) × ((List Int) × (List Int)))))) : (Option Bool) :=
  (cond ((((List.length x.1) : Nat) : Int) != (((List.length x.2) : Nat) : Int)) (some false) (loopO (fun (again0 : (Int → (Option Bool))) => (fun (s1 : Int) => (cond (decide (s1 < (((List.length x.1) : Nat) : Int))) (bindO (getI x.1 s1) (fun (a2 : ((List Int) × ((List Int) × (List Int)))) => (bindO (getI x.2 s1) (fun (a3 : ((List Int) × ((List Int) × (List Int)))) => (bindO (M_L_eqProof ((a2.1, (a2.2.1, a2.2.2)), (a3.1, (a3.2.1, a3.2.2)))) (fun (a4 : Bool) => (cond (not a4) (some false) (bindO (some (IntKind.wrap .i64 (s1 + (1 : Int)))) (fun (a5 : Int) => (again0 a5)))))))))) (some true)))) (0 : Int)))

noncomputable def c_L_eqProofS : Con0 := ⟨pk_L_eqProofS, rk_L_eqProofS, M_L_eqProofS⟩

set_option maxRecDepth 100000 in
theorem eq_L_eqProofS (x : In pk_L_eqProofS) : semF (mkE [(25, c_L_eqProof)]) h_L_eqProofS (info Tryz.f24) pk_L_eqProofS rk_L_eqProofS x = M_L_eqProofS x := (semFF_eq _ _ _ _ _ _).symm.trans (by kernel_rfl)

set_option maxRecDepth 100000 in
theorem m_L_eqProofS : ConOK Tryz.prog 24 c_L_eqProofS := fn_ok (tyOK _) (E := mkE [(25, c_L_eqProof)]) (consOK_cons m_L_eqProof (consOK_nil rfl)) Tryz.func24 (h := h_L_eqProofS) (by kernel_rfl) eq_L_eqProofS

/-- L_eqSealed -/
def pk_L_eqSealed : List PK := [.data (.cons (.int .i64) (.cons (.sl (.cons (.int .i64) (.one (.int .i64)))) (.cons (.sl (.cons (.sl (.int .i64)) (.cons (.sl (.int .i64)) (.one (.sl (.int .i64)))))) (.one (.cons (.sl (.int .i64)) (.cons (.sl (.int .i64)) (.one (.sl (.int .i64))))))))), .data (.cons (.int .i64) (.cons (.sl (.cons (.int .i64) (.one (.int .i64)))) (.cons (.sl (.cons (.sl (.int .i64)) (.cons (.sl (.int .i64)) (.one (.sl (.int .i64)))))) (.one (.cons (.sl (.int .i64)) (.cons (.sl (.int .i64)) (.one (.sl (.int .i64)))))))))]
def rk_L_eqSealed : List (Ty × Bool) := [(.bool, false)]
def h_L_eqSealed : Hints := { loops := [] }
noncomputable def M_L_eqSealed (x : ((Int × ((List (Int × Int)) × ((List ((List Int) × ((List Int) × (List Int)))) × ((List Int) × ((List Int) × (List Int)))))) × (Int × ((List (Int × Int)) × ((List ((List Int) × ((List Int) × (List Int)))) × ((List Int) × ((List Int) × (List Int)))))))) : (Option Bool) :=
  (cond (x.1.1 != x.2.1) (some false) (bindO (M_L_eqCipherS (x.1.2.1, x.2.2.1)) (fun (a0 : Bool) => (cond (not a0) (some false) (bindO (M_L_eqProofS (x.1.2.2.1, x.2.2.2.1)) (fun (a1 : Bool) => (cond (not a1) (some false) (bindO (M_L_eqProof ((x.1.2.2.2.1, (x.1.2.2.2.2.1, x.1.2.2.2.2.2)), (x.2.2.2.2.1, (x.2.2.2.2.2.1, x.2.2.2.2.2.2)))) (fun (a2 : Bool) => (cond (not a2) (some false) (some true)))))))))))

noncomputable def c_L_eqSealed : Con0 := ⟨pk_L_eqSealed, rk_L_eqSealed, M_L_eqSealed⟩

set_option maxRecDepth 100000 in
theorem eq_L_eqSealed (x : In pk_L_eqSealed) : semF (mkE [(23, c_L_eqCipherS), (24, c_L_eqProofS), (25, c_L_eqProof)]) h_L_eqSealed (info Tryz.f10) pk_L_eqSealed rk_L_eqSealed x = M_L_eqSealed x := (semFF_eq _ _ _ _ _ _).symm.trans (by kernel_rfl)

set_option maxRecDepth 100000 in
theorem m_L_eqSealed : ConOK Tryz.prog 10 c_L_eqSealed := fn_ok (tyOK _) (E := mkE [(23, c_L_eqCipherS), (24, c_L_eqProofS), (25, c_L_eqProof)]) (consOK_cons m_L_eqCipherS (consOK_cons m_L_eqProofS (consOK_cons m_L_eqProof (consOK_nil rfl)))) Tryz.func10 (h := h_L_eqSealed) (by kernel_rfl) eq_L_eqSealed

/-- L_FnExactVerifySealed -/
def pk_L_FnExactVerifySealed : List PK := [.data (.cons (.int .i64) (.cons (.int .i64) (.one (.int .i64)))), .data (.int .i64), .data (.cons (.int .i64) (.cons (.int .i64) (.cons (.int .i64) (.cons (.int .i64) (.one (.int .i64)))))), .data (.cons (.int .i64) (.cons (.sl (.cons (.int .i64) (.one (.int .i64)))) (.cons (.sl (.cons (.sl (.int .i64)) (.cons (.sl (.int .i64)) (.one (.sl (.int .i64)))))) (.one (.cons (.sl (.int .i64)) (.cons (.sl (.int .i64)) (.one (.sl (.int .i64)))))))))]
def rk_L_FnExactVerifySealed : List (Ty × Bool) := [(.bool, false)]
def h_L_FnExactVerifySealed : Hints := { loops := [] }
noncomputable def M_L_FnExactVerifySealed (x : ((Int × (Int × Int)) × (Int × ((Int × (Int × (Int × (Int × Int)))) × (Int × ((List (Int × Int)) × ((List ((List Int) × ((List Int) × (List Int)))) × ((List Int) × ((List Int) × (List Int)))))))))) : (Option Bool) :=
  (bindO (M_L_szSealed ((x.2.2.2.1, (x.2.2.2.2.1, (x.2.2.2.2.2.1, (x.2.2.2.2.2.2.1, (x.2.2.2.2.2.2.2.1, x.2.2.2.2.2.2.2.2))))), (1048576 : Int))) (fun (a0 : Int) => (cond (decide (a0 < (0 : Int))) (some true) (bindO (M_L_toGroup (x.1.1, (x.1.2.1, x.1.2.2))) (fun (a1 : (Int × (Int × Int))) => (bindO (M_L_toContest (x.2.2.1.1, (x.2.2.1.2.1, (x.2.2.1.2.2.1, (x.2.2.1.2.2.2.1, x.2.2.1.2.2.2.2))))) (fun (a2 : (Int × (Int × (Int × (Int × Int))))) => (bindO (M_L_toSealed (x.2.2.2.1, (x.2.2.2.2.1, (x.2.2.2.2.2.1, (x.2.2.2.2.2.2.1, (x.2.2.2.2.2.2.2.1, x.2.2.2.2.2.2.2.2)))))) (fun (a3 : (Int × ((List (Int × Int)) × ((List ((List Int) × ((List Int) × (List Int)))) × ((List Int) × ((List Int) × (List Int))))))) => (bindO (M_S_VerifySealed ((a1.1, (a1.2.1, a1.2.2)), (x.2.1, ((a2.1, (a2.2.1, (a2.2.2.1, (a2.2.2.2.1, a2.2.2.2.2)))), (a3.1, (a3.2.1, (a3.2.2.1, (a3.2.2.2.1, (a3.2.2.2.2.1, a3.2.2.2.2.2))))))))) (fun (a4 : (Bool × Bool)) => (bindO (M_L_toSealed (x.2.2.2.1, (x.2.2.2.2.1, (x.2.2.2.2.2.1, (x.2.2.2.2.2.2.1, (x.2.2.2.2.2.2.2.1, x.2.2.2.2.2.2.2.2)))))) (fun (a5 : (Int × ((List (Int × Int)) × ((List ((List Int) × ((List Int) × (List Int)))) × ((List Int) × ((List Int) × (List Int))))))) => (bindO (M_L_toGroup (x.1.1, (x.1.2.1, x.1.2.2))) (fun (a6 : (Int × (Int × Int))) => (bindO (M_L_toContest (x.2.2.1.1, (x.2.2.1.2.1, (x.2.2.1.2.2.1, (x.2.2.1.2.2.2.1, x.2.2.1.2.2.2.2))))) (fun (a7 : (Int × (Int × (Int × (Int × Int))))) => (bindO (M_I_VerifySealed ((a6.1, (a6.2.1, a6.2.2)), (x.2.1, ((a7.1, (a7.2.1, (a7.2.2.1, (a7.2.2.2.1, a7.2.2.2.2)))), (a5.1, (a5.2.1, (a5.2.2.1, (a5.2.2.2.1, (a5.2.2.2.2.1, a5.2.2.2.2.2))))))))) (fun (a8 : (Bool × Bool)) => (cond (not (a8.1 == a4.1)) (some false) (cond (not (a8.2 == a4.2)) (some false) (bindO (M_L_toSealed (x.2.2.2.1, (x.2.2.2.2.1, (x.2.2.2.2.2.1, (x.2.2.2.2.2.2.1, (x.2.2.2.2.2.2.2.1, x.2.2.2.2.2.2.2.2)))))) (fun (a9 : (Int × ((List (Int × Int)) × ((List ((List Int) × ((List Int) × (List Int)))) × ((List Int) × ((List Int) × (List Int))))))) => (bindO (M_L_eqSealed ((a5.1, (a5.2.1, (a5.2.2.1, (a5.2.2.2.1, (a5.2.2.2.2.1, a5.2.2.2.2.2))))), (a9.1, (a9.2.1, (a9.2.2.1, (a9.2.2.2.1, (a9.2.2.2.2.1, a9.2.2.2.2.2))))))) (fun (a10 : Bool) => (cond (not a10) (some false) (some true)))))))))))))))))))))))))))

noncomputable def c_L_FnExactVerifySealed : Con0 := ⟨pk_L_FnExactVerifySealed, rk_L_FnExactVerifySealed, M_L_FnExactVerifySealed⟩

set_option maxRecDepth 100000 in
theorem eq_L_FnExactVerifySealed (x : In pk_L_FnExactVerifySealed) : semF (mkE [(4, c_L_szSealed), (6, c_L_toGroup), (7, c_L_toContest), (8, c_L_toSealed), (5, c_S_VerifySealed), (9, c_I_VerifySealed), (10, c_L_eqSealed)]) h_L_FnExactVerifySealed (info Tryz.f3) pk_L_FnExactVerifySealed rk_L_FnExactVerifySealed x = M_L_FnExactVerifySealed x := (semFF_eq _ _ _ _ _ _).symm.trans (by kernel_rfl)

set_option maxRecDepth 100000 in
theorem m_L_FnExactVerifySealed : ConOK Tryz.prog 3 c_L_FnExactVerifySealed := fn_ok (tyOK _) (E := mkE [(4, c_L_szSealed), (6, c_L_toGroup), (7, c_L_toContest), (8, c_L_toSealed), (5, c_S_VerifySealed), (9, c_I_VerifySealed), (10, c_L_eqSealed)]) (consOK_cons m_L_szSealed (consOK_cons m_L_toGroup (consOK_cons m_L_toContest (consOK_cons m_L_toSealed (consOK_cons m_S_VerifySealed (consOK_cons m_I_VerifySealed (consOK_cons m_L_eqSealed (consOK_nil rfl)))))))) Tryz.func3 (h := h_L_FnExactVerifySealed) (by kernel_rfl) eq_L_FnExactVerifySealed

end Go.Proofs.YtgjneigkkgaaiaaGreatDoor.Vd
