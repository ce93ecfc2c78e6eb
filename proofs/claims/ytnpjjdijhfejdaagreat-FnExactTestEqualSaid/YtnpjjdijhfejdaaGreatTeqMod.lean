/- The functions of the law as plain functions on data, and that the program's functions are these. No conditions. -/
import Derived.Test.YtnpjjdijhfejdaaGreatVdSD
import Derived.Test.YtnpjjdijhfejdaaGreatChecked
import Derived.KernelRfl
set_option linter.unusedVariables false
namespace Go.Proofs.YtnpjjdijhfejdaaGreat.Vd
def tys : List (Option Ty) := [none, none, some (.int .i64), some (.int .i64), some .bool, some (.int .u8), some (.int .u8), some (.cons (.int .i64) (.cons (.int .i64) (.cons .bool (.one (.int .u8))))), some (.cons (.int .i64) (.cons (.int .i64) (.cons .bool (.one (.int .u8))))), some .str, some .str, some .str, some (.int .u64), some (.cons .str (.one (.int .u64))), some (.cons .str (.one (.int .u64))), none, none, none, none, none, none, some (.int .i32), some (.cons (.int .i64) (.cons (.int .i64) (.one (.int .i64)))), some (.cons (.int .i64) (.cons (.int .i64) (.one (.int .i64)))), some (.sl (.int .i64)), some (.cons (.int .i64) (.one (.int .i64))), some (.cons (.int .i64) (.one (.int .i64))), some (.sl (.cons (.int .i64) (.cons (.cons (.int .i64) (.one (.int .i64))) (.one (.cons (.sl (.int .i64)) (.cons (.sl (.int .i64)) (.one (.sl (.int .i64))))))))), some (.sl (.cons (.int .i64) (.cons (.int .i64) (.one (.cons (.sl (.int .i64)) (.cons (.sl (.int .i64)) (.one (.sl (.int .i64))))))))), none, none, none, none, some (.cons (.int .i64) (.cons (.int .i64) (.one (.int .i64)))), none, none, some (.cons (.int .i64) (.one (.int .i64))), none, some (.sl (.cons (.int .i64) (.cons (.cons (.int .i64) (.one (.int .i64))) (.one (.cons (.sl (.int .i64)) (.cons (.sl (.int .i64)) (.one (.sl (.int .i64))))))))), none, some (.sl (.cons (.int .i64) (.cons (.int .i64) (.one (.cons (.sl (.int .i64)) (.cons (.sl (.int .i64)) (.one (.sl (.int .i64))))))))), none, none, none, none, none, none, some (.cons (.sl (.int .i64)) (.cons (.sl (.int .i64)) (.one (.sl (.int .i64))))), some (.cons (.sl (.int .i64)) (.cons (.sl (.int .i64)) (.one (.sl (.int .i64))))), some (.cons (.int .i64) (.cons (.cons (.int .i64) (.one (.int .i64))) (.one (.cons (.sl (.int .i64)) (.cons (.sl (.int .i64)) (.one (.sl (.int .i64)))))))), some (.cons (.int .i64) (.cons (.cons (.int .i64) (.one (.int .i64))) (.one (.cons (.sl (.int .i64)) (.cons (.sl (.int .i64)) (.one (.sl (.int .i64)))))))), none, some (.cons (.int .i64) (.cons (.int .i64) (.one (.cons (.sl (.int .i64)) (.cons (.sl (.int .i64)) (.one (.sl (.int .i64)))))))), some (.cons (.int .i64) (.cons (.int .i64) (.one (.cons (.sl (.int .i64)) (.cons (.sl (.int .i64)) (.one (.sl (.int .i64)))))))), none, none, none, none, none, none, none, some (.cons (.sl (.int .i64)) (.cons (.sl (.int .i64)) (.one (.sl (.int .i64))))), some (.cons (.int .i64) (.cons (.cons (.int .i64) (.one (.int .i64))) (.one (.cons (.sl (.int .i64)) (.cons (.sl (.int .i64)) (.one (.sl (.int .i64)))))))), some (.cons (.int .i64) (.cons (.cons (.int .i64) (.one (.int .i64))) (.one (.cons (.sl (.int .i64)) (.cons (.sl (.int .i64)) (.one (.sl (.int .i64)))))))), none, some (.cons (.int .i64) (.cons (.int .i64) (.one (.cons (.sl (.int .i64)) (.cons (.sl (.int .i64)) (.one (.sl (.int .i64)))))))), some (.cons (.int .i64) (.cons (.int .i64) (.one (.cons (.sl (.int .i64)) (.cons (.sl (.int .i64)) (.one (.sl (.int .i64)))))))), none, none, none, none, none, none, none, none, some (.sl (.cons (.int .i64) (.one (.int .i64)))), none, none, none, none, none, none, none, none, none, none, none, none, none, none, none, none, none, none, none, none, none, none, none, none, none, none, none, none, none, none, none, some (.cons (.int .i64) (.cons (.int .i64) (.cons (.int .i64) (.one (.int .i64))))), some (.cons (.int .i64) (.cons (.int .i64) (.cons (.int .i64) (.one (.int .i64))))), none, none, none, none, none, none, some (.int .u64), none, some (.sl (.sl (.int .i64))), none, none, none, none, none, none, none, none, none, none, none, none, none, none, none, none, none, none, none, none, none, none, none, none, none, none, none, some (.cons (.int .i64) (.one (.int .i64))), some (.cons (.int .i64) (.one (.int .i64))), none, none, none, none, none, none, none, none, some (.int .u32), some (.int .u8), some (.int .u8), none, none, some (.int .i32), some (.int .i32), none, none, none, none]
def others : List Nat := [1, 15, 16, 17, 29, 30, 32, 34, 35, 37, 39, 41, 42, 43, 44, 45, 46, 51, 54, 55, 57, 58, 60, 64, 67, 69, 70, 71, 72, 73, 74, 76, 78, 79, 80, 81, 82, 83, 84, 85, 86, 87, 88, 90, 91, 92, 93, 94, 95, 96, 97, 98, 99, 100, 101, 102, 103, 104, 105, 106, 109, 110, 111, 112, 113, 114, 116, 118, 119, 120, 121, 122, 123, 124, 125, 126, 127, 128, 129, 130, 131, 132, 133, 134, 135, 136, 137, 138, 139, 140, 141, 142, 143, 144, 147, 148, 154, 158, 159, 164]
def pairs : List Nat := [25, 26, 36, 145, 146]
noncomputable def mkE (con : List (Nat × Con0)) : Env := ⟨[], tys, others, pairs, con⟩

set_option maxRecDepth 100000 in
theorem tyOK (con : List (Nat × Con0)) : TyOK Tryz.prog (mkE con) := tyOK_of (E := mkE con) (by kernel_rfl) (by kernel_rfl) (by kernel_rfl)

/-- L_szIntS -/
def pk_L_szIntS : List PK := [.data (.sl (.int .i64)), .data (.int .i64)]
def rk_L_szIntS : List (Ty × Bool) := [((.int .i64), false)]
def h_L_szIntS : Hints := { loops := [] }
noncomputable def M_L_szIntS (x : ((List Int) × Int)) : (Option Int) :=
  (bindO (some (IntKind.wrap .i64 (x.2 - (((List.length x.1) : Nat) : Int)))) (fun (a0 : Int) => (cond (decide (a0 < (0 : Int))) (some (- (1 : Int))) (some a0))))

noncomputable def c_L_szIntS : Con0 := ⟨pk_L_szIntS, rk_L_szIntS, M_L_szIntS⟩

set_option maxRecDepth 100000 in
theorem eq_L_szIntS (x : In pk_L_szIntS) : semF (mkE []) h_L_szIntS (info Tryz.f56) pk_L_szIntS rk_L_szIntS x = M_L_szIntS x := by kernel_rfl

set_option maxRecDepth 100000 in
theorem m_L_szIntS : ConOK Tryz.prog 56 c_L_szIntS := fn_ok (tyOK _) (E := mkE []) (consOK_nil rfl) Tryz.func56 (h := h_L_szIntS) (by kernel_rfl) eq_L_szIntS

/-- L_szProof -/
def pk_L_szProof : List PK := [.data (.cons (.sl (.int .i64)) (.cons (.sl (.int .i64)) (.one (.sl (.int .i64))))), .data (.int .i64)]
def rk_L_szProof : List (Ty × Bool) := [((.int .i64), false)]
def h_L_szProof : Hints := { loops := [] }
noncomputable def M_L_szProof (x : (((List Int) × ((List Int) × (List Int))) × Int)) : (Option Int) :=
  (bindO (M_L_szIntS (x.1.1, x.2)) (fun (a0 : Int) => (cond (decide (a0 < (0 : Int))) (some (- (1 : Int))) (bindO (M_L_szIntS (x.1.2.1, a0)) (fun (a1 : Int) => (cond (decide (a1 < (0 : Int))) (some (- (1 : Int))) (bindO (M_L_szIntS (x.1.2.2, a1)) (fun (a2 : Int) => (cond (decide (a2 < (0 : Int))) (some (- (1 : Int))) (some a2))))))))))

noncomputable def c_L_szProof : Con0 := ⟨pk_L_szProof, rk_L_szProof, M_L_szProof⟩

set_option maxRecDepth 100000 in
theorem eq_L_szProof (x : In pk_L_szProof) : semF (mkE [(56, c_L_szIntS)]) h_L_szProof (info Tryz.f31) pk_L_szProof rk_L_szProof x = M_L_szProof x := by kernel_rfl

set_option maxRecDepth 100000 in
theorem m_L_szProof : ConOK Tryz.prog 31 c_L_szProof := fn_ok (tyOK _) (E := mkE [(56, c_L_szIntS)]) (consOK_cons m_L_szIntS (consOK_nil rfl)) Tryz.func31 (h := h_L_szProof) (by kernel_rfl) eq_L_szProof

/-- L_szBlind -/
def pk_L_szBlind : List PK := [.data (.cons (.int .i64) (.cons (.cons (.int .i64) (.one (.int .i64))) (.one (.cons (.sl (.int .i64)) (.cons (.sl (.int .i64)) (.one (.sl (.int .i64)))))))), .data (.int .i64)]
def rk_L_szBlind : List (Ty × Bool) := [((.int .i64), false)]
def h_L_szBlind : Hints := { loops := [] }
noncomputable def M_L_szBlind (x : ((Int × ((Int × Int) × ((List Int) × ((List Int) × (List Int))))) × Int)) : (Option Int) :=
  (bindO (M_L_szProof ((x.1.2.2.1, (x.1.2.2.2.1, x.1.2.2.2.2)), x.2)) (fun (a0 : Int) => (cond (decide (a0 < (0 : Int))) (some (- (1 : Int))) (some a0))))

noncomputable def c_L_szBlind : Con0 := ⟨pk_L_szBlind, rk_L_szBlind, M_L_szBlind⟩

set_option maxRecDepth 100000 in
theorem eq_L_szBlind (x : In pk_L_szBlind) : semF (mkE [(31, c_L_szProof)]) h_L_szBlind (info Tryz.f16) pk_L_szBlind rk_L_szBlind x = M_L_szBlind x := by kernel_rfl

set_option maxRecDepth 100000 in
theorem m_L_szBlind : ConOK Tryz.prog 16 c_L_szBlind := fn_ok (tyOK _) (E := mkE [(31, c_L_szProof)]) (consOK_cons m_L_szProof (consOK_nil rfl)) Tryz.func16 (h := h_L_szBlind) (by kernel_rfl) eq_L_szBlind

/-- L_szBlindS -/
def pk_L_szBlindS : List PK := [.data (.sl (.cons (.int .i64) (.cons (.cons (.int .i64) (.one (.int .i64))) (.one (.cons (.sl (.int .i64)) (.cons (.sl (.int .i64)) (.one (.sl (.int .i64))))))))), .data (.int .i64)]
def rk_L_szBlindS : List (Ty × Bool) := [((.int .i64), false)]
def h_L_szBlindS : Hints := { loops := [(0, { items := [.slot 1 (.data (.int .i64) []), .slot 5 (.data (.int .i64) [])], kill := [2, 3, 4, 6, 7, 8, 9, 10, 11, 12, 13, 14, 15, 16, 17, 18, 19, 20, 21, 22, 23, 24, 25, 26] })] }
noncomputable def M_L_szBlindS (x : ((List (Int × ((Int × Int) × ((List Int) × ((List Int) × (List Int)))))) × Int)) : (Option Int) :=
  (bindO (some (IntKind.wrap .i64 (x.2 - (((List.length x.1) : Nat) : Int)))) (fun (a0 : Int) => (cond (decide (a0 < (0 : Int))) (some (- (1 : Int))) (loopO (fun (again1 : ((Int × Int) → (Option Int))) => (fun (s2 : (Int × Int)) => (cond (decide (s2.2 < (((List.length x.1) : Nat) : Int))) (bindO (getI x.1 s2.2) (fun (a3 : (Int × ((Int × Int) × ((List Int) × ((List Int) × (List Int)))))) => (bindO (M_L_szBlind ((a3.1, ((a3.2.1.1, a3.2.1.2), (a3.2.2.1, (a3.2.2.2.1, a3.2.2.2.2)))), s2.1)) (fun (a4 : Int) => (cond (decide (a4 < (0 : Int))) (some (- (1 : Int))) (bindO (some (IntKind.wrap .i64 (s2.2 + (1 : Int)))) (fun (a5 : Int) => (again1 (a4, a5))))))))) (some s2.1)))) (a0, (0 : Int))))))

noncomputable def c_L_szBlindS : Con0 := ⟨pk_L_szBlindS, rk_L_szBlindS, M_L_szBlindS⟩

set_option maxRecDepth 100000 in
theorem eq_L_szBlindS (x : In pk_L_szBlindS) : semF (mkE [(16, c_L_szBlind)]) h_L_szBlindS (info Tryz.f4) pk_L_szBlindS rk_L_szBlindS x = M_L_szBlindS x := by kernel_rfl

set_option maxRecDepth 100000 in
theorem m_L_szBlindS : ConOK Tryz.prog 4 c_L_szBlindS := fn_ok (tyOK _) (E := mkE [(16, c_L_szBlind)]) (consOK_cons m_L_szBlind (consOK_nil rfl)) Tryz.func4 (h := h_L_szBlindS) (by kernel_rfl) eq_L_szBlindS

/-- L_szPartial -/
def pk_L_szPartial : List PK := [.data (.cons (.int .i64) (.cons (.int .i64) (.one (.cons (.sl (.int .i64)) (.cons (.sl (.int .i64)) (.one (.sl (.int .i64)))))))), .data (.int .i64)]
def rk_L_szPartial : List (Ty × Bool) := [((.int .i64), false)]
def h_L_szPartial : Hints := { loops := [] }
noncomputable def M_L_szPartial (x : ((Int × (Int × ((List Int) × ((List Int) × (List Int))))) × Int)) : (Option Int) :=
  (bindO (M_L_szProof ((x.1.2.2.1, (x.1.2.2.2.1, x.1.2.2.2.2)), x.2)) (fun (a0 : Int) => (cond (decide (a0 < (0 : Int))) (some (- (1 : Int))) (some a0))))

noncomputable def c_L_szPartial : Con0 := ⟨pk_L_szPartial, rk_L_szPartial, M_L_szPartial⟩

set_option maxRecDepth 100000 in
theorem eq_L_szPartial (x : In pk_L_szPartial) : semF (mkE [(31, c_L_szProof)]) h_L_szPartial (info Tryz.f17) pk_L_szPartial rk_L_szPartial x = M_L_szPartial x := by kernel_rfl

set_option maxRecDepth 100000 in
theorem m_L_szPartial : ConOK Tryz.prog 17 c_L_szPartial := fn_ok (tyOK _) (E := mkE [(31, c_L_szProof)]) (consOK_cons m_L_szProof (consOK_nil rfl)) Tryz.func17 (h := h_L_szPartial) (by kernel_rfl) eq_L_szPartial

/-- L_szPartialS -/
def pk_L_szPartialS : List PK := [.data (.sl (.cons (.int .i64) (.cons (.int .i64) (.one (.cons (.sl (.int .i64)) (.cons (.sl (.int .i64)) (.one (.sl (.int .i64))))))))), .data (.int .i64)]
def rk_L_szPartialS : List (Ty × Bool) := [((.int .i64), false)]
def h_L_szPartialS : Hints := { loops := [(0, { items := [.slot 1 (.data (.int .i64) []), .slot 5 (.data (.int .i64) [])], kill := [2, 3, 4, 6, 7, 8, 9, 10, 11, 12, 13, 14, 15, 16, 17, 18, 19, 20, 21, 22, 23, 24, 25, 26] })] }
noncomputable def M_L_szPartialS (x : ((List (Int × (Int × ((List Int) × ((List Int) × (List Int)))))) × Int)) : (Option Int) :=
  (bindO (some (IntKind.wrap .i64 (x.2 - (((List.length x.1) : Nat) : Int)))) (fun (a0 : Int) => (cond (decide (a0 < (0 : Int))) (some (- (1 : Int))) (loopO (fun (again1 : ((Int × Int) → (Option Int))) => (fun (s2 : (Int × Int)) => (cond (decide (s2.2 < (((List.length x.1) : Nat) : Int))) (bindO (getI x.1 s2.2) (fun (a3 : (Int × (Int × ((List Int) × ((List Int) × (List Int)))))) => (bindO (M_L_szPartial ((a3.1, (a3.2.1, (a3.2.2.1, (a3.2.2.2.1, a3.2.2.2.2)))), s2.1)) (fun (a4 : Int) => (cond (decide (a4 < (0 : Int))) (some (- (1 : Int))) (bindO (some (IntKind.wrap .i64 (s2.2 + (1 : Int)))) (fun (a5 : Int) => (again1 (a4, a5))))))))) (some s2.1)))) (a0, (0 : Int))))))

noncomputable def c_L_szPartialS : Con0 := ⟨pk_L_szPartialS, rk_L_szPartialS, M_L_szPartialS⟩

set_option maxRecDepth 100000 in
theorem eq_L_szPartialS (x : In pk_L_szPartialS) : semF (mkE [(17, c_L_szPartial)]) h_L_szPartialS (info Tryz.f5) pk_L_szPartialS rk_L_szPartialS x = M_L_szPartialS x := by kernel_rfl

set_option maxRecDepth 100000 in
theorem m_L_szPartialS : ConOK Tryz.prog 5 c_L_szPartialS := fn_ok (tyOK _) (E := mkE [(17, c_L_szPartial)]) (consOK_cons m_L_szPartial (consOK_nil rfl)) Tryz.func5 (h := h_L_szPartialS) (by kernel_rfl) eq_L_szPartialS

/-- L_toGroup -/
def pk_L_toGroup : List PK := [.data (.cons (.int .i64) (.cons (.int .i64) (.one (.int .i64))))]
def rk_L_toGroup : List (Ty × Bool) := [((.cons (.int .i64) (.cons (.int .i64) (.one (.int .i64)))), false)]
def h_L_toGroup : Hints := { loops := [] }
noncomputable def M_L_toGroup (x : (Int × (Int × Int))) : (Option (Int × (Int × Int))) :=
  (some (x.1, (x.2.1, x.2.2)))

noncomputable def c_L_toGroup : Con0 := ⟨pk_L_toGroup, rk_L_toGroup, M_L_toGroup⟩

set_option maxRecDepth 100000 in
theorem eq_L_toGroup (x : In pk_L_toGroup) : semF (mkE []) h_L_toGroup (info Tryz.f7) pk_L_toGroup rk_L_toGroup x = M_L_toGroup x := by kernel_rfl

set_option maxRecDepth 100000 in
theorem m_L_toGroup : ConOK Tryz.prog 7 c_L_toGroup := fn_ok (tyOK _) (E := mkE []) (consOK_nil rfl) Tryz.func7 (h := h_L_toGroup) (by kernel_rfl) eq_L_toGroup

/-- L_toIntS -/
def pk_L_toIntS : List PK := [.data (.sl (.int .i64))]
def rk_L_toIntS : List (Ty × Bool) := [((.sl (.int .i64)), true)]
def h_L_toIntS : Hints := { loops := [(0, { items := [.slot 4 (.data (.int .i64) []), .arr 3 (.int .i64) true], kill := [1, 2, 5, 6, 7, 8, 9, 10, 11, 12, 13, 14, 15, 16, 17, 18, 19, 20, 21] })] }
noncomputable def M_L_toIntS (x : (List Int)) : (Option (List Int)) :=
  (bindO (guardO (((decide ((0 : Int) ≤ (((List.length x) : Nat) : Int))) && (decide ((((List.length x) : Nat) : Int) ≤ (((List.length x) : Nat) : Int)))) && (decide ((((List.length x) : Nat) : Int) ≤ ((lim : Nat) : Int))))) (fun (a0 : Unit) => (loopO (fun (again1 : ((Int × (List Int)) → (Option (List Int)))) => (fun (s2 : (Int × (List Int))) => (cond (decide (s2.1 < (((List.length x) : Nat) : Int))) (bindO (getI x s2.1) (fun (a3 : Int) => (bindO (getI s2.2 s2.1) (fun (a4 : Int) => (bindO (some (List.set s2.2 (Int.toNat s2.1) a3)) (fun (a5 : (List Int)) => (bindO (some (IntKind.wrap .i64 (s2.1 + (1 : Int)))) (fun (a6 : Int) => (again1 (a6, a5)))))))))) (some s2.2)))) ((0 : Int), (List.replicate (Int.toNat (((List.length x) : Nat) : Int)) (0 : Int))))))

noncomputable def c_L_toIntS : Con0 := ⟨pk_L_toIntS, rk_L_toIntS, M_L_toIntS⟩

set_option maxRecDepth 100000 in
theorem eq_L_toIntS (x : In pk_L_toIntS) : semF (mkE []) h_L_toIntS (info Tryz.f8) pk_L_toIntS rk_L_toIntS x = M_L_toIntS x := by kernel_rfl

set_option maxRecDepth 100000 in
theorem m_L_toIntS : ConOK Tryz.prog 8 c_L_toIntS := fn_ok (tyOK _) (E := mkE []) (consOK_nil rfl) Tryz.func8 (h := h_L_toIntS) (by kernel_rfl) eq_L_toIntS

/-- L_toCipher -/
def pk_L_toCipher : List PK := [.data (.cons (.int .i64) (.one (.int .i64)))]
def rk_L_toCipher : List (Ty × Bool) := [((.cons (.int .i64) (.one (.int .i64))), false)]
def h_L_toCipher : Hints := { loops := [] }
noncomputable def M_L_toCipher (x : (Int × Int)) : (Option (Int × Int)) :=
  (some (x.1, x.2))

noncomputable def c_L_toCipher : Con0 := ⟨pk_L_toCipher, rk_L_toCipher, M_L_toCipher⟩

set_option maxRecDepth 100000 in
theorem eq_L_toCipher (x : In pk_L_toCipher) : semF (mkE []) h_L_toCipher (info Tryz.f9) pk_L_toCipher rk_L_toCipher x = M_L_toCipher x := by kernel_rfl

set_option maxRecDepth 100000 in
theorem m_L_toCipher : ConOK Tryz.prog 9 c_L_toCipher := fn_ok (tyOK _) (E := mkE []) (consOK_nil rfl) Tryz.func9 (h := h_L_toCipher) (by kernel_rfl) eq_L_toCipher

/-- L_toProof -/
def pk_L_toProof : List PK := [.data (.cons (.sl (.int .i64)) (.cons (.sl (.int .i64)) (.one (.sl (.int .i64)))))]
def rk_L_toProof : List (Ty × Bool) := [((.cons (.sl (.int .i64)) (.cons (.sl (.int .i64)) (.one (.sl (.int .i64))))), true)]
def h_L_toProof : Hints := { loops := [] }
noncomputable def M_L_toProof (x : ((List Int) × ((List Int) × (List Int)))) : (Option ((List Int) × ((List Int) × (List Int)))) :=
  (bindO (M_L_toIntS x.1) (fun (a0 : (List Int)) => (bindO (M_L_toIntS x.2.1) (fun (a1 : (List Int)) => (bindO (M_L_toIntS x.2.2) (fun (a2 : (List Int)) => (some (a0, (a1, a2)))))))))

noncomputable def c_L_toProof : Con0 := ⟨pk_L_toProof, rk_L_toProof, M_L_toProof⟩

set_option maxRecDepth 100000 in
theorem eq_L_toProof (x : In pk_L_toProof) : semF (mkE [(8, c_L_toIntS)]) h_L_toProof (info Tryz.f42) pk_L_toProof rk_L_toProof x = M_L_toProof x := by kernel_rfl

set_option maxRecDepth 100000 in
theorem m_L_toProof : ConOK Tryz.prog 42 c_L_toProof := fn_ok (tyOK _) (E := mkE [(8, c_L_toIntS)]) (consOK_cons m_L_toIntS (consOK_nil rfl)) Tryz.func42 (h := h_L_toProof) (by kernel_rfl) eq_L_toProof

/-- L_toBlind -/
def pk_L_toBlind : List PK := [.data (.cons (.int .i64) (.cons (.cons (.int .i64) (.one (.int .i64))) (.one (.cons (.sl (.int .i64)) (.cons (.sl (.int .i64)) (.one (.sl (.int .i64))))))))]
def rk_L_toBlind : List (Ty × Bool) := [((.cons (.int .i64) (.cons (.cons (.int .i64) (.one (.int .i64))) (.one (.cons (.sl (.int .i64)) (.cons (.sl (.int .i64)) (.one (.sl (.int .i64)))))))), true)]
def h_L_toBlind : Hints := { loops := [] }
noncomputable def M_L_toBlind (x : (Int × ((Int × Int) × ((List Int) × ((List Int) × (List Int)))))) : (Option (Int × ((Int × Int) × ((List Int) × ((List Int) × (List Int)))))) :=
  (bindO (M_L_toCipher (x.2.1.1, x.2.1.2)) (fun (a0 : (Int × Int)) => (bindO (M_L_toProof (x.2.2.1, (x.2.2.2.1, x.2.2.2.2))) (fun (a1 : ((List Int) × ((List Int) × (List Int)))) => (some (x.1, ((a0.1, a0.2), (a1.1, (a1.2.1, a1.2.2)))))))))

noncomputable def c_L_toBlind : Con0 := ⟨pk_L_toBlind, rk_L_toBlind, M_L_toBlind⟩

set_option maxRecDepth 100000 in
theorem eq_L_toBlind (x : In pk_L_toBlind) : semF (mkE [(9, c_L_toCipher), (42, c_L_toProof)]) h_L_toBlind (info Tryz.f23) pk_L_toBlind rk_L_toBlind x = M_L_toBlind x := by kernel_rfl

set_option maxRecDepth 100000 in
theorem m_L_toBlind : ConOK Tryz.prog 23 c_L_toBlind := fn_ok (tyOK _) (E := mkE [(9, c_L_toCipher), (42, c_L_toProof)]) (consOK_cons m_L_toCipher (consOK_cons m_L_toProof (consOK_nil rfl))) Tryz.func23 (h := h_L_toBlind) (by kernel_rfl) eq_L_toBlind

/-- L_toBlindS -/
def pk_L_toBlindS : List PK := [.data (.sl (.cons (.int .i64) (.cons (.cons (.int .i64) (.one (.int .i64))) (.one (.cons (.sl (.int .i64)) (.cons (.sl (.int .i64)) (.one (.sl (.int .i64)))))))))]
def rk_L_toBlindS : List (Ty × Bool) := [((.sl (.cons (.int .i64) (.cons (.cons (.int .i64) (.one (.int .i64))) (.one (.cons (.sl (.int .i64)) (.cons (.sl (.int .i64)) (.one (.sl (.int .i64))))))))), true)]
def h_L_toBlindS : Hints := { loops := [(0, { items := [.slot 4 (.data (.int .i64) []), .arr 3 (.cons (.int .i64) (.cons (.cons (.int .i64) (.one (.int .i64))) (.one (.cons (.sl (.int .i64)) (.cons (.sl (.int .i64)) (.one (.sl (.int .i64)))))))) true], kill := [1, 2, 5, 6, 7, 8, 9, 10, 11, 12, 13, 14, 15, 16, 17, 18, 19, 20, 21, 22] })] }
noncomputable def M_L_toBlindS (x : (List (Int × ((Int × Int) × ((List Int) × ((List Int) × (List Int))))))) : (Option (List (Int × ((Int × Int) × ((List Int) × ((List Int) × (List Int))))))) :=
  (bindO (guardO (((decide ((0 : Int) ≤ (((List.length x) : Nat) : Int))) && (decide ((((List.length x) : Nat) : Int) ≤ (((List.length x) : Nat) : Int)))) && (decide ((((List.length x) : Nat) : Int) ≤ ((lim : Nat) : Int))))) (fun (a0 : Unit) => (loopO (fun (again1 : ((Int × (List (Int × ((Int × Int) × ((List Int) × ((List Int) × (List Int))))))) → (Option (List (Int × ((Int × Int) × ((List Int) × ((List Int) × (List Int))))))))) => (fun (s2 : (Int × (List (Int × ((Int × Int) × ((List Int) × ((List Int) × (List Int)))))))) => (cond (decide (s2.1 < (((List.length x) : Nat) : Int))) (bindO (getI x s2.1) (fun (a3 : (Int × ((Int × Int) × ((List Int) × ((List Int) × (List Int)))))) => (bindO (M_L_toBlind (a3.1, ((a3.2.1.1, a3.2.1.2), (a3.2.2.1, (a3.2.2.2.1, a3.2.2.2.2))))) (fun (a4 : (Int × ((Int × Int) × ((List Int) × ((List Int) × (List Int)))))) => (bindO (getI s2.2 s2.1) (fun (a5 : (Int × ((Int × Int) × ((List Int) × ((List Int) × (List Int)))))) => (bindO (some (List.set s2.2 (Int.toNat s2.1) (a4.1, ((a4.2.1.1, a4.2.1.2), (a4.2.2.1, (a4.2.2.2.1, a4.2.2.2.2)))))) (fun (a6 : (List (Int × ((Int × Int) × ((List Int) × ((List Int) × (List Int))))))) => (bindO (some (IntKind.wrap .i64 (s2.1 + (1 : Int)))) (fun (a7 : Int) => (again1 (a7, a6)))))))))))) (some s2.2)))) ((0 : Int), (List.replicate (Int.toNat (((List.length x) : Nat) : Int)) ((0 : Int), (((0 : Int), (0 : Int)), (([] : List Int), (([] : List Int), ([] : List Int))))))))))

noncomputable def c_L_toBlindS : Con0 := ⟨pk_L_toBlindS, rk_L_toBlindS, M_L_toBlindS⟩

set_option maxRecDepth 100000 in
theorem eq_L_toBlindS (x : In pk_L_toBlindS) : semF (mkE [(23, c_L_toBlind)]) h_L_toBlindS (info Tryz.f10) pk_L_toBlindS rk_L_toBlindS x = M_L_toBlindS x := by kernel_rfl

set_option maxRecDepth 100000 in
theorem m_L_toBlindS : ConOK Tryz.prog 10 c_L_toBlindS := fn_ok (tyOK _) (E := mkE [(23, c_L_toBlind)]) (consOK_cons m_L_toBlind (consOK_nil rfl)) Tryz.func10 (h := h_L_toBlindS) (by kernel_rfl) eq_L_toBlindS

/-- L_toPartial -/
def pk_L_toPartial : List PK := [.data (.cons (.int .i64) (.cons (.int .i64) (.one (.cons (.sl (.int .i64)) (.cons (.sl (.int .i64)) (.one (.sl (.int .i64))))))))]
def rk_L_toPartial : List (Ty × Bool) := [((.cons (.int .i64) (.cons (.int .i64) (.one (.cons (.sl (.int .i64)) (.cons (.sl (.int .i64)) (.one (.sl (.int .i64)))))))), true)]
def h_L_toPartial : Hints := { loops := [] }
noncomputable def M_L_toPartial (x : (Int × (Int × ((List Int) × ((List Int) × (List Int)))))) : (Option (Int × (Int × ((List Int) × ((List Int) × (List Int)))))) :=
  (bindO (M_L_toProof (x.2.2.1, (x.2.2.2.1, x.2.2.2.2))) (fun (a0 : ((List Int) × ((List Int) × (List Int)))) => (some (x.1, (x.2.1, (a0.1, (a0.2.1, a0.2.2)))))))

noncomputable def c_L_toPartial : Con0 := ⟨pk_L_toPartial, rk_L_toPartial, M_L_toPartial⟩

set_option maxRecDepth 100000 in
theorem eq_L_toPartial (x : In pk_L_toPartial) : semF (mkE [(42, c_L_toProof)]) h_L_toPartial (info Tryz.f24) pk_L_toPartial rk_L_toPartial x = M_L_toPartial x := by kernel_rfl

set_option maxRecDepth 100000 in
theorem m_L_toPartial : ConOK Tryz.prog 24 c_L_toPartial := fn_ok (tyOK _) (E := mkE [(42, c_L_toProof)]) (consOK_cons m_L_toProof (consOK_nil rfl)) Tryz.func24 (h := h_L_toPartial) (by kernel_rfl) eq_L_toPartial

/-- L_toPartialS -/
def pk_L_toPartialS : List PK := [.data (.sl (.cons (.int .i64) (.cons (.int .i64) (.one (.cons (.sl (.int .i64)) (.cons (.sl (.int .i64)) (.one (.sl (.int .i64)))))))))]
def rk_L_toPartialS : List (Ty × Bool) := [((.sl (.cons (.int .i64) (.cons (.int .i64) (.one (.cons (.sl (.int .i64)) (.cons (.sl (.int .i64)) (.one (.sl (.int .i64))))))))), true)]
def h_L_toPartialS : Hints := { loops := [(0, { items := [.slot 4 (.data (.int .i64) []), .arr 3 (.cons (.int .i64) (.cons (.int .i64) (.one (.cons (.sl (.int .i64)) (.cons (.sl (.int .i64)) (.one (.sl (.int .i64)))))))) true], kill := [1, 2, 5, 6, 7, 8, 9, 10, 11, 12, 13, 14, 15, 16, 17, 18, 19, 20, 21, 22] })] }
noncomputable def M_L_toPartialS (x : (List (Int × (Int × ((List Int) × ((List Int) × (List Int))))))) : (Option (List (Int × (Int × ((List Int) × ((List Int) × (List Int))))))) :=
  (bindO (guardO (((decide ((0 : Int) ≤ (((List.length x) : Nat) : Int))) && (decide ((((List.length x) : Nat) : Int) ≤ (((List.length x) : Nat) : Int)))) && (decide ((((List.length x) : Nat) : Int) ≤ ((lim : Nat) : Int))))) (fun (a0 : Unit) => (loopO (fun (again1 : ((Int × (List (Int × (Int × ((List Int) × ((List Int) × (List Int))))))) → (Option (List (Int × (Int × ((List Int) × ((List Int) × (List Int))))))))) => (fun (s2 : (Int × (List (Int × (Int × ((List Int) × ((List Int) × (List Int)))))))) => (cond (decide (s2.1 < (((List.length x) : Nat) : Int))) (bindO (getI x s2.1) (fun (a3 : (Int × (Int × ((List Int) × ((List Int) × (List Int)))))) => (bindO (M_L_toPartial (a3.1, (a3.2.1, (a3.2.2.1, (a3.2.2.2.1, a3.2.2.2.2))))) (fun (a4 : (Int × (Int × ((List Int) × ((List Int) × (List Int)))))) => (bindO (getI s2.2 s2.1) (fun (a5 : (Int × (Int × ((List Int) × ((List Int) × (List Int)))))) => (bindO (some (List.set s2.2 (Int.toNat s2.1) (a4.1, (a4.2.1, (a4.2.2.1, (a4.2.2.2.1, a4.2.2.2.2)))))) (fun (a6 : (List (Int × (Int × ((List Int) × ((List Int) × (List Int))))))) => (bindO (some (IntKind.wrap .i64 (s2.1 + (1 : Int)))) (fun (a7 : Int) => (again1 (a7, a6)))))))))))) (some s2.2)))) ((0 : Int), (List.replicate (Int.toNat (((List.length x) : Nat) : Int)) ((0 : Int), ((0 : Int), (([] : List Int), (([] : List Int), ([] : List Int))))))))))

noncomputable def c_L_toPartialS : Con0 := ⟨pk_L_toPartialS, rk_L_toPartialS, M_L_toPartialS⟩

set_option maxRecDepth 100000 in
theorem eq_L_toPartialS (x : In pk_L_toPartialS) : semF (mkE [(24, c_L_toPartial)]) h_L_toPartialS (info Tryz.f11) pk_L_toPartialS rk_L_toPartialS x = M_L_toPartialS x := by kernel_rfl

set_option maxRecDepth 100000 in
theorem m_L_toPartialS : ConOK Tryz.prog 11 c_L_toPartialS := fn_ok (tyOK _) (E := mkE [(24, c_L_toPartial)]) (consOK_cons m_L_toPartial (consOK_nil rfl)) Tryz.func11 (h := h_L_toPartialS) (by kernel_rfl) eq_L_toPartialS

/-- S_l1In -/
def pk_S_l1In : List PK := [.data (.int .i64), .data (.int .i64), .data (.int .i64)]
def rk_S_l1In : List (Ty × Bool) := [(.bool, false)]
def h_S_l1In : Hints := { loops := [] }
noncomputable def M_S_l1In (x : (Int × (Int × Int))) : (Option Bool) :=
  (cond (decide (x.1 ≥ x.2.1)) (some (decide (x.1 ≤ x.2.2))) (some false))

noncomputable def c_S_l1In : Con0 := ⟨pk_S_l1In, rk_S_l1In, M_S_l1In⟩

set_option maxRecDepth 100000 in
theorem eq_S_l1In (x : In pk_S_l1In) : semF (mkE []) h_S_l1In (info Tryz.f57) pk_S_l1In rk_S_l1In x = M_S_l1In x := by kernel_rfl

set_option maxRecDepth 100000 in
theorem m_S_l1In : ConOK Tryz.prog 57 c_S_l1In := fn_ok (tyOK _) (E := mkE []) (consOK_nil rfl) Tryz.func57 (h := h_S_l1In) (by kernel_rfl) eq_S_l1In

/-- S_nPower -/
def pk_S_nPower : List PK := [.data (.int .i64), .data (.int .i64), .data (.int .i64)]
def rk_S_nPower : List (Ty × Bool) := [((.int .i64), false)]
def h_S_nPower : Hints := { loops := [(0, { items := [.slot 0 (.data (.int .i64) []), .slot 1 (.data (.int .i64) []), .slot 7 (.data (.int .i64) [])], kill := [3, 4, 5, 6, 8, 9, 10, 11, 12, 13, 14, 15, 16, 17, 18, 19, 20, 21, 22, 23, 24, 25, 26, 27] })] }
noncomputable def M_S_nPower (x : (Int × (Int × Int))) : (Option Int) :=
  (bindO (guardO (x.2.2 != (0 : Int))) (fun (a0 : Unit) => (bindO (some (Int.tmod (1 : Int) x.2.2)) (fun (a1 : Int) => (loopO (fun (again2 : ((Int × (Int × Int)) → (Option Int))) => (fun (s3 : (Int × (Int × Int))) => (cond (decide (s3.2.1 > (0 : Int))) (bindO (guardO ((2 : Int) != (0 : Int))) (fun (a4 : Unit) => (bindO (some (Int.tmod s3.2.1 (2 : Int))) (fun (a5 : Int) => (cond (a5 == (1 : Int)) (bindO (some (IntKind.wrap .i64 (s3.2.2 * s3.1))) (fun (a6 : Int) => (bindO (guardO (x.2.2 != (0 : Int))) (fun (a7 : Unit) => (bindO (some (Int.tmod a6 x.2.2)) (fun (a8 : Int) => (bindO (some (IntKind.wrap .i64 (s3.1 * s3.1))) (fun (a9 : Int) => (bindO (guardO (x.2.2 != (0 : Int))) (fun (a10 : Unit) => (bindO (some (Int.tmod a9 x.2.2)) (fun (a11 : Int) => (bindO (guardO ((2 : Int) != (0 : Int))) (fun (a12 : Unit) => (bindO (some (IntKind.wrap .i64 (Int.tdiv s3.2.1 (2 : Int)))) (fun (a13 : Int) => (again2 (a11, (a13, a8))))))))))))))))))) (bindO (some (IntKind.wrap .i64 (s3.1 * s3.1))) (fun (a14 : Int) => (bindO (guardO (x.2.2 != (0 : Int))) (fun (a15 : Unit) => (bindO (some (Int.tmod a14 x.2.2)) (fun (a16 : Int) => (bindO (guardO ((2 : Int) != (0 : Int))) (fun (a17 : Unit) => (bindO (some (IntKind.wrap .i64 (Int.tdiv s3.2.1 (2 : Int)))) (fun (a18 : Int) => (again2 (a16, (a18, s3.2.2)))))))))))))))))) (some s3.2.2)))) (x.1, (x.2.1, a1)))))))

noncomputable def c_S_nPower : Con0 := ⟨pk_S_nPower, rk_S_nPower, M_S_nPower⟩

set_option maxRecDepth 100000 in
theorem eq_S_nPower (x : In pk_S_nPower) : semF (mkE []) h_S_nPower (info Tryz.f58) pk_S_nPower rk_S_nPower x = M_S_nPower x := by kernel_rfl

set_option maxRecDepth 100000 in
theorem m_S_nPower : ConOK Tryz.prog 58 c_S_nPower := fn_ok (tyOK _) (E := mkE []) (consOK_nil rfl) Tryz.func58 (h := h_S_nPower) (by kernel_rfl) eq_S_nPower

/-- S_nPrime -/
def pk_S_nPrime : List PK := [.data (.int .i64)]
def rk_S_nPrime : List (Ty × Bool) := [(.bool, false)]
def h_S_nPrime : Hints := { loops := [(0, { items := [.slot 3 (.data (.int .i64) [])], kill := [1, 2, 4, 5, 6, 7, 8, 9, 10, 11, 12, 13, 14, 15, 16] })] }
noncomputable def M_S_nPrime (x : Int) : (Option Bool) :=
  (cond (decide (x < (2 : Int))) (some false) (loopO (fun (again0 : (Int → (Option Bool))) => (fun (s1 : Int) => (bindO (some (IntKind.wrap .i64 (s1 * s1))) (fun (a2 : Int) => (cond (decide (a2 ≤ x)) (bindO (guardO (s1 != (0 : Int))) (fun (a3 : Unit) => (bindO (some (Int.tmod x s1)) (fun (a4 : Int) => (cond (a4 == (0 : Int)) (some false) (bindO (some (IntKind.wrap .i64 (s1 + (1 : Int)))) (fun (a5 : Int) => (again0 a5)))))))) (some true)))))) (2 : Int)))

noncomputable def c_S_nPrime : Con0 := ⟨pk_S_nPrime, rk_S_nPrime, M_S_nPrime⟩

set_option maxRecDepth 100000 in
theorem eq_S_nPrime (x : In pk_S_nPrime) : semF (mkE []) h_S_nPrime (info Tryz.f59) pk_S_nPrime rk_S_nPrime x = M_S_nPrime x := by kernel_rfl

set_option maxRecDepth 100000 in
theorem m_S_nPrime : ConOK Tryz.prog 59 c_S_nPrime := fn_ok (tyOK _) (E := mkE []) (consOK_nil rfl) Tryz.func59 (h := h_S_nPrime) (by kernel_rfl) eq_S_nPrime

/-- S_l2Good -/
def pk_S_l2Good : List PK := [.data (.cons (.int .i64) (.cons (.int .i64) (.one (.int .i64))))]
def rk_S_l2Good : List (Ty × Bool) := [(.bool, false)]
def h_S_l2Good : Hints := { loops := [] }
noncomputable def M_S_l2Good (x : (Int × (Int × Int))) : (Option Bool) :=
  (bindO (M_S_l1In (x.1, ((3 : Int), (2000000000 : Int)))) (fun (a0 : Bool) => (cond a0 (bindO (some (IntKind.wrap .i64 (x.1 - (1 : Int)))) (fun (a1 : Int) => (bindO (M_S_l1In (x.2.1, ((2 : Int), a1))) (fun (a2 : Bool) => (cond a2 (bindO (some (IntKind.wrap .i64 (x.1 - (1 : Int)))) (fun (a3 : Int) => (bindO (guardO (x.2.1 != (0 : Int))) (fun (a4 : Unit) => (bindO (some (Int.tmod a3 x.2.1)) (fun (a5 : Int) => (cond (a5 == (0 : Int)) (bindO (some (IntKind.wrap .i64 (x.1 - (1 : Int)))) (fun (a6 : Int) => (bindO (M_S_l1In (x.2.2, ((2 : Int), a6))) (fun (a7 : Bool) => (cond a7 (bindO (M_S_nPower (x.2.2, (x.2.1, x.1))) (fun (a8 : Int) => (cond (a8 == (1 : Int)) (bindO (M_S_nPrime x.2.1) (fun (a9 : Bool) => (cond a9 (bindO (M_S_nPrime x.1) (fun (a10 : Bool) => (some a10))) (some false)))) (some false)))) (some false)))))) (some false)))))))) (some false)))))) (some false))))

noncomputable def c_S_l2Good : Con0 := ⟨pk_S_l2Good, rk_S_l2Good, M_S_l2Good⟩

set_option maxRecDepth 100000 in
theorem eq_S_l2Good (x : In pk_S_l2Good) : semF (mkE [(57, c_S_l1In), (58, c_S_nPower), (59, c_S_nPrime)]) h_S_l2Good (info Tryz.f35) pk_S_l2Good rk_S_l2Good x = M_S_l2Good x := by kernel_rfl

set_option maxRecDepth 100000 in
theorem m_S_l2Good : ConOK Tryz.prog 35 c_S_l2Good := fn_ok (tyOK _) (E := mkE [(57, c_S_l1In), (58, c_S_nPower), (59, c_S_nPrime)]) (consOK_cons m_S_l1In (consOK_cons m_S_nPower (consOK_cons m_S_nPrime (consOK_nil rfl)))) Tryz.func35 (h := h_S_l2Good) (by kernel_rfl) eq_S_l2Good

/-- S_sGroup -/
def pk_S_sGroup : List PK := [.data (.cons (.int .i64) (.cons (.int .i64) (.one (.int .i64))))]
def rk_S_sGroup : List (Ty × Bool) := [(.bool, false)]
def h_S_sGroup : Hints := { loops := [] }
noncomputable def M_S_sGroup (x : (Int × (Int × Int))) : (Option Bool) :=
  (bindO (M_S_l2Good (x.1, (x.2.1, x.2.2))) (fun (a0 : Bool) => (cond a0 (some (decide (x.2.1 > (7 : Int)))) (some false))))

noncomputable def c_S_sGroup : Con0 := ⟨pk_S_sGroup, rk_S_sGroup, M_S_sGroup⟩

set_option maxRecDepth 100000 in
theorem eq_S_sGroup (x : In pk_S_sGroup) : semF (mkE [(35, c_S_l2Good)]) h_S_sGroup (info Tryz.f32) pk_S_sGroup rk_S_sGroup x = M_S_sGroup x := by kernel_rfl

set_option maxRecDepth 100000 in
theorem m_S_sGroup : ConOK Tryz.prog 32 c_S_sGroup := fn_ok (tyOK _) (E := mkE [(35, c_S_l2Good)]) (consOK_cons m_S_l2Good (consOK_nil rfl)) Tryz.func32 (h := h_S_sGroup) (by kernel_rfl) eq_S_sGroup

/-- S_gIs -/
def pk_S_gIs : List PK := [.data (.cons (.int .i64) (.cons (.int .i64) (.one (.int .i64)))), .data (.sl (.int .i64))]
def rk_S_gIs : List (Ty × Bool) := [(.bool, false)]
def h_S_gIs : Hints := { loops := [(0, { items := [.slot 9 (.data (.int .i64) [])], kill := [0, 1, 3, 4, 5, 6, 10, 11, 12, 13, 14, 15, 16, 17, 18, 19, 20, 21, 22, 23, 24, 25, 26, 27, 28] })] }
noncomputable def M_S_gIs (x : ((Int × (Int × Int)) × (List Int))) : (Option Bool) :=
  (loopO (fun (again0 : (Int → (Option Bool))) => (fun (s1 : Int) => (cond (decide (s1 < (((List.length x.2) : Nat) : Int))) (bindO (getI x.2 s1) (fun (a2 : Int) => (bindO (some (IntKind.wrap .i64 (x.1.1 - (1 : Int)))) (fun (a3 : Int) => (bindO (M_S_l1In (a2, ((1 : Int), a3))) (fun (a4 : Bool) => (cond (not a4) (some false) (bindO (M_S_nPower (a2, (x.1.2.1, x.1.1))) (fun (a5 : Int) => (cond (a5 != (1 : Int)) (some false) (bindO (some (IntKind.wrap .i64 (s1 + (1 : Int)))) (fun (a6 : Int) => (again0 a6))))))))))))) (some true)))) (0 : Int))

noncomputable def c_S_gIs : Con0 := ⟨pk_S_gIs, rk_S_gIs, M_S_gIs⟩

set_option maxRecDepth 100000 in
theorem eq_S_gIs (x : In pk_S_gIs) : semF (mkE [(57, c_S_l1In), (58, c_S_nPower)]) h_S_gIs (info Tryz.f34) pk_S_gIs rk_S_gIs x = M_S_gIs x := by kernel_rfl

set_option maxRecDepth 100000 in
theorem m_S_gIs : ConOK Tryz.prog 34 c_S_gIs := fn_ok (tyOK _) (E := mkE [(57, c_S_l1In), (58, c_S_nPower)]) (consOK_cons m_S_l1In (consOK_cons m_S_nPower (consOK_nil rfl))) Tryz.func34 (h := h_S_gIs) (by kernel_rfl) eq_S_gIs

/-- S_sCommits -/
def pk_S_sCommits : List PK := [.data (.cons (.int .i64) (.cons (.int .i64) (.one (.int .i64)))), .data (.sl (.int .i64))]
def rk_S_sCommits : List (Ty × Bool) := [(.bool, false)]
def h_S_sCommits : Hints := { loops := [] }
noncomputable def M_S_sCommits (x : ((Int × (Int × Int)) × (List Int))) : (Option Bool) :=
  (bindO (M_S_l1In ((((List.length x.2) : Nat) : Int), ((1 : Int), (7 : Int)))) (fun (a0 : Bool) => (cond a0 (bindO (M_S_gIs ((x.1.1, (x.1.2.1, x.1.2.2)), x.2)) (fun (a1 : Bool) => (some a1))) (some false))))

noncomputable def c_S_sCommits : Con0 := ⟨pk_S_sCommits, rk_S_sCommits, M_S_sCommits⟩

set_option maxRecDepth 100000 in
theorem eq_S_sCommits (x : In pk_S_sCommits) : semF (mkE [(57, c_S_l1In), (34, c_S_gIs)]) h_S_sCommits (info Tryz.f33) pk_S_sCommits rk_S_sCommits x = M_S_sCommits x := by kernel_rfl

set_option maxRecDepth 100000 in
theorem m_S_sCommits : ConOK Tryz.prog 33 c_S_sCommits := fn_ok (tyOK _) (E := mkE [(57, c_S_l1In), (34, c_S_gIs)]) (consOK_cons m_S_l1In (consOK_cons m_S_gIs (consOK_nil rfl))) Tryz.func33 (h := h_S_sCommits) (by kernel_rfl) eq_S_sCommits

/-- S_eGood -/
def pk_S_eGood : List PK := [.data (.cons (.int .i64) (.cons (.int .i64) (.one (.int .i64)))), .data (.sl (.cons (.int .i64) (.one (.int .i64))))]
def rk_S_eGood : List (Ty × Bool) := [(.bool, false)]
def h_S_eGood : Hints := { loops := [(0, { items := [.slot 12 (.data (.int .i64) [])], kill := [0, 1, 3, 4, 5, 6, 7, 8, 9, 13, 14, 15, 16, 17, 18, 19, 20, 21, 22, 23, 24] })] }
noncomputable def M_S_eGood (x : ((Int × (Int × Int)) × (List (Int × Int)))) : (Option Bool) :=
  (cond (decide ((((List.length x.2) : Nat) : Int) > (24 : Int))) (some false) (loopO (fun (again0 : (Int → (Option Bool))) => (fun (s1 : Int) => (cond (decide (s1 < (((List.length x.2) : Nat) : Int))) (bindO (getI x.2 s1) (fun (a2 : (Int × Int)) => (bindO (M_S_gIs ((x.1.1, (x.1.2.1, x.1.2.2)), (a2.1 :: (a2.2 :: ([] : List Int))))) (fun (a3 : Bool) => (cond (not a3) (some false) (bindO (some (IntKind.wrap .i64 (s1 + (1 : Int)))) (fun (a4 : Int) => (again0 a4)))))))) (some true)))) (0 : Int)))

noncomputable def c_S_eGood : Con0 := ⟨pk_S_eGood, rk_S_eGood, M_S_eGood⟩

set_option maxRecDepth 100000 in
theorem eq_S_eGood (x : In pk_S_eGood) : semF (mkE [(34, c_S_gIs)]) h_S_eGood (info Tryz.f19) pk_S_eGood rk_S_eGood x = M_S_eGood x := by kernel_rfl

set_option maxRecDepth 100000 in
theorem m_S_eGood : ConOK Tryz.prog 19 c_S_eGood := fn_ok (tyOK _) (E := mkE [(34, c_S_gIs)]) (consOK_cons m_S_gIs (consOK_nil rfl)) Tryz.func19 (h := h_S_eGood) (by kernel_rfl) eq_S_eGood

/-- S_tInput -/
def pk_S_tInput : List PK := [.data (.cons (.int .i64) (.cons (.int .i64) (.one (.int .i64)))), .data (.sl (.int .i64)), .data (.cons (.int .i64) (.one (.int .i64))), .data (.sl (.cons (.int .i64) (.cons (.int .i64) (.one (.cons (.sl (.int .i64)) (.cons (.sl (.int .i64)) (.one (.sl (.int .i64)))))))))]
def rk_S_tInput : List (Ty × Bool) := [(.bool, false)]
def h_S_tInput : Hints := { loops := [] }
noncomputable def M_S_tInput (x : ((Int × (Int × Int)) × ((List Int) × ((Int × Int) × (List (Int × (Int × ((List Int) × ((List Int) × (List Int)))))))))) : (Option Bool) :=
  (bindO (M_S_sGroup (x.1.1, (x.1.2.1, x.1.2.2))) (fun (a0 : Bool) => (cond a0 (bindO (M_S_sCommits ((x.1.1, (x.1.2.1, x.1.2.2)), x.2.1)) (fun (a1 : Bool) => (cond a1 (bindO (M_S_eGood ((x.1.1, (x.1.2.1, x.1.2.2)), ((x.2.2.1.1, x.2.2.1.2) :: ([] : List (Int × Int))))) (fun (a2 : Bool) => (cond a2 (some (decide ((((List.length x.2.2.2) : Nat) : Int) ≤ (14 : Int)))) (some false)))) (some false)))) (some false))))

noncomputable def c_S_tInput : Con0 := ⟨pk_S_tInput, rk_S_tInput, M_S_tInput⟩

set_option maxRecDepth 100000 in
theorem eq_S_tInput (x : In pk_S_tInput) : semF (mkE [(32, c_S_sGroup), (33, c_S_sCommits), (19, c_S_eGood)]) h_S_tInput (info Tryz.f18) pk_S_tInput rk_S_tInput x = M_S_tInput x := by kernel_rfl

set_option maxRecDepth 100000 in
theorem m_S_tInput : ConOK Tryz.prog 18 c_S_tInput := fn_ok (tyOK _) (E := mkE [(32, c_S_sGroup), (33, c_S_sCommits), (19, c_S_eGood)]) (consOK_cons m_S_sGroup (consOK_cons m_S_sCommits (consOK_cons m_S_eGood (consOK_nil rfl)))) Tryz.func18 (h := h_S_tInput) (by kernel_rfl) eq_S_tInput

/-- S_gInv -/
def pk_S_gInv : List PK := [.data (.cons (.int .i64) (.cons (.int .i64) (.one (.int .i64)))), .data (.int .i64)]
def rk_S_gInv : List (Ty × Bool) := [((.int .i64), false)]
def h_S_gInv : Hints := { loops := [] }
noncomputable def M_S_gInv (x : ((Int × (Int × Int)) × Int)) : (Option Int) :=
  (bindO (some (IntKind.wrap .i64 (x.1.2.1 - (1 : Int)))) (fun (a0 : Int) => (bindO (M_S_nPower (x.2, (a0, x.1.1))) (fun (a1 : Int) => (some a1)))))

noncomputable def c_S_gInv : Con0 := ⟨pk_S_gInv, rk_S_gInv, M_S_gInv⟩

set_option maxRecDepth 100000 in
theorem eq_S_gInv (x : In pk_S_gInv) : semF (mkE [(58, c_S_nPower)]) h_S_gInv (info Tryz.f38) pk_S_gInv rk_S_gInv x = M_S_gInv x := by kernel_rfl

set_option maxRecDepth 100000 in
theorem m_S_gInv : ConOK Tryz.prog 38 c_S_gInv := fn_ok (tyOK _) (E := mkE [(58, c_S_nPower)]) (consOK_cons m_S_nPower (consOK_nil rfl)) Tryz.func38 (h := h_S_gInv) (by kernel_rfl) eq_S_gInv

/-- S_gMul -/
def pk_S_gMul : List PK := [.data (.cons (.int .i64) (.cons (.int .i64) (.one (.int .i64)))), .data (.sl (.int .i64))]
def rk_S_gMul : List (Ty × Bool) := [((.int .i64), false)]
def h_S_gMul : Hints := { loops := [(0, { items := [.slot 5 (.data (.int .i64) []), .slot 10 (.data (.int .i64) [])], kill := [0, 1, 3, 4, 6, 7, 11, 12, 13, 14, 15, 16, 17, 18, 19, 20, 21] })] }
noncomputable def M_S_gMul (x : ((Int × (Int × Int)) × (List Int))) : (Option Int) :=
  (loopO (fun (again0 : ((Int × Int) → (Option Int))) => (fun (s1 : (Int × Int)) => (cond (decide (s1.2 < (((List.length x.2) : Nat) : Int))) (bindO (getI x.2 s1.2) (fun (a2 : Int) => (bindO (some (IntKind.wrap .i64 (s1.1 * a2))) (fun (a3 : Int) => (bindO (guardO (x.1.1 != (0 : Int))) (fun (a4 : Unit) => (bindO (some (Int.tmod a3 x.1.1)) (fun (a5 : Int) => (bindO (some (IntKind.wrap .i64 (s1.2 + (1 : Int)))) (fun (a6 : Int) => (again0 (a5, a6)))))))))))) (some s1.1)))) ((1 : Int), (0 : Int)))

noncomputable def c_S_gMul : Con0 := ⟨pk_S_gMul, rk_S_gMul, M_S_gMul⟩

set_option maxRecDepth 100000 in
theorem eq_S_gMul (x : In pk_S_gMul) : semF (mkE []) h_S_gMul (info Tryz.f37) pk_S_gMul rk_S_gMul x = M_S_gMul x := by kernel_rfl

set_option maxRecDepth 100000 in
theorem m_S_gMul : ConOK Tryz.prog 37 c_S_gMul := fn_ok (tyOK _) (E := mkE []) (consOK_nil rfl) Tryz.func37 (h := h_S_gMul) (by kernel_rfl) eq_S_gMul

/-- S_qQuo -/
def pk_S_qQuo : List PK := [.data (.cons (.int .i64) (.cons (.int .i64) (.one (.int .i64)))), .data (.cons (.int .i64) (.one (.int .i64))), .data (.cons (.int .i64) (.one (.int .i64)))]
def rk_S_qQuo : List (Ty × Bool) := [((.cons (.int .i64) (.one (.int .i64))), false)]
def h_S_qQuo : Hints := { loops := [] }
noncomputable def M_S_qQuo (x : ((Int × (Int × Int)) × ((Int × Int) × (Int × Int)))) : (Option (Int × Int)) :=
  (bindO (M_S_gInv ((x.1.1, (x.1.2.1, x.1.2.2)), x.2.2.1)) (fun (a0 : Int) => (bindO (M_S_gMul ((x.1.1, (x.1.2.1, x.1.2.2)), (x.2.1.1 :: (a0 :: ([] : List Int))))) (fun (a1 : Int) => (bindO (M_S_gInv ((x.1.1, (x.1.2.1, x.1.2.2)), x.2.2.2)) (fun (a2 : Int) => (bindO (M_S_gMul ((x.1.1, (x.1.2.1, x.1.2.2)), (x.2.1.2 :: (a2 :: ([] : List Int))))) (fun (a3 : Int) => (some (a1, a3))))))))))

noncomputable def c_S_qQuo : Con0 := ⟨pk_S_qQuo, rk_S_qQuo, M_S_qQuo⟩

set_option maxRecDepth 100000 in
theorem eq_S_qQuo (x : In pk_S_qQuo) : semF (mkE [(38, c_S_gInv), (37, c_S_gMul)]) h_S_qQuo (info Tryz.f21) pk_S_qQuo rk_S_qQuo x = M_S_qQuo x := by kernel_rfl

set_option maxRecDepth 100000 in
theorem m_S_qQuo : ConOK Tryz.prog 21 c_S_qQuo := fn_ok (tyOK _) (E := mkE [(38, c_S_gInv), (37, c_S_gMul)]) (consOK_cons m_S_gInv (consOK_cons m_S_gMul (consOK_nil rfl))) Tryz.func21 (h := h_S_qQuo) (by kernel_rfl) eq_S_qQuo

/-- S_l1Has -/
def pk_S_l1Has : List PK := [.data (.sl (.int .i64)), .data (.int .i64)]
def rk_S_l1Has : List (Ty × Bool) := [(.bool, false)]
def h_S_l1Has : Hints := { loops := [(0, { items := [.slot 9 (.data (.int .i64) [])], kill := [0, 2, 3, 4, 5, 6, 10, 11, 12, 13, 14, 15, 16] })] }
noncomputable def M_S_l1Has (x : ((List Int) × Int)) : (Option Bool) :=
  (loopO (fun (again0 : (Int → (Option Bool))) => (fun (s1 : Int) => (cond (decide (s1 < (((List.length x.1) : Nat) : Int))) (bindO (getI x.1 s1) (fun (a2 : Int) => (cond (a2 == x.2) (some true) (bindO (some (IntKind.wrap .i64 (s1 + (1 : Int)))) (fun (a3 : Int) => (again0 a3)))))) (some false)))) (0 : Int))

noncomputable def c_S_l1Has : Con0 := ⟨pk_S_l1Has, rk_S_l1Has, M_S_l1Has⟩

set_option maxRecDepth 100000 in
theorem eq_S_l1Has (x : In pk_S_l1Has) : semF (mkE []) h_S_l1Has (info Tryz.f60) pk_S_l1Has rk_S_l1Has x = M_S_l1Has x := by kernel_rfl

set_option maxRecDepth 100000 in
theorem m_S_l1Has : ConOK Tryz.prog 60 c_S_l1Has := fn_ok (tyOK _) (E := mkE []) (consOK_nil rfl) Tryz.func60 (h := h_S_l1Has) (by kernel_rfl) eq_S_l1Has

/-- S_qOne -/
def pk_S_qOne : List PK := [.data (.cons (.int .i64) (.one (.int .i64)))]
def rk_S_qOne : List (Ty × Bool) := [(.bool, false)]
def h_S_qOne : Hints := { loops := [] }
noncomputable def M_S_qOne (x : (Int × Int)) : (Option Bool) :=
  (cond (x.1 == (1 : Int)) (some (x.2 == (1 : Int))) (some false))

noncomputable def c_S_qOne : Con0 := ⟨pk_S_qOne, rk_S_qOne, M_S_qOne⟩

set_option maxRecDepth 100000 in
theorem eq_S_qOne (x : In pk_S_qOne) : semF (mkE []) h_S_qOne (info Tryz.f81) pk_S_qOne rk_S_qOne x = M_S_qOne x := by kernel_rfl

set_option maxRecDepth 100000 in
theorem m_S_qOne : ConOK Tryz.prog 81 c_S_qOne := fn_ok (tyOK _) (E := mkE []) (consOK_nil rfl) Tryz.func81 (h := h_S_qOne) (by kernel_rfl) eq_S_qOne

/-- S_l1All -/
def pk_S_l1All : List PK := [.data (.sl (.int .i64)), .data (.int .i64), .data (.int .i64)]
def rk_S_l1All : List (Ty × Bool) := [(.bool, false)]
def h_S_l1All : Hints := { loops := [(0, { items := [.slot 11 (.data (.int .i64) [])], kill := [0, 3, 4, 5, 6, 7, 8, 12, 13, 14, 15, 16, 17, 18, 19, 20] })] }
noncomputable def M_S_l1All (x : ((List Int) × (Int × Int))) : (Option Bool) :=
  (loopO (fun (again0 : (Int → (Option Bool))) => (fun (s1 : Int) => (cond (decide (s1 < (((List.length x.1) : Nat) : Int))) (bindO (getI x.1 s1) (fun (a2 : Int) => (bindO (M_S_l1In (a2, (x.2.1, x.2.2))) (fun (a3 : Bool) => (cond (not a3) (some false) (bindO (some (IntKind.wrap .i64 (s1 + (1 : Int)))) (fun (a4 : Int) => (again0 a4)))))))) (some true)))) (0 : Int))

noncomputable def c_S_l1All : Con0 := ⟨pk_S_l1All, rk_S_l1All, M_S_l1All⟩

set_option maxRecDepth 100000 in
theorem eq_S_l1All (x : In pk_S_l1All) : semF (mkE [(57, c_S_l1In)]) h_S_l1All (info Tryz.f112) pk_S_l1All rk_S_l1All x = M_S_l1All x := by kernel_rfl

set_option maxRecDepth 100000 in
theorem m_S_l1All : ConOK Tryz.prog 112 c_S_l1All := fn_ok (tyOK _) (E := mkE [(57, c_S_l1In)]) (consOK_cons m_S_l1In (consOK_nil rfl)) Tryz.func112 (h := h_S_l1All) (by kernel_rfl) eq_S_l1All

/-- S_gExps -/
def pk_S_gExps : List PK := [.data (.cons (.int .i64) (.cons (.int .i64) (.one (.int .i64)))), .data (.sl (.int .i64))]
def rk_S_gExps : List (Ty × Bool) := [(.bool, false)]
def h_S_gExps : Hints := { loops := [] }
noncomputable def M_S_gExps (x : ((Int × (Int × Int)) × (List Int))) : (Option Bool) :=
  (bindO (some (IntKind.wrap .i64 (x.1.2.1 - (1 : Int)))) (fun (a0 : Int) => (bindO (M_S_l1All (x.2, ((0 : Int), a0))) (fun (a1 : Bool) => (some a1)))))

noncomputable def c_S_gExps : Con0 := ⟨pk_S_gExps, rk_S_gExps, M_S_gExps⟩

set_option maxRecDepth 100000 in
theorem eq_S_gExps (x : In pk_S_gExps) : semF (mkE [(112, c_S_l1All)]) h_S_gExps (info Tryz.f101) pk_S_gExps rk_S_gExps x = M_S_gExps x := by kernel_rfl

set_option maxRecDepth 100000 in
theorem m_S_gExps : ConOK Tryz.prog 101 c_S_gExps := fn_ok (tyOK _) (E := mkE [(112, c_S_l1All)]) (consOK_cons m_S_l1All (consOK_nil rfl)) Tryz.func101 (h := h_S_gExps) (by kernel_rfl) eq_S_gExps

/-- S_sStatement -/
def pk_S_sStatement : List PK := [.data (.sl (.sl (.int .i64))), .data (.sl (.int .i64)), .data (.sl (.int .i64))]
def rk_S_sStatement : List (Ty × Bool) := [((.sl (.int .i64)), true)]
def h_S_sStatement : Hints := { loops := [(0, { items := [.slot 7 (.own (.int .i64) true), .slot 12 (.data (.int .i64) [])], kill := [0, 3, 4, 5, 6, 8, 9, 13, 14, 15, 16, 17, 18, 19, 20, 21, 22, 23, 24] })] }
noncomputable def M_S_sStatement (x : ((List (List Int)) × ((List Int) × (List Int)))) : (Option (List Int)) :=
  (loopO (fun (again0 : (((List Int) × Int) → (Option (List Int)))) => (fun (s1 : ((List Int) × Int)) => (cond (decide (s1.2 < (((List.length x.1) : Nat) : Int))) (bindO (getI x.1 s1.2) (fun (a2 : (List Int)) => (bindO (guardO (lenOk ((List.length s1.1) + (List.length a2)))) (fun (a3 : Unit) => (bindO (some (s1.1 ++ a2)) (fun (a4 : (List Int)) => (bindO (some (IntKind.wrap .i64 (s1.2 + (1 : Int)))) (fun (a5 : Int) => (again0 (a4, a5)))))))))) (bindO (guardO (lenOk ((List.length s1.1) + (List.length x.2.1)))) (fun (a6 : Unit) => (bindO (some (s1.1 ++ x.2.1)) (fun (a7 : (List Int)) => (bindO (guardO (lenOk ((List.length a7) + (List.length x.2.2)))) (fun (a8 : Unit) => (bindO (some (a7 ++ x.2.2)) (fun (a9 : (List Int)) => (some a9)))))))))))) (([] : List Int), (0 : Int)))

noncomputable def c_S_sStatement : Con0 := ⟨pk_S_sStatement, rk_S_sStatement, M_S_sStatement⟩

set_option maxRecDepth 100000 in
theorem eq_S_sStatement (x : In pk_S_sStatement) : semF (mkE []) h_S_sStatement (info Tryz.f103) pk_S_sStatement rk_S_sStatement x = M_S_sStatement x := by kernel_rfl

set_option maxRecDepth 100000 in
theorem m_S_sStatement : ConOK Tryz.prog 103 c_S_sStatement := fn_ok (tyOK _) (E := mkE []) (consOK_nil rfl) Tryz.func103 (h := h_S_sStatement) (by kernel_rfl) eq_S_sStatement

/-- S_l3With -/
def pk_S_l3With : List PK := [.data .str, .data (.sl (.int .i64))]
def rk_S_l3With : List (Ty × Bool) := [((.sl (.int .i64)), true)]
def h_S_l3With : Hints := { loops := [(0, { items := [.slot 5 (.own (.int .i64) true), .slot 6 (.data (.int .i64) [])], kill := [2, 3, 4, 7, 8, 9, 10, 11, 12, 13, 14, 15, 16, 17, 18, 19, 20, 21, 22, 23, 24, 25] })] }
noncomputable def M_S_l3With (x : (ByteArray × (List Int))) : (Option (List Int)) :=
  (loopO (fun (again0 : (((List Int) × Int) → (Option (List Int)))) => (fun (s1 : ((List Int) × Int)) => (cond (decide (s1.2 < (((ByteArray.size x.1) : Nat) : Int))) (bindO (if ((0 : Int) ≤ s1.2) then (x.1[(Int.toNat s1.2)]?) else (none : Option (UInt8))) (fun (a2 : (UInt8)) => (bindO (guardO (lenOk ((List.length s1.1) + (List.length ((IntKind.wrap .i64 (((UInt8.toNat a2) : Nat) : Int)) :: ([] : List Int)))))) (fun (a3 : Unit) => (bindO (some (s1.1 ++ ((IntKind.wrap .i64 (((UInt8.toNat a2) : Nat) : Int)) :: ([] : List Int)))) (fun (a4 : (List Int)) => (bindO (some (IntKind.wrap .i64 (s1.2 + (1 : Int)))) (fun (a5 : Int) => (again0 (a4, a5)))))))))) (bindO (guardO (lenOk ((List.length s1.1) + (List.length x.2)))) (fun (a6 : Unit) => (bindO (some (s1.1 ++ x.2)) (fun (a7 : (List Int)) => (some a7)))))))) (((((ByteArray.size x.1) : Nat) : Int) :: ([] : List Int)), (0 : Int)))

noncomputable def c_S_l3With : Con0 := ⟨pk_S_l3With, rk_S_l3With, M_S_l3With⟩

set_option maxRecDepth 100000 in
theorem eq_S_l3With (x : In pk_S_l3With) : semF (mkE []) h_S_l3With (info Tryz.f121) pk_S_l3With rk_S_l3With x = M_S_l3With x := by kernel_rfl

set_option maxRecDepth 100000 in
theorem m_S_l3With : ConOK Tryz.prog 121 c_S_l3With := fn_ok (tyOK _) (E := mkE []) (consOK_nil rfl) Tryz.func121 (h := h_S_l3With) (by kernel_rfl) eq_S_l3With

/-- S_l3State_absorb -/
def pk_S_l3State_absorb : List PK := [.mp (.cons (.int .i64) (.one (.int .i64))) false, .data (.int .i64)]
def rk_S_l3State_absorb : List (Ty × Bool) := []
def h_S_l3State_absorb : Hints := { loops := [(0, { items := [.slot 12 (.data (.int .i64) []), .cell 0 0 (.data (.int .i64) []), .cell 0 1 (.data (.int .i64) [])], kill := [1, 2, 3, 4, 5, 6, 7, 8, 9, 13, 14, 15, 16, 17, 18, 19, 20, 21, 22, 23, 24, 25, 26, 27, 28, 29, 30, 31, 32, 33, 34, 35, 36, 37, 38, 39, 40] })] }
noncomputable def M_S_l3State_absorb (x : ((Int × Int) × Int)) : (Option (Int × Int)) :=
  (bindO (guardO ((2147483648 : Int) != (0 : Int))) (fun (a0 : Unit) => (bindO (some (Int.tmod x.2 (2147483648 : Int))) (fun (a1 : Int) => (bindO (guardO ((2147483648 : Int) != (0 : Int))) (fun (a2 : Unit) => (bindO (some (IntKind.wrap .i64 (Int.tdiv x.2 (2147483648 : Int)))) (fun (a3 : Int) => (loopO (fun (again4 : ((Int × (Int × Int)) → (Option (Int × Int)))) => (fun (s5 : (Int × (Int × Int))) => (cond (decide (s5.1 < (((List.length (a1 :: (a3 :: ([] : List Int)))) : Nat) : Int))) (bindO (getI (a1 :: (a3 :: ([] : List Int))) s5.1) (fun (a6 : Int) => (bindO (some (IntKind.wrap .i64 ((48271 : Int) * s5.2.1))) (fun (a7 : Int) => (bindO (some (IntKind.wrap .i64 (a7 + a6))) (fun (a8 : Int) => (bindO (some (IntKind.wrap .i64 (a8 + (1 : Int)))) (fun (a9 : Int) => (bindO (guardO ((2147483647 : Int) != (0 : Int))) (fun (a10 : Unit) => (bindO (some (Int.tmod a9 (2147483647 : Int))) (fun (a11 : Int) => (bindO (some (IntKind.wrap .i64 ((69621 : Int) * s5.2.2))) (fun (a12 : Int) => (bindO (some (IntKind.wrap .i64 (a12 + a6))) (fun (a13 : Int) => (bindO (some (IntKind.wrap .i64 (a13 + (1 : Int)))) (fun (a14 : Int) => (bindO (guardO ((2147483647 : Int) != (0 : Int))) (fun (a15 : Unit) => (bindO (some (Int.tmod a14 (2147483647 : Int))) (fun (a16 : Int) => (bindO (some (IntKind.wrap .i64 (s5.1 + (1 : Int)))) (fun (a17 : Int) => (again4 (a17, (a11, a16))))))))))))))))))))))))))) (some (s5.2.1, s5.2.2))))) ((0 : Int), (x.1.1, x.1.2)))))))))))

noncomputable def c_S_l3State_absorb : Con0 := ⟨pk_S_l3State_absorb, rk_S_l3State_absorb, M_S_l3State_absorb⟩

set_option maxRecDepth 100000 in
theorem eq_S_l3State_absorb (x : In pk_S_l3State_absorb) : semF (mkE []) h_S_l3State_absorb (info Tryz.f125) pk_S_l3State_absorb rk_S_l3State_absorb x = M_S_l3State_absorb x := by kernel_rfl

set_option maxRecDepth 100000 in
theorem m_S_l3State_absorb : ConOK Tryz.prog 125 c_S_l3State_absorb := fn_ok (tyOK _) (E := mkE []) (consOK_nil rfl) Tryz.func125 (h := h_S_l3State_absorb) (by kernel_rfl) eq_S_l3State_absorb

/-- S_hInts -/
def pk_S_hInts : List PK := [.data (.sl (.int .i64))]
def rk_S_hInts : List (Ty × Bool) := [((.int .i64), false)]
def h_S_hInts : Hints := { loops := [(0, { items := [.slot 14 (.data (.int .i64) []), .cell 7 0 (.data (.int .i64) []), .cell 7 1 (.data (.int .i64) [])], kill := [0, 1, 2, 4, 5, 6, 8, 9, 10, 11, 15, 16, 17, 18, 19, 20, 21, 22, 23, 24, 25, 26, 27, 28, 29, 30, 31] })] }
noncomputable def M_S_hInts (x : (List Int)) : (Option Int) :=
  (bindO (M_S_l3State_absorb (((1 : Int), (2 : Int)), (((List.length x) : Nat) : Int))) (fun (a0 : (Int × Int)) => (loopO (fun (again1 : ((Int × (Int × Int)) → (Option Int))) => (fun (s2 : (Int × (Int × Int))) => (cond (decide (s2.1 < (((List.length x) : Nat) : Int))) (bindO (getI x s2.1) (fun (a3 : Int) => (bindO (M_S_l3State_absorb ((s2.2.1, s2.2.2), a3)) (fun (a4 : (Int × Int)) => (bindO (some (IntKind.wrap .i64 (s2.1 + (1 : Int)))) (fun (a5 : Int) => (again1 (a5, (a4.1, a4.2))))))))) (bindO (some (IntKind.wrap .i64 (s2.2.1 * (2147483648 : Int)))) (fun (a6 : Int) => (bindO (some (IntKind.wrap .i64 (a6 + s2.2.2))) (fun (a7 : Int) => (some a7)))))))) ((0 : Int), (a0.1, a0.2)))))

noncomputable def c_S_hInts : Con0 := ⟨pk_S_hInts, rk_S_hInts, M_S_hInts⟩

set_option maxRecDepth 100000 in
theorem eq_S_hInts (x : In pk_S_hInts) : semF (mkE [(125, c_S_l3State_absorb)]) h_S_hInts (info Tryz.f120) pk_S_hInts rk_S_hInts x = M_S_hInts x := by kernel_rfl

set_option maxRecDepth 100000 in
theorem m_S_hInts : ConOK Tryz.prog 120 c_S_hInts := fn_ok (tyOK _) (E := mkE [(125, c_S_l3State_absorb)]) (consOK_cons m_S_l3State_absorb (consOK_nil rfl)) Tryz.func120 (h := h_S_hInts) (by kernel_rfl) eq_S_hInts

/-- S_hLabelled -/
def pk_S_hLabelled : List PK := [.data .str, .data (.sl (.int .i64))]
def rk_S_hLabelled : List (Ty × Bool) := [((.int .i64), false)]
def h_S_hLabelled : Hints := { loops := [] }
noncomputable def M_S_hLabelled (x : (ByteArray × (List Int))) : (Option Int) :=
  (bindO (M_S_l3With (x.1, x.2)) (fun (a0 : (List Int)) => (bindO (M_S_hInts a0) (fun (a1 : Int) => (some a1)))))

noncomputable def c_S_hLabelled : Con0 := ⟨pk_S_hLabelled, rk_S_hLabelled, M_S_hLabelled⟩

set_option maxRecDepth 100000 in
theorem eq_S_hLabelled (x : In pk_S_hLabelled) : semF (mkE [(121, c_S_l3With), (120, c_S_hInts)]) h_S_hLabelled (info Tryz.f113) pk_S_hLabelled rk_S_hLabelled x = M_S_hLabelled x := by kernel_rfl

set_option maxRecDepth 100000 in
theorem m_S_hLabelled : ConOK Tryz.prog 113 c_S_hLabelled := fn_ok (tyOK _) (E := mkE [(121, c_S_l3With), (120, c_S_hInts)]) (consOK_cons m_S_l3With (consOK_cons m_S_hInts (consOK_nil rfl))) Tryz.func113 (h := h_S_hLabelled) (by kernel_rfl) eq_S_hLabelled

/-- S_hChallenge -/
def pk_S_hChallenge : List PK := [.data (.cons (.int .i64) (.cons (.int .i64) (.one (.int .i64)))), .data .str, .data (.sl (.int .i64))]
def rk_S_hChallenge : List (Ty × Bool) := [((.int .i64), false)]
def h_S_hChallenge : Hints := { loops := [] }
noncomputable def M_S_hChallenge (x : ((Int × (Int × Int)) × (ByteArray × (List Int)))) : (Option Int) :=
  (bindO (guardO (lenOk ((List.length (x.1.1 :: (x.1.2.1 :: (x.1.2.2 :: ([] : List Int))))) + (List.length x.2.2)))) (fun (a0 : Unit) => (bindO (some ((x.1.1 :: (x.1.2.1 :: (x.1.2.2 :: ([] : List Int)))) ++ x.2.2)) (fun (a1 : (List Int)) => (bindO (M_S_hLabelled (x.2.1, a1)) (fun (a2 : Int) => (bindO (guardO (x.1.2.1 != (0 : Int))) (fun (a3 : Unit) => (bindO (some (Int.tmod a2 x.1.2.1)) (fun (a4 : Int) => (some a4)))))))))))

noncomputable def c_S_hChallenge : Con0 := ⟨pk_S_hChallenge, rk_S_hChallenge, M_S_hChallenge⟩

set_option maxRecDepth 100000 in
theorem eq_S_hChallenge (x : In pk_S_hChallenge) : semF (mkE [(113, c_S_hLabelled)]) h_S_hChallenge (info Tryz.f102) pk_S_hChallenge rk_S_hChallenge x = M_S_hChallenge x := by kernel_rfl

set_option maxRecDepth 100000 in
theorem m_S_hChallenge : ConOK Tryz.prog 102 c_S_hChallenge := fn_ok (tyOK _) (E := mkE [(113, c_S_hLabelled)]) (consOK_cons m_S_hLabelled (consOK_nil rfl)) Tryz.func102 (h := h_S_hChallenge) (by kernel_rfl) eq_S_hChallenge

/-- S_nMod -/
def pk_S_nMod : List PK := [.data (.int .i64), .data (.int .i64)]
def rk_S_nMod : List (Ty × Bool) := [((.int .i64), false)]
def h_S_nMod : Hints := { loops := [] }
noncomputable def M_S_nMod (x : (Int × Int)) : (Option Int) :=
  (bindO (guardO (x.2 != (0 : Int))) (fun (a0 : Unit) => (bindO (some (Int.tmod x.1 x.2)) (fun (a1 : Int) => (bindO (some (IntKind.wrap .i64 (a1 + x.2))) (fun (a2 : Int) => (bindO (guardO (x.2 != (0 : Int))) (fun (a3 : Unit) => (bindO (some (Int.tmod a2 x.2)) (fun (a4 : Int) => (some a4)))))))))))

noncomputable def c_S_nMod : Con0 := ⟨pk_S_nMod, rk_S_nMod, M_S_nMod⟩

set_option maxRecDepth 100000 in
theorem eq_S_nMod (x : In pk_S_nMod) : semF (mkE []) h_S_nMod (info Tryz.f65) pk_S_nMod rk_S_nMod x = M_S_nMod x := by kernel_rfl

set_option maxRecDepth 100000 in
theorem m_S_nMod : ConOK Tryz.prog 65 c_S_nMod := fn_ok (tyOK _) (E := mkE []) (consOK_nil rfl) Tryz.func65 (h := h_S_nMod) (by kernel_rfl) eq_S_nMod

/-- S_gExp -/
def pk_S_gExp : List PK := [.data (.cons (.int .i64) (.cons (.int .i64) (.one (.int .i64)))), .data (.int .i64), .data (.int .i64)]
def rk_S_gExp : List (Ty × Bool) := [((.int .i64), false)]
def h_S_gExp : Hints := { loops := [] }
noncomputable def M_S_gExp (x : ((Int × (Int × Int)) × (Int × Int))) : (Option Int) :=
  (bindO (M_S_nMod (x.2.2, x.1.2.1)) (fun (a0 : Int) => (bindO (M_S_nPower (x.2.1, (a0, x.1.1))) (fun (a1 : Int) => (some a1)))))

noncomputable def c_S_gExp : Con0 := ⟨pk_S_gExp, rk_S_gExp, M_S_gExp⟩

set_option maxRecDepth 100000 in
theorem eq_S_gExp (x : In pk_S_gExp) : semF (mkE [(65, c_S_nMod), (58, c_S_nPower)]) h_S_gExp (info Tryz.f64) pk_S_gExp rk_S_gExp x = M_S_gExp x := by kernel_rfl

set_option maxRecDepth 100000 in
theorem m_S_gExp : ConOK Tryz.prog 64 c_S_gExp := fn_ok (tyOK _) (E := mkE [(65, c_S_nMod), (58, c_S_nPower)]) (consOK_cons m_S_nMod (consOK_cons m_S_nPower (consOK_nil rfl))) Tryz.func64 (h := h_S_gExp) (by kernel_rfl) eq_S_gExp

/-- S_gProd -/
def pk_S_gProd : List PK := [.data (.cons (.int .i64) (.cons (.int .i64) (.one (.int .i64)))), .data (.sl (.int .i64)), .data (.sl (.int .i64))]
def rk_S_gProd : List (Ty × Bool) := [((.int .i64), false)]
def h_S_gProd : Hints := { loops := [(0, { items := [.slot 7 (.data (.int .i64) []), .slot 12 (.data (.int .i64) [])], kill := [0, 1, 4, 5, 6, 8, 9, 13, 14, 15, 16, 17, 18, 19, 20, 21, 22, 23, 24, 25, 26, 27, 28, 29, 30] })] }
noncomputable def M_S_gProd (x : ((Int × (Int × Int)) × ((List Int) × (List Int)))) : (Option Int) :=
  (loopO (fun (again0 : ((Int × Int) → (Option Int))) => (fun (s1 : (Int × Int)) => (cond (decide (s1.2 < (((List.length x.2.1) : Nat) : Int))) (bindO (getI x.2.1 s1.2) (fun (a2 : Int) => (bindO (getI x.2.2 s1.2) (fun (a3 : Int) => (bindO (M_S_gExp ((x.1.1, (x.1.2.1, x.1.2.2)), (a2, a3))) (fun (a4 : Int) => (bindO (some (IntKind.wrap .i64 (s1.1 * a4))) (fun (a5 : Int) => (bindO (guardO (x.1.1 != (0 : Int))) (fun (a6 : Unit) => (bindO (some (Int.tmod a5 x.1.1)) (fun (a7 : Int) => (bindO (some (IntKind.wrap .i64 (s1.2 + (1 : Int)))) (fun (a8 : Int) => (again0 (a7, a8)))))))))))))))) (some s1.1)))) ((1 : Int), (0 : Int)))

noncomputable def c_S_gProd : Con0 := ⟨pk_S_gProd, rk_S_gProd, M_S_gProd⟩

set_option maxRecDepth 100000 in
theorem eq_S_gProd (x : In pk_S_gProd) : semF (mkE [(64, c_S_gExp)]) h_S_gProd (info Tryz.f40) pk_S_gProd rk_S_gProd x = M_S_gProd x := by kernel_rfl

set_option maxRecDepth 100000 in
theorem m_S_gProd : ConOK Tryz.prog 40 c_S_gProd := fn_ok (tyOK _) (E := mkE [(64, c_S_gExp)]) (consOK_cons m_S_gExp (consOK_nil rfl)) Tryz.func40 (h := h_S_gProd) (by kernel_rfl) eq_S_gProd

/-- S_sVerify -/
def pk_S_sVerify : List PK := [.data (.cons (.int .i64) (.cons (.int .i64) (.one (.int .i64)))), .data .str, .data (.sl (.sl (.int .i64))), .data (.sl (.int .i64)), .data (.cons (.sl (.int .i64)) (.cons (.sl (.int .i64)) (.one (.sl (.int .i64)))))]
def rk_S_sVerify : List (Ty × Bool) := [(.bool, false)]
def h_S_sVerify : Hints := { loops := [(0, { items := [.slot 66 (.data (.int .i64) [])], kill := [0, 1, 2, 4, 6, 7, 8, 10, 12, 13, 14, 15, 16, 17, 18, 19, 20, 21, 22, 23, 24, 25, 26, 27, 28, 29, 30, 31, 32, 33, 34, 35, 36, 37, 38, 39, 40, 41, 42, 43, 44, 45, 46, 47, 48, 49, 50, 51, 52, 53, 54, 55, 56, 57, 58, 59, 60, 61, 62, 63, 67, 68, 69, 70, 71, 72, 73, 74, 75, 76, 77, 78, 79, 80, 81, 82, 83, 84, 85, 86, 87, 88, 89, 90, 91, 92] })] }
noncomputable def M_S_sVerify (x : ((Int × (Int × Int)) × (ByteArray × ((List (List Int)) × ((List Int) × ((List Int) × ((List Int) × (List Int)))))))) : (Option Bool) :=
  (cond ((((List.length x.2.2.2.2.1) : Nat) : Int) != (((List.length x.2.2.1) : Nat) : Int)) (some false) (cond ((((List.length x.2.2.2.2.2.1) : Nat) : Int) != (1 : Int)) (some false) (bindO (getI x.2.2.1 (0 : Int)) (fun (a0 : (List Int)) => (cond ((((List.length x.2.2.2.2.2.2) : Nat) : Int) != (((List.length a0) : Nat) : Int)) (some false) (bindO (M_S_gIs ((x.1.1, (x.1.2.1, x.1.2.2)), x.2.2.2.2.1)) (fun (a1 : Bool) => (cond (not a1) (some false) (bindO (M_S_gExps ((x.1.1, (x.1.2.1, x.1.2.2)), x.2.2.2.2.2.2)) (fun (a2 : Bool) => (cond (not a2) (some false) (bindO (getI x.2.2.2.2.2.1 (0 : Int)) (fun (a3 : Int) => (bindO (M_S_sStatement (x.2.2.1, (x.2.2.2.1, x.2.2.2.2.1))) (fun (a4 : (List Int)) => (bindO (M_S_hChallenge ((x.1.1, (x.1.2.1, x.1.2.2)), (x.2.1, a4))) (fun (a5 : Int) => (cond (a3 != a5) (some false) (loopO (fun (again6 : (Int → (Option Bool))) => (fun (s7 : Int) => (cond (decide (s7 < (((List.length x.2.2.1) : Nat) : Int))) (bindO (getI x.2.2.1 s7) (fun (a8 : (List Int)) => (bindO (M_S_gProd ((x.1.1, (x.1.2.1, x.1.2.2)), (a8, x.2.2.2.2.2.2))) (fun (a9 : Int) => (bindO (getI x.2.2.2.2.1 s7) (fun (a10 : Int) => (bindO (getI x.2.2.2.1 s7) (fun (a11 : Int) => (bindO (M_S_gExp ((x.1.1, (x.1.2.1, x.1.2.2)), (a11, a3))) (fun (a12 : Int) => (bindO (M_S_gMul ((x.1.1, (x.1.2.1, x.1.2.2)), (a10 :: (a12 :: ([] : List Int))))) (fun (a13 : Int) => (cond (a9 != a13) (some false) (bindO (some (IntKind.wrap .i64 (s7 + (1 : Int)))) (fun (a14 : Int) => (again6 a14)))))))))))))))) (some true)))) (0 : Int))))))))))))))))))))

noncomputable def c_S_sVerify : Con0 := ⟨pk_S_sVerify, rk_S_sVerify, M_S_sVerify⟩

set_option maxRecDepth 100000 in
theorem eq_S_sVerify (x : In pk_S_sVerify) : semF (mkE [(34, c_S_gIs), (101, c_S_gExps), (103, c_S_sStatement), (102, c_S_hChallenge), (40, c_S_gProd), (64, c_S_gExp), (37, c_S_gMul)]) h_S_sVerify (info Tryz.f95) pk_S_sVerify rk_S_sVerify x = M_S_sVerify x := by kernel_rfl

set_option maxRecDepth 100000 in
theorem m_S_sVerify : ConOK Tryz.prog 95 c_S_sVerify := fn_ok (tyOK _) (E := mkE [(34, c_S_gIs), (101, c_S_gExps), (103, c_S_sStatement), (102, c_S_hChallenge), (40, c_S_gProd), (64, c_S_gExp), (37, c_S_gMul)]) (consOK_cons m_S_gIs (consOK_cons m_S_gExps (consOK_cons m_S_sStatement (consOK_cons m_S_hChallenge (consOK_cons m_S_gProd (consOK_cons m_S_gExp (consOK_cons m_S_gMul (consOK_nil rfl)))))))) Tryz.func95 (h := h_S_sVerify) (by kernel_rfl) eq_S_sVerify

/-- S_sVerifyEq -/
def pk_S_sVerifyEq : List PK := [.data (.cons (.int .i64) (.cons (.int .i64) (.one (.int .i64)))), .data .str, .data (.cons (.int .i64) (.cons (.int .i64) (.cons (.int .i64) (.one (.int .i64))))), .data (.cons (.sl (.int .i64)) (.cons (.sl (.int .i64)) (.one (.sl (.int .i64)))))]
def rk_S_sVerifyEq : List (Ty × Bool) := [(.bool, false)]
def h_S_sVerifyEq : Hints := { loops := [] }
noncomputable def M_S_sVerifyEq (x : ((Int × (Int × Int)) × (ByteArray × ((Int × (Int × (Int × Int))) × ((List Int) × ((List Int) × (List Int))))))) : (Option Bool) :=
  (bindO (M_S_sVerify ((x.1.1, (x.1.2.1, x.1.2.2)), (x.2.1, (((x.2.2.1.1 :: ([] : List Int)) :: ((x.2.2.1.2.2.1 :: ([] : List Int)) :: ([] : List (List Int)))), ((x.2.2.1.2.1 :: (x.2.2.1.2.2.2 :: ([] : List Int))), (x.2.2.2.1, (x.2.2.2.2.1, x.2.2.2.2.2))))))) (fun (a0 : Bool) => (some a0)))

noncomputable def c_S_sVerifyEq : Con0 := ⟨pk_S_sVerifyEq, rk_S_sVerifyEq, M_S_sVerifyEq⟩

set_option maxRecDepth 100000 in
theorem eq_S_sVerifyEq (x : In pk_S_sVerifyEq) : semF (mkE [(95, c_S_sVerify)]) h_S_sVerifyEq (info Tryz.f82) pk_S_sVerifyEq rk_S_sVerifyEq x = M_S_sVerifyEq x := by kernel_rfl

set_option maxRecDepth 100000 in
theorem m_S_sVerifyEq : ConOK Tryz.prog 82 c_S_sVerifyEq := fn_ok (tyOK _) (E := mkE [(95, c_S_sVerify)]) (consOK_cons m_S_sVerify (consOK_nil rfl)) Tryz.func82 (h := h_S_sVerifyEq) (by kernel_rfl) eq_S_sVerifyEq

/-- S_qVerify -/
def pk_S_qVerify : List PK := [.data (.cons (.int .i64) (.cons (.int .i64) (.one (.int .i64)))), .data (.cons (.int .i64) (.one (.int .i64))), .data (.cons (.int .i64) (.cons (.cons (.int .i64) (.one (.int .i64))) (.one (.cons (.sl (.int .i64)) (.cons (.sl (.int .i64)) (.one (.sl (.int .i64))))))))]
def rk_S_qVerify : List (Ty × Bool) := [(.bool, false)]
def h_S_qVerify : Hints := { loops := [] }
noncomputable def M_S_qVerify (x : ((Int × (Int × Int)) × ((Int × Int) × (Int × ((Int × Int) × ((List Int) × ((List Int) × (List Int)))))))) : (Option Bool) :=
  (bindO (M_S_l1In (x.2.2.1, ((1 : Int), (7 : Int)))) (fun (a0 : Bool) => (cond (not a0) (some false) (bindO (M_S_eGood ((x.1.1, (x.1.2.1, x.1.2.2)), ((x.2.2.2.1.1, x.2.2.2.1.2) :: ([] : List (Int × Int))))) (fun (a1 : Bool) => (cond (not a1) (some false) (bindO (M_S_qOne (x.2.2.2.1.1, x.2.2.2.1.2)) (fun (a2 : Bool) => (cond a2 (bindO (M_S_qOne (x.2.1.1, x.2.1.2)) (fun (a3 : Bool) => (cond (not a3) (some false) (bindO (M_S_sVerifyEq ((x.1.1, (x.1.2.1, x.1.2.2)), ((bytesOf [98, 108, 105, 110, 100]), ((x.2.1.1, (x.2.2.2.1.1, (x.2.1.2, x.2.2.2.1.2))), (x.2.2.2.2.1, (x.2.2.2.2.2.1, x.2.2.2.2.2.2)))))) (fun (a4 : Bool) => (some a4)))))) (bindO (M_S_sVerifyEq ((x.1.1, (x.1.2.1, x.1.2.2)), ((bytesOf [98, 108, 105, 110, 100]), ((x.2.1.1, (x.2.2.2.1.1, (x.2.1.2, x.2.2.2.1.2))), (x.2.2.2.2.1, (x.2.2.2.2.2.1, x.2.2.2.2.2.2)))))) (fun (a5 : Bool) => (some a5))))))))))))

noncomputable def c_S_qVerify : Con0 := ⟨pk_S_qVerify, rk_S_qVerify, M_S_qVerify⟩

set_option maxRecDepth 100000 in
theorem eq_S_qVerify (x : In pk_S_qVerify) : semF (mkE [(57, c_S_l1In), (19, c_S_eGood), (81, c_S_qOne), (82, c_S_sVerifyEq)]) h_S_qVerify (info Tryz.f61) pk_S_qVerify rk_S_qVerify x = M_S_qVerify x := by kernel_rfl

set_option maxRecDepth 100000 in
theorem m_S_qVerify : ConOK Tryz.prog 61 c_S_qVerify := fn_ok (tyOK _) (E := mkE [(57, c_S_l1In), (19, c_S_eGood), (81, c_S_qOne), (82, c_S_sVerifyEq)]) (consOK_cons m_S_l1In (consOK_cons m_S_eGood (consOK_cons m_S_qOne (consOK_cons m_S_sVerifyEq (consOK_nil rfl))))) Tryz.func61 (h := h_S_qVerify) (by kernel_rfl) eq_S_qVerify

/-- S_eMul -/
def pk_S_eMul : List PK := [.data (.cons (.int .i64) (.cons (.int .i64) (.one (.int .i64)))), .data (.sl (.cons (.int .i64) (.one (.int .i64))))]
def rk_S_eMul : List (Ty × Bool) := [((.cons (.int .i64) (.one (.int .i64))), false)]
def h_S_eMul : Hints := { loops := [(0, { items := [.slot 11 (.data (.int .i64) []), .cell 5 0 (.data (.int .i64) []), .cell 5 1 (.data (.int .i64) [])], kill := [0, 1, 3, 6, 7, 8, 12, 13, 14, 15, 16, 17, 18, 19, 20, 21, 22, 23, 24, 25, 26, 27, 28, 29, 30, 31] })] }
noncomputable def M_S_eMul (x : ((Int × (Int × Int)) × (List (Int × Int)))) : (Option (Int × Int)) :=
  (loopO (fun (again0 : ((Int × (Int × Int)) → (Option (Int × Int)))) => (fun (s1 : (Int × (Int × Int))) => (cond (decide (s1.1 < (((List.length x.2) : Nat) : Int))) (bindO (getI x.2 s1.1) (fun (a2 : (Int × Int)) => (bindO (M_S_gMul ((x.1.1, (x.1.2.1, x.1.2.2)), (s1.2.1 :: (a2.1 :: ([] : List Int))))) (fun (a3 : Int) => (bindO (M_S_gMul ((x.1.1, (x.1.2.1, x.1.2.2)), (s1.2.2 :: (a2.2 :: ([] : List Int))))) (fun (a4 : Int) => (bindO (some (IntKind.wrap .i64 (s1.1 + (1 : Int)))) (fun (a5 : Int) => (again0 (a5, (a3, a4))))))))))) (some (s1.2.1, s1.2.2))))) ((0 : Int), ((1 : Int), (1 : Int))))

noncomputable def c_S_eMul : Con0 := ⟨pk_S_eMul, rk_S_eMul, M_S_eMul⟩

set_option maxRecDepth 100000 in
theorem eq_S_eMul (x : In pk_S_eMul) : semF (mkE [(37, c_S_gMul)]) h_S_eMul (info Tryz.f62) pk_S_eMul rk_S_eMul x = M_S_eMul x := by kernel_rfl

set_option maxRecDepth 100000 in
theorem m_S_eMul : ConOK Tryz.prog 62 c_S_eMul := fn_ok (tyOK _) (E := mkE [(37, c_S_gMul)]) (consOK_cons m_S_gMul (consOK_nil rfl)) Tryz.func62 (h := h_S_eMul) (by kernel_rfl) eq_S_eMul

/-- S_qCombine -/
def pk_S_qCombine : List PK := [.data (.cons (.int .i64) (.cons (.int .i64) (.one (.int .i64)))), .data (.cons (.int .i64) (.one (.int .i64))), .data (.sl (.cons (.int .i64) (.cons (.cons (.int .i64) (.one (.int .i64))) (.one (.cons (.sl (.int .i64)) (.cons (.sl (.int .i64)) (.one (.sl (.int .i64)))))))))]
def rk_S_qCombine : List (Ty × Bool) := [((.cons (.int .i64) (.one (.int .i64))), false), ((.sl (.int .i64)), true)]
def h_S_qCombine : Hints := { loops := [(0, { items := [.slot 9 (.own (.int .i64) true), .slot 15 (.data (.int .i64) []), .cell 8 0 (.data (.int .i64) []), .cell 8 1 (.data (.int .i64) [])], kill := [0, 1, 2, 5, 7, 10, 11, 12, 16, 17, 18, 19, 20, 21, 22, 23, 24, 25, 26, 27, 28, 29, 30, 31, 32, 33, 34, 35, 36, 37, 38, 39, 40, 41, 42, 43] })] }
noncomputable def M_S_qCombine (x : ((Int × (Int × Int)) × ((Int × Int) × (List (Int × ((Int × Int) × ((List Int) × ((List Int) × (List Int))))))))) : (Option ((Int × Int) × (List Int))) :=
  (loopO (fun (again0 : (((List Int) × (Int × (Int × Int))) → (Option ((Int × Int) × (List Int))))) => (fun (s1 : ((List Int) × (Int × (Int × Int)))) => (cond (decide (s1.2.1 < (((List.length x.2.2) : Nat) : Int))) (bindO (getI x.2.2 s1.2.1) (fun (a2 : (Int × ((Int × Int) × ((List Int) × ((List Int) × (List Int)))))) => (bindO (M_S_l1Has (s1.1, a2.1)) (fun (a3 : Bool) => (cond (not a3) (bindO (M_S_qVerify ((x.1.1, (x.1.2.1, x.1.2.2)), ((x.2.1.1, x.2.1.2), (a2.1, ((a2.2.1.1, a2.2.1.2), (a2.2.2.1, (a2.2.2.2.1, a2.2.2.2.2))))))) (fun (a4 : Bool) => (cond a4 (bindO (M_S_eMul ((x.1.1, (x.1.2.1, x.1.2.2)), ((s1.2.2.1, s1.2.2.2) :: ((a2.2.1.1, a2.2.1.2) :: ([] : List (Int × Int)))))) (fun (a5 : (Int × Int)) => (bindO (guardO (lenOk ((List.length s1.1) + (List.length (a2.1 :: ([] : List Int)))))) (fun (a6 : Unit) => (bindO (some (s1.1 ++ (a2.1 :: ([] : List Int)))) (fun (a7 : (List Int)) => (bindO (some (IntKind.wrap .i64 (s1.2.1 + (1 : Int)))) (fun (a8 : Int) => (again0 (a7, (a8, (a5.1, a5.2)))))))))))) (bindO (some (IntKind.wrap .i64 (s1.2.1 + (1 : Int)))) (fun (a9 : Int) => (again0 (s1.1, (a9, (s1.2.2.1, s1.2.2.2))))))))) (bindO (some (IntKind.wrap .i64 (s1.2.1 + (1 : Int)))) (fun (a10 : Int) => (again0 (s1.1, (a10, (s1.2.2.1, s1.2.2.2))))))))))) (some ((s1.2.2.1, s1.2.2.2), s1.1))))) (([] : List Int), ((0 : Int), ((1 : Int), (1 : Int)))))

noncomputable def c_S_qCombine : Con0 := ⟨pk_S_qCombine, rk_S_qCombine, M_S_qCombine⟩

set_option maxRecDepth 100000 in
theorem eq_S_qCombine (x : In pk_S_qCombine) : semF (mkE [(60, c_S_l1Has), (61, c_S_qVerify), (62, c_S_eMul)]) h_S_qCombine (info Tryz.f36) pk_S_qCombine rk_S_qCombine x = M_S_qCombine x := by kernel_rfl

set_option maxRecDepth 100000 in
theorem m_S_qCombine : ConOK Tryz.prog 36 c_S_qCombine := fn_ok (tyOK _) (E := mkE [(60, c_S_l1Has), (61, c_S_qVerify), (62, c_S_eMul)]) (consOK_cons m_S_l1Has (consOK_cons m_S_qVerify (consOK_cons m_S_eMul (consOK_nil rfl)))) Tryz.func36 (h := h_S_qCombine) (by kernel_rfl) eq_S_qCombine

/-- S_CombineBlinds -/
def pk_S_CombineBlinds : List PK := [.data (.cons (.int .i64) (.cons (.int .i64) (.one (.int .i64)))), .data (.cons (.int .i64) (.one (.int .i64))), .data (.sl (.cons (.int .i64) (.cons (.cons (.int .i64) (.one (.int .i64))) (.one (.cons (.sl (.int .i64)) (.cons (.sl (.int .i64)) (.one (.sl (.int .i64)))))))))]
def rk_S_CombineBlinds : List (Ty × Bool) := [((.cons (.int .i64) (.one (.int .i64))), false), ((.sl (.int .i64)), true), (.bool, false)]
def h_S_CombineBlinds : Hints := { loops := [] }
noncomputable def M_S_CombineBlinds (x : ((Int × (Int × Int)) × ((Int × Int) × (List (Int × ((Int × Int) × ((List Int) × ((List Int) × (List Int))))))))) : (Option ((Int × Int) × ((List Int) × Bool))) :=
  (bindO (M_S_l2Good (x.1.1, (x.1.2.1, x.1.2.2))) (fun (a0 : Bool) => (cond (not a0) (some (((0 : Int), (0 : Int)), (([] : List Int), false))) (bindO (M_S_eGood ((x.1.1, (x.1.2.1, x.1.2.2)), ((x.2.1.1, x.2.1.2) :: ([] : List (Int × Int))))) (fun (a1 : Bool) => (cond (not a1) (some (((0 : Int), (0 : Int)), (([] : List Int), false))) (cond (decide ((((List.length x.2.2) : Nat) : Int) > (14 : Int))) (some (((0 : Int), (0 : Int)), (([] : List Int), false))) (bindO (M_S_qCombine ((x.1.1, (x.1.2.1, x.1.2.2)), ((x.2.1.1, x.2.1.2), x.2.2))) (fun (a2 : ((Int × Int) × (List Int))) => (cond ((((List.length a2.2) : Nat) : Int) == (0 : Int)) (some (((0 : Int), (0 : Int)), (([] : List Int), false))) (some ((a2.1.1, a2.1.2), (a2.2, true)))))))))))))

noncomputable def c_S_CombineBlinds : Con0 := ⟨pk_S_CombineBlinds, rk_S_CombineBlinds, M_S_CombineBlinds⟩

set_option maxRecDepth 100000 in
theorem eq_S_CombineBlinds (x : In pk_S_CombineBlinds) : semF (mkE [(35, c_S_l2Good), (19, c_S_eGood), (36, c_S_qCombine)]) h_S_CombineBlinds (info Tryz.f20) pk_S_CombineBlinds rk_S_CombineBlinds x = M_S_CombineBlinds x := by kernel_rfl

set_option maxRecDepth 100000 in
theorem m_S_CombineBlinds : ConOK Tryz.prog 20 c_S_CombineBlinds := fn_ok (tyOK _) (E := mkE [(35, c_S_l2Good), (19, c_S_eGood), (36, c_S_qCombine)]) (consOK_cons m_S_l2Good (consOK_cons m_S_eGood (consOK_cons m_S_qCombine (consOK_nil rfl)))) Tryz.func20 (h := h_S_CombineBlinds) (by kernel_rfl) eq_S_CombineBlinds

/-- S_sAt -/
def pk_S_sAt : List PK := [.data (.cons (.int .i64) (.cons (.int .i64) (.one (.int .i64)))), .data (.sl (.int .i64)), .data (.int .i64)]
def rk_S_sAt : List (Ty × Bool) := [((.int .i64), false)]
def h_S_sAt : Hints := { loops := [(0, { items := [.slot 7 (.data (.int .i64) []), .slot 8 (.data (.int .i64) []), .slot 13 (.data (.int .i64) [])], kill := [0, 1, 4, 5, 6, 9, 10, 14, 15, 16, 17, 18, 19, 20, 21, 22, 23, 24, 25, 26, 27, 28, 29, 30, 31, 32] })] }
noncomputable def M_S_sAt (x : ((Int × (Int × Int)) × ((List Int) × Int))) : (Option Int) :=
  (loopO (fun (again0 : ((Int × (Int × Int)) → (Option Int))) => (fun (s1 : (Int × (Int × Int))) => (cond (decide (s1.2.2 < (((List.length x.2.1) : Nat) : Int))) (bindO (getI x.2.1 s1.2.2) (fun (a2 : Int) => (bindO (M_S_gExp ((x.1.1, (x.1.2.1, x.1.2.2)), (a2, s1.2.1))) (fun (a3 : Int) => (bindO (M_S_gMul ((x.1.1, (x.1.2.1, x.1.2.2)), (s1.1 :: (a3 :: ([] : List Int))))) (fun (a4 : Int) => (bindO (some (IntKind.wrap .i64 (s1.2.1 * x.2.2))) (fun (a5 : Int) => (bindO (guardO (x.1.2.1 != (0 : Int))) (fun (a6 : Unit) => (bindO (some (Int.tmod a5 x.1.2.1)) (fun (a7 : Int) => (bindO (some (IntKind.wrap .i64 (s1.2.2 + (1 : Int)))) (fun (a8 : Int) => (again0 (a4, (a7, a8))))))))))))))))) (some s1.1)))) ((1 : Int), ((1 : Int), (0 : Int))))

noncomputable def c_S_sAt : Con0 := ⟨pk_S_sAt, rk_S_sAt, M_S_sAt⟩

set_option maxRecDepth 100000 in
theorem eq_S_sAt (x : In pk_S_sAt) : semF (mkE [(64, c_S_gExp), (37, c_S_gMul)]) h_S_sAt (info Tryz.f83) pk_S_sAt rk_S_sAt x = M_S_sAt x := by kernel_rfl

set_option maxRecDepth 100000 in
theorem m_S_sAt : ConOK Tryz.prog 83 c_S_sAt := fn_ok (tyOK _) (E := mkE [(64, c_S_gExp), (37, c_S_gMul)]) (consOK_cons m_S_gExp (consOK_cons m_S_gMul (consOK_nil rfl))) Tryz.func83 (h := h_S_sAt) (by kernel_rfl) eq_S_sAt

/-- S_tVerify -/
def pk_S_tVerify : List PK := [.data (.cons (.int .i64) (.cons (.int .i64) (.one (.int .i64)))), .data (.sl (.int .i64)), .data (.cons (.int .i64) (.one (.int .i64))), .data (.cons (.int .i64) (.cons (.int .i64) (.one (.cons (.sl (.int .i64)) (.cons (.sl (.int .i64)) (.one (.sl (.int .i64))))))))]
def rk_S_tVerify : List (Ty × Bool) := [(.bool, false)]
def h_S_tVerify : Hints := { loops := [] }
noncomputable def M_S_tVerify (x : ((Int × (Int × Int)) × ((List Int) × ((Int × Int) × (Int × (Int × ((List Int) × ((List Int) × (List Int))))))))) : (Option Bool) :=
  (bindO (M_S_l1In (x.2.2.2.1, ((1 : Int), (7 : Int)))) (fun (a0 : Bool) => (cond (not a0) (some false) (bindO (M_S_gIs ((x.1.1, (x.1.2.1, x.1.2.2)), (x.2.2.2.2.1 :: ([] : List Int)))) (fun (a1 : Bool) => (cond (not a1) (some false) (bindO (M_S_sAt ((x.1.1, (x.1.2.1, x.1.2.2)), (x.2.1, x.2.2.2.1))) (fun (a2 : Int) => (bindO (M_S_sVerifyEq ((x.1.1, (x.1.2.1, x.1.2.2)), ((bytesOf [112, 97, 114, 116, 105, 97, 108]), ((x.1.2.2, (a2, (x.2.2.1.1, x.2.2.2.2.1))), (x.2.2.2.2.2.1, (x.2.2.2.2.2.2.1, x.2.2.2.2.2.2.2)))))) (fun (a3 : Bool) => (some a3)))))))))))

noncomputable def c_S_tVerify : Con0 := ⟨pk_S_tVerify, rk_S_tVerify, M_S_tVerify⟩

set_option maxRecDepth 100000 in
theorem eq_S_tVerify (x : In pk_S_tVerify) : semF (mkE [(57, c_S_l1In), (34, c_S_gIs), (83, c_S_sAt), (82, c_S_sVerifyEq)]) h_S_tVerify (info Tryz.f63) pk_S_tVerify rk_S_tVerify x = M_S_tVerify x := by kernel_rfl

set_option maxRecDepth 100000 in
theorem m_S_tVerify : ConOK Tryz.prog 63 c_S_tVerify := fn_ok (tyOK _) (E := mkE [(57, c_S_l1In), (34, c_S_gIs), (83, c_S_sAt), (82, c_S_sVerifyEq)]) (consOK_cons m_S_l1In (consOK_cons m_S_gIs (consOK_cons m_S_sAt (consOK_cons m_S_sVerifyEq (consOK_nil rfl))))) Tryz.func63 (h := h_S_tVerify) (by kernel_rfl) eq_S_tVerify

/-- S_tGood -/
def pk_S_tGood : List PK := [.data (.cons (.int .i64) (.cons (.int .i64) (.one (.int .i64)))), .data (.sl (.int .i64)), .data (.cons (.int .i64) (.one (.int .i64))), .data (.sl (.cons (.int .i64) (.cons (.int .i64) (.one (.cons (.sl (.int .i64)) (.cons (.sl (.int .i64)) (.one (.sl (.int .i64)))))))))]
def rk_S_tGood : List (Ty × Bool) := [((.sl (.int .i64)), true)]
def h_S_tGood : Hints := { loops := [(0, { items := [.slot 9 (.own (.int .i64) true), .slot 10 (.own (.int .i64) true), .slot 15 (.data (.int .i64) [])], kill := [0, 2, 3, 5, 7, 8, 11, 12, 16, 17, 18, 19, 20, 21, 22, 23, 24, 25, 26, 27, 28, 29, 30, 31, 32, 33, 34, 35, 36, 37, 38, 39, 40, 41, 42] })] }
noncomputable def M_S_tGood (x : ((Int × (Int × Int)) × ((List Int) × ((Int × Int) × (List (Int × (Int × ((List Int) × ((List Int) × (List Int)))))))))) : (Option (List Int)) :=
  (loopO (fun (again0 : (((List Int) × ((List Int) × Int)) → (Option (List Int)))) => (fun (s1 : ((List Int) × ((List Int) × Int))) => (cond (decide (s1.2.2 < (((List.length x.2.2.2) : Nat) : Int))) (bindO (getI x.2.2.2 s1.2.2) (fun (a2 : (Int × (Int × ((List Int) × ((List Int) × (List Int)))))) => (bindO (M_S_l1Has (s1.2.1, a2.1)) (fun (a3 : Bool) => (cond (not a3) (bindO (M_S_tVerify ((x.1.1, (x.1.2.1, x.1.2.2)), (x.2.1, ((x.2.2.1.1, x.2.2.1.2), (a2.1, (a2.2.1, (a2.2.2.1, (a2.2.2.2.1, a2.2.2.2.2)))))))) (fun (a4 : Bool) => (cond a4 (bindO (guardO (lenOk ((List.length s1.1) + (List.length (s1.2.2 :: ([] : List Int)))))) (fun (a5 : Unit) => (bindO (some (s1.1 ++ (s1.2.2 :: ([] : List Int)))) (fun (a6 : (List Int)) => (bindO (guardO (lenOk ((List.length s1.2.1) + (List.length (a2.1 :: ([] : List Int)))))) (fun (a7 : Unit) => (bindO (some (s1.2.1 ++ (a2.1 :: ([] : List Int)))) (fun (a8 : (List Int)) => (bindO (some (IntKind.wrap .i64 (s1.2.2 + (1 : Int)))) (fun (a9 : Int) => (again0 (a6, (a8, a9))))))))))))) (bindO (some (IntKind.wrap .i64 (s1.2.2 + (1 : Int)))) (fun (a10 : Int) => (again0 (s1.1, (s1.2.1, a10)))))))) (bindO (some (IntKind.wrap .i64 (s1.2.2 + (1 : Int)))) (fun (a11 : Int) => (again0 (s1.1, (s1.2.1, a11)))))))))) (some s1.1)))) (([] : List Int), (([] : List Int), (0 : Int))))

noncomputable def c_S_tGood : Con0 := ⟨pk_S_tGood, rk_S_tGood, M_S_tGood⟩

set_option maxRecDepth 100000 in
theorem eq_S_tGood (x : In pk_S_tGood) : semF (mkE [(60, c_S_l1Has), (63, c_S_tVerify)]) h_S_tGood (info Tryz.f39) pk_S_tGood rk_S_tGood x = M_S_tGood x := by kernel_rfl

set_option maxRecDepth 100000 in
theorem m_S_tGood : ConOK Tryz.prog 39 c_S_tGood := fn_ok (tyOK _) (E := mkE [(60, c_S_l1Has), (63, c_S_tVerify)]) (consOK_cons m_S_l1Has (consOK_cons m_S_tVerify (consOK_nil rfl))) Tryz.func39 (h := h_S_tGood) (by kernel_rfl) eq_S_tGood

/-- S_nInverse -/
def pk_S_nInverse : List PK := [.data (.int .i64), .data (.int .i64)]
def rk_S_nInverse : List (Ty × Bool) := [((.int .i64), false), (.bool, false)]
def h_S_nInverse : Hints := { loops := [(0, { items := [.slot 6 (.data (.int .i64) []), .slot 7 (.data (.int .i64) []), .slot 8 (.data (.int .i64) []), .slot 9 (.data (.int .i64) [])], kill := [0, 2, 3, 4, 5, 10, 11, 12, 13, 14, 15, 16, 17, 18, 19, 20, 21, 22, 23, 24, 25, 26, 27, 28, 29, 30, 31, 32, 33, 34, 35, 36, 37, 38, 39, 40] })] }
noncomputable def M_S_nInverse (x : (Int × Int)) : (Option (Int × Bool)) :=
  (bindO (M_S_nMod (x.1, x.2)) (fun (a0 : Int) => (loopO (fun (again1 : ((Int × (Int × (Int × Int))) → (Option (Int × Bool)))) => (fun (s2 : (Int × (Int × (Int × Int)))) => (cond (s2.2.1 != (0 : Int)) (bindO (guardO (s2.2.1 != (0 : Int))) (fun (a3 : Unit) => (bindO (some (IntKind.wrap .i64 (Int.tdiv s2.1 s2.2.1))) (fun (a4 : Int) => (bindO (some (IntKind.wrap .i64 (a4 * s2.2.1))) (fun (a5 : Int) => (bindO (some (IntKind.wrap .i64 (s2.1 - a5))) (fun (a6 : Int) => (bindO (some (IntKind.wrap .i64 (a4 * s2.2.2.2))) (fun (a7 : Int) => (bindO (some (IntKind.wrap .i64 (s2.2.2.1 - a7))) (fun (a8 : Int) => (again1 (s2.2.1, (a6, (s2.2.2.2, a8)))))))))))))))) (bindO (M_S_nMod (s2.2.2.1, x.2)) (fun (a9 : Int) => (some (a9, (s2.1 == (1 : Int))))))))) (a0, (x.2, ((1 : Int), (0 : Int)))))))

noncomputable def c_S_nInverse : Con0 := ⟨pk_S_nInverse, rk_S_nInverse, M_S_nInverse⟩

set_option maxRecDepth 100000 in
theorem eq_S_nInverse (x : In pk_S_nInverse) : semF (mkE [(65, c_S_nMod)]) h_S_nInverse (info Tryz.f66) pk_S_nInverse rk_S_nInverse x = M_S_nInverse x := by kernel_rfl

set_option maxRecDepth 100000 in
theorem m_S_nInverse : ConOK Tryz.prog 66 c_S_nInverse := fn_ok (tyOK _) (E := mkE [(65, c_S_nMod)]) (consOK_cons m_S_nMod (consOK_nil rfl)) Tryz.func66 (h := h_S_nInverse) (by kernel_rfl) eq_S_nInverse

/-- S_yLagrange -/
def pk_S_yLagrange : List PK := [.data (.int .i64), .data (.sl (.int .i64)), .data (.int .i64)]
def rk_S_yLagrange : List (Ty × Bool) := [((.sl (.int .i64)), true)]
def h_S_yLagrange : Hints := { loops := [(0, { items := [.slot 7 (.own (.int .i64) true), .slot 18 (.data (.int .i64) [])], kill := [3, 4, 5, 6, 8, 9, 10, 11, 12, 13, 14, 15, 19, 20, 21, 22, 23, 24, 25, 26, 27, 28, 29, 30, 31, 32, 33, 34, 35, 36, 37, 38, 39, 40, 41, 42, 43, 44, 45, 46, 47, 48, 49, 50, 51, 52, 53, 54, 55, 56, 57, 58, 59, 60, 61, 62, 63, 64, 65, 66, 67] }), (2, { items := [.slot 10 (.data (.int .i64) []), .slot 11 (.data (.int .i64) []), .slot 25 (.data (.int .i64) [])], kill := [3, 4, 5, 6, 12, 13, 14, 15, 19, 20, 21, 22, 26, 27, 28, 29, 30, 31, 32, 33, 34, 35, 36, 37, 38, 39, 40, 41, 42, 43, 44, 45, 46, 47, 48, 49, 50, 51, 52, 53, 54, 55, 56, 57, 58, 59, 60, 61, 62, 63, 64, 65, 66, 67] })] }
noncomputable def M_S_yLagrange (x : (Int × ((List Int) × Int))) : (Option (List Int)) :=
  (loopO (fun (again0 : (((List Int) × Int) → (Option (List Int)))) => (fun (s1 : ((List Int) × Int)) => (cond (decide (s1.2 < (((List.length x.2.1) : Nat) : Int))) (bindO (getI x.2.1 s1.2) (fun (a2 : Int) => (loopO (fun (again3 : ((Int × (Int × Int)) → (Option (List Int)))) => (fun (s4 : (Int × (Int × Int))) => (cond (decide (s4.2.2 < (((List.length x.2.1) : Nat) : Int))) (bindO (getI x.2.1 s4.2.2) (fun (a5 : Int) => (cond (s4.2.2 != s1.2) (bindO (some (IntKind.wrap .i64 (x.2.2 - a5))) (fun (a6 : Int) => (bindO (M_S_nMod (a6, x.1)) (fun (a7 : Int) => (bindO (some (IntKind.wrap .i64 (s4.1 * a7))) (fun (a8 : Int) => (bindO (guardO (x.1 != (0 : Int))) (fun (a9 : Unit) => (bindO (some (Int.tmod a8 x.1)) (fun (a10 : Int) => (bindO (some (IntKind.wrap .i64 (a2 - a5))) (fun (a11 : Int) => (bindO (M_S_nMod (a11, x.1)) (fun (a12 : Int) => (bindO (some (IntKind.wrap .i64 (s4.2.1 * a12))) (fun (a13 : Int) => (bindO (guardO (x.1 != (0 : Int))) (fun (a14 : Unit) => (bindO (some (Int.tmod a13 x.1)) (fun (a15 : Int) => (bindO (some (IntKind.wrap .i64 (s4.2.2 + (1 : Int)))) (fun (a16 : Int) => (again3 (a10, (a15, a16))))))))))))))))))))))))) (bindO (some (IntKind.wrap .i64 (s4.2.2 + (1 : Int)))) (fun (a17 : Int) => (again3 (s4.1, (s4.2.1, a17)))))))) (bindO (M_S_nInverse (s4.2.1, x.1)) (fun (a18 : (Int × Bool)) => (bindO (some (IntKind.wrap .i64 (s4.1 * a18.1))) (fun (a19 : Int) => (bindO (guardO (x.1 != (0 : Int))) (fun (a20 : Unit) => (bindO (some (Int.tmod a19 x.1)) (fun (a21 : Int) => (bindO (guardO (lenOk ((List.length s1.1) + (List.length (a21 :: ([] : List Int)))))) (fun (a22 : Unit) => (bindO (some (s1.1 ++ (a21 :: ([] : List Int)))) (fun (a23 : (List Int)) => (bindO (some (IntKind.wrap .i64 (s1.2 + (1 : Int)))) (fun (a24 : Int) => (again0 (a23, a24))))))))))))))))))) ((1 : Int), ((1 : Int), (0 : Int)))))) (some s1.1)))) (([] : List Int), (0 : Int)))

noncomputable def c_S_yLagrange : Con0 := ⟨pk_S_yLagrange, rk_S_yLagrange, M_S_yLagrange⟩

set_option maxRecDepth 100000 in
theorem eq_S_yLagrange (x : In pk_S_yLagrange) : semF (mkE [(65, c_S_nMod), (66, c_S_nInverse)]) h_S_yLagrange (info Tryz.f41) pk_S_yLagrange rk_S_yLagrange x = M_S_yLagrange x := by kernel_rfl

set_option maxRecDepth 100000 in
theorem m_S_yLagrange : ConOK Tryz.prog 41 c_S_yLagrange := fn_ok (tyOK _) (E := mkE [(65, c_S_nMod), (66, c_S_nInverse)]) (consOK_cons m_S_nMod (consOK_cons m_S_nInverse (consOK_nil rfl))) Tryz.func41 (h := h_S_yLagrange) (by kernel_rfl) eq_S_yLagrange

/-- S_tCombine -/
def pk_S_tCombine : List PK := [.data (.cons (.int .i64) (.cons (.int .i64) (.one (.int .i64)))), .data (.sl (.int .i64)), .data (.cons (.int .i64) (.one (.int .i64))), .data (.sl (.cons (.int .i64) (.cons (.int .i64) (.one (.cons (.sl (.int .i64)) (.cons (.sl (.int .i64)) (.one (.sl (.int .i64)))))))))]
def rk_S_tCombine : List (Ty × Bool) := [((.int .i64), false), (.bool, false)]
def h_S_tCombine : Hints := { loops := [(0, { items := [.slot 12 (.own (.int .i64) true), .slot 13 (.own (.int .i64) true), .slot 31 (.data (.int .i64) [])], kill := [0, 1, 2, 5, 7, 8, 9, 10, 11, 14, 15, 16, 17, 18, 19, 20, 21, 22, 23, 24, 25, 26, 27, 28, 32, 33, 34, 35, 36, 37, 38, 39, 40, 41, 42, 43, 44, 45, 46, 47, 48, 49, 50, 51, 52, 53, 54, 55, 56, 57, 58, 59, 60, 61, 62, 63, 64, 65] })] }
noncomputable def M_S_tCombine (x : ((Int × (Int × Int)) × ((List Int) × ((Int × Int) × (List (Int × (Int × ((List Int) × ((List Int) × (List Int)))))))))) : (Option (Int × Bool)) :=
  (bindO (M_S_tGood ((x.1.1, (x.1.2.1, x.1.2.2)), (x.2.1, ((x.2.2.1.1, x.2.2.1.2), x.2.2.2)))) (fun (a0 : (List Int)) => (cond (decide ((((List.length a0) : Nat) : Int) < (((List.length x.2.1) : Nat) : Int))) (some ((0 : Int), false)) (bindO (sliceNH (((List.length x.2.1) : Nat) : Int) (List.length a0)) (fun (a1 : (Nat × Nat)) => (loopO (fun (again2 : (((List Int) × ((List Int) × Int)) → (Option (Int × Bool)))) => (fun (s3 : ((List Int) × ((List Int) × Int))) => (cond (decide (s3.2.2 < ((a1.2 : Nat) : Int))) (bindO (getI (List.take a1.2 a0) s3.2.2) (fun (a4 : Int) => (bindO (getI x.2.2.2 a4) (fun (a5 : (Int × (Int × ((List Int) × ((List Int) × (List Int)))))) => (bindO (guardO (lenOk ((List.length s3.1) + (List.length (a5.1 :: ([] : List Int)))))) (fun (a6 : Unit) => (bindO (some (s3.1 ++ (a5.1 :: ([] : List Int)))) (fun (a7 : (List Int)) => (bindO (getI x.2.2.2 a4) (fun (a8 : (Int × (Int × ((List Int) × ((List Int) × (List Int)))))) => (bindO (guardO (lenOk ((List.length s3.2.1) + (List.length (a8.2.1 :: ([] : List Int)))))) (fun (a9 : Unit) => (bindO (some (s3.2.1 ++ (a8.2.1 :: ([] : List Int)))) (fun (a10 : (List Int)) => (bindO (some (IntKind.wrap .i64 (s3.2.2 + (1 : Int)))) (fun (a11 : Int) => (again2 (a7, (a10, a11))))))))))))))))))) (bindO (M_S_yLagrange (x.1.2.1, (s3.1, (0 : Int)))) (fun (a12 : (List Int)) => (bindO (M_S_gProd ((x.1.1, (x.1.2.1, x.1.2.2)), (s3.2.1, a12))) (fun (a13 : Int) => (bindO (M_S_gInv ((x.1.1, (x.1.2.1, x.1.2.2)), a13)) (fun (a14 : Int) => (bindO (M_S_gMul ((x.1.1, (x.1.2.1, x.1.2.2)), (x.2.2.1.2 :: (a14 :: ([] : List Int))))) (fun (a15 : Int) => (some (a15, true))))))))))))) (([] : List Int), (([] : List Int), (0 : Int)))))))))

noncomputable def c_S_tCombine : Con0 := ⟨pk_S_tCombine, rk_S_tCombine, M_S_tCombine⟩

set_option maxRecDepth 100000 in
theorem eq_S_tCombine (x : In pk_S_tCombine) : semF (mkE [(39, c_S_tGood), (41, c_S_yLagrange), (40, c_S_gProd), (38, c_S_gInv), (37, c_S_gMul)]) h_S_tCombine (info Tryz.f22) pk_S_tCombine rk_S_tCombine x = M_S_tCombine x := by kernel_rfl

set_option maxRecDepth 100000 in
theorem m_S_tCombine : ConOK Tryz.prog 22 c_S_tCombine := fn_ok (tyOK _) (E := mkE [(39, c_S_tGood), (41, c_S_yLagrange), (40, c_S_gProd), (38, c_S_gInv), (37, c_S_gMul)]) (consOK_cons m_S_tGood (consOK_cons m_S_yLagrange (consOK_cons m_S_gProd (consOK_cons m_S_gInv (consOK_cons m_S_gMul (consOK_nil rfl)))))) Tryz.func22 (h := h_S_tCombine) (by kernel_rfl) eq_S_tCombine

/-- S_TestEqual -/
def pk_S_TestEqual : List PK := [.data (.cons (.int .i64) (.cons (.int .i64) (.one (.int .i64)))), .data (.sl (.int .i64)), .data (.cons (.int .i64) (.one (.int .i64))), .data (.cons (.int .i64) (.one (.int .i64))), .data (.sl (.cons (.int .i64) (.cons (.cons (.int .i64) (.one (.int .i64))) (.one (.cons (.sl (.int .i64)) (.cons (.sl (.int .i64)) (.one (.sl (.int .i64))))))))), .data (.sl (.cons (.int .i64) (.cons (.int .i64) (.one (.cons (.sl (.int .i64)) (.cons (.sl (.int .i64)) (.one (.sl (.int .i64)))))))))]
def rk_S_TestEqual : List (Ty × Bool) := [(.bool, false), (.bool, false)]
def h_S_TestEqual : Hints := { loops := [] }
noncomputable def M_S_TestEqual (x : ((Int × (Int × Int)) × ((List Int) × ((Int × Int) × ((Int × Int) × ((List (Int × ((Int × Int) × ((List Int) × ((List Int) × (List Int)))))) × (List (Int × (Int × ((List Int) × ((List Int) × (List Int)))))))))))) : (Option (Bool × Bool)) :=
  (bindO (M_S_tInput ((x.1.1, (x.1.2.1, x.1.2.2)), (x.2.1, ((x.2.2.1.1, x.2.2.1.2), x.2.2.2.2.2)))) (fun (a0 : Bool) => (cond (not a0) (some (false, false)) (bindO (M_S_eGood ((x.1.1, (x.1.2.1, x.1.2.2)), ((x.2.2.2.1.1, x.2.2.2.1.2) :: ([] : List (Int × Int))))) (fun (a1 : Bool) => (cond (not a1) (some (false, false)) (bindO (M_S_qQuo ((x.1.1, (x.1.2.1, x.1.2.2)), ((x.2.2.1.1, x.2.2.1.2), (x.2.2.2.1.1, x.2.2.2.1.2)))) (fun (a2 : (Int × Int)) => (bindO (M_S_CombineBlinds ((x.1.1, (x.1.2.1, x.1.2.2)), ((a2.1, a2.2), x.2.2.2.2.1))) (fun (a3 : ((Int × Int) × ((List Int) × Bool))) => (cond (not a3.2.2) (some (false, false)) (bindO (M_S_tCombine ((x.1.1, (x.1.2.1, x.1.2.2)), (x.2.1, ((a3.1.1, a3.1.2), x.2.2.2.2.2)))) (fun (a4 : (Int × Bool)) => (cond a4.2 (some ((a4.1 == (1 : Int)), a4.2)) (some (false, a4.2))))))))))))))))

noncomputable def c_S_TestEqual : Con0 := ⟨pk_S_TestEqual, rk_S_TestEqual, M_S_TestEqual⟩

set_option maxRecDepth 100000 in
theorem eq_S_TestEqual (x : In pk_S_TestEqual) : semF (mkE [(18, c_S_tInput), (19, c_S_eGood), (21, c_S_qQuo), (20, c_S_CombineBlinds), (22, c_S_tCombine)]) h_S_TestEqual (info Tryz.f6) pk_S_TestEqual rk_S_TestEqual x = M_S_TestEqual x := by kernel_rfl

set_option maxRecDepth 100000 in
theorem m_S_TestEqual : ConOK Tryz.prog 6 c_S_TestEqual := fn_ok (tyOK _) (E := mkE [(18, c_S_tInput), (19, c_S_eGood), (21, c_S_qQuo), (20, c_S_CombineBlinds), (22, c_S_tCombine)]) (consOK_cons m_S_tInput (consOK_cons m_S_eGood (consOK_cons m_S_qQuo (consOK_cons m_S_CombineBlinds (consOK_cons m_S_tCombine (consOK_nil rfl)))))) Tryz.func6 (h := h_S_TestEqual) (by kernel_rfl) eq_S_TestEqual

/-- I_within -/
def pk_I_within : List PK := [.data (.int .i64), .data (.int .i64), .data (.int .i64)]
def rk_I_within : List (Ty × Bool) := [(.bool, false)]
def h_I_within : Hints := { loops := [] }
noncomputable def M_I_within (x : (Int × (Int × Int))) : (Option Bool) :=
  (cond (decide (x.1 ≥ x.2.1)) (some (decide (x.1 ≤ x.2.2))) (some false))

noncomputable def c_I_within : Con0 := ⟨pk_I_within, rk_I_within, M_I_within⟩

set_option maxRecDepth 100000 in
theorem eq_I_within (x : In pk_I_within) : semF (mkE []) h_I_within (info Tryz.f67) pk_I_within rk_I_within x = M_I_within x := by kernel_rfl

set_option maxRecDepth 100000 in
theorem m_I_within : ConOK Tryz.prog 67 c_I_within := fn_ok (tyOK _) (E := mkE []) (consOK_nil rfl) Tryz.func67 (h := h_I_within) (by kernel_rfl) eq_I_within

/-- I_isModulus -/
def pk_I_isModulus : List PK := [.data (.int .i64)]
def rk_I_isModulus : List (Ty × Bool) := [(.bool, false)]
def h_I_isModulus : Hints := { loops := [] }
noncomputable def M_I_isModulus (x : Int) : (Option Bool) :=
  (bindO (M_I_within (x, ((2 : Int), (2000000000 : Int)))) (fun (a0 : Bool) => (some a0)))

noncomputable def c_I_isModulus : Con0 := ⟨pk_I_isModulus, rk_I_isModulus, M_I_isModulus⟩

set_option maxRecDepth 100000 in
theorem eq_I_isModulus (x : In pk_I_isModulus) : semF (mkE [(67, c_I_within)]) h_I_isModulus (info Tryz.f84) pk_I_isModulus rk_I_isModulus x = M_I_isModulus x := by kernel_rfl

set_option maxRecDepth 100000 in
theorem m_I_isModulus : ConOK Tryz.prog 84 c_I_isModulus := fn_ok (tyOK _) (E := mkE [(67, c_I_within)]) (consOK_cons m_I_within (consOK_nil rfl)) Tryz.func84 (h := h_I_isModulus) (by kernel_rfl) eq_I_isModulus

/-- I_isPrime -/
def pk_I_isPrime : List PK := [.data (.int .i64)]
def rk_I_isPrime : List (Ty × Bool) := [(.bool, false)]
def h_I_isPrime : Hints := { loops := [(0, { items := [.slot 3 (.data (.int .i64) [])], kill := [1, 2, 4, 5, 6, 7, 8, 9, 10, 11, 12, 13, 14, 15, 16, 17, 18, 19, 20, 21, 22, 23, 24, 25, 26] })] }
noncomputable def M_I_isPrime (x : Int) : (Option Bool) :=
  (bindO (M_I_isModulus x) (fun (a0 : Bool) => (cond (not a0) (some false) (bindO (guardO ((2 : Int) != (0 : Int))) (fun (a1 : Unit) => (bindO (some (Int.tmod x (2 : Int))) (fun (a2 : Int) => (cond (a2 == (0 : Int)) (cond (x != (2 : Int)) (some false) (loopO (fun (again3 : (Int → (Option Bool))) => (fun (s4 : Int) => (bindO (some (IntKind.wrap .i64 (s4 * s4))) (fun (a5 : Int) => (cond (decide (a5 ≤ x)) (bindO (guardO (s4 != (0 : Int))) (fun (a6 : Unit) => (bindO (some (Int.tmod x s4)) (fun (a7 : Int) => (cond (a7 == (0 : Int)) (some false) (bindO (some (IntKind.wrap .i64 (s4 + (2 : Int)))) (fun (a8 : Int) => (again3 a8)))))))) (some true)))))) (3 : Int))) (loopO (fun (again9 : (Int → (Option Bool))) => (fun (s10 : Int) => (bindO (some (IntKind.wrap .i64 (s10 * s10))) (fun (a11 : Int) => (cond (decide (a11 ≤ x)) (bindO (guardO (s10 != (0 : Int))) (fun (a12 : Unit) => (bindO (some (Int.tmod x s10)) (fun (a13 : Int) => (cond (a13 == (0 : Int)) (some false) (bindO (some (IntKind.wrap .i64 (s10 + (2 : Int)))) (fun (a14 : Int) => (again9 a14)))))))) (some true)))))) (3 : Int))))))))))

noncomputable def c_I_isPrime : Con0 := ⟨pk_I_isPrime, rk_I_isPrime, M_I_isPrime⟩

set_option maxRecDepth 100000 in
theorem eq_I_isPrime (x : In pk_I_isPrime) : semF (mkE [(84, c_I_isModulus)]) h_I_isPrime (info Tryz.f68) pk_I_isPrime rk_I_isPrime x = M_I_isPrime x := by kernel_rfl

set_option maxRecDepth 100000 in
theorem m_I_isPrime : ConOK Tryz.prog 68 c_I_isPrime := fn_ok (tyOK _) (E := mkE [(84, c_I_isModulus)]) (consOK_cons m_I_isModulus (consOK_nil rfl)) Tryz.func68 (h := h_I_isPrime) (by kernel_rfl) eq_I_isPrime

/-- I_power -/
def pk_I_power : List PK := [.data (.int .i64), .data (.int .i64), .data (.int .i64)]
def rk_I_power : List (Ty × Bool) := [((.int .i64), false)]
def h_I_power : Hints := { loops := [(0, { items := [.slot 0 (.data (.int .i64) []), .slot 1 (.data (.int .i64) []), .slot 7 (.data (.int .i64) [])], kill := [3, 4, 5, 6, 8, 9, 10, 11, 12, 13, 14, 15, 16, 17, 18, 19, 20, 21, 22, 23, 24, 25, 26, 27] })] }
noncomputable def M_I_power (x : (Int × (Int × Int))) : (Option Int) :=
  (bindO (guardO (x.2.2 != (0 : Int))) (fun (a0 : Unit) => (bindO (some (Int.tmod (1 : Int) x.2.2)) (fun (a1 : Int) => (loopO (fun (again2 : ((Int × (Int × Int)) → (Option Int))) => (fun (s3 : (Int × (Int × Int))) => (cond (decide (s3.2.1 > (0 : Int))) (bindO (some (bits .and .i64 s3.2.1 (1 : Int))) (fun (a4 : Int) => (cond (a4 == (1 : Int)) (bindO (some (IntKind.wrap .i64 (s3.2.2 * s3.1))) (fun (a5 : Int) => (bindO (guardO (x.2.2 != (0 : Int))) (fun (a6 : Unit) => (bindO (some (Int.tmod a5 x.2.2)) (fun (a7 : Int) => (bindO (some (IntKind.wrap .i64 (s3.1 * s3.1))) (fun (a8 : Int) => (bindO (guardO (x.2.2 != (0 : Int))) (fun (a9 : Unit) => (bindO (some (Int.tmod a8 x.2.2)) (fun (a10 : Int) => (bindO (guardO (decide ((0 : Int) ≤ (1 : Int)))) (fun (a11 : Unit) => (bindO (some (shr .i64 s3.2.1 (1 : Int))) (fun (a12 : Int) => (again2 (a10, (a12, a7))))))))))))))))))) (bindO (some (IntKind.wrap .i64 (s3.1 * s3.1))) (fun (a13 : Int) => (bindO (guardO (x.2.2 != (0 : Int))) (fun (a14 : Unit) => (bindO (some (Int.tmod a13 x.2.2)) (fun (a15 : Int) => (bindO (guardO (decide ((0 : Int) ≤ (1 : Int)))) (fun (a16 : Unit) => (bindO (some (shr .i64 s3.2.1 (1 : Int))) (fun (a17 : Int) => (again2 (a15, (a17, s3.2.2)))))))))))))))) (some s3.2.2)))) (x.1, (x.2.1, a1)))))))

noncomputable def c_I_power : Con0 := ⟨pk_I_power, rk_I_power, M_I_power⟩

set_option maxRecDepth 100000 in
theorem eq_I_power (x : In pk_I_power) : semF (mkE []) h_I_power (info Tryz.f69) pk_I_power rk_I_power x = M_I_power x := by kernel_rfl

set_option maxRecDepth 100000 in
theorem m_I_power : ConOK Tryz.prog 69 c_I_power := fn_ok (tyOK _) (E := mkE []) (consOK_nil rfl) Tryz.func69 (h := h_I_power) (by kernel_rfl) eq_I_power

/-- I_IsValidGroup -/
def pk_I_IsValidGroup : List PK := [.data (.cons (.int .i64) (.cons (.int .i64) (.one (.int .i64))))]
def rk_I_IsValidGroup : List (Ty × Bool) := [(.bool, false)]
def h_I_IsValidGroup : Hints := { loops := [] }
noncomputable def M_I_IsValidGroup (x : (Int × (Int × Int))) : (Option Bool) :=
  (bindO (M_I_within (x.1, ((3 : Int), (2000000000 : Int)))) (fun (a0 : Bool) => (cond a0 (bindO (some (IntKind.wrap .i64 (x.1 - (1 : Int)))) (fun (a1 : Int) => (bindO (M_I_within (x.2.1, ((2 : Int), a1))) (fun (a2 : Bool) => (cond a2 (bindO (some (IntKind.wrap .i64 (x.1 - (1 : Int)))) (fun (a3 : Int) => (bindO (guardO (x.2.1 != (0 : Int))) (fun (a4 : Unit) => (bindO (some (Int.tmod a3 x.2.1)) (fun (a5 : Int) => (cond (a5 == (0 : Int)) (bindO (some (IntKind.wrap .i64 (x.1 - (1 : Int)))) (fun (a6 : Int) => (bindO (M_I_within (x.2.2, ((2 : Int), a6))) (fun (a7 : Bool) => (cond a7 (bindO (M_I_isPrime x.1) (fun (a8 : Bool) => (cond a8 (bindO (M_I_isPrime x.2.1) (fun (a9 : Bool) => (cond a9 (bindO (M_I_power (x.2.2, (x.2.1, x.1))) (fun (a10 : Int) => (some (a10 == (1 : Int))))) (some false)))) (some false)))) (some false)))))) (some false)))))))) (some false)))))) (some false))))

noncomputable def c_I_IsValidGroup : Con0 := ⟨pk_I_IsValidGroup, rk_I_IsValidGroup, M_I_IsValidGroup⟩

set_option maxRecDepth 100000 in
theorem eq_I_IsValidGroup (x : In pk_I_IsValidGroup) : semF (mkE [(67, c_I_within), (68, c_I_isPrime), (69, c_I_power)]) h_I_IsValidGroup (info Tryz.f43) pk_I_IsValidGroup rk_I_IsValidGroup x = M_I_IsValidGroup x := by kernel_rfl

set_option maxRecDepth 100000 in
theorem m_I_IsValidGroup : ConOK Tryz.prog 43 c_I_IsValidGroup := fn_ok (tyOK _) (E := mkE [(67, c_I_within), (68, c_I_isPrime), (69, c_I_power)]) (consOK_cons m_I_within (consOK_cons m_I_isPrime (consOK_cons m_I_power (consOK_nil rfl)))) Tryz.func43 (h := h_I_IsValidGroup) (by kernel_rfl) eq_I_IsValidGroup

/-- I_Group_has -/
def pk_I_Group_has : List PK := [.data (.cons (.int .i64) (.cons (.int .i64) (.one (.int .i64)))), .data (.int .i64)]
def rk_I_Group_has : List (Ty × Bool) := [(.bool, false)]
def h_I_Group_has : Hints := { loops := [] }
noncomputable def M_I_Group_has (x : ((Int × (Int × Int)) × Int)) : (Option Bool) :=
  (bindO (some (IntKind.wrap .i64 (x.1.1 - (1 : Int)))) (fun (a0 : Int) => (bindO (M_I_within (x.2, ((1 : Int), a0))) (fun (a1 : Bool) => (cond a1 (bindO (M_I_power (x.2, (x.1.2.1, x.1.1))) (fun (a2 : Int) => (some (a2 == (1 : Int))))) (some false))))))

noncomputable def c_I_Group_has : Con0 := ⟨pk_I_Group_has, rk_I_Group_has, M_I_Group_has⟩

set_option maxRecDepth 100000 in
theorem eq_I_Group_has (x : In pk_I_Group_has) : semF (mkE [(67, c_I_within), (69, c_I_power)]) h_I_Group_has (info Tryz.f70) pk_I_Group_has rk_I_Group_has x = M_I_Group_has x := by kernel_rfl

set_option maxRecDepth 100000 in
theorem m_I_Group_has : ConOK Tryz.prog 70 c_I_Group_has := fn_ok (tyOK _) (E := mkE [(67, c_I_within), (69, c_I_power)]) (consOK_cons m_I_within (consOK_cons m_I_power (consOK_nil rfl))) Tryz.func70 (h := h_I_Group_has) (by kernel_rfl) eq_I_Group_has

/-- I_Group_hasCipher -/
def pk_I_Group_hasCipher : List PK := [.data (.cons (.int .i64) (.cons (.int .i64) (.one (.int .i64)))), .data (.cons (.int .i64) (.one (.int .i64)))]
def rk_I_Group_hasCipher : List (Ty × Bool) := [(.bool, false)]
def h_I_Group_hasCipher : Hints := { loops := [] }
noncomputable def M_I_Group_hasCipher (x : ((Int × (Int × Int)) × (Int × Int))) : (Option Bool) :=
  (bindO (M_I_Group_has ((x.1.1, (x.1.2.1, x.1.2.2)), x.2.1)) (fun (a0 : Bool) => (cond a0 (bindO (M_I_Group_has ((x.1.1, (x.1.2.1, x.1.2.2)), x.2.2)) (fun (a1 : Bool) => (some a1))) (some false))))

noncomputable def c_I_Group_hasCipher : Con0 := ⟨pk_I_Group_hasCipher, rk_I_Group_hasCipher, M_I_Group_hasCipher⟩

set_option maxRecDepth 100000 in
theorem eq_I_Group_hasCipher (x : In pk_I_Group_hasCipher) : semF (mkE [(70, c_I_Group_has)]) h_I_Group_hasCipher (info Tryz.f44) pk_I_Group_hasCipher rk_I_Group_hasCipher x = M_I_Group_hasCipher x := by kernel_rfl

set_option maxRecDepth 100000 in
theorem m_I_Group_hasCipher : ConOK Tryz.prog 44 c_I_Group_hasCipher := fn_ok (tyOK _) (E := mkE [(70, c_I_Group_has)]) (consOK_cons m_I_Group_has (consOK_nil rfl)) Tryz.func44 (h := h_I_Group_hasCipher) (by kernel_rfl) eq_I_Group_hasCipher

/-- I_mod -/
def pk_I_mod : List PK := [.data (.int .i64), .data (.int .i64)]
def rk_I_mod : List (Ty × Bool) := [((.int .i64), false)]
def h_I_mod : Hints := { loops := [] }
noncomputable def M_I_mod (x : (Int × Int)) : (Option Int) :=
  (bindO (guardO (x.2 != (0 : Int))) (fun (a0 : Unit) => (bindO (some (Int.tmod x.1 x.2)) (fun (a1 : Int) => (bindO (some (IntKind.wrap .i64 (a1 + x.2))) (fun (a2 : Int) => (bindO (guardO (x.2 != (0 : Int))) (fun (a3 : Unit) => (bindO (some (Int.tmod a2 x.2)) (fun (a4 : Int) => (some a4)))))))))))

noncomputable def c_I_mod : Con0 := ⟨pk_I_mod, rk_I_mod, M_I_mod⟩

set_option maxRecDepth 100000 in
theorem eq_I_mod (x : In pk_I_mod) : semF (mkE []) h_I_mod (info Tryz.f89) pk_I_mod rk_I_mod x = M_I_mod x := by kernel_rfl

set_option maxRecDepth 100000 in
theorem m_I_mod : ConOK Tryz.prog 89 c_I_mod := fn_ok (tyOK _) (E := mkE []) (consOK_nil rfl) Tryz.func89 (h := h_I_mod) (by kernel_rfl) eq_I_mod

/-- I_Group_pow -/
def pk_I_Group_pow : List PK := [.data (.cons (.int .i64) (.cons (.int .i64) (.one (.int .i64)))), .data (.int .i64), .data (.int .i64)]
def rk_I_Group_pow : List (Ty × Bool) := [((.int .i64), false)]
def h_I_Group_pow : Hints := { loops := [] }
noncomputable def M_I_Group_pow (x : ((Int × (Int × Int)) × (Int × Int))) : (Option Int) :=
  (bindO (M_I_mod (x.2.2, x.1.2.1)) (fun (a0 : Int) => (bindO (M_I_power (x.2.1, (a0, x.1.1))) (fun (a1 : Int) => (some a1)))))

noncomputable def c_I_Group_pow : Con0 := ⟨pk_I_Group_pow, rk_I_Group_pow, M_I_Group_pow⟩

set_option maxRecDepth 100000 in
theorem eq_I_Group_pow (x : In pk_I_Group_pow) : semF (mkE [(89, c_I_mod), (69, c_I_power)]) h_I_Group_pow (info Tryz.f78) pk_I_Group_pow rk_I_Group_pow x = M_I_Group_pow x := by kernel_rfl

set_option maxRecDepth 100000 in
theorem m_I_Group_pow : ConOK Tryz.prog 78 c_I_Group_pow := fn_ok (tyOK _) (E := mkE [(89, c_I_mod), (69, c_I_power)]) (consOK_cons m_I_mod (consOK_cons m_I_power (consOK_nil rfl))) Tryz.func78 (h := h_I_Group_pow) (by kernel_rfl) eq_I_Group_pow

/-- I_Group_inv -/
def pk_I_Group_inv : List PK := [.data (.cons (.int .i64) (.cons (.int .i64) (.one (.int .i64)))), .data (.int .i64)]
def rk_I_Group_inv : List (Ty × Bool) := [((.int .i64), false)]
def h_I_Group_inv : Hints := { loops := [] }
noncomputable def M_I_Group_inv (x : ((Int × (Int × Int)) × Int)) : (Option Int) :=
  (bindO (M_I_Group_pow ((x.1.1, (x.1.2.1, x.1.2.2)), (x.2, (- (1 : Int))))) (fun (a0 : Int) => (some a0)))

noncomputable def c_I_Group_inv : Con0 := ⟨pk_I_Group_inv, rk_I_Group_inv, M_I_Group_inv⟩

set_option maxRecDepth 100000 in
theorem eq_I_Group_inv (x : In pk_I_Group_inv) : semF (mkE [(78, c_I_Group_pow)]) h_I_Group_inv (info Tryz.f51) pk_I_Group_inv rk_I_Group_inv x = M_I_Group_inv x := by kernel_rfl

set_option maxRecDepth 100000 in
theorem m_I_Group_inv : ConOK Tryz.prog 51 c_I_Group_inv := fn_ok (tyOK _) (E := mkE [(78, c_I_Group_pow)]) (consOK_cons m_I_Group_pow (consOK_nil rfl)) Tryz.func51 (h := h_I_Group_inv) (by kernel_rfl) eq_I_Group_inv

/-- I_Group_mul -/
def pk_I_Group_mul : List PK := [.data (.cons (.int .i64) (.cons (.int .i64) (.one (.int .i64)))), .data (.sl (.int .i64))]
def rk_I_Group_mul : List (Ty × Bool) := [((.int .i64), false)]
def h_I_Group_mul : Hints := { loops := [(0, { items := [.slot 5 (.data (.int .i64) []), .slot 10 (.data (.int .i64) [])], kill := [0, 1, 3, 4, 6, 7, 11, 12, 13, 14, 15, 16, 17, 18, 19, 20, 21] })] }
noncomputable def M_I_Group_mul (x : ((Int × (Int × Int)) × (List Int))) : (Option Int) :=
  (loopO (fun (again0 : ((Int × Int) → (Option Int))) => (fun (s1 : (Int × Int)) => (cond (decide (s1.2 < (((List.length x.2) : Nat) : Int))) (bindO (getI x.2 s1.2) (fun (a2 : Int) => (bindO (some (IntKind.wrap .i64 (s1.1 * a2))) (fun (a3 : Int) => (bindO (guardO (x.1.1 != (0 : Int))) (fun (a4 : Unit) => (bindO (some (Int.tmod a3 x.1.1)) (fun (a5 : Int) => (bindO (some (IntKind.wrap .i64 (s1.2 + (1 : Int)))) (fun (a6 : Int) => (again0 (a5, a6)))))))))))) (some s1.1)))) ((1 : Int), (0 : Int)))

noncomputable def c_I_Group_mul : Con0 := ⟨pk_I_Group_mul, rk_I_Group_mul, M_I_Group_mul⟩

set_option maxRecDepth 100000 in
theorem eq_I_Group_mul (x : In pk_I_Group_mul) : semF (mkE []) h_I_Group_mul (info Tryz.f50) pk_I_Group_mul rk_I_Group_mul x = M_I_Group_mul x := by kernel_rfl

set_option maxRecDepth 100000 in
theorem m_I_Group_mul : ConOK Tryz.prog 50 c_I_Group_mul := fn_ok (tyOK _) (E := mkE []) (consOK_nil rfl) Tryz.func50 (h := h_I_Group_mul) (by kernel_rfl) eq_I_Group_mul

/-- I_Group_over -/
def pk_I_Group_over : List PK := [.data (.cons (.int .i64) (.cons (.int .i64) (.one (.int .i64)))), .data (.int .i64), .data (.int .i64)]
def rk_I_Group_over : List (Ty × Bool) := [((.int .i64), false)]
def h_I_Group_over : Hints := { loops := [] }
noncomputable def M_I_Group_over (x : ((Int × (Int × Int)) × (Int × Int))) : (Option Int) :=
  (bindO (M_I_Group_inv ((x.1.1, (x.1.2.1, x.1.2.2)), x.2.2)) (fun (a0 : Int) => (bindO (M_I_Group_mul ((x.1.1, (x.1.2.1, x.1.2.2)), (x.2.1 :: (a0 :: ([] : List Int))))) (fun (a1 : Int) => (some a1)))))

noncomputable def c_I_Group_over : Con0 := ⟨pk_I_Group_over, rk_I_Group_over, M_I_Group_over⟩

set_option maxRecDepth 100000 in
theorem eq_I_Group_over (x : In pk_I_Group_over) : semF (mkE [(51, c_I_Group_inv), (50, c_I_Group_mul)]) h_I_Group_over (info Tryz.f71) pk_I_Group_over rk_I_Group_over x = M_I_Group_over x := by kernel_rfl

set_option maxRecDepth 100000 in
theorem m_I_Group_over : ConOK Tryz.prog 71 c_I_Group_over := fn_ok (tyOK _) (E := mkE [(51, c_I_Group_inv), (50, c_I_Group_mul)]) (consOK_cons m_I_Group_inv (consOK_cons m_I_Group_mul (consOK_nil rfl))) Tryz.func71 (h := h_I_Group_over) (by kernel_rfl) eq_I_Group_over

/-- I_Group_quotient -/
def pk_I_Group_quotient : List PK := [.data (.cons (.int .i64) (.cons (.int .i64) (.one (.int .i64)))), .data (.cons (.int .i64) (.one (.int .i64))), .data (.cons (.int .i64) (.one (.int .i64)))]
def rk_I_Group_quotient : List (Ty × Bool) := [((.cons (.int .i64) (.one (.int .i64))), false)]
def h_I_Group_quotient : Hints := { loops := [] }
noncomputable def M_I_Group_quotient (x : ((Int × (Int × Int)) × ((Int × Int) × (Int × Int)))) : (Option (Int × Int)) :=
  (bindO (M_I_Group_over ((x.1.1, (x.1.2.1, x.1.2.2)), (x.2.1.1, x.2.2.1))) (fun (a0 : Int) => (bindO (M_I_Group_over ((x.1.1, (x.1.2.1, x.1.2.2)), (x.2.1.2, x.2.2.2))) (fun (a1 : Int) => (some (a0, a1))))))

noncomputable def c_I_Group_quotient : Con0 := ⟨pk_I_Group_quotient, rk_I_Group_quotient, M_I_Group_quotient⟩

set_option maxRecDepth 100000 in
theorem eq_I_Group_quotient (x : In pk_I_Group_quotient) : semF (mkE [(71, c_I_Group_over)]) h_I_Group_quotient (info Tryz.f45) pk_I_Group_quotient rk_I_Group_quotient x = M_I_Group_quotient x := by kernel_rfl

set_option maxRecDepth 100000 in
theorem m_I_Group_quotient : ConOK Tryz.prog 45 c_I_Group_quotient := fn_ok (tyOK _) (E := mkE [(71, c_I_Group_over)]) (consOK_cons m_I_Group_over (consOK_nil rfl)) Tryz.func45 (h := h_I_Group_quotient) (by kernel_rfl) eq_I_Group_quotient

/-- I_QuotientOf -/
def pk_I_QuotientOf : List PK := [.data (.cons (.int .i64) (.cons (.int .i64) (.one (.int .i64)))), .data (.cons (.int .i64) (.one (.int .i64))), .data (.cons (.int .i64) (.one (.int .i64)))]
def rk_I_QuotientOf : List (Ty × Bool) := [((.cons (.int .i64) (.one (.int .i64))), false), (.bool, false)]
def h_I_QuotientOf : Hints := { loops := [] }
noncomputable def M_I_QuotientOf (x : ((Int × (Int × Int)) × ((Int × Int) × (Int × Int)))) : (Option ((Int × Int) × Bool)) :=
  (bindO (M_I_IsValidGroup (x.1.1, (x.1.2.1, x.1.2.2))) (fun (a0 : Bool) => (cond (not a0) (some (((0 : Int), (0 : Int)), false)) (bindO (M_I_Group_hasCipher ((x.1.1, (x.1.2.1, x.1.2.2)), (x.2.1.1, x.2.1.2))) (fun (a1 : Bool) => (cond (not a1) (some (((0 : Int), (0 : Int)), false)) (bindO (M_I_Group_hasCipher ((x.1.1, (x.1.2.1, x.1.2.2)), (x.2.2.1, x.2.2.2))) (fun (a2 : Bool) => (cond (not a2) (some (((0 : Int), (0 : Int)), false)) (bindO (M_I_Group_quotient ((x.1.1, (x.1.2.1, x.1.2.2)), ((x.2.1.1, x.2.1.2), (x.2.2.1, x.2.2.2)))) (fun (a3 : (Int × Int)) => (some ((a3.1, a3.2), true)))))))))))))

noncomputable def c_I_QuotientOf : Con0 := ⟨pk_I_QuotientOf, rk_I_QuotientOf, M_I_QuotientOf⟩

set_option maxRecDepth 100000 in
theorem eq_I_QuotientOf (x : In pk_I_QuotientOf) : semF (mkE [(43, c_I_IsValidGroup), (44, c_I_Group_hasCipher), (45, c_I_Group_quotient)]) h_I_QuotientOf (info Tryz.f25) pk_I_QuotientOf rk_I_QuotientOf x = M_I_QuotientOf x := by kernel_rfl

set_option maxRecDepth 100000 in
theorem m_I_QuotientOf : ConOK Tryz.prog 25 c_I_QuotientOf := fn_ok (tyOK _) (E := mkE [(43, c_I_IsValidGroup), (44, c_I_Group_hasCipher), (45, c_I_Group_quotient)]) (consOK_cons m_I_IsValidGroup (consOK_cons m_I_Group_hasCipher (consOK_cons m_I_Group_quotient (consOK_nil rfl)))) Tryz.func25 (h := h_I_QuotientOf) (by kernel_rfl) eq_I_QuotientOf

/-- I_isSharing -/
def pk_I_isSharing : List PK := [.data (.cons (.int .i64) (.cons (.int .i64) (.one (.int .i64))))]
def rk_I_isSharing : List (Ty × Bool) := [(.bool, false)]
def h_I_isSharing : Hints := { loops := [] }
noncomputable def M_I_isSharing (x : (Int × (Int × Int))) : (Option Bool) :=
  (cond (decide (x.2.1 > (7 : Int))) (bindO (M_I_IsValidGroup (x.1, (x.2.1, x.2.2))) (fun (a0 : Bool) => (some a0))) (some false))

noncomputable def c_I_isSharing : Con0 := ⟨pk_I_isSharing, rk_I_isSharing, M_I_isSharing⟩

set_option maxRecDepth 100000 in
theorem eq_I_isSharing (x : In pk_I_isSharing) : semF (mkE [(43, c_I_IsValidGroup)]) h_I_isSharing (info Tryz.f26) pk_I_isSharing rk_I_isSharing x = M_I_isSharing x := by kernel_rfl

set_option maxRecDepth 100000 in
theorem m_I_isSharing : ConOK Tryz.prog 26 c_I_isSharing := fn_ok (tyOK _) (E := mkE [(43, c_I_IsValidGroup)]) (consOK_cons m_I_IsValidGroup (consOK_nil rfl)) Tryz.func26 (h := h_I_isSharing) (by kernel_rfl) eq_I_isSharing

/-- slices_Index_sint_int -/
def pk_slices_Index_sint_int : List PK := [.data (.sl (.int .i64)), .data (.int .i64)]
def rk_slices_Index_sint_int : List (Ty × Bool) := [((.int .i64), false)]
def h_slices_Index_sint_int : Hints := { loops := [(0, { items := [.slot 8 (.data (.int .i64) [])], kill := [2, 3, 4, 5, 6, 9, 10, 11, 12, 13, 14, 15, 16, 17, 18] })] }
noncomputable def M_slices_Index_sint_int (x : ((List Int) × Int)) : (Option Int) :=
  (loopO (fun (again0 : (Int → (Option Int))) => (fun (s1 : Int) => (cond (decide (s1 < (((List.length x.1) : Nat) : Int))) (bindO (getI x.1 s1) (fun (a2 : Int) => (cond (x.2 == a2) (some s1) (bindO (some (IntKind.wrap .i64 (s1 + (1 : Int)))) (fun (a3 : Int) => (again0 a3)))))) (some (- (1 : Int)))))) (0 : Int))

noncomputable def c_slices_Index_sint_int : Con0 := ⟨pk_slices_Index_sint_int, rk_slices_Index_sint_int, M_slices_Index_sint_int⟩

set_option maxRecDepth 100000 in
theorem eq_slices_Index_sint_int (x : In pk_slices_Index_sint_int) : semF (mkE []) h_slices_Index_sint_int (info Tryz.f72) pk_slices_Index_sint_int rk_slices_Index_sint_int x = M_slices_Index_sint_int x := by kernel_rfl

set_option maxRecDepth 100000 in
theorem m_slices_Index_sint_int : ConOK Tryz.prog 72 c_slices_Index_sint_int := fn_ok (tyOK _) (E := mkE []) (consOK_nil rfl) Tryz.func72 (h := h_slices_Index_sint_int) (by kernel_rfl) eq_slices_Index_sint_int

/-- slices_Contains_sint_int -/
def pk_slices_Contains_sint_int : List PK := [.data (.sl (.int .i64)), .data (.int .i64)]
def rk_slices_Contains_sint_int : List (Ty × Bool) := [(.bool, false)]
def h_slices_Contains_sint_int : Hints := { loops := [] }
noncomputable def M_slices_Contains_sint_int (x : ((List Int) × Int)) : (Option Bool) :=
  (bindO (M_slices_Index_sint_int (x.1, x.2)) (fun (a0 : Int) => (some (decide (a0 ≥ (0 : Int))))))

noncomputable def c_slices_Contains_sint_int : Con0 := ⟨pk_slices_Contains_sint_int, rk_slices_Contains_sint_int, M_slices_Contains_sint_int⟩

set_option maxRecDepth 100000 in
theorem eq_slices_Contains_sint_int (x : In pk_slices_Contains_sint_int) : semF (mkE [(72, c_slices_Index_sint_int)]) h_slices_Contains_sint_int (info Tryz.f46) pk_slices_Contains_sint_int rk_slices_Contains_sint_int x = M_slices_Contains_sint_int x := by kernel_rfl

set_option maxRecDepth 100000 in
theorem m_slices_Contains_sint_int : ConOK Tryz.prog 46 c_slices_Contains_sint_int := fn_ok (tyOK _) (E := mkE [(72, c_slices_Index_sint_int)]) (consOK_cons m_slices_Index_sint_int (consOK_nil rfl)) Tryz.func46 (h := h_slices_Contains_sint_int) (by kernel_rfl) eq_slices_Contains_sint_int

/-- I_isTrustee -/
def pk_I_isTrustee : List PK := [.data (.int .i64)]
def rk_I_isTrustee : List (Ty × Bool) := [(.bool, false)]
def h_I_isTrustee : Hints := { loops := [] }
noncomputable def M_I_isTrustee (x : Int) : (Option Bool) :=
  (bindO (M_I_within (x, ((1 : Int), (7 : Int)))) (fun (a0 : Bool) => (some a0)))

noncomputable def c_I_isTrustee : Con0 := ⟨pk_I_isTrustee, rk_I_isTrustee, M_I_isTrustee⟩

set_option maxRecDepth 100000 in
theorem eq_I_isTrustee (x : In pk_I_isTrustee) : semF (mkE [(67, c_I_within)]) h_I_isTrustee (info Tryz.f73) pk_I_isTrustee rk_I_isTrustee x = M_I_isTrustee x := by kernel_rfl

set_option maxRecDepth 100000 in
theorem m_I_isTrustee : ConOK Tryz.prog 73 c_I_isTrustee := fn_ok (tyOK _) (E := mkE [(67, c_I_within)]) (consOK_cons m_I_within (consOK_nil rfl)) Tryz.func73 (h := h_I_isTrustee) (by kernel_rfl) eq_I_isTrustee

/-- I_blindStatement -/
def pk_I_blindStatement : List PK := [.data (.cons (.int .i64) (.one (.int .i64))), .data (.cons (.int .i64) (.one (.int .i64)))]
def rk_I_blindStatement : List (Ty × Bool) := [((.cons (.int .i64) (.cons (.int .i64) (.cons (.int .i64) (.one (.int .i64))))), false)]
def h_I_blindStatement : Hints := { loops := [] }
noncomputable def M_I_blindStatement (x : ((Int × Int) × (Int × Int))) : (Option (Int × (Int × (Int × Int)))) :=
  (some (x.1.1, (x.2.1, (x.1.2, x.2.2))))

noncomputable def c_I_blindStatement : Con0 := ⟨pk_I_blindStatement, rk_I_blindStatement, M_I_blindStatement⟩

set_option maxRecDepth 100000 in
theorem eq_I_blindStatement (x : In pk_I_blindStatement) : semF (mkE []) h_I_blindStatement (info Tryz.f75) pk_I_blindStatement rk_I_blindStatement x = M_I_blindStatement x := by kernel_rfl

set_option maxRecDepth 100000 in
theorem m_I_blindStatement : ConOK Tryz.prog 75 c_I_blindStatement := fn_ok (tyOK _) (E := mkE []) (consOK_nil rfl) Tryz.func75 (h := h_I_blindStatement) (by kernel_rfl) eq_I_blindStatement

/-- I_equalRows -/
def pk_I_equalRows : List PK := [.data (.cons (.int .i64) (.cons (.int .i64) (.cons (.int .i64) (.one (.int .i64)))))]
def rk_I_equalRows : List (Ty × Bool) := [((.sl (.sl (.int .i64))), false)]
def h_I_equalRows : Hints := { loops := [] }
noncomputable def M_I_equalRows (x : (Int × (Int × (Int × Int)))) : (Option (List (List Int))) :=
  (some ((x.1 :: ([] : List Int)) :: ((x.2.2.1 :: ([] : List Int)) :: ([] : List (List Int)))))

noncomputable def c_I_equalRows : Con0 := ⟨pk_I_equalRows, rk_I_equalRows, M_I_equalRows⟩

set_option maxRecDepth 100000 in
theorem eq_I_equalRows (x : In pk_I_equalRows) : semF (mkE []) h_I_equalRows (info Tryz.f86) pk_I_equalRows rk_I_equalRows x = M_I_equalRows x := by kernel_rfl

set_option maxRecDepth 100000 in
theorem m_I_equalRows : ConOK Tryz.prog 86 c_I_equalRows := fn_ok (tyOK _) (E := mkE []) (consOK_nil rfl) Tryz.func86 (h := h_I_equalRows) (by kernel_rfl) eq_I_equalRows

/-- I_isLabel -/
def pk_I_isLabel : List PK := [.data .str]
def rk_I_isLabel : List (Ty × Bool) := [(.bool, false)]
def h_I_isLabel : Hints := { loops := [] }
noncomputable def M_I_isLabel (x : ByteArray) : (Option Bool) :=
  (some (decide ((((ByteArray.size x) : Nat) : Int) ≤ (40 : Int))))

noncomputable def c_I_isLabel : Con0 := ⟨pk_I_isLabel, rk_I_isLabel, M_I_isLabel⟩

set_option maxRecDepth 100000 in
theorem eq_I_isLabel (x : In pk_I_isLabel) : semF (mkE []) h_I_isLabel (info Tryz.f96) pk_I_isLabel rk_I_isLabel x = M_I_isLabel x := by kernel_rfl

set_option maxRecDepth 100000 in
theorem m_I_isLabel : ConOK Tryz.prog 96 c_I_isLabel := fn_ok (tyOK _) (E := mkE []) (consOK_nil rfl) Tryz.func96 (h := h_I_isLabel) (by kernel_rfl) eq_I_isLabel

/-- slices_IndexFunc_ssint_sint -/
def pk_slices_IndexFunc_ssint_sint : List PK := [.data (.sl (.sl (.int .i64))), .fn [(.sl (.int .i64))] .bool]
def rk_slices_IndexFunc_ssint_sint : List (Ty × Bool) := [((.int .i64), false)]
def h_slices_IndexFunc_ssint_sint : Hints := { loops := [(0, { items := [.slot 8 (.data (.int .i64) [])], kill := [2, 3, 4, 5, 6, 9, 10, 11, 12, 13, 14, 15, 16, 17, 18] })] }
noncomputable def M_slices_IndexFunc_ssint_sint (x : ((List (List Int)) × ((List Int) → (Option Bool)))) : (Option Int) :=
  (loopO (fun (again0 : (Int → (Option Int))) => (fun (s1 : Int) => (cond (decide (s1 < (((List.length x.1) : Nat) : Int))) (bindO (getI x.1 s1) (fun (a2 : (List Int)) => (bindO (x.2 a2) (fun (a3 : Bool) => (cond a3 (some s1) (bindO (some (IntKind.wrap .i64 (s1 + (1 : Int)))) (fun (a4 : Int) => (again0 a4)))))))) (some (- (1 : Int)))))) (0 : Int))

noncomputable def c_slices_IndexFunc_ssint_sint : Con0 := ⟨pk_slices_IndexFunc_ssint_sint, rk_slices_IndexFunc_ssint_sint, M_slices_IndexFunc_ssint_sint⟩

set_option maxRecDepth 100000 in
theorem eq_slices_IndexFunc_ssint_sint (x : In pk_slices_IndexFunc_ssint_sint) : semF (mkE []) h_slices_IndexFunc_ssint_sint (info Tryz.f114) pk_slices_IndexFunc_ssint_sint rk_slices_IndexFunc_ssint_sint x = M_slices_IndexFunc_ssint_sint x := by kernel_rfl

set_option maxRecDepth 100000 in
theorem m_slices_IndexFunc_ssint_sint : ConOK Tryz.prog 114 c_slices_IndexFunc_ssint_sint := fn_ok (tyOK _) (E := mkE []) (consOK_nil rfl) Tryz.func114 (h := h_slices_IndexFunc_ssint_sint) (by kernel_rfl) eq_slices_IndexFunc_ssint_sint

/-- slices_ContainsFunc_ssint_sint -/
def pk_slices_ContainsFunc_ssint_sint : List PK := [.data (.sl (.sl (.int .i64))), .fn [(.sl (.int .i64))] .bool]
def rk_slices_ContainsFunc_ssint_sint : List (Ty × Bool) := [(.bool, false)]
def h_slices_ContainsFunc_ssint_sint : Hints := { loops := [] }
noncomputable def M_slices_ContainsFunc_ssint_sint (x : ((List (List Int)) × ((List Int) → (Option Bool)))) : (Option Bool) :=
  (bindO (M_slices_IndexFunc_ssint_sint (x.1, x.2)) (fun (a0 : Int) => (some (decide (a0 ≥ (0 : Int))))))

noncomputable def c_slices_ContainsFunc_ssint_sint : Con0 := ⟨pk_slices_ContainsFunc_ssint_sint, rk_slices_ContainsFunc_ssint_sint, M_slices_ContainsFunc_ssint_sint⟩

set_option maxRecDepth 100000 in
theorem eq_slices_ContainsFunc_ssint_sint (x : In pk_slices_ContainsFunc_ssint_sint) : semF (mkE [(114, c_slices_IndexFunc_ssint_sint)]) h_slices_ContainsFunc_ssint_sint (info Tryz.f104) pk_slices_ContainsFunc_ssint_sint rk_slices_ContainsFunc_ssint_sint x = M_slices_ContainsFunc_ssint_sint x := by kernel_rfl

set_option maxRecDepth 100000 in
theorem m_slices_ContainsFunc_ssint_sint : ConOK Tryz.prog 104 c_slices_ContainsFunc_ssint_sint := fn_ok (tyOK _) (E := mkE [(114, c_slices_IndexFunc_ssint_sint)]) (consOK_cons m_slices_IndexFunc_ssint_sint (consOK_nil rfl)) Tryz.func104 (h := h_slices_ContainsFunc_ssint_sint) (by kernel_rfl) eq_slices_ContainsFunc_ssint_sint

/-- slices_IndexFunc_sint_int -/
def pk_slices_IndexFunc_sint_int : List PK := [.data (.sl (.int .i64)), .fn [(.int .i64)] .bool]
def rk_slices_IndexFunc_sint_int : List (Ty × Bool) := [((.int .i64), false)]
def h_slices_IndexFunc_sint_int : Hints := { loops := [(0, { items := [.slot 8 (.data (.int .i64) [])], kill := [2, 3, 4, 5, 6, 9, 10, 11, 12, 13, 14, 15, 16, 17, 18] })] }
noncomputable def M_slices_IndexFunc_sint_int (x : ((List Int) × (Int → (Option Bool)))) : (Option Int) :=
  (loopO (fun (again0 : (Int → (Option Int))) => (fun (s1 : Int) => (cond (decide (s1 < (((List.length x.1) : Nat) : Int))) (bindO (getI x.1 s1) (fun (a2 : Int) => (bindO (x.2 a2) (fun (a3 : Bool) => (cond a3 (some s1) (bindO (some (IntKind.wrap .i64 (s1 + (1 : Int)))) (fun (a4 : Int) => (again0 a4)))))))) (some (- (1 : Int)))))) (0 : Int))

noncomputable def c_slices_IndexFunc_sint_int : Con0 := ⟨pk_slices_IndexFunc_sint_int, rk_slices_IndexFunc_sint_int, M_slices_IndexFunc_sint_int⟩

set_option maxRecDepth 100000 in
theorem eq_slices_IndexFunc_sint_int (x : In pk_slices_IndexFunc_sint_int) : semF (mkE []) h_slices_IndexFunc_sint_int (info Tryz.f122) pk_slices_IndexFunc_sint_int rk_slices_IndexFunc_sint_int x = M_slices_IndexFunc_sint_int x := by kernel_rfl

set_option maxRecDepth 100000 in
theorem m_slices_IndexFunc_sint_int : ConOK Tryz.prog 122 c_slices_IndexFunc_sint_int := fn_ok (tyOK _) (E := mkE []) (consOK_nil rfl) Tryz.func122 (h := h_slices_IndexFunc_sint_int) (by kernel_rfl) eq_slices_IndexFunc_sint_int

/-- slices_ContainsFunc_sint_int -/
def pk_slices_ContainsFunc_sint_int : List PK := [.data (.sl (.int .i64)), .fn [(.int .i64)] .bool]
def rk_slices_ContainsFunc_sint_int : List (Ty × Bool) := [(.bool, false)]
def h_slices_ContainsFunc_sint_int : Hints := { loops := [] }
noncomputable def M_slices_ContainsFunc_sint_int (x : ((List Int) × (Int → (Option Bool)))) : (Option Bool) :=
  (bindO (M_slices_IndexFunc_sint_int (x.1, x.2)) (fun (a0 : Int) => (some (decide (a0 ≥ (0 : Int))))))

noncomputable def c_slices_ContainsFunc_sint_int : Con0 := ⟨pk_slices_ContainsFunc_sint_int, rk_slices_ContainsFunc_sint_int, M_slices_ContainsFunc_sint_int⟩

set_option maxRecDepth 100000 in
theorem eq_slices_ContainsFunc_sint_int (x : In pk_slices_ContainsFunc_sint_int) : semF (mkE [(122, c_slices_IndexFunc_sint_int)]) h_slices_ContainsFunc_sint_int (info Tryz.f115) pk_slices_ContainsFunc_sint_int rk_slices_ContainsFunc_sint_int x = M_slices_ContainsFunc_sint_int x := by kernel_rfl

set_option maxRecDepth 100000 in
theorem m_slices_ContainsFunc_sint_int : ConOK Tryz.prog 115 c_slices_ContainsFunc_sint_int := fn_ok (tyOK _) (E := mkE [(122, c_slices_IndexFunc_sint_int)]) (consOK_cons m_slices_IndexFunc_sint_int (consOK_nil rfl)) Tryz.func115 (h := h_slices_ContainsFunc_sint_int) (by kernel_rfl) eq_slices_ContainsFunc_sint_int

/-- I_areAll_1 -/
def pk_I_areAll_1 : List PK := [.data (.int .i64), .rfn [(.int .i64)] .bool]
def rk_I_areAll_1 : List (Ty × Bool) := [(.bool, false)]
def h_I_areAll_1 : Hints := { loops := [] }
noncomputable def M_I_areAll_1 (x : (Int × (Int → (Option Bool)))) : (Option Bool) :=
  (bindO (x.2 x.1) (fun (a0 : Bool) => (some (not a0))))

noncomputable def c_I_areAll_1 : Con0 := ⟨pk_I_areAll_1, rk_I_areAll_1, M_I_areAll_1⟩

set_option maxRecDepth 100000 in
theorem eq_I_areAll_1 (x : In pk_I_areAll_1) : semF (mkE []) h_I_areAll_1 (info Tryz.f116) pk_I_areAll_1 rk_I_areAll_1 x = M_I_areAll_1 x := by kernel_rfl

set_option maxRecDepth 100000 in
theorem m_I_areAll_1 : ConOK Tryz.prog 116 c_I_areAll_1 := fn_ok (tyOK _) (E := mkE []) (consOK_nil rfl) Tryz.func116 (h := h_I_areAll_1) (by kernel_rfl) eq_I_areAll_1

/-- I_areAll -/
def pk_I_areAll : List PK := [.data (.sl (.int .i64)), .fn [(.int .i64)] .bool]
def rk_I_areAll : List (Ty × Bool) := [(.bool, false)]
def h_I_areAll : Hints := { loops := [] }
noncomputable def M_I_areAll (x : ((List Int) × (Int → (Option Bool)))) : (Option Bool) :=
  (bindO (M_slices_ContainsFunc_sint_int (x.1, (fun (a0 : Int) => (bindO (M_I_areAll_1 (a0, x.2)) (fun (a1 : Bool) => (some a1)))))) (fun (a2 : Bool) => (some (not a2))))

noncomputable def c_I_areAll : Con0 := ⟨pk_I_areAll, rk_I_areAll, M_I_areAll⟩

set_option maxRecDepth 100000 in
theorem eq_I_areAll (x : In pk_I_areAll) : semF (mkE [(115, c_slices_ContainsFunc_sint_int), (116, c_I_areAll_1)]) h_I_areAll (info Tryz.f106) pk_I_areAll rk_I_areAll x = M_I_areAll x := by kernel_rfl

set_option maxRecDepth 100000 in
theorem m_I_areAll : ConOK Tryz.prog 106 c_I_areAll := fn_ok (tyOK _) (E := mkE [(115, c_slices_ContainsFunc_sint_int), (116, c_I_areAll_1)]) (consOK_cons m_slices_ContainsFunc_sint_int (consOK_cons m_I_areAll_1 (consOK_nil rfl))) Tryz.func106 (h := h_I_areAll) (by kernel_rfl) eq_I_areAll

/-- I_Group_hasAll -/
def pk_I_Group_hasAll : List PK := [.data (.cons (.int .i64) (.cons (.int .i64) (.one (.int .i64)))), .data (.sl (.int .i64))]
def rk_I_Group_hasAll : List (Ty × Bool) := [(.bool, false)]
def h_I_Group_hasAll : Hints := { loops := [] }
noncomputable def M_I_Group_hasAll (x : ((Int × (Int × Int)) × (List Int))) : (Option Bool) :=
  (bindO (M_I_areAll (x.2, (fun (a0 : Int) => (bindO (M_I_Group_has ((x.1.1, (x.1.2.1, x.1.2.2)), a0)) (fun (a1 : Bool) => (some a1)))))) (fun (a2 : Bool) => (some a2)))

noncomputable def c_I_Group_hasAll : Con0 := ⟨pk_I_Group_hasAll, rk_I_Group_hasAll, M_I_Group_hasAll⟩

set_option maxRecDepth 100000 in
theorem eq_I_Group_hasAll (x : In pk_I_Group_hasAll) : semF (mkE [(106, c_I_areAll), (70, c_I_Group_has)]) h_I_Group_hasAll (info Tryz.f98) pk_I_Group_hasAll rk_I_Group_hasAll x = M_I_Group_hasAll x := by kernel_rfl

set_option maxRecDepth 100000 in
theorem m_I_Group_hasAll : ConOK Tryz.prog 98 c_I_Group_hasAll := fn_ok (tyOK _) (E := mkE [(106, c_I_areAll), (70, c_I_Group_has)]) (consOK_cons m_I_areAll (consOK_cons m_I_Group_has (consOK_nil rfl))) Tryz.func98 (h := h_I_Group_hasAll) (by kernel_rfl) eq_I_Group_hasAll

/-- I_Group_areRows_1 -/
def pk_I_Group_areRows_1 : List PK := [.data (.sl (.int .i64)), .rp (.sl (.sl (.int .i64))), .rp (.cons (.int .i64) (.cons (.int .i64) (.one (.int .i64))))]
def rk_I_Group_areRows_1 : List (Ty × Bool) := [(.bool, false)]
def h_I_Group_areRows_1 : Hints := { loops := [] }
noncomputable def M_I_Group_areRows_1 (x : ((List Int) × ((List (List Int)) × (Int × (Int × Int))))) : (Option Bool) :=
  (bindO (getI x.2.1 (0 : Int)) (fun (a0 : (List Int)) => (cond ((((List.length x.1) : Nat) : Int) != (((List.length a0) : Nat) : Int)) (some true) (bindO (M_I_Group_hasAll ((x.2.2.1, (x.2.2.2.1, x.2.2.2.2)), x.1)) (fun (a1 : Bool) => (some (not a1)))))))

noncomputable def c_I_Group_areRows_1 : Con0 := ⟨pk_I_Group_areRows_1, rk_I_Group_areRows_1, M_I_Group_areRows_1⟩

set_option maxRecDepth 100000 in
theorem eq_I_Group_areRows_1 (x : In pk_I_Group_areRows_1) : semF (mkE [(98, c_I_Group_hasAll)]) h_I_Group_areRows_1 (info Tryz.f105) pk_I_Group_areRows_1 rk_I_Group_areRows_1 x = M_I_Group_areRows_1 x := by kernel_rfl

set_option maxRecDepth 100000 in
theorem m_I_Group_areRows_1 : ConOK Tryz.prog 105 c_I_Group_areRows_1 := fn_ok (tyOK _) (E := mkE [(98, c_I_Group_hasAll)]) (consOK_cons m_I_Group_hasAll (consOK_nil rfl)) Tryz.func105 (h := h_I_Group_areRows_1) (by kernel_rfl) eq_I_Group_areRows_1

/-- I_Group_areRows -/
def pk_I_Group_areRows : List PK := [.data (.cons (.int .i64) (.cons (.int .i64) (.one (.int .i64)))), .data (.sl (.sl (.int .i64)))]
def rk_I_Group_areRows : List (Ty × Bool) := [(.bool, false)]
def h_I_Group_areRows : Hints := { loops := [] }
noncomputable def M_I_Group_areRows (x : ((Int × (Int × Int)) × (List (List Int)))) : (Option Bool) :=
  (bindO (M_I_within ((((List.length x.2) : Nat) : Int), ((1 : Int), (8 : Int)))) (fun (a0 : Bool) => (cond (not a0) (some false) (bindO (getI x.2 (0 : Int)) (fun (a1 : (List Int)) => (bindO (M_I_within ((((List.length a1) : Nat) : Int), ((1 : Int), (8 : Int)))) (fun (a2 : Bool) => (cond (not a2) (some false) (bindO (M_slices_ContainsFunc_ssint_sint (x.2, (fun (a3 : (List Int)) => (bindO (M_I_Group_areRows_1 (a3, (x.2, (x.1.1, (x.1.2.1, x.1.2.2))))) (fun (a4 : Bool) => (some a4)))))) (fun (a5 : Bool) => (some (not a5))))))))))))

noncomputable def c_I_Group_areRows : Con0 := ⟨pk_I_Group_areRows, rk_I_Group_areRows, M_I_Group_areRows⟩

set_option maxRecDepth 100000 in
theorem eq_I_Group_areRows (x : In pk_I_Group_areRows) : semF (mkE [(67, c_I_within), (104, c_slices_ContainsFunc_ssint_sint), (105, c_I_Group_areRows_1)]) h_I_Group_areRows (info Tryz.f97) pk_I_Group_areRows rk_I_Group_areRows x = M_I_Group_areRows x := by kernel_rfl

set_option maxRecDepth 100000 in
theorem m_I_Group_areRows : ConOK Tryz.prog 97 c_I_Group_areRows := fn_ok (tyOK _) (E := mkE [(67, c_I_within), (104, c_slices_ContainsFunc_ssint_sint), (105, c_I_Group_areRows_1)]) (consOK_cons m_I_within (consOK_cons m_slices_ContainsFunc_ssint_sint (consOK_cons m_I_Group_areRows_1 (consOK_nil rfl)))) Tryz.func97 (h := h_I_Group_areRows) (by kernel_rfl) eq_I_Group_areRows

/-- I_Group_isExp -/
def pk_I_Group_isExp : List PK := [.data (.cons (.int .i64) (.cons (.int .i64) (.one (.int .i64)))), .data (.int .i64)]
def rk_I_Group_isExp : List (Ty × Bool) := [(.bool, false)]
def h_I_Group_isExp : Hints := { loops := [] }
noncomputable def M_I_Group_isExp (x : ((Int × (Int × Int)) × Int)) : (Option Bool) :=
  (bindO (some (IntKind.wrap .i64 (x.1.2.1 - (1 : Int)))) (fun (a0 : Int) => (bindO (M_I_within (x.2, ((0 : Int), a0))) (fun (a1 : Bool) => (some a1)))))

noncomputable def c_I_Group_isExp : Con0 := ⟨pk_I_Group_isExp, rk_I_Group_isExp, M_I_Group_isExp⟩

set_option maxRecDepth 100000 in
theorem eq_I_Group_isExp (x : In pk_I_Group_isExp) : semF (mkE [(67, c_I_within)]) h_I_Group_isExp (info Tryz.f117) pk_I_Group_isExp rk_I_Group_isExp x = M_I_Group_isExp x := by kernel_rfl

set_option maxRecDepth 100000 in
theorem m_I_Group_isExp : ConOK Tryz.prog 117 c_I_Group_isExp := fn_ok (tyOK _) (E := mkE [(67, c_I_within)]) (consOK_cons m_I_within (consOK_nil rfl)) Tryz.func117 (h := h_I_Group_isExp) (by kernel_rfl) eq_I_Group_isExp

/-- I_Group_areExps -/
def pk_I_Group_areExps : List PK := [.data (.cons (.int .i64) (.cons (.int .i64) (.one (.int .i64)))), .data (.sl (.int .i64))]
def rk_I_Group_areExps : List (Ty × Bool) := [(.bool, false)]
def h_I_Group_areExps : Hints := { loops := [] }
noncomputable def M_I_Group_areExps (x : ((Int × (Int × Int)) × (List Int))) : (Option Bool) :=
  (bindO (M_I_areAll (x.2, (fun (a0 : Int) => (bindO (M_I_Group_isExp ((x.1.1, (x.1.2.1, x.1.2.2)), a0)) (fun (a1 : Bool) => (some a1)))))) (fun (a2 : Bool) => (some a2)))

noncomputable def c_I_Group_areExps : Con0 := ⟨pk_I_Group_areExps, rk_I_Group_areExps, M_I_Group_areExps⟩

set_option maxRecDepth 100000 in
theorem eq_I_Group_areExps (x : In pk_I_Group_areExps) : semF (mkE [(106, c_I_areAll), (117, c_I_Group_isExp)]) h_I_Group_areExps (info Tryz.f107) pk_I_Group_areExps rk_I_Group_areExps x = M_I_Group_areExps x := by kernel_rfl

set_option maxRecDepth 100000 in
theorem m_I_Group_areExps : ConOK Tryz.prog 107 c_I_Group_areExps := fn_ok (tyOK _) (E := mkE [(106, c_I_areAll), (117, c_I_Group_isExp)]) (consOK_cons m_I_areAll (consOK_cons m_I_Group_isExp (consOK_nil rfl))) Tryz.func107 (h := h_I_Group_areExps) (by kernel_rfl) eq_I_Group_areExps

/-- slices_Grow_sint_int -/
def pk_slices_Grow_sint_int : List PK := [.ow (.sl (.int .i64)), .data (.int .i64)]
def rk_slices_Grow_sint_int : List (Ty × Bool) := [((.sl (.int .i64)), true)]
noncomputable def M_slices_Grow_sint_int (x : ((List Int) × Int)) : (Option (List Int)) :=
  (if 0 ≤ x.2 ∧ (x.1.length : Int) + x.2 ≤ 68719476736 then some x.1 else Option.none)

noncomputable def c_slices_Grow_sint_int : Con0 := ⟨pk_slices_Grow_sint_int, rk_slices_Grow_sint_int, M_slices_Grow_sint_int⟩

def grow_ren : Go.Shelf.Ren := ⟨fun | 4 => 119 | n => n, fun | 0 => 0 | 3 => 3 | 4 => 4 | 9 => 9 | 20 => 20 | 22 => 24 | 25 => 3 | n => n, fun n => n⟩
set_option maxRecDepth 100000 in
theorem grow_lays : Go.Proofs.Lays8.n4 Tryz.prog grow_ren where
  mixed := by kernel_rfl
  f4 := ⟨Tryz.f119.name, of_decide_eq_true (by kernel_rfl), Tryz.func119.trans (congrArg some (by kernel_rfl))⟩
  t0 := Tryz.underlying0
  a0 := Tryz.isAgg0
  z0 := Tryz.sizeOf0
  v0 := Tryz.zeroValue0
  t3 := Tryz.underlying3
  a3 := Tryz.isAgg3
  z3 := Tryz.sizeOf3
  v3 := Tryz.zeroValue3
  t4 := Tryz.underlying4
  a4 := Tryz.isAgg4
  z4 := Tryz.sizeOf4
  v4 := Tryz.zeroValue4
  t9 := Tryz.underlying9
  a9 := Tryz.isAgg9
  z9 := Tryz.sizeOf9
  v9 := Tryz.zeroValue9
  t20 := Tryz.underlying20
  a20 := Tryz.isAgg20
  z20 := Tryz.sizeOf20
  v20 := Tryz.zeroValue20
  t22 := Tryz.underlying24
  a22 := Tryz.isAgg24
  z22 := Tryz.sizeOf24
  v22 := Tryz.zeroValue24

theorem m_slices_Grow_sint_int : ConOK Tryz.prog 119 c_slices_Grow_sint_int := grow_ok ⟨Tryz.f119, Tryz.func119, of_decide_eq_true (by kernel_rfl), by kernel_rfl⟩ (grow_room grow_lays) (grow_more grow_lays (tyOK []) (by kernel_rfl))

/-- slices_Concat_sint_int -/
def pk_slices_Concat_sint_int : List PK := [.data (.sl (.sl (.int .i64)))]
def rk_slices_Concat_sint_int : List (Ty × Bool) := [((.sl (.int .i64)), true)]
def h_slices_Concat_sint_int : Hints := { loops := [(0, { items := [.slot 3 (.data (.int .i64) []), .slot 11 (.data (.int .i64) [])], kill := [1, 2, 4, 5, 6, 7, 8, 12, 13, 14, 15, 16, 17, 18, 19, 20, 21, 22, 23, 24, 25, 26, 27, 28, 29, 30, 31, 32, 33, 34, 35] }), (2, { items := [.slot 6 (.own (.int .i64) true), .slot 27 (.data (.int .i64) [])], kill := [0, 1, 2, 3, 4, 5, 7, 8, 9, 10, 11, 12, 13, 14, 15, 16, 17, 18, 19, 20, 21, 22, 23, 24, 28, 29, 30, 31, 32, 33, 34, 35] })] }
noncomputable def M_slices_Concat_sint_int (x : (List (List Int))) : (Option (List Int)) :=
  (loopO (fun (again0 : ((Int × Int) → (Option (List Int)))) => (fun (s1 : (Int × Int)) => (cond (decide (s1.2 < (((List.length x) : Nat) : Int))) (bindO (getI x s1.2) (fun (a2 : (List Int)) => (bindO (some (IntKind.wrap .i64 (s1.1 + (((List.length a2) : Nat) : Int)))) (fun (a3 : Int) => (cond (decide (a3 < (0 : Int))) (none : Option (List Int)) (bindO (some (IntKind.wrap .i64 (s1.2 + (1 : Int)))) (fun (a4 : Int) => (again0 (a3, a4))))))))) (bindO (M_slices_Grow_sint_int (([] : List Int), s1.1)) (fun (a5 : (List Int)) => (loopO (fun (again6 : (((List Int) × Int) → (Option (List Int)))) => (fun (s7 : ((List Int) × Int)) => (cond (decide (s7.2 < (((List.length x) : Nat) : Int))) (bindO (getI x s7.2) (fun (a8 : (List Int)) => (bindO (guardO (lenOk ((List.length s7.1) + (List.length a8)))) (fun (a9 : Unit) => (bindO (some (s7.1 ++ a8)) (fun (a10 : (List Int)) => (bindO (some (IntKind.wrap .i64 (s7.2 + (1 : Int)))) (fun (a11 : Int) => (again6 (a10, a11)))))))))) (some s7.1)))) (a5, (0 : Int)))))))) ((0 : Int), (0 : Int)))

noncomputable def c_slices_Concat_sint_int : Con0 := ⟨pk_slices_Concat_sint_int, rk_slices_Concat_sint_int, M_slices_Concat_sint_int⟩

set_option maxRecDepth 100000 in
theorem eq_slices_Concat_sint_int (x : In pk_slices_Concat_sint_int) : semF (mkE [(119, c_slices_Grow_sint_int)]) h_slices_Concat_sint_int (info Tryz.f109) pk_slices_Concat_sint_int rk_slices_Concat_sint_int x = M_slices_Concat_sint_int x := by kernel_rfl

set_option maxRecDepth 100000 in
theorem m_slices_Concat_sint_int : ConOK Tryz.prog 109 c_slices_Concat_sint_int := fn_ok (tyOK _) (E := mkE [(119, c_slices_Grow_sint_int)]) (consOK_cons m_slices_Grow_sint_int (consOK_nil rfl)) Tryz.func109 (h := h_slices_Concat_sint_int) (by kernel_rfl) eq_slices_Concat_sint_int

/-- I_labelled -/
def pk_I_labelled : List PK := [.data .str, .data (.sl (.int .i64))]
def rk_I_labelled : List (Ty × Bool) := [((.sl (.int .i64)), true)]
def h_I_labelled : Hints := { loops := [(0, { items := [.slot 5 (.own (.int .i64) true), .slot 12 (.data (.int .i64) [])], kill := [2, 3, 4, 6, 7, 8, 9, 10, 13, 14, 15, 16, 17, 18, 19, 20, 21, 22, 23, 24, 25] })] }
noncomputable def M_I_labelled (x : (ByteArray × (List Int))) : (Option (List Int)) :=
  (loopO (fun (again0 : (((List Int) × Int) → (Option (List Int)))) => (fun (s1 : ((List Int) × Int)) => (cond (decide (s1.2 < (((ByteArray.size x.1) : Nat) : Int))) (bindO (if ((0 : Int) ≤ s1.2) then (x.1[(Int.toNat s1.2)]?) else (none : Option (UInt8))) (fun (a2 : (UInt8)) => (bindO (guardO (lenOk ((List.length s1.1) + (List.length ((IntKind.wrap .i64 (((UInt8.toNat a2) : Nat) : Int)) :: ([] : List Int)))))) (fun (a3 : Unit) => (bindO (some (s1.1 ++ ((IntKind.wrap .i64 (((UInt8.toNat a2) : Nat) : Int)) :: ([] : List Int)))) (fun (a4 : (List Int)) => (bindO (some (IntKind.wrap .i64 (s1.2 + (1 : Int)))) (fun (a5 : Int) => (again0 (a4, a5)))))))))) (bindO (guardO (lenOk ((List.length s1.1) + (List.length x.2)))) (fun (a6 : Unit) => (bindO (some (s1.1 ++ x.2)) (fun (a7 : (List Int)) => (some a7)))))))) (((((ByteArray.size x.1) : Nat) : Int) :: ([] : List Int)), (0 : Int)))

noncomputable def c_I_labelled : Con0 := ⟨pk_I_labelled, rk_I_labelled, M_I_labelled⟩

set_option maxRecDepth 100000 in
theorem eq_I_labelled (x : In pk_I_labelled) : semF (mkE []) h_I_labelled (info Tryz.f124) pk_I_labelled rk_I_labelled x = M_I_labelled x := by kernel_rfl

set_option maxRecDepth 100000 in
theorem m_I_labelled : ConOK Tryz.prog 124 c_I_labelled := fn_ok (tyOK _) (E := mkE []) (consOK_nil rfl) Tryz.func124 (h := h_I_labelled) (by kernel_rfl) eq_I_labelled

/-- I_isDigest -/
def pk_I_isDigest : List PK := [.data (.int .i64)]
def rk_I_isDigest : List (Ty × Bool) := [(.bool, false)]
def h_I_isDigest : Hints := { loops := [] }
noncomputable def M_I_isDigest (x : Int) : (Option Bool) :=
  (bindO (M_I_within (x, ((0 : Int), (4611686018427387903 : Int)))) (fun (a0 : Bool) => (some a0)))

noncomputable def c_I_isDigest : Con0 := ⟨pk_I_isDigest, rk_I_isDigest, M_I_isDigest⟩

set_option maxRecDepth 100000 in
theorem eq_I_isDigest (x : In pk_I_isDigest) : semF (mkE [(67, c_I_within)]) h_I_isDigest (info Tryz.f128) pk_I_isDigest rk_I_isDigest x = M_I_isDigest x := by kernel_rfl

set_option maxRecDepth 100000 in
theorem m_I_isDigest : ConOK Tryz.prog 128 c_I_isDigest := fn_ok (tyOK _) (E := mkE [(67, c_I_within)]) (consOK_cons m_I_within (consOK_nil rfl)) Tryz.func128 (h := h_I_isDigest) (by kernel_rfl) eq_I_isDigest

/-- I_areDigests -/
def pk_I_areDigests : List PK := [.data (.sl (.int .i64))]
def rk_I_areDigests : List (Ty × Bool) := [(.bool, false)]
def h_I_areDigests : Hints := { loops := [] }
noncomputable def M_I_areDigests (x : (List Int)) : (Option Bool) :=
  (cond (decide ((((List.length x) : Nat) : Int) ≤ (400 : Int))) (bindO (M_I_areAll (x, (fun (a0 : Int) => (bindO (M_I_isDigest a0) (fun (a1 : Bool) => (some a1)))))) (fun (a2 : Bool) => (some a2))) (some false))

noncomputable def c_I_areDigests : Con0 := ⟨pk_I_areDigests, rk_I_areDigests, M_I_areDigests⟩

set_option maxRecDepth 100000 in
theorem eq_I_areDigests (x : In pk_I_areDigests) : semF (mkE [(106, c_I_areAll), (128, c_I_isDigest)]) h_I_areDigests (info Tryz.f126) pk_I_areDigests rk_I_areDigests x = M_I_areDigests x := by kernel_rfl

set_option maxRecDepth 100000 in
theorem m_I_areDigests : ConOK Tryz.prog 126 c_I_areDigests := fn_ok (tyOK _) (E := mkE [(106, c_I_areAll), (128, c_I_isDigest)]) (consOK_cons m_I_areAll (consOK_cons m_I_isDigest (consOK_nil rfl))) Tryz.func126 (h := h_I_areDigests) (by kernel_rfl) eq_I_areDigests

/-- I_hash -/
def pk_I_hash : List PK := [.data (.sl (.int .i64))]
def rk_I_hash : List (Ty × Bool) := [((.int .i64), false)]
def h_I_hash : Hints := { loops := [(0, { items := [.slot 3 (.data (.int .i64) []), .slot 4 (.data (.int .i64) []), .slot 15 (.data (.int .i64) [])], kill := [0, 1, 2, 5, 6, 7, 8, 9, 10, 11, 12, 16, 17, 18, 19, 20, 21, 22, 23, 24, 25, 26, 27, 28, 29, 30, 31, 32, 33, 34, 35, 36, 37, 38, 39, 40, 41, 42, 43, 44, 45, 46, 47, 48, 49, 50, 51] })] }
noncomputable def M_I_hash (x : (List Int)) : (Option Int) :=
  (bindO (guardO (lenOk ((List.length ((((List.length x) : Nat) : Int) :: ([] : List Int))) + (List.length x)))) (fun (a0 : Unit) => (bindO (some (((((List.length x) : Nat) : Int) :: ([] : List Int)) ++ x)) (fun (a1 : (List Int)) => (loopO (fun (again2 : ((Int × (Int × Int)) → (Option Int))) => (fun (s3 : (Int × (Int × Int))) => (cond (decide (s3.2.2 < (((List.length a1) : Nat) : Int))) (bindO (getI a1 s3.2.2) (fun (a4 : Int) => (bindO (guardO (decide ((0 : Int) ≤ (31 : Int)))) (fun (a5 : Unit) => (bindO (some (shr .i64 a4 (31 : Int))) (fun (a6 : Int) => (bindO (some (bits .and .i64 a4 (2147483647 : Int))) (fun (a7 : Int) => (bindO (some (IntKind.wrap .i64 ((48271 : Int) * s3.1))) (fun (a8 : Int) => (bindO (some (IntKind.wrap .i64 (a8 + a7))) (fun (a9 : Int) => (bindO (some (IntKind.wrap .i64 (a9 + (1 : Int)))) (fun (a10 : Int) => (bindO (guardO ((2147483647 : Int) != (0 : Int))) (fun (a11 : Unit) => (bindO (some (Int.tmod a10 (2147483647 : Int))) (fun (a12 : Int) => (bindO (some (IntKind.wrap .i64 ((48271 : Int) * a12))) (fun (a13 : Int) => (bindO (some (IntKind.wrap .i64 (a13 + a6))) (fun (a14 : Int) => (bindO (some (IntKind.wrap .i64 (a14 + (1 : Int)))) (fun (a15 : Int) => (bindO (guardO ((2147483647 : Int) != (0 : Int))) (fun (a16 : Unit) => (bindO (some (Int.tmod a15 (2147483647 : Int))) (fun (a17 : Int) => (bindO (some (IntKind.wrap .i64 ((69621 : Int) * s3.2.1))) (fun (a18 : Int) => (bindO (some (IntKind.wrap .i64 (a18 + a7))) (fun (a19 : Int) => (bindO (some (IntKind.wrap .i64 (a19 + (1 : Int)))) (fun (a20 : Int) => (bindO (guardO ((2147483647 : Int) != (0 : Int))) (fun (a21 : Unit) => (bindO (some (Int.tmod a20 (2147483647 : Int))) (fun (a22 : Int) => (bindO (some (IntKind.wrap .i64 ((69621 : Int) * a22))) (fun (a23 : Int) => (bindO (some (IntKind.wrap .i64 (a23 + a6))) (fun (a24 : Int) => (bindO (some (IntKind.wrap .i64 (a24 + (1 : Int)))) (fun (a25 : Int) => (bindO (guardO ((2147483647 : Int) != (0 : Int))) (fun (a26 : Unit) => (bindO (some (Int.tmod a25 (2147483647 : Int))) (fun (a27 : Int) => (bindO (some (IntKind.wrap .i64 (s3.2.2 + (1 : Int)))) (fun (a28 : Int) => (again2 (a17, (a27, a28))))))))))))))))))))))))))))))))))))))))))))))))))))) (bindO (guardO (decide ((0 : Int) ≤ (31 : Int)))) (fun (a29 : Unit) => (bindO (some (shl .i64 s3.1 (31 : Int))) (fun (a30 : Int) => (bindO (some (IntKind.wrap .i64 (a30 + s3.2.1))) (fun (a31 : Int) => (some a31)))))))))) ((1 : Int), ((2 : Int), (0 : Int))))))))

noncomputable def c_I_hash : Con0 := ⟨pk_I_hash, rk_I_hash, M_I_hash⟩

set_option maxRecDepth 100000 in
theorem eq_I_hash (x : In pk_I_hash) : semF (mkE []) h_I_hash (info Tryz.f127) pk_I_hash rk_I_hash x = M_I_hash x := by kernel_rfl

set_option maxRecDepth 100000 in
theorem m_I_hash : ConOK Tryz.prog 127 c_I_hash := fn_ok (tyOK _) (E := mkE []) (consOK_nil rfl) Tryz.func127 (h := h_I_hash) (by kernel_rfl) eq_I_hash

/-- I_HashInts -/
def pk_I_HashInts : List PK := [.data (.sl (.int .i64))]
def rk_I_HashInts : List (Ty × Bool) := [((.int .i64), false), (.bool, false)]
def h_I_HashInts : Hints := { loops := [] }
noncomputable def M_I_HashInts (x : (List Int)) : (Option (Int × Bool)) :=
  (bindO (M_I_areDigests x) (fun (a0 : Bool) => (cond (not a0) (some ((0 : Int), false)) (bindO (M_I_hash x) (fun (a1 : Int) => (some (a1, true)))))))

noncomputable def c_I_HashInts : Con0 := ⟨pk_I_HashInts, rk_I_HashInts, M_I_HashInts⟩

set_option maxRecDepth 100000 in
theorem eq_I_HashInts (x : In pk_I_HashInts) : semF (mkE [(126, c_I_areDigests), (127, c_I_hash)]) h_I_HashInts (info Tryz.f123) pk_I_HashInts rk_I_HashInts x = M_I_HashInts x := by kernel_rfl

set_option maxRecDepth 100000 in
theorem m_I_HashInts : ConOK Tryz.prog 123 c_I_HashInts := fn_ok (tyOK _) (E := mkE [(126, c_I_areDigests), (127, c_I_hash)]) (consOK_cons m_I_areDigests (consOK_cons m_I_hash (consOK_nil rfl))) Tryz.func123 (h := h_I_HashInts) (by kernel_rfl) eq_I_HashInts

/-- I_HashLabelled -/
def pk_I_HashLabelled : List PK := [.data .str, .data (.sl (.int .i64))]
def rk_I_HashLabelled : List (Ty × Bool) := [((.int .i64), false), (.bool, false)]
def h_I_HashLabelled : Hints := { loops := [] }
noncomputable def M_I_HashLabelled (x : (ByteArray × (List Int))) : (Option (Int × Bool)) :=
  (cond (decide ((((ByteArray.size x.1) : Nat) : Int) > (40 : Int))) (some ((0 : Int), false)) (cond (decide ((((List.length x.2) : Nat) : Int) > (400 : Int))) (some ((0 : Int), false)) (bindO (M_I_labelled (x.1, x.2)) (fun (a0 : (List Int)) => (bindO (M_I_HashInts a0) (fun (a1 : (Int × Bool)) => (some (a1.1, a1.2))))))))

noncomputable def c_I_HashLabelled : Con0 := ⟨pk_I_HashLabelled, rk_I_HashLabelled, M_I_HashLabelled⟩

set_option maxRecDepth 100000 in
theorem eq_I_HashLabelled (x : In pk_I_HashLabelled) : semF (mkE [(124, c_I_labelled), (123, c_I_HashInts)]) h_I_HashLabelled (info Tryz.f118) pk_I_HashLabelled rk_I_HashLabelled x = M_I_HashLabelled x := by kernel_rfl

set_option maxRecDepth 100000 in
theorem m_I_HashLabelled : ConOK Tryz.prog 118 c_I_HashLabelled := fn_ok (tyOK _) (E := mkE [(124, c_I_labelled), (123, c_I_HashInts)]) (consOK_cons m_I_labelled (consOK_cons m_I_HashInts (consOK_nil rfl))) Tryz.func118 (h := h_I_HashLabelled) (by kernel_rfl) eq_I_HashLabelled

/-- I_Group_challenge -/
def pk_I_Group_challenge : List PK := [.data (.cons (.int .i64) (.cons (.int .i64) (.one (.int .i64)))), .data .str, .data (.sl (.int .i64))]
def rk_I_Group_challenge : List (Ty × Bool) := [((.int .i64), false), (.bool, false)]
def h_I_Group_challenge : Hints := { loops := [] }
noncomputable def M_I_Group_challenge (x : ((Int × (Int × Int)) × (ByteArray × (List Int)))) : (Option (Int × Bool)) :=
  (bindO (guardO (lenOk ((List.length (x.1.1 :: (x.1.2.1 :: (x.1.2.2 :: ([] : List Int))))) + (List.length x.2.2)))) (fun (a0 : Unit) => (bindO (some ((x.1.1 :: (x.1.2.1 :: (x.1.2.2 :: ([] : List Int)))) ++ x.2.2)) (fun (a1 : (List Int)) => (bindO (M_I_HashLabelled (x.2.1, a1)) (fun (a2 : (Int × Bool)) => (cond (not a2.2) (some ((0 : Int), false)) (bindO (guardO (x.1.2.1 != (0 : Int))) (fun (a3 : Unit) => (bindO (some (Int.tmod a2.1 x.1.2.1)) (fun (a4 : Int) => (some (a4, true)))))))))))))

noncomputable def c_I_Group_challenge : Con0 := ⟨pk_I_Group_challenge, rk_I_Group_challenge, M_I_Group_challenge⟩

set_option maxRecDepth 100000 in
theorem eq_I_Group_challenge (x : In pk_I_Group_challenge) : semF (mkE [(118, c_I_HashLabelled)]) h_I_Group_challenge (info Tryz.f108) pk_I_Group_challenge rk_I_Group_challenge x = M_I_Group_challenge x := by kernel_rfl

set_option maxRecDepth 100000 in
theorem m_I_Group_challenge : ConOK Tryz.prog 108 c_I_Group_challenge := fn_ok (tyOK _) (E := mkE [(118, c_I_HashLabelled)]) (consOK_cons m_I_HashLabelled (consOK_nil rfl)) Tryz.func108 (h := h_I_Group_challenge) (by kernel_rfl) eq_I_Group_challenge

/-- I_Group_powers -/
def pk_I_Group_powers : List PK := [.data (.cons (.int .i64) (.cons (.int .i64) (.one (.int .i64)))), .data (.sl (.int .i64)), .data (.sl (.int .i64))]
def rk_I_Group_powers : List (Ty × Bool) := [((.int .i64), false)]
def h_I_Group_powers : Hints := { loops := [(0, { items := [.slot 7 (.data (.int .i64) []), .slot 12 (.data (.int .i64) [])], kill := [0, 1, 4, 5, 6, 8, 9, 13, 14, 15, 16, 17, 18, 19, 20, 21, 22, 23, 24, 25, 26, 27, 28, 29] })] }
noncomputable def M_I_Group_powers (x : ((Int × (Int × Int)) × ((List Int) × (List Int)))) : (Option Int) :=
  (loopO (fun (again0 : ((Int × Int) → (Option Int))) => (fun (s1 : (Int × Int)) => (cond (decide (s1.2 < (((List.length x.2.1) : Nat) : Int))) (bindO (getI x.2.1 s1.2) (fun (a2 : Int) => (bindO (getI x.2.2 s1.2) (fun (a3 : Int) => (bindO (M_I_Group_pow ((x.1.1, (x.1.2.1, x.1.2.2)), (a2, a3))) (fun (a4 : Int) => (bindO (M_I_Group_mul ((x.1.1, (x.1.2.1, x.1.2.2)), (s1.1 :: (a4 :: ([] : List Int))))) (fun (a5 : Int) => (bindO (some (IntKind.wrap .i64 (s1.2 + (1 : Int)))) (fun (a6 : Int) => (again0 (a5, a6)))))))))))) (some s1.1)))) ((1 : Int), (0 : Int)))

noncomputable def c_I_Group_powers : Con0 := ⟨pk_I_Group_powers, rk_I_Group_powers, M_I_Group_powers⟩

set_option maxRecDepth 100000 in
theorem eq_I_Group_powers (x : In pk_I_Group_powers) : semF (mkE [(78, c_I_Group_pow), (50, c_I_Group_mul)]) h_I_Group_powers (info Tryz.f52) pk_I_Group_powers rk_I_Group_powers x = M_I_Group_powers x := by kernel_rfl

set_option maxRecDepth 100000 in
theorem m_I_Group_powers : ConOK Tryz.prog 52 c_I_Group_powers := fn_ok (tyOK _) (E := mkE [(78, c_I_Group_pow), (50, c_I_Group_mul)]) (consOK_cons m_I_Group_pow (consOK_cons m_I_Group_mul (consOK_nil rfl))) Tryz.func52 (h := h_I_Group_powers) (by kernel_rfl) eq_I_Group_powers

/-- I_Group_images -/
def pk_I_Group_images : List PK := [.data (.cons (.int .i64) (.cons (.int .i64) (.one (.int .i64)))), .data (.sl (.sl (.int .i64))), .data (.sl (.int .i64))]
def rk_I_Group_images : List (Ty × Bool) := [((.sl (.int .i64)), true)]
def h_I_Group_images : Hints := { loops := [(0, { items := [.slot 7 (.own (.int .i64) true), .slot 13 (.data (.int .i64) [])], kill := [0, 1, 4, 5, 6, 8, 9, 10, 14, 15, 16, 17, 18, 19, 20, 21, 22, 23, 24, 25] })] }
noncomputable def M_I_Group_images (x : ((Int × (Int × Int)) × ((List (List Int)) × (List Int)))) : (Option (List Int)) :=
  (loopO (fun (again0 : (((List Int) × Int) → (Option (List Int)))) => (fun (s1 : ((List Int) × Int)) => (cond (decide (s1.2 < (((List.length x.2.1) : Nat) : Int))) (bindO (getI x.2.1 s1.2) (fun (a2 : (List Int)) => (bindO (M_I_Group_powers ((x.1.1, (x.1.2.1, x.1.2.2)), (a2, x.2.2))) (fun (a3 : Int) => (bindO (guardO (lenOk ((List.length s1.1) + (List.length (a3 :: ([] : List Int)))))) (fun (a4 : Unit) => (bindO (some (s1.1 ++ (a3 :: ([] : List Int)))) (fun (a5 : (List Int)) => (bindO (some (IntKind.wrap .i64 (s1.2 + (1 : Int)))) (fun (a6 : Int) => (again0 (a5, a6)))))))))))) (some s1.1)))) (([] : List Int), (0 : Int)))

noncomputable def c_I_Group_images : Con0 := ⟨pk_I_Group_images, rk_I_Group_images, M_I_Group_images⟩

set_option maxRecDepth 100000 in
theorem eq_I_Group_images (x : In pk_I_Group_images) : semF (mkE [(52, c_I_Group_powers)]) h_I_Group_images (info Tryz.f110) pk_I_Group_images rk_I_Group_images x = M_I_Group_images x := by kernel_rfl

set_option maxRecDepth 100000 in
theorem m_I_Group_images : ConOK Tryz.prog 110 c_I_Group_images := fn_ok (tyOK _) (E := mkE [(52, c_I_Group_powers)]) (consOK_cons m_I_Group_powers (consOK_nil rfl)) Tryz.func110 (h := h_I_Group_images) (by kernel_rfl) eq_I_Group_images

/-- I_Group_verifyLinear -/
def pk_I_Group_verifyLinear : List PK := [.data (.cons (.int .i64) (.cons (.int .i64) (.one (.int .i64)))), .data .str, .data (.sl (.sl (.int .i64))), .data (.sl (.int .i64)), .data (.cons (.sl (.int .i64)) (.cons (.sl (.int .i64)) (.one (.sl (.int .i64)))))]
def rk_I_Group_verifyLinear : List (Ty × Bool) := [(.bool, false)]
def h_I_Group_verifyLinear : Hints := { loops := [(0, { items := [.slot 80 (.data (.int .i64) [])], kill := [0, 1, 2, 4, 6, 7, 8, 10, 12, 13, 14, 15, 16, 17, 18, 19, 20, 21, 22, 23, 24, 25, 26, 27, 28, 29, 30, 31, 32, 33, 34, 35, 36, 37, 38, 39, 40, 41, 42, 43, 44, 45, 46, 47, 48, 49, 50, 51, 52, 53, 54, 55, 56, 57, 58, 59, 60, 61, 62, 63, 64, 65, 66, 67, 68, 69, 70, 71, 72, 73, 74, 75, 76, 77, 81, 82, 83, 84, 85, 86, 87, 88, 89, 90, 91, 92, 93, 94, 95, 96, 97, 98, 99, 100, 101, 102] })] }
noncomputable def M_I_Group_verifyLinear (x : ((Int × (Int × Int)) × (ByteArray × ((List (List Int)) × ((List Int) × ((List Int) × ((List Int) × (List Int)))))))) : (Option Bool) :=
  (cond ((((List.length x.2.2.2.2.1) : Nat) : Int) != (((List.length x.2.2.1) : Nat) : Int)) (some false) (cond ((((List.length x.2.2.2.2.2.1) : Nat) : Int) != (1 : Int)) (some false) (bindO (getI x.2.2.1 (0 : Int)) (fun (a0 : (List Int)) => (cond ((((List.length x.2.2.2.2.2.2) : Nat) : Int) != (((List.length a0) : Nat) : Int)) (some false) (bindO (M_I_Group_hasAll ((x.1.1, (x.1.2.1, x.1.2.2)), x.2.2.2.2.1)) (fun (a1 : Bool) => (cond (not a1) (some false) (bindO (M_I_Group_areExps ((x.1.1, (x.1.2.1, x.1.2.2)), x.2.2.2.2.2.2)) (fun (a2 : Bool) => (cond (not a2) (some false) (bindO (M_slices_Concat_sint_int x.2.2.1) (fun (a3 : (List Int)) => (bindO (M_slices_Concat_sint_int (a3 :: (x.2.2.2.1 :: (x.2.2.2.2.1 :: ([] : List (List Int)))))) (fun (a4 : (List Int)) => (bindO (M_I_Group_challenge ((x.1.1, (x.1.2.1, x.1.2.2)), (x.2.1, a4))) (fun (a5 : (Int × Bool)) => (cond (not a5.2) (some false) (bindO (getI x.2.2.2.2.2.1 (0 : Int)) (fun (a6 : Int) => (cond (a6 != a5.1) (some false) (bindO (M_I_Group_images ((x.1.1, (x.1.2.1, x.1.2.2)), (x.2.2.1, x.2.2.2.2.2.2))) (fun (a7 : (List Int)) => (loopO (fun (again8 : (Int → (Option Bool))) => (fun (s9 : Int) => (cond (decide (s9 < (((List.length a7) : Nat) : Int))) (bindO (getI a7 s9) (fun (a10 : Int) => (bindO (getI x.2.2.2.2.1 s9) (fun (a11 : Int) => (bindO (getI x.2.2.2.1 s9) (fun (a12 : Int) => (bindO (M_I_Group_pow ((x.1.1, (x.1.2.1, x.1.2.2)), (a12, a5.1))) (fun (a13 : Int) => (bindO (M_I_Group_mul ((x.1.1, (x.1.2.1, x.1.2.2)), (a11 :: (a13 :: ([] : List Int))))) (fun (a14 : Int) => (cond (a10 != a14) (some false) (bindO (some (IntKind.wrap .i64 (s9 + (1 : Int)))) (fun (a15 : Int) => (again8 a15)))))))))))))) (some true)))) (0 : Int)))))))))))))))))))))))))

noncomputable def c_I_Group_verifyLinear : Con0 := ⟨pk_I_Group_verifyLinear, rk_I_Group_verifyLinear, M_I_Group_verifyLinear⟩

set_option maxRecDepth 100000 in
theorem eq_I_Group_verifyLinear (x : In pk_I_Group_verifyLinear) : semF (mkE [(98, c_I_Group_hasAll), (107, c_I_Group_areExps), (109, c_slices_Concat_sint_int), (108, c_I_Group_challenge), (110, c_I_Group_images), (78, c_I_Group_pow), (50, c_I_Group_mul)]) h_I_Group_verifyLinear (info Tryz.f99) pk_I_Group_verifyLinear rk_I_Group_verifyLinear x = M_I_Group_verifyLinear x := by kernel_rfl

set_option maxRecDepth 100000 in
theorem m_I_Group_verifyLinear : ConOK Tryz.prog 99 c_I_Group_verifyLinear := fn_ok (tyOK _) (E := mkE [(98, c_I_Group_hasAll), (107, c_I_Group_areExps), (109, c_slices_Concat_sint_int), (108, c_I_Group_challenge), (110, c_I_Group_images), (78, c_I_Group_pow), (50, c_I_Group_mul)]) (consOK_cons m_I_Group_hasAll (consOK_cons m_I_Group_areExps (consOK_cons m_slices_Concat_sint_int (consOK_cons m_I_Group_challenge (consOK_cons m_I_Group_images (consOK_cons m_I_Group_pow (consOK_cons m_I_Group_mul (consOK_nil rfl)))))))) Tryz.func99 (h := h_I_Group_verifyLinear) (by kernel_rfl) eq_I_Group_verifyLinear

/-- I_VerifyLinear -/
def pk_I_VerifyLinear : List PK := [.data (.cons (.int .i64) (.cons (.int .i64) (.one (.int .i64)))), .data .str, .data (.sl (.sl (.int .i64))), .data (.sl (.int .i64)), .data (.cons (.sl (.int .i64)) (.cons (.sl (.int .i64)) (.one (.sl (.int .i64)))))]
def rk_I_VerifyLinear : List (Ty × Bool) := [(.bool, false), (.bool, false)]
def h_I_VerifyLinear : Hints := { loops := [] }
noncomputable def M_I_VerifyLinear (x : ((Int × (Int × Int)) × (ByteArray × ((List (List Int)) × ((List Int) × ((List Int) × ((List Int) × (List Int)))))))) : (Option (Bool × Bool)) :=
  (bindO (M_I_IsValidGroup (x.1.1, (x.1.2.1, x.1.2.2))) (fun (a0 : Bool) => (cond (not a0) (some (false, false)) (bindO (M_I_isLabel x.2.1) (fun (a1 : Bool) => (cond (not a1) (some (false, false)) (bindO (M_I_Group_areRows ((x.1.1, (x.1.2.1, x.1.2.2)), x.2.2.1)) (fun (a2 : Bool) => (cond (not a2) (some (false, false)) (cond ((((List.length x.2.2.2.1) : Nat) : Int) != (((List.length x.2.2.1) : Nat) : Int)) (some (false, false)) (bindO (M_I_Group_hasAll ((x.1.1, (x.1.2.1, x.1.2.2)), x.2.2.2.1)) (fun (a3 : Bool) => (cond (not a3) (some (false, false)) (bindO (M_I_Group_verifyLinear ((x.1.1, (x.1.2.1, x.1.2.2)), (x.2.1, (x.2.2.1, (x.2.2.2.1, (x.2.2.2.2.1, (x.2.2.2.2.2.1, x.2.2.2.2.2.2))))))) (fun (a4 : Bool) => (some (a4, true)))))))))))))))))

noncomputable def c_I_VerifyLinear : Con0 := ⟨pk_I_VerifyLinear, rk_I_VerifyLinear, M_I_VerifyLinear⟩

set_option maxRecDepth 100000 in
theorem eq_I_VerifyLinear (x : In pk_I_VerifyLinear) : semF (mkE [(43, c_I_IsValidGroup), (96, c_I_isLabel), (97, c_I_Group_areRows), (98, c_I_Group_hasAll), (99, c_I_Group_verifyLinear)]) h_I_VerifyLinear (info Tryz.f85) pk_I_VerifyLinear rk_I_VerifyLinear x = M_I_VerifyLinear x := by kernel_rfl

set_option maxRecDepth 100000 in
theorem m_I_VerifyLinear : ConOK Tryz.prog 85 c_I_VerifyLinear := fn_ok (tyOK _) (E := mkE [(43, c_I_IsValidGroup), (96, c_I_isLabel), (97, c_I_Group_areRows), (98, c_I_Group_hasAll), (99, c_I_Group_verifyLinear)]) (consOK_cons m_I_IsValidGroup (consOK_cons m_I_isLabel (consOK_cons m_I_Group_areRows (consOK_cons m_I_Group_hasAll (consOK_cons m_I_Group_verifyLinear (consOK_nil rfl)))))) Tryz.func85 (h := h_I_VerifyLinear) (by kernel_rfl) eq_I_VerifyLinear

/-- I_VerifyEqual -/
def pk_I_VerifyEqual : List PK := [.data (.cons (.int .i64) (.cons (.int .i64) (.one (.int .i64)))), .data .str, .data (.cons (.int .i64) (.cons (.int .i64) (.cons (.int .i64) (.one (.int .i64))))), .data (.cons (.sl (.int .i64)) (.cons (.sl (.int .i64)) (.one (.sl (.int .i64)))))]
def rk_I_VerifyEqual : List (Ty × Bool) := [(.bool, false), (.bool, false)]
def h_I_VerifyEqual : Hints := { loops := [] }
noncomputable def M_I_VerifyEqual (x : ((Int × (Int × Int)) × (ByteArray × ((Int × (Int × (Int × Int))) × ((List Int) × ((List Int) × (List Int))))))) : (Option (Bool × Bool)) :=
  (bindO (M_I_equalRows (x.2.2.1.1, (x.2.2.1.2.1, (x.2.2.1.2.2.1, x.2.2.1.2.2.2)))) (fun (a0 : (List (List Int))) => (bindO (M_I_VerifyLinear ((x.1.1, (x.1.2.1, x.1.2.2)), (x.2.1, (a0, ((x.2.2.1.2.1 :: (x.2.2.1.2.2.2 :: ([] : List Int))), (x.2.2.2.1, (x.2.2.2.2.1, x.2.2.2.2.2))))))) (fun (a1 : (Bool × Bool)) => (some (a1.1, a1.2))))))

noncomputable def c_I_VerifyEqual : Con0 := ⟨pk_I_VerifyEqual, rk_I_VerifyEqual, M_I_VerifyEqual⟩

set_option maxRecDepth 100000 in
theorem eq_I_VerifyEqual (x : In pk_I_VerifyEqual) : semF (mkE [(86, c_I_equalRows), (85, c_I_VerifyLinear)]) h_I_VerifyEqual (info Tryz.f74) pk_I_VerifyEqual rk_I_VerifyEqual x = M_I_VerifyEqual x := by kernel_rfl

set_option maxRecDepth 100000 in
theorem m_I_VerifyEqual : ConOK Tryz.prog 74 c_I_VerifyEqual := fn_ok (tyOK _) (E := mkE [(86, c_I_equalRows), (85, c_I_VerifyLinear)]) (consOK_cons m_I_equalRows (consOK_cons m_I_VerifyLinear (consOK_nil rfl))) Tryz.func74 (h := h_I_VerifyEqual) (by kernel_rfl) eq_I_VerifyEqual

/-- I_Group_isBlind -/
def pk_I_Group_isBlind : List PK := [.data (.cons (.int .i64) (.cons (.int .i64) (.one (.int .i64)))), .data (.cons (.int .i64) (.one (.int .i64))), .data (.cons (.int .i64) (.cons (.cons (.int .i64) (.one (.int .i64))) (.one (.cons (.sl (.int .i64)) (.cons (.sl (.int .i64)) (.one (.sl (.int .i64))))))))]
def rk_I_Group_isBlind : List (Ty × Bool) := [(.bool, false)]
def h_I_Group_isBlind : Hints := { loops := [] }
noncomputable def M_I_Group_isBlind (x : ((Int × (Int × Int)) × ((Int × Int) × (Int × ((Int × Int) × ((List Int) × ((List Int) × (List Int)))))))) : (Option Bool) :=
  (bindO (M_I_isTrustee x.2.2.1) (fun (a0 : Bool) => (cond (not a0) (some false) (bindO (M_I_Group_hasCipher ((x.1.1, (x.1.2.1, x.1.2.2)), (x.2.2.2.1.1, x.2.2.2.1.2))) (fun (a1 : Bool) => (cond (not a1) (some false) (cond (((x.2.2.2.1.1, x.2.2.2.1.2).1 == ((1 : Int), (1 : Int)).1) && ((x.2.2.2.1.1, x.2.2.2.1.2).2 == ((1 : Int), (1 : Int)).2)) (cond (not (((x.2.1.1, x.2.1.2).1 == ((1 : Int), (1 : Int)).1) && ((x.2.1.1, x.2.1.2).2 == ((1 : Int), (1 : Int)).2))) (some false) (bindO (M_I_blindStatement ((x.2.1.1, x.2.1.2), (x.2.2.2.1.1, x.2.2.2.1.2))) (fun (a2 : (Int × (Int × (Int × Int)))) => (bindO (M_I_VerifyEqual ((x.1.1, (x.1.2.1, x.1.2.2)), ((bytesOf [98, 108, 105, 110, 100]), ((a2.1, (a2.2.1, (a2.2.2.1, a2.2.2.2))), (x.2.2.2.2.1, (x.2.2.2.2.2.1, x.2.2.2.2.2.2)))))) (fun (a3 : (Bool × Bool)) => (cond a3.1 (some a3.2) (some false))))))) (bindO (M_I_blindStatement ((x.2.1.1, x.2.1.2), (x.2.2.2.1.1, x.2.2.2.1.2))) (fun (a4 : (Int × (Int × (Int × Int)))) => (bindO (M_I_VerifyEqual ((x.1.1, (x.1.2.1, x.1.2.2)), ((bytesOf [98, 108, 105, 110, 100]), ((a4.1, (a4.2.1, (a4.2.2.1, a4.2.2.2))), (x.2.2.2.2.1, (x.2.2.2.2.2.1, x.2.2.2.2.2.2)))))) (fun (a5 : (Bool × Bool)) => (cond a5.1 (some a5.2) (some false)))))))))))))

noncomputable def c_I_Group_isBlind : Con0 := ⟨pk_I_Group_isBlind, rk_I_Group_isBlind, M_I_Group_isBlind⟩

set_option maxRecDepth 100000 in
theorem eq_I_Group_isBlind (x : In pk_I_Group_isBlind) : semF (mkE [(73, c_I_isTrustee), (44, c_I_Group_hasCipher), (75, c_I_blindStatement), (74, c_I_VerifyEqual)]) h_I_Group_isBlind (info Tryz.f47) pk_I_Group_isBlind rk_I_Group_isBlind x = M_I_Group_isBlind x := by kernel_rfl

set_option maxRecDepth 100000 in
theorem m_I_Group_isBlind : ConOK Tryz.prog 47 c_I_Group_isBlind := fn_ok (tyOK _) (E := mkE [(73, c_I_isTrustee), (44, c_I_Group_hasCipher), (75, c_I_blindStatement), (74, c_I_VerifyEqual)]) (consOK_cons m_I_isTrustee (consOK_cons m_I_Group_hasCipher (consOK_cons m_I_blindStatement (consOK_cons m_I_VerifyEqual (consOK_nil rfl))))) Tryz.func47 (h := h_I_Group_isBlind) (by kernel_rfl) eq_I_Group_isBlind

/-- I_Group_mulTwo -/
def pk_I_Group_mulTwo : List PK := [.data (.cons (.int .i64) (.cons (.int .i64) (.one (.int .i64)))), .data (.cons (.int .i64) (.one (.int .i64))), .data (.cons (.int .i64) (.one (.int .i64)))]
def rk_I_Group_mulTwo : List (Ty × Bool) := [((.cons (.int .i64) (.one (.int .i64))), false)]
def h_I_Group_mulTwo : Hints := { loops := [] }
noncomputable def M_I_Group_mulTwo (x : ((Int × (Int × Int)) × ((Int × Int) × (Int × Int)))) : (Option (Int × Int)) :=
  (bindO (M_I_Group_mul ((x.1.1, (x.1.2.1, x.1.2.2)), (x.2.1.1 :: (x.2.2.1 :: ([] : List Int))))) (fun (a0 : Int) => (bindO (M_I_Group_mul ((x.1.1, (x.1.2.1, x.1.2.2)), (x.2.1.2 :: (x.2.2.2 :: ([] : List Int))))) (fun (a1 : Int) => (some (a0, a1))))))

noncomputable def c_I_Group_mulTwo : Con0 := ⟨pk_I_Group_mulTwo, rk_I_Group_mulTwo, M_I_Group_mulTwo⟩

set_option maxRecDepth 100000 in
theorem eq_I_Group_mulTwo (x : In pk_I_Group_mulTwo) : semF (mkE [(50, c_I_Group_mul)]) h_I_Group_mulTwo (info Tryz.f48) pk_I_Group_mulTwo rk_I_Group_mulTwo x = M_I_Group_mulTwo x := by kernel_rfl

set_option maxRecDepth 100000 in
theorem m_I_Group_mulTwo : ConOK Tryz.prog 48 c_I_Group_mulTwo := fn_ok (tyOK _) (E := mkE [(50, c_I_Group_mul)]) (consOK_cons m_I_Group_mul (consOK_nil rfl)) Tryz.func48 (h := h_I_Group_mulTwo) (by kernel_rfl) eq_I_Group_mulTwo

/-- I_CombineBlinds -/
def pk_I_CombineBlinds : List PK := [.data (.cons (.int .i64) (.cons (.int .i64) (.one (.int .i64)))), .data (.cons (.int .i64) (.one (.int .i64))), .data (.sl (.cons (.int .i64) (.cons (.cons (.int .i64) (.one (.int .i64))) (.one (.cons (.sl (.int .i64)) (.cons (.sl (.int .i64)) (.one (.sl (.int .i64)))))))))]
def rk_I_CombineBlinds : List (Ty × Bool) := [((.cons (.int .i64) (.one (.int .i64))), false), ((.sl (.int .i64)), true), (.bool, false)]
def h_I_CombineBlinds : Hints := { loops := [(0, { items := [.slot 10 (.own (.int .i64) true), .slot 32 (.data (.int .i64) []), .cell 9 0 (.data (.int .i64) []), .cell 9 1 (.data (.int .i64) [])], kill := [0, 1, 2, 5, 7, 8, 11, 12, 13, 14, 15, 16, 17, 18, 19, 20, 21, 22, 23, 24, 25, 26, 27, 28, 29, 33, 34, 35, 36, 37, 38, 39, 40, 41, 42, 43, 44, 45, 46, 47, 48, 49, 50, 51, 52, 53, 54, 55, 56, 57, 58, 59, 60, 61, 62, 63] })] }
noncomputable def M_I_CombineBlinds (x : ((Int × (Int × Int)) × ((Int × Int) × (List (Int × ((Int × Int) × ((List Int) × ((List Int) × (List Int))))))))) : (Option ((Int × Int) × ((List Int) × Bool))) :=
  (bindO (M_I_IsValidGroup (x.1.1, (x.1.2.1, x.1.2.2))) (fun (a0 : Bool) => (cond (not a0) (some (((0 : Int), (0 : Int)), (([] : List Int), false))) (bindO (M_I_Group_hasCipher ((x.1.1, (x.1.2.1, x.1.2.2)), (x.2.1.1, x.2.1.2))) (fun (a1 : Bool) => (cond (not a1) (some (((0 : Int), (0 : Int)), (([] : List Int), false))) (cond (decide ((((List.length x.2.2) : Nat) : Int) > (14 : Int))) (some (((0 : Int), (0 : Int)), (([] : List Int), false))) (loopO (fun (again2 : (((List Int) × (Int × (Int × Int))) → (Option ((Int × Int) × ((List Int) × Bool))))) => (fun (s3 : ((List Int) × (Int × (Int × Int)))) => (cond (decide (s3.2.1 < (((List.length x.2.2) : Nat) : Int))) (bindO (getI x.2.2 s3.2.1) (fun (a4 : (Int × ((Int × Int) × ((List Int) × ((List Int) × (List Int)))))) => (bindO (M_slices_Contains_sint_int (s3.1, a4.1)) (fun (a5 : Bool) => (cond (not a5) (bindO (M_I_Group_isBlind ((x.1.1, (x.1.2.1, x.1.2.2)), ((x.2.1.1, x.2.1.2), (a4.1, ((a4.2.1.1, a4.2.1.2), (a4.2.2.1, (a4.2.2.2.1, a4.2.2.2.2))))))) (fun (a6 : Bool) => (cond a6 (bindO (M_I_Group_mulTwo ((x.1.1, (x.1.2.1, x.1.2.2)), ((s3.2.2.1, s3.2.2.2), (a4.2.1.1, a4.2.1.2)))) (fun (a7 : (Int × Int)) => (bindO (guardO (lenOk ((List.length s3.1) + (List.length (a4.1 :: ([] : List Int)))))) (fun (a8 : Unit) => (bindO (some (s3.1 ++ (a4.1 :: ([] : List Int)))) (fun (a9 : (List Int)) => (bindO (some (IntKind.wrap .i64 (s3.2.1 + (1 : Int)))) (fun (a10 : Int) => (again2 (a9, (a10, (a7.1, a7.2)))))))))))) (bindO (some (IntKind.wrap .i64 (s3.2.1 + (1 : Int)))) (fun (a11 : Int) => (again2 (s3.1, (a11, (s3.2.2.1, s3.2.2.2))))))))) (bindO (some (IntKind.wrap .i64 (s3.2.1 + (1 : Int)))) (fun (a12 : Int) => (again2 (s3.1, (a12, (s3.2.2.1, s3.2.2.2))))))))))) (cond ((((List.length s3.1) : Nat) : Int) == (0 : Int)) (some (((0 : Int), (0 : Int)), (([] : List Int), false))) (some ((s3.2.2.1, s3.2.2.2), (s3.1, true))))))) (([] : List Int), ((0 : Int), ((1 : Int), (1 : Int))))))))))))

noncomputable def c_I_CombineBlinds : Con0 := ⟨pk_I_CombineBlinds, rk_I_CombineBlinds, M_I_CombineBlinds⟩

set_option maxRecDepth 100000 in
theorem eq_I_CombineBlinds (x : In pk_I_CombineBlinds) : semF (mkE [(43, c_I_IsValidGroup), (44, c_I_Group_hasCipher), (46, c_slices_Contains_sint_int), (47, c_I_Group_isBlind), (48, c_I_Group_mulTwo)]) h_I_CombineBlinds (info Tryz.f27) pk_I_CombineBlinds rk_I_CombineBlinds x = M_I_CombineBlinds x := by kernel_rfl

set_option maxRecDepth 100000 in
theorem m_I_CombineBlinds : ConOK Tryz.prog 27 c_I_CombineBlinds := fn_ok (tyOK _) (E := mkE [(43, c_I_IsValidGroup), (44, c_I_Group_hasCipher), (46, c_slices_Contains_sint_int), (47, c_I_Group_isBlind), (48, c_I_Group_mulTwo)]) (consOK_cons m_I_IsValidGroup (consOK_cons m_I_Group_hasCipher (consOK_cons m_slices_Contains_sint_int (consOK_cons m_I_Group_isBlind (consOK_cons m_I_Group_mulTwo (consOK_nil rfl)))))) Tryz.func27 (h := h_I_CombineBlinds) (by kernel_rfl) eq_I_CombineBlinds

/-- I_Group_areCommits -/
def pk_I_Group_areCommits : List PK := [.data (.cons (.int .i64) (.cons (.int .i64) (.one (.int .i64)))), .data (.sl (.int .i64))]
def rk_I_Group_areCommits : List (Ty × Bool) := [(.bool, false)]
def h_I_Group_areCommits : Hints := { loops := [] }
noncomputable def M_I_Group_areCommits (x : ((Int × (Int × Int)) × (List Int))) : (Option Bool) :=
  (bindO (M_I_within ((((List.length x.2) : Nat) : Int), ((1 : Int), (7 : Int)))) (fun (a0 : Bool) => (cond a0 (bindO (M_I_Group_hasAll ((x.1.1, (x.1.2.1, x.1.2.2)), x.2)) (fun (a1 : Bool) => (some a1))) (some false))))

noncomputable def c_I_Group_areCommits : Con0 := ⟨pk_I_Group_areCommits, rk_I_Group_areCommits, M_I_Group_areCommits⟩

set_option maxRecDepth 100000 in
theorem eq_I_Group_areCommits (x : In pk_I_Group_areCommits) : semF (mkE [(67, c_I_within), (98, c_I_Group_hasAll)]) h_I_Group_areCommits (info Tryz.f87) pk_I_Group_areCommits rk_I_Group_areCommits x = M_I_Group_areCommits x := by kernel_rfl

set_option maxRecDepth 100000 in
theorem m_I_Group_areCommits : ConOK Tryz.prog 87 c_I_Group_areCommits := fn_ok (tyOK _) (E := mkE [(67, c_I_within), (98, c_I_Group_hasAll)]) (consOK_cons m_I_within (consOK_cons m_I_Group_hasAll (consOK_nil rfl))) Tryz.func87 (h := h_I_Group_areCommits) (by kernel_rfl) eq_I_Group_areCommits

/-- I_isDecryption -/
def pk_I_isDecryption : List PK := [.data (.cons (.int .i64) (.cons (.int .i64) (.one (.int .i64)))), .data (.sl (.int .i64)), .data (.cons (.int .i64) (.one (.int .i64)))]
def rk_I_isDecryption : List (Ty × Bool) := [(.bool, false)]
def h_I_isDecryption : Hints := { loops := [] }
noncomputable def M_I_isDecryption (x : ((Int × (Int × Int)) × ((List Int) × (Int × Int)))) : (Option Bool) :=
  (bindO (M_I_isSharing (x.1.1, (x.1.2.1, x.1.2.2))) (fun (a0 : Bool) => (cond a0 (bindO (M_I_Group_areCommits ((x.1.1, (x.1.2.1, x.1.2.2)), x.2.1)) (fun (a1 : Bool) => (cond a1 (bindO (M_I_Group_hasCipher ((x.1.1, (x.1.2.1, x.1.2.2)), (x.2.2.1, x.2.2.2))) (fun (a2 : Bool) => (some a2))) (some false)))) (some false))))

noncomputable def c_I_isDecryption : Con0 := ⟨pk_I_isDecryption, rk_I_isDecryption, M_I_isDecryption⟩

set_option maxRecDepth 100000 in
theorem eq_I_isDecryption (x : In pk_I_isDecryption) : semF (mkE [(26, c_I_isSharing), (87, c_I_Group_areCommits), (44, c_I_Group_hasCipher)]) h_I_isDecryption (info Tryz.f76) pk_I_isDecryption rk_I_isDecryption x = M_I_isDecryption x := by kernel_rfl

set_option maxRecDepth 100000 in
theorem m_I_isDecryption : ConOK Tryz.prog 76 c_I_isDecryption := fn_ok (tyOK _) (E := mkE [(26, c_I_isSharing), (87, c_I_Group_areCommits), (44, c_I_Group_hasCipher)]) (consOK_cons m_I_isSharing (consOK_cons m_I_Group_areCommits (consOK_cons m_I_Group_hasCipher (consOK_nil rfl)))) Tryz.func76 (h := h_I_isDecryption) (by kernel_rfl) eq_I_isDecryption

/-- I_Group_exp -/
def pk_I_Group_exp : List PK := [.data (.cons (.int .i64) (.cons (.int .i64) (.one (.int .i64)))), .data (.int .i64)]
def rk_I_Group_exp : List (Ty × Bool) := [((.int .i64), false)]
def h_I_Group_exp : Hints := { loops := [] }
noncomputable def M_I_Group_exp (x : ((Int × (Int × Int)) × Int)) : (Option Int) :=
  (bindO (M_I_mod (x.2, x.1.2.1)) (fun (a0 : Int) => (some a0)))

noncomputable def c_I_Group_exp : Con0 := ⟨pk_I_Group_exp, rk_I_Group_exp, M_I_Group_exp⟩

set_option maxRecDepth 100000 in
theorem eq_I_Group_exp (x : In pk_I_Group_exp) : semF (mkE [(89, c_I_mod)]) h_I_Group_exp (info Tryz.f111) pk_I_Group_exp rk_I_Group_exp x = M_I_Group_exp x := by kernel_rfl

set_option maxRecDepth 100000 in
theorem m_I_Group_exp : ConOK Tryz.prog 111 c_I_Group_exp := fn_ok (tyOK _) (E := mkE [(89, c_I_mod)]) (consOK_cons m_I_mod (consOK_nil rfl)) Tryz.func111 (h := h_I_Group_exp) (by kernel_rfl) eq_I_Group_exp

/-- I_Group_commitAt -/
def pk_I_Group_commitAt : List PK := [.data (.cons (.int .i64) (.cons (.int .i64) (.one (.int .i64)))), .data (.sl (.int .i64)), .data (.int .i64)]
def rk_I_Group_commitAt : List (Ty × Bool) := [((.int .i64), false)]
def h_I_Group_commitAt : Hints := { loops := [(0, { items := [.slot 7 (.data (.int .i64) []), .slot 8 (.data (.int .i64) []), .slot 13 (.data (.int .i64) [])], kill := [0, 1, 4, 5, 6, 9, 10, 14, 15, 16, 17, 18, 19, 20, 21, 22, 23, 24, 25, 26, 27, 28, 29, 30, 31] })] }
noncomputable def M_I_Group_commitAt (x : ((Int × (Int × Int)) × ((List Int) × Int))) : (Option Int) :=
  (loopO (fun (again0 : ((Int × (Int × Int)) → (Option Int))) => (fun (s1 : (Int × (Int × Int))) => (cond (decide (s1.2.2 < (((List.length x.2.1) : Nat) : Int))) (bindO (getI x.2.1 s1.2.2) (fun (a2 : Int) => (bindO (M_I_Group_pow ((x.1.1, (x.1.2.1, x.1.2.2)), (a2, s1.2.1))) (fun (a3 : Int) => (bindO (M_I_Group_mul ((x.1.1, (x.1.2.1, x.1.2.2)), (s1.1 :: (a3 :: ([] : List Int))))) (fun (a4 : Int) => (bindO (some (IntKind.wrap .i64 (s1.2.1 * x.2.2))) (fun (a5 : Int) => (bindO (M_I_Group_exp ((x.1.1, (x.1.2.1, x.1.2.2)), a5)) (fun (a6 : Int) => (bindO (some (IntKind.wrap .i64 (s1.2.2 + (1 : Int)))) (fun (a7 : Int) => (again0 (a4, (a6, a7))))))))))))))) (some s1.1)))) ((1 : Int), ((1 : Int), (0 : Int))))

noncomputable def c_I_Group_commitAt : Con0 := ⟨pk_I_Group_commitAt, rk_I_Group_commitAt, M_I_Group_commitAt⟩

set_option maxRecDepth 100000 in
theorem eq_I_Group_commitAt (x : In pk_I_Group_commitAt) : semF (mkE [(78, c_I_Group_pow), (50, c_I_Group_mul), (111, c_I_Group_exp)]) h_I_Group_commitAt (info Tryz.f100) pk_I_Group_commitAt rk_I_Group_commitAt x = M_I_Group_commitAt x := by kernel_rfl

set_option maxRecDepth 100000 in
theorem m_I_Group_commitAt : ConOK Tryz.prog 100 c_I_Group_commitAt := fn_ok (tyOK _) (E := mkE [(78, c_I_Group_pow), (50, c_I_Group_mul), (111, c_I_Group_exp)]) (consOK_cons m_I_Group_pow (consOK_cons m_I_Group_mul (consOK_cons m_I_Group_exp (consOK_nil rfl)))) Tryz.func100 (h := h_I_Group_commitAt) (by kernel_rfl) eq_I_Group_commitAt

/-- I_Group_isPartial -/
def pk_I_Group_isPartial : List PK := [.data (.cons (.int .i64) (.cons (.int .i64) (.one (.int .i64)))), .data (.sl (.int .i64)), .data (.cons (.int .i64) (.one (.int .i64))), .data (.cons (.int .i64) (.cons (.int .i64) (.one (.cons (.sl (.int .i64)) (.cons (.sl (.int .i64)) (.one (.sl (.int .i64))))))))]
def rk_I_Group_isPartial : List (Ty × Bool) := [(.bool, false)]
def h_I_Group_isPartial : Hints := { loops := [] }
noncomputable def M_I_Group_isPartial (x : ((Int × (Int × Int)) × ((List Int) × ((Int × Int) × (Int × (Int × ((List Int) × ((List Int) × (List Int))))))))) : (Option Bool) :=
  (bindO (M_I_isTrustee x.2.2.2.1) (fun (a0 : Bool) => (cond (not a0) (some false) (bindO (M_I_Group_has ((x.1.1, (x.1.2.1, x.1.2.2)), x.2.2.2.2.1)) (fun (a1 : Bool) => (cond (not a1) (some false) (bindO (M_I_Group_commitAt ((x.1.1, (x.1.2.1, x.1.2.2)), (x.2.1, x.2.2.2.1))) (fun (a2 : Int) => (bindO (M_I_Group_verifyLinear ((x.1.1, (x.1.2.1, x.1.2.2)), ((bytesOf [112, 97, 114, 116, 105, 97, 108]), (((x.1.2.2 :: ([] : List Int)) :: ((x.2.2.1.1 :: ([] : List Int)) :: ([] : List (List Int)))), ((a2 :: (x.2.2.2.2.1 :: ([] : List Int))), (x.2.2.2.2.2.1, (x.2.2.2.2.2.2.1, x.2.2.2.2.2.2.2))))))) (fun (a3 : Bool) => (some a3)))))))))))

noncomputable def c_I_Group_isPartial : Con0 := ⟨pk_I_Group_isPartial, rk_I_Group_isPartial, M_I_Group_isPartial⟩

set_option maxRecDepth 100000 in
theorem eq_I_Group_isPartial (x : In pk_I_Group_isPartial) : semF (mkE [(73, c_I_isTrustee), (70, c_I_Group_has), (100, c_I_Group_commitAt), (99, c_I_Group_verifyLinear)]) h_I_Group_isPartial (info Tryz.f88) pk_I_Group_isPartial rk_I_Group_isPartial x = M_I_Group_isPartial x := by kernel_rfl

set_option maxRecDepth 100000 in
theorem m_I_Group_isPartial : ConOK Tryz.prog 88 c_I_Group_isPartial := fn_ok (tyOK _) (E := mkE [(73, c_I_isTrustee), (70, c_I_Group_has), (100, c_I_Group_commitAt), (99, c_I_Group_verifyLinear)]) (consOK_cons m_I_isTrustee (consOK_cons m_I_Group_has (consOK_cons m_I_Group_commitAt (consOK_cons m_I_Group_verifyLinear (consOK_nil rfl))))) Tryz.func88 (h := h_I_Group_isPartial) (by kernel_rfl) eq_I_Group_isPartial

/-- I_Group_good -/
def pk_I_Group_good : List PK := [.data (.cons (.int .i64) (.cons (.int .i64) (.one (.int .i64)))), .data (.sl (.int .i64)), .data (.cons (.int .i64) (.one (.int .i64))), .data (.sl (.cons (.int .i64) (.cons (.int .i64) (.one (.cons (.sl (.int .i64)) (.cons (.sl (.int .i64)) (.one (.sl (.int .i64)))))))))]
def rk_I_Group_good : List (Ty × Bool) := [((.sl (.int .i64)), true)]
def h_I_Group_good : Hints := { loops := [(0, { items := [.slot 9 (.own (.int .i64) true), .slot 10 (.own (.int .i64) true), .slot 17 (.data (.int .i64) [])], kill := [0, 2, 3, 5, 7, 8, 11, 12, 13, 14, 18, 19, 20, 21, 22, 23, 24, 25, 26, 27, 28, 29, 30, 31, 32, 33, 34, 35, 36, 37, 38, 39, 40, 41, 42, 43, 44] })] }
noncomputable def M_I_Group_good (x : ((Int × (Int × Int)) × ((List Int) × ((Int × Int) × (List (Int × (Int × ((List Int) × ((List Int) × (List Int)))))))))) : (Option (List Int)) :=
  (loopO (fun (again0 : (((List Int) × ((List Int) × Int)) → (Option (List Int)))) => (fun (s1 : ((List Int) × ((List Int) × Int))) => (cond (decide (s1.2.2 < (((List.length x.2.2.2) : Nat) : Int))) (bindO (getI x.2.2.2 s1.2.2) (fun (a2 : (Int × (Int × ((List Int) × ((List Int) × (List Int)))))) => (bindO (M_slices_Contains_sint_int (s1.2.1, a2.1)) (fun (a3 : Bool) => (cond (not a3) (bindO (M_I_Group_isPartial ((x.1.1, (x.1.2.1, x.1.2.2)), (x.2.1, ((x.2.2.1.1, x.2.2.1.2), (a2.1, (a2.2.1, (a2.2.2.1, (a2.2.2.2.1, a2.2.2.2.2)))))))) (fun (a4 : Bool) => (cond a4 (bindO (guardO (lenOk ((List.length s1.1) + (List.length (s1.2.2 :: ([] : List Int)))))) (fun (a5 : Unit) => (bindO (some (s1.1 ++ (s1.2.2 :: ([] : List Int)))) (fun (a6 : (List Int)) => (bindO (guardO (lenOk ((List.length s1.2.1) + (List.length (a2.1 :: ([] : List Int)))))) (fun (a7 : Unit) => (bindO (some (s1.2.1 ++ (a2.1 :: ([] : List Int)))) (fun (a8 : (List Int)) => (bindO (some (IntKind.wrap .i64 (s1.2.2 + (1 : Int)))) (fun (a9 : Int) => (again0 (a6, (a8, a9))))))))))))) (bindO (some (IntKind.wrap .i64 (s1.2.2 + (1 : Int)))) (fun (a10 : Int) => (again0 (s1.1, (s1.2.1, a10)))))))) (bindO (some (IntKind.wrap .i64 (s1.2.2 + (1 : Int)))) (fun (a11 : Int) => (again0 (s1.1, (s1.2.1, a11)))))))))) (some s1.1)))) (([] : List Int), (([] : List Int), (0 : Int))))

noncomputable def c_I_Group_good : Con0 := ⟨pk_I_Group_good, rk_I_Group_good, M_I_Group_good⟩

set_option maxRecDepth 100000 in
theorem eq_I_Group_good (x : In pk_I_Group_good) : semF (mkE [(46, c_slices_Contains_sint_int), (88, c_I_Group_isPartial)]) h_I_Group_good (info Tryz.f77) pk_I_Group_good rk_I_Group_good x = M_I_Group_good x := by kernel_rfl

set_option maxRecDepth 100000 in
theorem m_I_Group_good : ConOK Tryz.prog 77 c_I_Group_good := fn_ok (tyOK _) (E := mkE [(46, c_slices_Contains_sint_int), (88, c_I_Group_isPartial)]) (consOK_cons m_slices_Contains_sint_int (consOK_cons m_I_Group_isPartial (consOK_nil rfl))) Tryz.func77 (h := h_I_Group_good) (by kernel_rfl) eq_I_Group_good

/-- I_GoodPartials -/
def pk_I_GoodPartials : List PK := [.data (.cons (.int .i64) (.cons (.int .i64) (.one (.int .i64)))), .data (.sl (.int .i64)), .data (.cons (.int .i64) (.one (.int .i64))), .data (.sl (.cons (.int .i64) (.cons (.int .i64) (.one (.cons (.sl (.int .i64)) (.cons (.sl (.int .i64)) (.one (.sl (.int .i64)))))))))]
def rk_I_GoodPartials : List (Ty × Bool) := [((.sl (.int .i64)), true), (.bool, false)]
def h_I_GoodPartials : Hints := { loops := [] }
noncomputable def M_I_GoodPartials (x : ((Int × (Int × Int)) × ((List Int) × ((Int × Int) × (List (Int × (Int × ((List Int) × ((List Int) × (List Int)))))))))) : (Option ((List Int) × Bool)) :=
  (bindO (M_I_isDecryption ((x.1.1, (x.1.2.1, x.1.2.2)), (x.2.1, (x.2.2.1.1, x.2.2.1.2)))) (fun (a0 : Bool) => (cond (not a0) (some (([] : List Int), false)) (cond (decide ((((List.length x.2.2.2) : Nat) : Int) > (14 : Int))) (some (([] : List Int), false)) (bindO (M_I_Group_good ((x.1.1, (x.1.2.1, x.1.2.2)), (x.2.1, ((x.2.2.1.1, x.2.2.1.2), x.2.2.2)))) (fun (a1 : (List Int)) => (some (a1, true))))))))

noncomputable def c_I_GoodPartials : Con0 := ⟨pk_I_GoodPartials, rk_I_GoodPartials, M_I_GoodPartials⟩

set_option maxRecDepth 100000 in
theorem eq_I_GoodPartials (x : In pk_I_GoodPartials) : semF (mkE [(76, c_I_isDecryption), (77, c_I_Group_good)]) h_I_GoodPartials (info Tryz.f49) pk_I_GoodPartials rk_I_GoodPartials x = M_I_GoodPartials x := by kernel_rfl

set_option maxRecDepth 100000 in
theorem m_I_GoodPartials : ConOK Tryz.prog 49 c_I_GoodPartials := fn_ok (tyOK _) (E := mkE [(76, c_I_isDecryption), (77, c_I_Group_good)]) (consOK_cons m_I_isDecryption (consOK_cons m_I_Group_good (consOK_nil rfl))) Tryz.func49 (h := h_I_GoodPartials) (by kernel_rfl) eq_I_GoodPartials

/-- slices_Clone_sint_int -/
def pk_slices_Clone_sint_int : List PK := [.data (.sl (.int .i64))]
def rk_slices_Clone_sint_int : List (Ty × Bool) := [((.sl (.int .i64)), true)]
def h_slices_Clone_sint_int : Hints := { loops := [] }
noncomputable def M_slices_Clone_sint_int (x : (List Int)) : (Option (List Int)) :=
  (cond (List.isEmpty x) (ambO (some ([] : List Int)) (cond (not true) (some ([] : List Int)) (bindO (guardO (lenOk ((List.length ([] : List Int)) + (List.length x)))) (fun (a0 : Unit) => (bindO (some (([] : List Int) ++ x)) (fun (a1 : (List Int)) => (some a1))))))) (cond (not true) (some ([] : List Int)) (bindO (guardO (lenOk ((List.length ([] : List Int)) + (List.length x)))) (fun (a2 : Unit) => (bindO (some (([] : List Int) ++ x)) (fun (a3 : (List Int)) => (some a3)))))))

noncomputable def c_slices_Clone_sint_int : Con0 := ⟨pk_slices_Clone_sint_int, rk_slices_Clone_sint_int, M_slices_Clone_sint_int⟩

set_option maxRecDepth 100000 in
theorem eq_slices_Clone_sint_int (x : In pk_slices_Clone_sint_int) : semF (mkE []) h_slices_Clone_sint_int (info Tryz.f91) pk_slices_Clone_sint_int rk_slices_Clone_sint_int x = M_slices_Clone_sint_int x := by kernel_rfl

set_option maxRecDepth 100000 in
theorem m_slices_Clone_sint_int : ConOK Tryz.prog 91 c_slices_Clone_sint_int := fn_ok (tyOK _) (E := mkE []) (consOK_nil rfl) Tryz.func91 (h := h_slices_Clone_sint_int) (by kernel_rfl) eq_slices_Clone_sint_int

/-- slices_Delete_sint_int -/
def pk_slices_Delete_sint_int : List PK := [.ow (.sl (.int .i64)), .data (.int .i64), .data (.int .i64)]
def rk_slices_Delete_sint_int : List (Ty × Bool) := [((.sl (.int .i64)), true)]
noncomputable def M_slices_Delete_sint_int (x : ((List Int) × (Int × Int))) : (Option (List Int)) :=
  (if (0 ≤ x.2.1 ∧ x.2.1 ≤ x.2.2) ∧ x.2.2 ≤ (x.1.length : Int) ∧ 0 < x.1.length then some (x.1.take x.2.1.toNat ++ x.1.drop x.2.2.toNat) else Option.none)

noncomputable def c_slices_Delete_sint_int : Con0 := ⟨pk_slices_Delete_sint_int, rk_slices_Delete_sint_int, M_slices_Delete_sint_int⟩

def del_ren : Go.Shelf.Ren := ⟨fun | 23 => 90 | n => n, fun | 0 => 0 | 3 => 3 | 4 => 4 | 22 => 24 | n => n, fun n => n⟩
set_option maxRecDepth 100000 in
theorem del_lays : Go.Proofs.Lays2.n23 Tryz.prog del_ren where
  mixed := by kernel_rfl
  f23 := Tryz.func90.trans (congrArg some (by kernel_rfl))
  t0 := Tryz.underlying0
  a0 := Tryz.isAgg0
  z0 := Tryz.sizeOf0
  v0 := Tryz.zeroValue0
  t3 := Tryz.underlying3
  a3 := Tryz.isAgg3
  z3 := Tryz.sizeOf3
  v3 := Tryz.zeroValue3
  t4 := Tryz.underlying4
  a4 := Tryz.isAgg4
  z4 := Tryz.sizeOf4
  v4 := Tryz.zeroValue4
  t22 := Tryz.underlying24
  a22 := Tryz.isAgg24
  z22 := Tryz.sizeOf24
  v22 := Tryz.zeroValue24
  i3 := by kernel_rfl

theorem m_slices_Delete_sint_int : ConOK Tryz.prog 90 c_slices_Delete_sint_int := del_ok ⟨Tryz.f90, Tryz.func90, of_decide_eq_true (by kernel_rfl), by kernel_rfl⟩ (del_law del_lays)

/-- I_mulPolys -/
def pk_I_mulPolys : List PK := [.data (.int .i64), .data (.sl (.int .i64)), .data (.sl (.int .i64))]
def rk_I_mulPolys : List (Ty × Bool) := [((.sl (.int .i64)), true)]
def h_I_mulPolys : Hints := { loops := [(0, { items := [.slot 29 (.data (.int .i64) []), .arr 7 (.int .i64) true], kill := [1, 3, 4, 5, 6, 8, 9, 10, 11, 12, 13, 14, 15, 16, 17, 18, 19, 20, 21, 22, 23, 24, 25, 26, 30, 31, 32, 33, 34, 35, 36, 37, 38, 39, 40, 41, 42, 43, 44, 45, 46, 47, 48, 49, 50, 51, 52, 53, 54, 55, 56, 57, 58, 59, 60, 61, 62] }), (2, { items := [.slot 36 (.data (.int .i64) []), .arr 7 (.int .i64) true], kill := [1, 3, 4, 5, 6, 10, 11, 12, 13, 14, 15, 16, 17, 18, 19, 20, 21, 22, 23, 24, 25, 26, 30, 31, 32, 33, 37, 38, 39, 40, 41, 42, 43, 44, 45, 46, 47, 48, 49, 50, 51, 52, 53, 54, 55, 56, 57, 58, 59, 60, 61, 62] })] }
noncomputable def M_I_mulPolys (x : (Int × ((List Int) × (List Int)))) : (Option (List Int)) :=
  (cond ((((List.length x.2.1) : Nat) : Int) == (0 : Int)) (some ([] : List Int)) (cond ((((List.length x.2.2) : Nat) : Int) == (0 : Int)) (some ([] : List Int)) (bindO (some (IntKind.wrap .i64 ((((List.length x.2.1) : Nat) : Int) + (((List.length x.2.2) : Nat) : Int)))) (fun (a0 : Int) => (bindO (some (IntKind.wrap .i64 (a0 - (1 : Int)))) (fun (a1 : Int) => (bindO (guardO (((decide ((0 : Int) ≤ a1)) && (decide (a1 ≤ a1))) && (decide (a1 ≤ ((lim : Nat) : Int))))) (fun (a2 : Unit) => (loopO (fun (again3 : ((Int × (List Int)) → (Option (List Int)))) => (fun (s4 : (Int × (List Int))) => (cond (decide (s4.1 < (((List.length x.2.1) : Nat) : Int))) (bindO (getI x.2.1 s4.1) (fun (a5 : Int) => (loopO (fun (again6 : ((Int × (List Int)) → (Option (List Int)))) => (fun (s7 : (Int × (List Int))) => (cond (decide (s7.1 < (((List.length x.2.2) : Nat) : Int))) (bindO (getI x.2.2 s7.1) (fun (a8 : Int) => (bindO (some (IntKind.wrap .i64 (s4.1 + s7.1))) (fun (a9 : Int) => (bindO (some (IntKind.wrap .i64 (s4.1 + s7.1))) (fun (a10 : Int) => (bindO (getI s7.2 a10) (fun (a11 : Int) => (bindO (some (IntKind.wrap .i64 (a5 * a8))) (fun (a12 : Int) => (bindO (guardO (x.1 != (0 : Int))) (fun (a13 : Unit) => (bindO (some (Int.tmod a12 x.1)) (fun (a14 : Int) => (bindO (some (IntKind.wrap .i64 (a11 + a14))) (fun (a15 : Int) => (bindO (guardO (x.1 != (0 : Int))) (fun (a16 : Unit) => (bindO (some (Int.tmod a15 x.1)) (fun (a17 : Int) => (bindO (getI s7.2 a9) (fun (a18 : Int) => (bindO (some (List.set s7.2 (Int.toNat a9) a17)) (fun (a19 : (List Int)) => (bindO (some (IntKind.wrap .i64 (s7.1 + (1 : Int)))) (fun (a20 : Int) => (again6 (a20, a19)))))))))))))))))))))))))))) (bindO (some (IntKind.wrap .i64 (s4.1 + (1 : Int)))) (fun (a21 : Int) => (again3 (a21, s7.2))))))) ((0 : Int), s4.2)))) (some s4.2)))) ((0 : Int), (List.replicate (Int.toNat a1) (0 : Int))))))))))))

noncomputable def c_I_mulPolys : Con0 := ⟨pk_I_mulPolys, rk_I_mulPolys, M_I_mulPolys⟩

set_option maxRecDepth 100000 in
theorem eq_I_mulPolys (x : In pk_I_mulPolys) : semF (mkE []) h_I_mulPolys (info Tryz.f93) pk_I_mulPolys rk_I_mulPolys x = M_I_mulPolys x := by kernel_rfl

set_option maxRecDepth 100000 in
theorem m_I_mulPolys : ConOK Tryz.prog 93 c_I_mulPolys := fn_ok (tyOK _) (E := mkE []) (consOK_nil rfl) Tryz.func93 (h := h_I_mulPolys) (by kernel_rfl) eq_I_mulPolys

/-- I_fromRoots -/
def pk_I_fromRoots : List PK := [.data (.int .i64), .data (.sl (.int .i64))]
def rk_I_fromRoots : List (Ty × Bool) := [((.sl (.int .i64)), true)]
def h_I_fromRoots : Hints := { loops := [(0, { items := [.slot 5 (.own (.int .i64) true), .slot 11 (.data (.int .i64) [])], kill := [1, 2, 3, 4, 6, 7, 8, 12, 13, 14, 15, 16, 17, 18, 19, 20, 21, 22, 23, 24] })] }
noncomputable def M_I_fromRoots (x : (Int × (List Int))) : (Option (List Int)) :=
  (loopO (fun (again0 : (((List Int) × Int) → (Option (List Int)))) => (fun (s1 : ((List Int) × Int)) => (cond (decide (s1.2 < (((List.length x.2) : Nat) : Int))) (bindO (getI x.2 s1.2) (fun (a2 : Int) => (bindO (some (IntKind.wrap .i64 ((0 : Int) - a2))) (fun (a3 : Int) => (bindO (M_I_mod (a3, x.1)) (fun (a4 : Int) => (bindO (M_I_mulPolys (x.1, (s1.1, (a4 :: ((1 : Int) :: ([] : List Int)))))) (fun (a5 : (List Int)) => (bindO (some (IntKind.wrap .i64 (s1.2 + (1 : Int)))) (fun (a6 : Int) => (again0 (a5, a6)))))))))))) (some s1.1)))) (((1 : Int) :: ([] : List Int)), (0 : Int)))

noncomputable def c_I_fromRoots : Con0 := ⟨pk_I_fromRoots, rk_I_fromRoots, M_I_fromRoots⟩

set_option maxRecDepth 100000 in
theorem eq_I_fromRoots (x : In pk_I_fromRoots) : semF (mkE [(89, c_I_mod), (93, c_I_mulPolys)]) h_I_fromRoots (info Tryz.f92) pk_I_fromRoots rk_I_fromRoots x = M_I_fromRoots x := by kernel_rfl

set_option maxRecDepth 100000 in
theorem m_I_fromRoots : ConOK Tryz.prog 92 c_I_fromRoots := fn_ok (tyOK _) (E := mkE [(89, c_I_mod), (93, c_I_mulPolys)]) (consOK_cons m_I_mod (consOK_cons m_I_mulPolys (consOK_nil rfl))) Tryz.func92 (h := h_I_fromRoots) (by kernel_rfl) eq_I_fromRoots

/-- I_evalPoly -/
def pk_I_evalPoly : List PK := [.data (.int .i64), .data (.sl (.int .i64)), .data (.int .i64)]
def rk_I_evalPoly : List (Ty × Bool) := [((.int .i64), false)]
def h_I_evalPoly : Hints := { loops := [(0, { items := [.slot 7 (.data (.int .i64) []), .slot 8 (.data (.int .i64) [])], kill := [3, 4, 5, 6, 9, 10, 11, 12, 13, 14, 15, 16, 17, 18, 19, 20, 21, 22, 23, 24, 25, 26, 27, 28] })] }
noncomputable def M_I_evalPoly (x : (Int × ((List Int) × Int))) : (Option Int) :=
  (bindO (some (IntKind.wrap .i64 ((((List.length x.2.1) : Nat) : Int) - (1 : Int)))) (fun (a0 : Int) => (loopO (fun (again1 : ((Int × Int) → (Option Int))) => (fun (s2 : (Int × Int)) => (cond (decide (s2.2 ≥ (0 : Int))) (bindO (some (IntKind.wrap .i64 (s2.1 * x.2.2))) (fun (a3 : Int) => (bindO (guardO (x.1 != (0 : Int))) (fun (a4 : Unit) => (bindO (some (Int.tmod a3 x.1)) (fun (a5 : Int) => (bindO (getI x.2.1 s2.2) (fun (a6 : Int) => (bindO (some (IntKind.wrap .i64 (a5 + a6))) (fun (a7 : Int) => (bindO (guardO (x.1 != (0 : Int))) (fun (a8 : Unit) => (bindO (some (Int.tmod a7 x.1)) (fun (a9 : Int) => (bindO (some (IntKind.wrap .i64 (s2.2 - (1 : Int)))) (fun (a10 : Int) => (again1 (a9, a10)))))))))))))))))) (some s2.1)))) ((0 : Int), a0))))

noncomputable def c_I_evalPoly : Con0 := ⟨pk_I_evalPoly, rk_I_evalPoly, M_I_evalPoly⟩

set_option maxRecDepth 100000 in
theorem eq_I_evalPoly (x : In pk_I_evalPoly) : semF (mkE []) h_I_evalPoly (info Tryz.f79) pk_I_evalPoly rk_I_evalPoly x = M_I_evalPoly x := by kernel_rfl

set_option maxRecDepth 100000 in
theorem m_I_evalPoly : ConOK Tryz.prog 79 c_I_evalPoly := fn_ok (tyOK _) (E := mkE []) (consOK_nil rfl) Tryz.func79 (h := h_I_evalPoly) (by kernel_rfl) eq_I_evalPoly

/-- I_inverse -/
def pk_I_inverse : List PK := [.data (.int .i64), .data (.int .i64)]
def rk_I_inverse : List (Ty × Bool) := [((.int .i64), false)]
def h_I_inverse : Hints := { loops := [(0, { items := [.slot 5 (.data (.int .i64) []), .slot 6 (.data (.int .i64) []), .slot 7 (.data (.int .i64) []), .slot 8 (.data (.int .i64) [])], kill := [0, 2, 3, 4, 9, 10, 11, 12, 13, 14, 15, 16, 17, 18, 19, 20, 21, 22, 23, 24, 25, 26, 27, 28, 29, 30, 31, 32, 33] })] }
noncomputable def M_I_inverse (x : (Int × Int)) : (Option Int) :=
  (loopO (fun (again0 : ((Int × (Int × (Int × Int))) → (Option Int))) => (fun (s1 : (Int × (Int × (Int × Int)))) => (cond (s1.2.1 != (0 : Int)) (bindO (guardO (s1.2.1 != (0 : Int))) (fun (a2 : Unit) => (bindO (some (IntKind.wrap .i64 (Int.tdiv s1.1 s1.2.1))) (fun (a3 : Int) => (bindO (some (IntKind.wrap .i64 (a3 * s1.2.1))) (fun (a4 : Int) => (bindO (some (IntKind.wrap .i64 (s1.1 - a4))) (fun (a5 : Int) => (bindO (some (IntKind.wrap .i64 (a3 * s1.2.2.2))) (fun (a6 : Int) => (bindO (some (IntKind.wrap .i64 (s1.2.2.1 - a6))) (fun (a7 : Int) => (again0 (s1.2.1, (a5, (s1.2.2.2, a7)))))))))))))))) (cond (s1.1 != (1 : Int)) (some (0 : Int)) (bindO (M_I_mod (s1.2.2.1, x.2)) (fun (a8 : Int) => (some a8))))))) (x.2, (x.1, ((0 : Int), (1 : Int)))))

noncomputable def c_I_inverse : Con0 := ⟨pk_I_inverse, rk_I_inverse, M_I_inverse⟩

set_option maxRecDepth 100000 in
theorem eq_I_inverse (x : In pk_I_inverse) : semF (mkE [(89, c_I_mod)]) h_I_inverse (info Tryz.f94) pk_I_inverse rk_I_inverse x = M_I_inverse x := by kernel_rfl

set_option maxRecDepth 100000 in
theorem m_I_inverse : ConOK Tryz.prog 94 c_I_inverse := fn_ok (tyOK _) (E := mkE [(89, c_I_mod)]) (consOK_cons m_I_mod (consOK_nil rfl)) Tryz.func94 (h := h_I_inverse) (by kernel_rfl) eq_I_inverse

/-- I_basisAt -/
def pk_I_basisAt : List PK := [.data (.int .i64), .data (.sl (.int .i64)), .data (.int .i64)]
def rk_I_basisAt : List (Ty × Bool) := [((.sl (.int .i64)), true)]
def h_I_basisAt : Hints := { loops := [] }
noncomputable def M_I_basisAt (x : (Int × ((List Int) × Int))) : (Option (List Int)) :=
  (bindO (M_slices_Clone_sint_int x.2.1) (fun (a0 : (List Int)) => (bindO (some (IntKind.wrap .i64 (x.2.2 + (1 : Int)))) (fun (a1 : Int) => (bindO (M_slices_Delete_sint_int (a0, (x.2.2, a1))) (fun (a2 : (List Int)) => (bindO (M_I_fromRoots (x.1, a2)) (fun (a3 : (List Int)) => (bindO (getI x.2.1 x.2.2) (fun (a4 : Int) => (bindO (M_I_evalPoly (x.1, (a3, a4))) (fun (a5 : Int) => (bindO (M_I_inverse (a5, x.1)) (fun (a6 : Int) => (bindO (M_I_mulPolys (x.1, (a3, (a6 :: ([] : List Int))))) (fun (a7 : (List Int)) => (some a7)))))))))))))))))

noncomputable def c_I_basisAt : Con0 := ⟨pk_I_basisAt, rk_I_basisAt, M_I_basisAt⟩

set_option maxRecDepth 100000 in
theorem eq_I_basisAt (x : In pk_I_basisAt) : semF (mkE [(91, c_slices_Clone_sint_int), (90, c_slices_Delete_sint_int), (92, c_I_fromRoots), (79, c_I_evalPoly), (94, c_I_inverse), (93, c_I_mulPolys)]) h_I_basisAt (info Tryz.f80) pk_I_basisAt rk_I_basisAt x = M_I_basisAt x := by kernel_rfl

set_option maxRecDepth 100000 in
theorem m_I_basisAt : ConOK Tryz.prog 80 c_I_basisAt := fn_ok (tyOK _) (E := mkE [(91, c_slices_Clone_sint_int), (90, c_slices_Delete_sint_int), (92, c_I_fromRoots), (79, c_I_evalPoly), (94, c_I_inverse), (93, c_I_mulPolys)]) (consOK_cons m_slices_Clone_sint_int (consOK_cons m_slices_Delete_sint_int (consOK_cons m_I_fromRoots (consOK_cons m_I_evalPoly (consOK_cons m_I_inverse (consOK_cons m_I_mulPolys (consOK_nil rfl))))))) Tryz.func80 (h := h_I_basisAt) (by kernel_rfl) eq_I_basisAt

/-- I_lagrange -/
def pk_I_lagrange : List PK := [.data (.int .i64), .data (.sl (.int .i64)), .data (.int .i64)]
def rk_I_lagrange : List (Ty × Bool) := [((.sl (.int .i64)), true)]
def h_I_lagrange : Hints := { loops := [(0, { items := [.slot 7 (.own (.int .i64) true), .slot 12 (.data (.int .i64) [])], kill := [3, 4, 5, 6, 8, 9, 10, 13, 14, 15, 16, 17, 18, 19, 20, 21, 22, 23, 24, 25, 26] })] }
noncomputable def M_I_lagrange (x : (Int × ((List Int) × Int))) : (Option (List Int)) :=
  (loopO (fun (again0 : (((List Int) × Int) → (Option (List Int)))) => (fun (s1 : ((List Int) × Int)) => (cond (decide (s1.2 < (((List.length x.2.1) : Nat) : Int))) (bindO (M_I_basisAt (x.1, (x.2.1, s1.2))) (fun (a2 : (List Int)) => (bindO (M_I_evalPoly (x.1, (a2, x.2.2))) (fun (a3 : Int) => (bindO (guardO (lenOk ((List.length s1.1) + (List.length (a3 :: ([] : List Int)))))) (fun (a4 : Unit) => (bindO (some (s1.1 ++ (a3 :: ([] : List Int)))) (fun (a5 : (List Int)) => (bindO (some (IntKind.wrap .i64 (s1.2 + (1 : Int)))) (fun (a6 : Int) => (again0 (a5, a6)))))))))))) (some s1.1)))) (([] : List Int), (0 : Int)))

noncomputable def c_I_lagrange : Con0 := ⟨pk_I_lagrange, rk_I_lagrange, M_I_lagrange⟩

set_option maxRecDepth 100000 in
theorem eq_I_lagrange (x : In pk_I_lagrange) : semF (mkE [(80, c_I_basisAt), (79, c_I_evalPoly)]) h_I_lagrange (info Tryz.f53) pk_I_lagrange rk_I_lagrange x = M_I_lagrange x := by kernel_rfl

set_option maxRecDepth 100000 in
theorem m_I_lagrange : ConOK Tryz.prog 53 c_I_lagrange := fn_ok (tyOK _) (E := mkE [(80, c_I_basisAt), (79, c_I_evalPoly)]) (consOK_cons m_I_basisAt (consOK_cons m_I_evalPoly (consOK_nil rfl))) Tryz.func53 (h := h_I_lagrange) (by kernel_rfl) eq_I_lagrange

/-- I_CombinePartials -/
def pk_I_CombinePartials : List PK := [.data (.cons (.int .i64) (.cons (.int .i64) (.one (.int .i64)))), .data (.sl (.int .i64)), .data (.cons (.int .i64) (.one (.int .i64))), .data (.sl (.cons (.int .i64) (.cons (.int .i64) (.one (.cons (.sl (.int .i64)) (.cons (.sl (.int .i64)) (.one (.sl (.int .i64)))))))))]
def rk_I_CombinePartials : List (Ty × Bool) := [((.int .i64), false), (.bool, false)]
def h_I_CombinePartials : Hints := { loops := [(0, { items := [.slot 12 (.own (.int .i64) true), .slot 13 (.own (.int .i64) true), .slot 40 (.data (.int .i64) [])], kill := [0, 1, 2, 5, 7, 8, 9, 10, 11, 14, 15, 16, 17, 18, 19, 20, 21, 22, 23, 24, 25, 26, 27, 28, 29, 30, 31, 32, 33, 34, 35, 36, 37, 41, 42, 43, 44, 45, 46, 47, 48, 49, 50, 51, 52, 53, 54, 55, 56, 57, 58, 59, 60, 61, 62, 63, 64, 65, 66, 67, 68, 69, 70, 71, 72, 73, 74] })] }
noncomputable def M_I_CombinePartials (x : ((Int × (Int × Int)) × ((List Int) × ((Int × Int) × (List (Int × (Int × ((List Int) × ((List Int) × (List Int)))))))))) : (Option (Int × Bool)) :=
  (bindO (M_I_GoodPartials ((x.1.1, (x.1.2.1, x.1.2.2)), (x.2.1, ((x.2.2.1.1, x.2.2.1.2), x.2.2.2)))) (fun (a0 : ((List Int) × Bool)) => (cond (not a0.2) (some ((0 : Int), false)) (cond (decide ((((List.length a0.1) : Nat) : Int) < (((List.length x.2.1) : Nat) : Int))) (some ((0 : Int), false)) (bindO (sliceNH (((List.length x.2.1) : Nat) : Int) (List.length a0.1)) (fun (a1 : (Nat × Nat)) => (loopO (fun (again2 : (((List Int) × ((List Int) × Int)) → (Option (Int × Bool)))) => (fun (s3 : ((List Int) × ((List Int) × Int))) => (cond (decide (s3.2.2 < ((a1.2 : Nat) : Int))) (bindO (getI (List.take a1.2 a0.1) s3.2.2) (fun (a4 : Int) => (bindO (getI x.2.2.2 a4) (fun (a5 : (Int × (Int × ((List Int) × ((List Int) × (List Int)))))) => (bindO (guardO (lenOk ((List.length s3.1) + (List.length (a5.1 :: ([] : List Int)))))) (fun (a6 : Unit) => (bindO (some (s3.1 ++ (a5.1 :: ([] : List Int)))) (fun (a7 : (List Int)) => (bindO (getI x.2.2.2 a4) (fun (a8 : (Int × (Int × ((List Int) × ((List Int) × (List Int)))))) => (bindO (guardO (lenOk ((List.length s3.2.1) + (List.length (a8.2.1 :: ([] : List Int)))))) (fun (a9 : Unit) => (bindO (some (s3.2.1 ++ (a8.2.1 :: ([] : List Int)))) (fun (a10 : (List Int)) => (bindO (some (IntKind.wrap .i64 (s3.2.2 + (1 : Int)))) (fun (a11 : Int) => (again2 (a7, (a10, a11))))))))))))))))))) (bindO (M_I_lagrange (x.1.2.1, (s3.1, (0 : Int)))) (fun (a12 : (List Int)) => (bindO (M_I_Group_powers ((x.1.1, (x.1.2.1, x.1.2.2)), (s3.2.1, a12))) (fun (a13 : Int) => (bindO (M_I_Group_inv ((x.1.1, (x.1.2.1, x.1.2.2)), a13)) (fun (a14 : Int) => (bindO (M_I_Group_mul ((x.1.1, (x.1.2.1, x.1.2.2)), (x.2.2.1.2 :: (a14 :: ([] : List Int))))) (fun (a15 : Int) => (some (a15, true))))))))))))) (([] : List Int), (([] : List Int), (0 : Int))))))))))

noncomputable def c_I_CombinePartials : Con0 := ⟨pk_I_CombinePartials, rk_I_CombinePartials, M_I_CombinePartials⟩

set_option maxRecDepth 100000 in
theorem eq_I_CombinePartials (x : In pk_I_CombinePartials) : semF (mkE [(49, c_I_GoodPartials), (53, c_I_lagrange), (52, c_I_Group_powers), (51, c_I_Group_inv), (50, c_I_Group_mul)]) h_I_CombinePartials (info Tryz.f28) pk_I_CombinePartials rk_I_CombinePartials x = M_I_CombinePartials x := by kernel_rfl

set_option maxRecDepth 100000 in
theorem m_I_CombinePartials : ConOK Tryz.prog 28 c_I_CombinePartials := fn_ok (tyOK _) (E := mkE [(49, c_I_GoodPartials), (53, c_I_lagrange), (52, c_I_Group_powers), (51, c_I_Group_inv), (50, c_I_Group_mul)]) (consOK_cons m_I_GoodPartials (consOK_cons m_I_lagrange (consOK_cons m_I_Group_powers (consOK_cons m_I_Group_inv (consOK_cons m_I_Group_mul (consOK_nil rfl)))))) Tryz.func28 (h := h_I_CombinePartials) (by kernel_rfl) eq_I_CombinePartials

/-- I_TestEqual -/
def pk_I_TestEqual : List PK := [.data (.cons (.int .i64) (.cons (.int .i64) (.one (.int .i64)))), .data (.sl (.int .i64)), .data (.cons (.int .i64) (.one (.int .i64))), .data (.cons (.int .i64) (.one (.int .i64))), .data (.sl (.cons (.int .i64) (.cons (.cons (.int .i64) (.one (.int .i64))) (.one (.cons (.sl (.int .i64)) (.cons (.sl (.int .i64)) (.one (.sl (.int .i64))))))))), .data (.sl (.cons (.int .i64) (.cons (.int .i64) (.one (.cons (.sl (.int .i64)) (.cons (.sl (.int .i64)) (.one (.sl (.int .i64)))))))))]
def rk_I_TestEqual : List (Ty × Bool) := [(.bool, false), (.bool, false)]
def h_I_TestEqual : Hints := { loops := [] }
noncomputable def M_I_TestEqual (x : ((Int × (Int × Int)) × ((List Int) × ((Int × Int) × ((Int × Int) × ((List (Int × ((Int × Int) × ((List Int) × ((List Int) × (List Int)))))) × (List (Int × (Int × ((List Int) × ((List Int) × (List Int)))))))))))) : (Option (Bool × Bool)) :=
  (bindO (M_I_QuotientOf ((x.1.1, (x.1.2.1, x.1.2.2)), ((x.2.2.1.1, x.2.2.1.2), (x.2.2.2.1.1, x.2.2.2.1.2)))) (fun (a0 : ((Int × Int) × Bool)) => (cond (not a0.2) (some (false, false)) (bindO (M_I_isSharing (x.1.1, (x.1.2.1, x.1.2.2))) (fun (a1 : Bool) => (cond (not a1) (some (false, false)) (bindO (M_I_CombineBlinds ((x.1.1, (x.1.2.1, x.1.2.2)), ((a0.1.1, a0.1.2), x.2.2.2.2.1))) (fun (a2 : ((Int × Int) × ((List Int) × Bool))) => (cond (not a2.2.2) (some (false, false)) (bindO (M_I_CombinePartials ((x.1.1, (x.1.2.1, x.1.2.2)), (x.2.1, ((a2.1.1, a2.1.2), x.2.2.2.2.2)))) (fun (a3 : (Int × Bool)) => (cond (not a3.2) (some (false, false)) (some ((a3.1 == (1 : Int)), true))))))))))))))

noncomputable def c_I_TestEqual : Con0 := ⟨pk_I_TestEqual, rk_I_TestEqual, M_I_TestEqual⟩

set_option maxRecDepth 100000 in
theorem eq_I_TestEqual (x : In pk_I_TestEqual) : semF (mkE [(25, c_I_QuotientOf), (26, c_I_isSharing), (27, c_I_CombineBlinds), (28, c_I_CombinePartials)]) h_I_TestEqual (info Tryz.f12) pk_I_TestEqual rk_I_TestEqual x = M_I_TestEqual x := by kernel_rfl

set_option maxRecDepth 100000 in
theorem m_I_TestEqual : ConOK Tryz.prog 12 c_I_TestEqual := fn_ok (tyOK _) (E := mkE [(25, c_I_QuotientOf), (26, c_I_isSharing), (27, c_I_CombineBlinds), (28, c_I_CombinePartials)]) (consOK_cons m_I_QuotientOf (consOK_cons m_I_isSharing (consOK_cons m_I_CombineBlinds (consOK_cons m_I_CombinePartials (consOK_nil rfl))))) Tryz.func12 (h := h_I_TestEqual) (by kernel_rfl) eq_I_TestEqual

/-- L_eqIntS -/
def pk_L_eqIntS : List PK := [.data (.sl (.int .i64)), .data (.sl (.int .i64))]
def rk_L_eqIntS : List (Ty × Bool) := [(.bool, false)]
def h_L_eqIntS : Hints := { loops := [(0, { items := [.slot 5 (.data (.int .i64) [])], kill := [2, 3, 4, 6, 7, 8, 9, 10, 11, 12, 13, 14, 15, 16, 17, 18, 19, 20, 21, 22, 23, 24, 25] })] }
noncomputable def M_L_eqIntS (x : ((List Int) × (List Int))) : (Option Bool) :=
  (cond ((((List.length x.1) : Nat) : Int) != (((List.length x.2) : Nat) : Int)) (some false) (loopO (fun (again0 : (Int → (Option Bool))) => (fun (s1 : Int) => (cond (decide (s1 < (((List.length x.1) : Nat) : Int))) (bindO (getI x.1 s1) (fun (a2 : Int) => (bindO (getI x.2 s1) (fun (a3 : Int) => (cond (a2 != a3) (some false) (bindO (some (IntKind.wrap .i64 (s1 + (1 : Int)))) (fun (a4 : Int) => (again0 a4)))))))) (some true)))) (0 : Int)))

noncomputable def c_L_eqIntS : Con0 := ⟨pk_L_eqIntS, rk_L_eqIntS, M_L_eqIntS⟩

set_option maxRecDepth 100000 in
theorem eq_L_eqIntS (x : In pk_L_eqIntS) : semF (mkE []) h_L_eqIntS (info Tryz.f13) pk_L_eqIntS rk_L_eqIntS x = M_L_eqIntS x := by kernel_rfl

set_option maxRecDepth 100000 in
theorem m_L_eqIntS : ConOK Tryz.prog 13 c_L_eqIntS := fn_ok (tyOK _) (E := mkE []) (consOK_nil rfl) Tryz.func13 (h := h_L_eqIntS) (by kernel_rfl) eq_L_eqIntS

/-- L_eqCipher -/
def pk_L_eqCipher : List PK := [.data (.cons (.int .i64) (.one (.int .i64))), .data (.cons (.int .i64) (.one (.int .i64)))]
def rk_L_eqCipher : List (Ty × Bool) := [(.bool, false)]
def h_L_eqCipher : Hints := { loops := [] }
noncomputable def M_L_eqCipher (x : ((Int × Int) × (Int × Int))) : (Option Bool) :=
  (cond (x.1.1 != x.2.1) (some false) (cond (x.1.2 != x.2.2) (some false) (some true)))

noncomputable def c_L_eqCipher : Con0 := ⟨pk_L_eqCipher, rk_L_eqCipher, M_L_eqCipher⟩

set_option maxRecDepth 100000 in
theorem eq_L_eqCipher (x : In pk_L_eqCipher) : semF (mkE []) h_L_eqCipher (info Tryz.f54) pk_L_eqCipher rk_L_eqCipher x = M_L_eqCipher x := by kernel_rfl

set_option maxRecDepth 100000 in
theorem m_L_eqCipher : ConOK Tryz.prog 54 c_L_eqCipher := fn_ok (tyOK _) (E := mkE []) (consOK_nil rfl) Tryz.func54 (h := h_L_eqCipher) (by kernel_rfl) eq_L_eqCipher

/-- L_eqProof -/
def pk_L_eqProof : List PK := [.data (.cons (.sl (.int .i64)) (.cons (.sl (.int .i64)) (.one (.sl (.int .i64))))), .data (.cons (.sl (.int .i64)) (.cons (.sl (.int .i64)) (.one (.sl (.int .i64)))))]
def rk_L_eqProof : List (Ty × Bool) := [(.bool, false)]
def h_L_eqProof : Hints := { loops := [] }
noncomputable def M_L_eqProof (x : (((List Int) × ((List Int) × (List Int))) × ((List Int) × ((List Int) × (List Int))))) : (Option Bool) :=
  (bindO (M_L_eqIntS (x.1.1, x.2.1)) (fun (a0 : Bool) => (cond (not a0) (some false) (bindO (M_L_eqIntS (x.1.2.1, x.2.2.1)) (fun (a1 : Bool) => (cond (not a1) (some false) (bindO (M_L_eqIntS (x.1.2.2, x.2.2.2)) (fun (a2 : Bool) => (cond (not a2) (some false) (some true))))))))))

noncomputable def c_L_eqProof : Con0 := ⟨pk_L_eqProof, rk_L_eqProof, M_L_eqProof⟩

set_option maxRecDepth 100000 in
theorem eq_L_eqProof (x : In pk_L_eqProof) : semF (mkE [(13, c_L_eqIntS)]) h_L_eqProof (info Tryz.f55) pk_L_eqProof rk_L_eqProof x = M_L_eqProof x := by kernel_rfl

set_option maxRecDepth 100000 in
theorem m_L_eqProof : ConOK Tryz.prog 55 c_L_eqProof := fn_ok (tyOK _) (E := mkE [(13, c_L_eqIntS)]) (consOK_cons m_L_eqIntS (consOK_nil rfl)) Tryz.func55 (h := h_L_eqProof) (by kernel_rfl) eq_L_eqProof

/-- L_eqBlind -/
def pk_L_eqBlind : List PK := [.data (.cons (.int .i64) (.cons (.cons (.int .i64) (.one (.int .i64))) (.one (.cons (.sl (.int .i64)) (.cons (.sl (.int .i64)) (.one (.sl (.int .i64)))))))), .data (.cons (.int .i64) (.cons (.cons (.int .i64) (.one (.int .i64))) (.one (.cons (.sl (.int .i64)) (.cons (.sl (.int .i64)) (.one (.sl (.int .i64))))))))]
def rk_L_eqBlind : List (Ty × Bool) := [(.bool, false)]
def h_L_eqBlind : Hints := { loops := [] }
noncomputable def M_L_eqBlind (x : ((Int × ((Int × Int) × ((List Int) × ((List Int) × (List Int))))) × (Int × ((Int × Int) × ((List Int) × ((List Int) × (List Int))))))) : (Option Bool) :=
  (cond (x.1.1 != x.2.1) (some false) (bindO (M_L_eqCipher ((x.1.2.1.1, x.1.2.1.2), (x.2.2.1.1, x.2.2.1.2))) (fun (a0 : Bool) => (cond (not a0) (some false) (bindO (M_L_eqProof ((x.1.2.2.1, (x.1.2.2.2.1, x.1.2.2.2.2)), (x.2.2.2.1, (x.2.2.2.2.1, x.2.2.2.2.2)))) (fun (a1 : Bool) => (cond (not a1) (some false) (some true))))))))

noncomputable def c_L_eqBlind : Con0 := ⟨pk_L_eqBlind, rk_L_eqBlind, M_L_eqBlind⟩

set_option maxRecDepth 100000 in
theorem eq_L_eqBlind (x : In pk_L_eqBlind) : semF (mkE [(54, c_L_eqCipher), (55, c_L_eqProof)]) h_L_eqBlind (info Tryz.f29) pk_L_eqBlind rk_L_eqBlind x = M_L_eqBlind x := by kernel_rfl

set_option maxRecDepth 100000 in
theorem m_L_eqBlind : ConOK Tryz.prog 29 c_L_eqBlind := fn_ok (tyOK _) (E := mkE [(54, c_L_eqCipher), (55, c_L_eqProof)]) (consOK_cons m_L_eqCipher (consOK_cons m_L_eqProof (consOK_nil rfl))) Tryz.func29 (h := h_L_eqBlind) (by kernel_rfl) eq_L_eqBlind

/-- L_eqBlindS -/
def pk_L_eqBlindS : List PK := [.data (.sl (.cons (.int .i64) (.cons (.cons (.int .i64) (.one (.int .i64))) (.one (.cons (.sl (.int .i64)) (.cons (.sl (.int .i64)) (.one (.sl (.int .i64))))))))), .data (.sl (.cons (.int .i64) (.cons (.cons (.int .i64) (.one (.int .i64))) (.one (.cons (.sl (.int .i64)) (.cons (.sl (.int .i64)) (.one (.sl (.int .i64)))))))))]
def rk_L_eqBlindS : List (Ty × Bool) := [(.bool, false)]
def h_L_eqBlindS : Hints := { loops := [(0, { items := [.slot 5 (.data (.int .i64) [])], kill := [2, 3, 4, 6, 7, 8, 9, 10, 11, 12, 13, 14, 15, 16, 17, 18, 19, 20, 21, 22, 23, 24, 25, 26] })] }
noncomputable def M_L_eqBlindS (x : ((List (Int × ((Int × Int) × ((List Int) × ((List Int) × (List Int)))))) × (List (Int × ((Int × Int) × ((List Int) × ((List Int) × (List Int)))))))) : (Option Bool) :=
  (cond ((((List.length x.1) : Nat) : Int) != (((List.length x.2) : Nat) : Int)) (some false) (loopO (fun (again0 : (Int → (Option Bool))) => (fun (s1 : Int) => (cond (decide (s1 < (((List.length x.1) : Nat) : Int))) (bindO (getI x.1 s1) (fun (a2 : (Int × ((Int × Int) × ((List Int) × ((List Int) × (List Int)))))) => (bindO (getI x.2 s1) (fun (a3 : (Int × ((Int × Int) × ((List Int) × ((List Int) × (List Int)))))) => (bindO (M_L_eqBlind ((a2.1, ((a2.2.1.1, a2.2.1.2), (a2.2.2.1, (a2.2.2.2.1, a2.2.2.2.2)))), (a3.1, ((a3.2.1.1, a3.2.1.2), (a3.2.2.1, (a3.2.2.2.1, a3.2.2.2.2)))))) (fun (a4 : Bool) => (cond (not a4) (some false) (bindO (some (IntKind.wrap .i64 (s1 + (1 : Int)))) (fun (a5 : Int) => (again0 a5)))))))))) (some true)))) (0 : Int)))

noncomputable def c_L_eqBlindS : Con0 := ⟨pk_L_eqBlindS, rk_L_eqBlindS, M_L_eqBlindS⟩

set_option maxRecDepth 100000 in
theorem eq_L_eqBlindS (x : In pk_L_eqBlindS) : semF (mkE [(29, c_L_eqBlind)]) h_L_eqBlindS (info Tryz.f14) pk_L_eqBlindS rk_L_eqBlindS x = M_L_eqBlindS x := by kernel_rfl

set_option maxRecDepth 100000 in
theorem m_L_eqBlindS : ConOK Tryz.prog 14 c_L_eqBlindS := fn_ok (tyOK _) (E := mkE [(29, c_L_eqBlind)]) (consOK_cons m_L_eqBlind (consOK_nil rfl)) Tryz.func14 (h := h_L_eqBlindS) (by kernel_rfl) eq_L_eqBlindS

/-- L_eqPartial -/
def pk_L_eqPartial : List PK := [.data (.cons (.int .i64) (.cons (.int .i64) (.one (.cons (.sl (.int .i64)) (.cons (.sl (.int .i64)) (.one (.sl (.int .i64)))))))), .data (.cons (.int .i64) (.cons (.int .i64) (.one (.cons (.sl (.int .i64)) (.cons (.sl (.int .i64)) (.one (.sl (.int .i64))))))))]
def rk_L_eqPartial : List (Ty × Bool) := [(.bool, false)]
def h_L_eqPartial : Hints := { loops := [] }
noncomputable def M_L_eqPartial (x : ((Int × (Int × ((List Int) × ((List Int) × (List Int))))) × (Int × (Int × ((List Int) × ((List Int) × (List Int))))))) : (Option Bool) :=
  (cond (x.1.1 != x.2.1) (some false) (cond (x.1.2.1 != x.2.2.1) (some false) (bindO (M_L_eqProof ((x.1.2.2.1, (x.1.2.2.2.1, x.1.2.2.2.2)), (x.2.2.2.1, (x.2.2.2.2.1, x.2.2.2.2.2)))) (fun (a0 : Bool) => (cond (not a0) (some false) (some true))))))

noncomputable def c_L_eqPartial : Con0 := ⟨pk_L_eqPartial, rk_L_eqPartial, M_L_eqPartial⟩

set_option maxRecDepth 100000 in
theorem eq_L_eqPartial (x : In pk_L_eqPartial) : semF (mkE [(55, c_L_eqProof)]) h_L_eqPartial (info Tryz.f30) pk_L_eqPartial rk_L_eqPartial x = M_L_eqPartial x := by kernel_rfl

set_option maxRecDepth 100000 in
theorem m_L_eqPartial : ConOK Tryz.prog 30 c_L_eqPartial := fn_ok (tyOK _) (E := mkE [(55, c_L_eqProof)]) (consOK_cons m_L_eqProof (consOK_nil rfl)) Tryz.func30 (h := h_L_eqPartial) (by kernel_rfl) eq_L_eqPartial

/-- L_eqPartialS -/
def pk_L_eqPartialS : List PK := [.data (.sl (.cons (.int .i64) (.cons (.int .i64) (.one (.cons (.sl (.int .i64)) (.cons (.sl (.int .i64)) (.one (.sl (.int .i64))))))))), .data (.sl (.cons (.int .i64) (.cons (.int .i64) (.one (.cons (.sl (.int .i64)) (.cons (.sl (.int .i64)) (.one (.sl (.int .i64)))))))))]
def rk_L_eqPartialS : List (Ty × Bool) := [(.bool, false)]
def h_L_eqPartialS : Hints := { loops := [(0, { items := [.slot 5 (.data (.int .i64) [])], kill := [2, 3, 4, 6, 7, 8, 9, 10, 11, 12, 13, 14, 15, 16, 17, 18, 19, 20, 21, 22, 23, 24, 25, 26] })] }
noncomputable def M_L_eqPartialS (x : ((List (Int × (Int × ((List Int) × ((List Int) × (List Int)))))) × (List (Int × (Int × ((List Int) × ((List Int) × (List Int)))))))) : (Option Bool) :=
  (cond ((((List.length x.1) : Nat) : Int) != (((List.length x.2) : Nat) : Int)) (some false) (loopO (fun (again0 : (Int → (Option Bool))) => (fun (s1 : Int) => (cond (decide (s1 < (((List.length x.1) : Nat) : Int))) (bindO (getI x.1 s1) (fun (a2 : (Int × (Int × ((List Int) × ((List Int) × (List Int)))))) => (bindO (getI x.2 s1) (fun (a3 : (Int × (Int × ((List Int) × ((List Int) × (List Int)))))) => (bindO (M_L_eqPartial ((a2.1, (a2.2.1, (a2.2.2.1, (a2.2.2.2.1, a2.2.2.2.2)))), (a3.1, (a3.2.1, (a3.2.2.1, (a3.2.2.2.1, a3.2.2.2.2)))))) (fun (a4 : Bool) => (cond (not a4) (some false) (bindO (some (IntKind.wrap .i64 (s1 + (1 : Int)))) (fun (a5 : Int) => (again0 a5)))))))))) (some true)))) (0 : Int)))

noncomputable def c_L_eqPartialS : Con0 := ⟨pk_L_eqPartialS, rk_L_eqPartialS, M_L_eqPartialS⟩

set_option maxRecDepth 100000 in
theorem eq_L_eqPartialS (x : In pk_L_eqPartialS) : semF (mkE [(30, c_L_eqPartial)]) h_L_eqPartialS (info Tryz.f15) pk_L_eqPartialS rk_L_eqPartialS x = M_L_eqPartialS x := by kernel_rfl

set_option maxRecDepth 100000 in
theorem m_L_eqPartialS : ConOK Tryz.prog 15 c_L_eqPartialS := fn_ok (tyOK _) (E := mkE [(30, c_L_eqPartial)]) (consOK_cons m_L_eqPartial (consOK_nil rfl)) Tryz.func15 (h := h_L_eqPartialS) (by kernel_rfl) eq_L_eqPartialS

/-- L_FnExactTestEqual -/
def pk_L_FnExactTestEqual : List PK := [.data (.cons (.int .i64) (.cons (.int .i64) (.one (.int .i64)))), .data (.sl (.int .i64)), .data (.cons (.int .i64) (.one (.int .i64))), .data (.cons (.int .i64) (.one (.int .i64))), .data (.sl (.cons (.int .i64) (.cons (.cons (.int .i64) (.one (.int .i64))) (.one (.cons (.sl (.int .i64)) (.cons (.sl (.int .i64)) (.one (.sl (.int .i64))))))))), .data (.sl (.cons (.int .i64) (.cons (.int .i64) (.one (.cons (.sl (.int .i64)) (.cons (.sl (.int .i64)) (.one (.sl (.int .i64)))))))))]
def rk_L_FnExactTestEqual : List (Ty × Bool) := [(.bool, false)]
def h_L_FnExactTestEqual : Hints := { loops := [] }
noncomputable def M_L_FnExactTestEqual (x : ((Int × (Int × Int)) × ((List Int) × ((Int × Int) × ((Int × Int) × ((List (Int × ((Int × Int) × ((List Int) × ((List Int) × (List Int)))))) × (List (Int × (Int × ((List Int) × ((List Int) × (List Int)))))))))))) : (Option Bool) :=
  (cond (decide ((((List.length x.2.1) : Nat) : Int) > (1048576 : Int))) (some true) (bindO (M_L_szBlindS (x.2.2.2.2.1, (1048576 : Int))) (fun (a0 : Int) => (cond (decide (a0 < (0 : Int))) (some true) (bindO (M_L_szPartialS (x.2.2.2.2.2, a0)) (fun (a1 : Int) => (cond (decide (a1 < (0 : Int))) (some true) (bindO (M_L_toGroup (x.1.1, (x.1.2.1, x.1.2.2))) (fun (a2 : (Int × (Int × Int))) => (bindO (M_L_toIntS x.2.1) (fun (a3 : (List Int)) => (bindO (M_L_toCipher (x.2.2.1.1, x.2.2.1.2)) (fun (a4 : (Int × Int)) => (bindO (M_L_toCipher (x.2.2.2.1.1, x.2.2.2.1.2)) (fun (a5 : (Int × Int)) => (bindO (M_L_toBlindS x.2.2.2.2.1) (fun (a6 : (List (Int × ((Int × Int) × ((List Int) × ((List Int) × (List Int))))))) => (bindO (M_L_toPartialS x.2.2.2.2.2) (fun (a7 : (List (Int × (Int × ((List Int) × ((List Int) × (List Int))))))) => (bindO (M_S_TestEqual ((a2.1, (a2.2.1, a2.2.2)), (a3, ((a4.1, a4.2), ((a5.1, a5.2), (a6, a7)))))) (fun (a8 : (Bool × Bool)) => (bindO (M_L_toIntS x.2.1) (fun (a9 : (List Int)) => (bindO (M_L_toBlindS x.2.2.2.2.1) (fun (a10 : (List (Int × ((Int × Int) × ((List Int) × ((List Int) × (List Int))))))) => (bindO (M_L_toPartialS x.2.2.2.2.2) (fun (a11 : (List (Int × (Int × ((List Int) × ((List Int) × (List Int))))))) => (bindO (M_L_toGroup (x.1.1, (x.1.2.1, x.1.2.2))) (fun (a12 : (Int × (Int × Int))) => (bindO (M_L_toCipher (x.2.2.1.1, x.2.2.1.2)) (fun (a13 : (Int × Int)) => (bindO (M_L_toCipher (x.2.2.2.1.1, x.2.2.2.1.2)) (fun (a14 : (Int × Int)) => (bindO (M_I_TestEqual ((a12.1, (a12.2.1, a12.2.2)), (a9, ((a13.1, a13.2), ((a14.1, a14.2), (a10, a11)))))) (fun (a15 : (Bool × Bool)) => (cond (not (a15.1 == a8.1)) (some false) (cond (not (a15.2 == a8.2)) (some false) (bindO (M_L_toIntS x.2.1) (fun (a16 : (List Int)) => (bindO (M_L_eqIntS (a9, a16)) (fun (a17 : Bool) => (cond (not a17) (some false) (bindO (M_L_toBlindS x.2.2.2.2.1) (fun (a18 : (List (Int × ((Int × Int) × ((List Int) × ((List Int) × (List Int))))))) => (bindO (M_L_eqBlindS (a10, a18)) (fun (a19 : Bool) => (cond (not a19) (some false) (bindO (M_L_toPartialS x.2.2.2.2.2) (fun (a20 : (List (Int × (Int × ((List Int) × ((List Int) × (List Int))))))) => (bindO (M_L_eqPartialS (a11, a20)) (fun (a21 : Bool) => (cond (not a21) (some false) (some true)))))))))))))))))))))))))))))))))))))))))))))))))))))

noncomputable def c_L_FnExactTestEqual : Con0 := ⟨pk_L_FnExactTestEqual, rk_L_FnExactTestEqual, M_L_FnExactTestEqual⟩

set_option maxRecDepth 100000 in
theorem eq_L_FnExactTestEqual (x : In pk_L_FnExactTestEqual) : semF (mkE [(4, c_L_szBlindS), (5, c_L_szPartialS), (7, c_L_toGroup), (8, c_L_toIntS), (9, c_L_toCipher), (10, c_L_toBlindS), (11, c_L_toPartialS), (6, c_S_TestEqual), (12, c_I_TestEqual), (13, c_L_eqIntS), (14, c_L_eqBlindS), (15, c_L_eqPartialS)]) h_L_FnExactTestEqual (info Tryz.f3) pk_L_FnExactTestEqual rk_L_FnExactTestEqual x = M_L_FnExactTestEqual x := by kernel_rfl

set_option maxRecDepth 100000 in
theorem m_L_FnExactTestEqual : ConOK Tryz.prog 3 c_L_FnExactTestEqual := fn_ok (tyOK _) (E := mkE [(4, c_L_szBlindS), (5, c_L_szPartialS), (7, c_L_toGroup), (8, c_L_toIntS), (9, c_L_toCipher), (10, c_L_toBlindS), (11, c_L_toPartialS), (6, c_S_TestEqual), (12, c_I_TestEqual), (13, c_L_eqIntS), (14, c_L_eqBlindS), (15, c_L_eqPartialS)]) (consOK_cons m_L_szBlindS (consOK_cons m_L_szPartialS (consOK_cons m_L_toGroup (consOK_cons m_L_toIntS (consOK_cons m_L_toCipher (consOK_cons m_L_toBlindS (consOK_cons m_L_toPartialS (consOK_cons m_S_TestEqual (consOK_cons m_I_TestEqual (consOK_cons m_L_eqIntS (consOK_cons m_L_eqBlindS (consOK_cons m_L_eqPartialS (consOK_nil rfl))))))))))))) Tryz.func3 (h := h_L_FnExactTestEqual) (by kernel_rfl) eq_L_FnExactTestEqual

end Go.Proofs.YtnpjjdijhfejdaaGreat.Vd
