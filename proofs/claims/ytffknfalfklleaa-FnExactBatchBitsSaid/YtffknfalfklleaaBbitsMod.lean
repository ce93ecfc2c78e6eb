/- The functions of the law as plain functions on data, and that the program's functions are these. No conditions. -/
import Derived.Test.YtffknfalfklleaaVd3
import Derived.Test.YtffknfalfklleaaChecked
import Derived.KernelRfl
set_option linter.unusedVariables false
namespace Go.Proofs.Ytffknfalfklleaa.Vd
def tys : List (Option Ty) := [none, none, some (.int .i64), some (.int .i64), some .bool, some (.int .u8), some (.int .u8), some (.cons (.int .i64) (.cons (.int .i64) (.cons .bool (.one (.int .u8))))), some (.cons (.int .i64) (.cons (.int .i64) (.cons .bool (.one (.int .u8))))), some .str, some .str, some .str, some (.int .u64), some (.cons .str (.one (.int .u64))), some (.cons .str (.one (.int .u64))), none, none, none, none, none, none, some (.int .i32), some (.cons (.int .i64) (.cons (.int .i64) (.one (.int .i64)))), some (.cons (.int .i64) (.cons (.int .i64) (.one (.int .i64)))), some (.sl (.int .i64)), some (.cons (.int .i64) (.one (.sl (.int .i64)))), some (.cons (.int .i64) (.one (.sl (.int .i64)))), some (.sl (.cons (.sl (.int .i64)) (.cons (.sl (.int .i64)) (.one (.sl (.int .i64)))))), none, none, none, none, some (.cons (.int .i64) (.cons (.int .i64) (.one (.int .i64)))), none, some (.cons (.int .i64) (.one (.sl (.int .i64)))), none, none, some (.sl (.cons (.sl (.int .i64)) (.cons (.sl (.int .i64)) (.one (.sl (.int .i64)))))), none, none, none, none, none, some (.cons (.int .i64) (.one (.int .i64))), some (.cons (.int .i64) (.one (.int .i64))), some (.cons (.sl (.int .i64)) (.cons (.sl (.int .i64)) (.one (.sl (.int .i64))))), some (.cons (.sl (.int .i64)) (.cons (.sl (.int .i64)) (.one (.sl (.int .i64))))), none, none, some (.cons (.int .i64) (.one (.int .i64))), none, some (.cons (.sl (.int .i64)) (.cons (.sl (.int .i64)) (.one (.sl (.int .i64))))), none, none, none, none, none, some (.cons (.int .i64) (.cons (.cons (.int .i64) (.one (.int .i64))) (.one (.cons (.sl (.int .i64)) (.cons (.sl (.int .i64)) (.one (.sl (.int .i64)))))))), some (.cons (.int .i64) (.cons (.cons (.int .i64) (.one (.int .i64))) (.one (.cons (.sl (.int .i64)) (.cons (.sl (.int .i64)) (.one (.sl (.int .i64)))))))), none, none, none, none, none, some (.cons (.int .i64) (.cons (.cons (.int .i64) (.one (.int .i64))) (.one (.cons (.sl (.int .i64)) (.cons (.sl (.int .i64)) (.one (.sl (.int .i64)))))))), some (.cons (.int .i64) (.cons (.cons (.int .i64) (.one (.int .i64))) (.one (.cons (.sl (.int .i64)) (.cons (.sl (.int .i64)) (.one (.sl (.int .i64)))))))), none, none, none, none, none, none, none, none, none, none, none, none, none, none, none, none, none, none, none, none, none, none, none, none, none, none, none, none, none, some (.cons (.int .i64) (.cons (.int .i64) (.cons (.int .i64) (.one (.int .i64))))), some (.cons (.int .i64) (.cons (.int .i64) (.cons (.int .i64) (.one (.int .i64))))), none, none, none, none, none, none, none, none, none, none, none, none, none, none, none, none, none, none, none, none, none, none, none, none, some (.sl (.sl (.int .i64))), none, none, none, none, none, none, none, none, none, some (.sl (.cons (.int .i64) (.one (.int .i64)))), none, none, none, none, none, none, none, none, none, none, none, none, none, none, none, none, none, some (.int .u64), none, none, none, none, none, none, none, none, some (.cons (.int .i64) (.one (.int .i64))), some (.cons (.int .i64) (.one (.int .i64))), none, none, none, none, none, none, none, none, none, none, none, none, none, none, some (.int .u32), some (.int .u8), some (.int .u8), none, none, some (.int .i32), some (.int .i32), none, none, none, none]
def others : List Nat := [1, 15, 16, 17, 28, 29, 31, 33, 35, 36, 38, 39, 40, 41, 42, 47, 48, 50, 52, 53, 54, 55, 56, 60, 61, 62, 63, 66, 67, 68, 69, 71, 72, 73, 74, 75, 76, 77, 78, 79, 80, 81, 82, 83, 84, 85, 87, 89, 90, 91, 92, 93, 94, 97, 98, 99, 100, 101, 102, 103, 104, 105, 106, 108, 109, 110, 111, 112, 113, 115, 116, 117, 118, 119, 120, 123, 124, 125, 126, 127, 128, 129, 130, 132, 133, 134, 135, 136, 137, 138, 139, 140, 141, 142, 143, 144, 145, 146, 147, 148, 150, 151, 152, 153, 154, 155, 156, 157, 160, 161, 162, 163, 164, 165, 166, 167, 173, 177, 178, 183]
def pairs : List Nat := [43, 44, 49, 158, 159]
noncomputable def mkE (con : List (Nat × Con0)) : Env := ⟨[], tys, others, pairs, con⟩

set_option maxRecDepth 100000 in
theorem tyOK (con : List (Nat × Con0)) : TyOK Try.prog (mkE con) := tyOK_of (E := mkE con) (by kernel_rfl) (by kernel_rfl) (by kernel_rfl)

/-- L_szIntS -/
def pk_L_szIntS : List PK := [.data (.sl (.int .i64)), .data (.int .i64)]
def rk_L_szIntS : List (Ty × Bool) := [((.int .i64), false)]
def h_L_szIntS : Hints := { loops := [] }
noncomputable def M_L_szIntS (x : ((List Int) × Int)) : (Option Int) :=
  (bindO (some (IntKind.wrap .i64 (x.2 - (((List.length x.1) : Nat) : Int)))) (fun (a0 : Int) => (cond (decide (a0 < (0 : Int))) (some (- (1 : Int))) (some a0))))

noncomputable def c_L_szIntS : Con0 := ⟨pk_L_szIntS, rk_L_szIntS, M_L_szIntS⟩

set_option maxRecDepth 100000 in
theorem eq_L_szIntS (x : In pk_L_szIntS) : semF (mkE []) h_L_szIntS (info Try.f42) pk_L_szIntS rk_L_szIntS x = M_L_szIntS x := by kernel_rfl

set_option maxRecDepth 100000 in
theorem m_L_szIntS : ConOK Try.prog 42 c_L_szIntS := fn_ok (tyOK _) (E := mkE []) (consOK_nil rfl) Try.func42 (h := h_L_szIntS) (by kernel_rfl) eq_L_szIntS

/-- L_szBases -/
def pk_L_szBases : List PK := [.data (.cons (.int .i64) (.one (.sl (.int .i64)))), .data (.int .i64)]
def rk_L_szBases : List (Ty × Bool) := [((.int .i64), false)]
def h_L_szBases : Hints := { loops := [] }
noncomputable def M_L_szBases (x : ((Int × (List Int)) × Int)) : (Option Int) :=
  (bindO (M_L_szIntS (x.1.2, x.2)) (fun (a0 : Int) => (cond (decide (a0 < (0 : Int))) (some (- (1 : Int))) (some a0))))

noncomputable def c_L_szBases : Con0 := ⟨pk_L_szBases, rk_L_szBases, M_L_szBases⟩

set_option maxRecDepth 100000 in
theorem eq_L_szBases (x : In pk_L_szBases) : semF (mkE [(42, c_L_szIntS)]) h_L_szBases (info Try.f9) pk_L_szBases rk_L_szBases x = M_L_szBases x := by kernel_rfl

set_option maxRecDepth 100000 in
theorem m_L_szBases : ConOK Try.prog 9 c_L_szBases := fn_ok (tyOK _) (E := mkE [(42, c_L_szIntS)]) (consOK_cons m_L_szIntS (consOK_nil rfl)) Try.func9 (h := h_L_szBases) (by kernel_rfl) eq_L_szBases

/-- L_szProof -/
def pk_L_szProof : List PK := [.data (.cons (.sl (.int .i64)) (.cons (.sl (.int .i64)) (.one (.sl (.int .i64))))), .data (.int .i64)]
def rk_L_szProof : List (Ty × Bool) := [((.int .i64), false)]
def h_L_szProof : Hints := { loops := [] }
noncomputable def M_L_szProof (x : (((List Int) × ((List Int) × (List Int))) × Int)) : (Option Int) :=
  (bindO (M_L_szIntS (x.1.1, x.2)) (fun (a0 : Int) => (cond (decide (a0 < (0 : Int))) (some (- (1 : Int))) (bindO (M_L_szIntS (x.1.2.1, a0)) (fun (a1 : Int) => (cond (decide (a1 < (0 : Int))) (some (- (1 : Int))) (bindO (M_L_szIntS (x.1.2.2, a1)) (fun (a2 : Int) => (cond (decide (a2 < (0 : Int))) (some (- (1 : Int))) (some a2))))))))))

noncomputable def c_L_szProof : Con0 := ⟨pk_L_szProof, rk_L_szProof, M_L_szProof⟩

set_option maxRecDepth 100000 in
theorem eq_L_szProof (x : In pk_L_szProof) : semF (mkE [(42, c_L_szIntS)]) h_L_szProof (info Try.f20) pk_L_szProof rk_L_szProof x = M_L_szProof x := by kernel_rfl

set_option maxRecDepth 100000 in
theorem m_L_szProof : ConOK Try.prog 20 c_L_szProof := fn_ok (tyOK _) (E := mkE [(42, c_L_szIntS)]) (consOK_cons m_L_szIntS (consOK_nil rfl)) Try.func20 (h := h_L_szProof) (by kernel_rfl) eq_L_szProof

/-- L_szProofS -/
def pk_L_szProofS : List PK := [.data (.sl (.cons (.sl (.int .i64)) (.cons (.sl (.int .i64)) (.one (.sl (.int .i64)))))), .data (.int .i64)]
def rk_L_szProofS : List (Ty × Bool) := [((.int .i64), false)]
def h_L_szProofS : Hints := { loops := [(0, { items := [.slot 1 (.data (.int .i64) []), .slot 5 (.data (.int .i64) [])], kill := [2, 3, 4, 6, 7, 8, 9, 10, 11, 12, 13, 14, 15, 16, 17, 18, 19, 20, 21, 22, 23, 24, 25, 26] })] }
noncomputable def M_L_szProofS (x : ((List ((List Int) × ((List Int) × (List Int)))) × Int)) : (Option Int) :=
  (bindO (some (IntKind.wrap .i64 (x.2 - (((List.length x.1) : Nat) : Int)))) (fun (a0 : Int) => (cond (decide (a0 < (0 : Int))) (some (- (1 : Int))) (loopO (fun (again1 : ((Int × Int) → (Option Int))) => (fun (s2 : (Int × Int)) => (cond (decide (s2.2 < (((List.length x.1) : Nat) : Int))) (bindO (getI x.1 s2.2) (fun (a3 : ((List Int) × ((List Int) × (List Int)))) => (bindO (M_L_szProof ((a3.1, (a3.2.1, a3.2.2)), s2.1)) (fun (a4 : Int) => (cond (decide (a4 < (0 : Int))) (some (- (1 : Int))) (bindO (some (IntKind.wrap .i64 (s2.2 + (1 : Int)))) (fun (a5 : Int) => (again1 (a4, a5))))))))) (some s2.1)))) (a0, (0 : Int))))))

noncomputable def c_L_szProofS : Con0 := ⟨pk_L_szProofS, rk_L_szProofS, M_L_szProofS⟩

set_option maxRecDepth 100000 in
theorem eq_L_szProofS (x : In pk_L_szProofS) : semF (mkE [(20, c_L_szProof)]) h_L_szProofS (info Try.f10) pk_L_szProofS rk_L_szProofS x = M_L_szProofS x := by kernel_rfl

set_option maxRecDepth 100000 in
theorem m_L_szProofS : ConOK Try.prog 10 c_L_szProofS := fn_ok (tyOK _) (E := mkE [(20, c_L_szProof)]) (consOK_cons m_L_szProof (consOK_nil rfl)) Try.func10 (h := h_L_szProofS) (by kernel_rfl) eq_L_szProofS

/-- L_toGroup -/
def pk_L_toGroup : List PK := [.data (.cons (.int .i64) (.cons (.int .i64) (.one (.int .i64))))]
def rk_L_toGroup : List (Ty × Bool) := [((.cons (.int .i64) (.cons (.int .i64) (.one (.int .i64)))), false)]
def h_L_toGroup : Hints := { loops := [] }
noncomputable def M_L_toGroup (x : (Int × (Int × Int))) : (Option (Int × (Int × Int))) :=
  (some (x.1, (x.2.1, x.2.2)))

noncomputable def c_L_toGroup : Con0 := ⟨pk_L_toGroup, rk_L_toGroup, M_L_toGroup⟩

set_option maxRecDepth 100000 in
theorem eq_L_toGroup (x : In pk_L_toGroup) : semF (mkE []) h_L_toGroup (info Try.f12) pk_L_toGroup rk_L_toGroup x = M_L_toGroup x := by kernel_rfl

set_option maxRecDepth 100000 in
theorem m_L_toGroup : ConOK Try.prog 12 c_L_toGroup := fn_ok (tyOK _) (E := mkE []) (consOK_nil rfl) Try.func12 (h := h_L_toGroup) (by kernel_rfl) eq_L_toGroup

/-- L_toIntS -/
def pk_L_toIntS : List PK := [.data (.sl (.int .i64))]
def rk_L_toIntS : List (Ty × Bool) := [((.sl (.int .i64)), true)]
def h_L_toIntS : Hints := { loops := [(0, { items := [.slot 4 (.data (.int .i64) []), .arr 3 (.int .i64) true], kill := [1, 2, 5, 6, 7, 8, 9, 10, 11, 12, 13, 14, 15, 16, 17, 18, 19, 20, 21] })] }
noncomputable def M_L_toIntS (x : (List Int)) : (Option (List Int)) :=
  (bindO (guardO (((decide ((0 : Int) ≤ (((List.length x) : Nat) : Int))) && (decide ((((List.length x) : Nat) : Int) ≤ (((List.length x) : Nat) : Int)))) && (decide ((((List.length x) : Nat) : Int) ≤ ((lim : Nat) : Int))))) (fun (a0 : Unit) => (loopO (fun (again1 : ((Int × (List Int)) → (Option (List Int)))) => (fun (s2 : (Int × (List Int))) => (cond (decide (s2.1 < (((List.length x) : Nat) : Int))) (bindO (getI x s2.1) (fun (a3 : Int) => (bindO (getI s2.2 s2.1) (fun (a4 : Int) => (bindO (some (List.set s2.2 (Int.toNat s2.1) a3)) (fun (a5 : (List Int)) => (bindO (some (IntKind.wrap .i64 (s2.1 + (1 : Int)))) (fun (a6 : Int) => (again1 (a6, a5)))))))))) (some s2.2)))) ((0 : Int), (List.replicate (Int.toNat (((List.length x) : Nat) : Int)) (0 : Int))))))

noncomputable def c_L_toIntS : Con0 := ⟨pk_L_toIntS, rk_L_toIntS, M_L_toIntS⟩

set_option maxRecDepth 100000 in
theorem eq_L_toIntS (x : In pk_L_toIntS) : semF (mkE []) h_L_toIntS (info Try.f14) pk_L_toIntS rk_L_toIntS x = M_L_toIntS x := by kernel_rfl

set_option maxRecDepth 100000 in
theorem m_L_toIntS : ConOK Try.prog 14 c_L_toIntS := fn_ok (tyOK _) (E := mkE []) (consOK_nil rfl) Try.func14 (h := h_L_toIntS) (by kernel_rfl) eq_L_toIntS

/-- L_toBases -/
def pk_L_toBases : List PK := [.data (.cons (.int .i64) (.one (.sl (.int .i64))))]
def rk_L_toBases : List (Ty × Bool) := [((.cons (.int .i64) (.one (.sl (.int .i64)))), true)]
def h_L_toBases : Hints := { loops := [] }
noncomputable def M_L_toBases (x : (Int × (List Int))) : (Option (Int × (List Int))) :=
  (bindO (M_L_toIntS x.2) (fun (a0 : (List Int)) => (some (x.1, a0))))

noncomputable def c_L_toBases : Con0 := ⟨pk_L_toBases, rk_L_toBases, M_L_toBases⟩

set_option maxRecDepth 100000 in
theorem eq_L_toBases (x : In pk_L_toBases) : semF (mkE [(14, c_L_toIntS)]) h_L_toBases (info Try.f13) pk_L_toBases rk_L_toBases x = M_L_toBases x := by kernel_rfl

set_option maxRecDepth 100000 in
theorem m_L_toBases : ConOK Try.prog 13 c_L_toBases := fn_ok (tyOK _) (E := mkE [(14, c_L_toIntS)]) (consOK_cons m_L_toIntS (consOK_nil rfl)) Try.func13 (h := h_L_toBases) (by kernel_rfl) eq_L_toBases

/-- L_toProof -/
def pk_L_toProof : List PK := [.data (.cons (.sl (.int .i64)) (.cons (.sl (.int .i64)) (.one (.sl (.int .i64)))))]
def rk_L_toProof : List (Ty × Bool) := [((.cons (.sl (.int .i64)) (.cons (.sl (.int .i64)) (.one (.sl (.int .i64))))), true)]
def h_L_toProof : Hints := { loops := [] }
noncomputable def M_L_toProof (x : ((List Int) × ((List Int) × (List Int)))) : (Option ((List Int) × ((List Int) × (List Int)))) :=
  (bindO (M_L_toIntS x.1) (fun (a0 : (List Int)) => (bindO (M_L_toIntS x.2.1) (fun (a1 : (List Int)) => (bindO (M_L_toIntS x.2.2) (fun (a2 : (List Int)) => (some (a0, (a1, a2)))))))))

noncomputable def c_L_toProof : Con0 := ⟨pk_L_toProof, rk_L_toProof, M_L_toProof⟩

set_option maxRecDepth 100000 in
theorem eq_L_toProof (x : In pk_L_toProof) : semF (mkE [(14, c_L_toIntS)]) h_L_toProof (info Try.f23) pk_L_toProof rk_L_toProof x = M_L_toProof x := by kernel_rfl

set_option maxRecDepth 100000 in
theorem m_L_toProof : ConOK Try.prog 23 c_L_toProof := fn_ok (tyOK _) (E := mkE [(14, c_L_toIntS)]) (consOK_cons m_L_toIntS (consOK_nil rfl)) Try.func23 (h := h_L_toProof) (by kernel_rfl) eq_L_toProof

/-- L_toProofS -/
def pk_L_toProofS : List PK := [.data (.sl (.cons (.sl (.int .i64)) (.cons (.sl (.int .i64)) (.one (.sl (.int .i64))))))]
def rk_L_toProofS : List (Ty × Bool) := [((.sl (.cons (.sl (.int .i64)) (.cons (.sl (.int .i64)) (.one (.sl (.int .i64)))))), true)]
def h_L_toProofS : Hints := { loops := [(0, { items := [.slot 4 (.data (.int .i64) []), .arr 3 (.cons (.sl (.int .i64)) (.cons (.sl (.int .i64)) (.one (.sl (.int .i64))))) true], kill := [1, 2, 5, 6, 7, 8, 9, 10, 11, 12, 13, 14, 15, 16, 17, 18, 19, 20, 21, 22] })] }
noncomputable def M_L_toProofS (x : (List ((List Int) × ((List Int) × (List Int))))) : (Option (List ((List Int) × ((List Int) × (List Int))))) :=
  (bindO (guardO (((decide ((0 : Int) ≤ (((List.length x) : Nat) : Int))) && (decide ((((List.length x) : Nat) : Int) ≤ (((List.length x) : Nat) : Int)))) && (decide ((((List.length x) : Nat) : Int) ≤ ((lim : Nat) : Int))))) (fun (a0 : Unit) => (loopO (fun (again1 : ((Int × (List ((List Int) × ((List Int) × (List Int))))) → (Option (List ((List Int) × ((List Int) × (List Int))))))) => (fun (s2 : (Int × (List ((List Int) × ((List Int) × (List Int)))))) => (cond (decide (s2.1 < (((List.length x) : Nat) : Int))) (bindO (getI x s2.1) (fun (a3 : ((List Int) × ((List Int) × (List Int)))) => (bindO (M_L_toProof (a3.1, (a3.2.1, a3.2.2))) (fun (a4 : ((List Int) × ((List Int) × (List Int)))) => (bindO (getI s2.2 s2.1) (fun (a5 : ((List Int) × ((List Int) × (List Int)))) => (bindO (some (List.set s2.2 (Int.toNat s2.1) (a4.1, (a4.2.1, a4.2.2)))) (fun (a6 : (List ((List Int) × ((List Int) × (List Int))))) => (bindO (some (IntKind.wrap .i64 (s2.1 + (1 : Int)))) (fun (a7 : Int) => (again1 (a7, a6)))))))))))) (some s2.2)))) ((0 : Int), (List.replicate (Int.toNat (((List.length x) : Nat) : Int)) (([] : List Int), (([] : List Int), ([] : List Int))))))))

noncomputable def c_L_toProofS : Con0 := ⟨pk_L_toProofS, rk_L_toProofS, M_L_toProofS⟩

set_option maxRecDepth 100000 in
theorem eq_L_toProofS (x : In pk_L_toProofS) : semF (mkE [(23, c_L_toProof)]) h_L_toProofS (info Try.f15) pk_L_toProofS rk_L_toProofS x = M_L_toProofS x := by kernel_rfl

set_option maxRecDepth 100000 in
theorem m_L_toProofS : ConOK Try.prog 15 c_L_toProofS := fn_ok (tyOK _) (E := mkE [(23, c_L_toProof)]) (consOK_cons m_L_toProof (consOK_nil rfl)) Try.func15 (h := h_L_toProofS) (by kernel_rfl) eq_L_toProofS

/-- S_l1In -/
def pk_S_l1In : List PK := [.data (.int .i64), .data (.int .i64), .data (.int .i64)]
def rk_S_l1In : List (Ty × Bool) := [(.bool, false)]
def h_S_l1In : Hints := { loops := [] }
noncomputable def M_S_l1In (x : (Int × (Int × Int))) : (Option Bool) :=
  (cond (decide (x.1 ≥ x.2.1)) (some (decide (x.1 ≤ x.2.2))) (some false))

noncomputable def c_S_l1In : Con0 := ⟨pk_S_l1In, rk_S_l1In, M_S_l1In⟩

set_option maxRecDepth 100000 in
theorem eq_S_l1In (x : In pk_S_l1In) : semF (mkE []) h_S_l1In (info Try.f81) pk_S_l1In rk_S_l1In x = M_S_l1In x := by kernel_rfl

set_option maxRecDepth 100000 in
theorem m_S_l1In : ConOK Try.prog 81 c_S_l1In := fn_ok (tyOK _) (E := mkE []) (consOK_nil rfl) Try.func81 (h := h_S_l1In) (by kernel_rfl) eq_S_l1In

/-- S_nPower -/
def pk_S_nPower : List PK := [.data (.int .i64), .data (.int .i64), .data (.int .i64)]
def rk_S_nPower : List (Ty × Bool) := [((.int .i64), false)]
def h_S_nPower : Hints := { loops := [(0, { items := [.slot 0 (.data (.int .i64) []), .slot 1 (.data (.int .i64) []), .slot 7 (.data (.int .i64) [])], kill := [3, 4, 5, 6, 8, 9, 10, 11, 12, 13, 14, 15, 16, 17, 18, 19, 20, 21, 22, 23, 24, 25, 26, 27] })] }
noncomputable def M_S_nPower (x : (Int × (Int × Int))) : (Option Int) :=
  (bindO (guardO (x.2.2 != (0 : Int))) (fun (a0 : Unit) => (bindO (some (Int.tmod (1 : Int) x.2.2)) (fun (a1 : Int) => (loopO (fun (again2 : ((Int × (Int × Int)) → (Option Int))) => (fun (s3 : (Int × (Int × Int))) => (cond (decide (s3.2.1 > (0 : Int))) (bindO (guardO ((2 : Int) != (0 : Int))) (fun (a4 : Unit) => (bindO (some (Int.tmod s3.2.1 (2 : Int))) (fun (a5 : Int) => (cond (a5 == (1 : Int)) (bindO (some (IntKind.wrap .i64 (s3.2.2 * s3.1))) (fun (a6 : Int) => (bindO (guardO (x.2.2 != (0 : Int))) (fun (a7 : Unit) => (bindO (some (Int.tmod a6 x.2.2)) (fun (a8 : Int) => (bindO (some (IntKind.wrap .i64 (s3.1 * s3.1))) (fun (a9 : Int) => (bindO (guardO (x.2.2 != (0 : Int))) (fun (a10 : Unit) => (bindO (some (Int.tmod a9 x.2.2)) (fun (a11 : Int) => (bindO (guardO ((2 : Int) != (0 : Int))) (fun (a12 : Unit) => (bindO (some (IntKind.wrap .i64 (Int.tdiv s3.2.1 (2 : Int)))) (fun (a13 : Int) => (again2 (a11, (a13, a8))))))))))))))))))) (bindO (some (IntKind.wrap .i64 (s3.1 * s3.1))) (fun (a14 : Int) => (bindO (guardO (x.2.2 != (0 : Int))) (fun (a15 : Unit) => (bindO (some (Int.tmod a14 x.2.2)) (fun (a16 : Int) => (bindO (guardO ((2 : Int) != (0 : Int))) (fun (a17 : Unit) => (bindO (some (IntKind.wrap .i64 (Int.tdiv s3.2.1 (2 : Int)))) (fun (a18 : Int) => (again2 (a16, (a18, s3.2.2)))))))))))))))))) (some s3.2.2)))) (x.1, (x.2.1, a1)))))))

noncomputable def c_S_nPower : Con0 := ⟨pk_S_nPower, rk_S_nPower, M_S_nPower⟩

set_option maxRecDepth 100000 in
theorem eq_S_nPower (x : In pk_S_nPower) : semF (mkE []) h_S_nPower (info Try.f96) pk_S_nPower rk_S_nPower x = M_S_nPower x := by kernel_rfl

set_option maxRecDepth 100000 in
theorem m_S_nPower : ConOK Try.prog 96 c_S_nPower := fn_ok (tyOK _) (E := mkE []) (consOK_nil rfl) Try.func96 (h := h_S_nPower) (by kernel_rfl) eq_S_nPower

/-- S_nPrime -/
def pk_S_nPrime : List PK := [.data (.int .i64)]
def rk_S_nPrime : List (Ty × Bool) := [(.bool, false)]
def h_S_nPrime : Hints := { loops := [(0, { items := [.slot 3 (.data (.int .i64) [])], kill := [1, 2, 4, 5, 6, 7, 8, 9, 10, 11, 12, 13, 14, 15, 16] })] }
noncomputable def M_S_nPrime (x : Int) : (Option Bool) :=
  (cond (decide (x < (2 : Int))) (some false) (loopO (fun (again0 : (Int → (Option Bool))) => (fun (s1 : Int) => (bindO (some (IntKind.wrap .i64 (s1 * s1))) (fun (a2 : Int) => (cond (decide (a2 ≤ x)) (bindO (guardO (s1 != (0 : Int))) (fun (a3 : Unit) => (bindO (some (Int.tmod x s1)) (fun (a4 : Int) => (cond (a4 == (0 : Int)) (some false) (bindO (some (IntKind.wrap .i64 (s1 + (1 : Int)))) (fun (a5 : Int) => (again0 a5)))))))) (some true)))))) (2 : Int)))

noncomputable def c_S_nPrime : Con0 := ⟨pk_S_nPrime, rk_S_nPrime, M_S_nPrime⟩

set_option maxRecDepth 100000 in
theorem eq_S_nPrime (x : In pk_S_nPrime) : semF (mkE []) h_S_nPrime (info Try.f116) pk_S_nPrime rk_S_nPrime x = M_S_nPrime x := by kernel_rfl

set_option maxRecDepth 100000 in
theorem m_S_nPrime : ConOK Try.prog 116 c_S_nPrime := fn_ok (tyOK _) (E := mkE []) (consOK_nil rfl) Try.func116 (h := h_S_nPrime) (by kernel_rfl) eq_S_nPrime

/-- S_l2Good -/
def pk_S_l2Good : List PK := [.data (.cons (.int .i64) (.cons (.int .i64) (.one (.int .i64))))]
def rk_S_l2Good : List (Ty × Bool) := [(.bool, false)]
def h_S_l2Good : Hints := { loops := [] }
noncomputable def M_S_l2Good (x : (Int × (Int × Int))) : (Option Bool) :=
  (bindO (M_S_l1In (x.1, ((3 : Int), (2000000000 : Int)))) (fun (a0 : Bool) => (cond a0 (bindO (some (IntKind.wrap .i64 (x.1 - (1 : Int)))) (fun (a1 : Int) => (bindO (M_S_l1In (x.2.1, ((2 : Int), a1))) (fun (a2 : Bool) => (cond a2 (bindO (some (IntKind.wrap .i64 (x.1 - (1 : Int)))) (fun (a3 : Int) => (bindO (guardO (x.2.1 != (0 : Int))) (fun (a4 : Unit) => (bindO (some (Int.tmod a3 x.2.1)) (fun (a5 : Int) => (cond (a5 == (0 : Int)) (bindO (some (IntKind.wrap .i64 (x.1 - (1 : Int)))) (fun (a6 : Int) => (bindO (M_S_l1In (x.2.2, ((2 : Int), a6))) (fun (a7 : Bool) => (cond a7 (bindO (M_S_nPower (x.2.2, (x.2.1, x.1))) (fun (a8 : Int) => (cond (a8 == (1 : Int)) (bindO (M_S_nPrime x.2.1) (fun (a9 : Bool) => (cond a9 (bindO (M_S_nPrime x.1) (fun (a10 : Bool) => (some a10))) (some false)))) (some false)))) (some false)))))) (some false)))))))) (some false)))))) (some false))))

noncomputable def c_S_l2Good : Con0 := ⟨pk_S_l2Good, rk_S_l2Good, M_S_l2Good⟩

set_option maxRecDepth 100000 in
theorem eq_S_l2Good (x : In pk_S_l2Good) : semF (mkE [(81, c_S_l1In), (96, c_S_nPower), (116, c_S_nPrime)]) h_S_l2Good (info Try.f80) pk_S_l2Good rk_S_l2Good x = M_S_l2Good x := by kernel_rfl

set_option maxRecDepth 100000 in
theorem m_S_l2Good : ConOK Try.prog 80 c_S_l2Good := fn_ok (tyOK _) (E := mkE [(81, c_S_l1In), (96, c_S_nPower), (116, c_S_nPrime)]) (consOK_cons m_S_l1In (consOK_cons m_S_nPower (consOK_cons m_S_nPrime (consOK_nil rfl)))) Try.func80 (h := h_S_l2Good) (by kernel_rfl) eq_S_l2Good

/-- S_gIs -/
def pk_S_gIs : List PK := [.data (.cons (.int .i64) (.cons (.int .i64) (.one (.int .i64)))), .data (.sl (.int .i64))]
def rk_S_gIs : List (Ty × Bool) := [(.bool, false)]
def h_S_gIs : Hints := { loops := [(0, { items := [.slot 9 (.data (.int .i64) [])], kill := [0, 1, 3, 4, 5, 6, 10, 11, 12, 13, 14, 15, 16, 17, 18, 19, 20, 21, 22, 23, 24, 25, 26, 27, 28] })] }
noncomputable def M_S_gIs (x : ((Int × (Int × Int)) × (List Int))) : (Option Bool) :=
  (loopO (fun (again0 : (Int → (Option Bool))) => (fun (s1 : Int) => (cond (decide (s1 < (((List.length x.2) : Nat) : Int))) (bindO (getI x.2 s1) (fun (a2 : Int) => (bindO (some (IntKind.wrap .i64 (x.1.1 - (1 : Int)))) (fun (a3 : Int) => (bindO (M_S_l1In (a2, ((1 : Int), a3))) (fun (a4 : Bool) => (cond (not a4) (some false) (bindO (M_S_nPower (a2, (x.1.2.1, x.1.1))) (fun (a5 : Int) => (cond (a5 != (1 : Int)) (some false) (bindO (some (IntKind.wrap .i64 (s1 + (1 : Int)))) (fun (a6 : Int) => (again0 a6))))))))))))) (some true)))) (0 : Int))

noncomputable def c_S_gIs : Con0 := ⟨pk_S_gIs, rk_S_gIs, M_S_gIs⟩

set_option maxRecDepth 100000 in
theorem eq_S_gIs (x : In pk_S_gIs) : semF (mkE [(81, c_S_l1In), (96, c_S_nPower)]) h_S_gIs (info Try.f44) pk_S_gIs rk_S_gIs x = M_S_gIs x := by kernel_rfl

set_option maxRecDepth 100000 in
theorem m_S_gIs : ConOK Try.prog 44 c_S_gIs := fn_ok (tyOK _) (E := mkE [(81, c_S_l1In), (96, c_S_nPower)]) (consOK_cons m_S_l1In (consOK_cons m_S_nPower (consOK_nil rfl))) Try.func44 (h := h_S_gIs) (by kernel_rfl) eq_S_gIs

/-- S_l1Has -/
def pk_S_l1Has : List PK := [.data (.sl (.int .i64)), .data (.int .i64)]
def rk_S_l1Has : List (Ty × Bool) := [(.bool, false)]
def h_S_l1Has : Hints := { loops := [(0, { items := [.slot 9 (.data (.int .i64) [])], kill := [0, 2, 3, 4, 5, 6, 10, 11, 12, 13, 14, 15, 16] })] }
noncomputable def M_S_l1Has (x : ((List Int) × Int)) : (Option Bool) :=
  (loopO (fun (again0 : (Int → (Option Bool))) => (fun (s1 : Int) => (cond (decide (s1 < (((List.length x.1) : Nat) : Int))) (bindO (getI x.1 s1) (fun (a2 : Int) => (cond (a2 == x.2) (some true) (bindO (some (IntKind.wrap .i64 (s1 + (1 : Int)))) (fun (a3 : Int) => (again0 a3)))))) (some false)))) (0 : Int))

noncomputable def c_S_l1Has : Con0 := ⟨pk_S_l1Has, rk_S_l1Has, M_S_l1Has⟩

set_option maxRecDepth 100000 in
theorem eq_S_l1Has (x : In pk_S_l1Has) : semF (mkE []) h_S_l1Has (info Try.f95) pk_S_l1Has rk_S_l1Has x = M_S_l1Has x := by kernel_rfl

set_option maxRecDepth 100000 in
theorem m_S_l1Has : ConOK Try.prog 95 c_S_l1Has := fn_ok (tyOK _) (E := mkE []) (consOK_nil rfl) Try.func95 (h := h_S_l1Has) (by kernel_rfl) eq_S_l1Has

/-- S_l9Good -/
def pk_S_l9Good : List PK := [.data (.cons (.int .i64) (.cons (.int .i64) (.one (.int .i64)))), .data (.cons (.int .i64) (.one (.sl (.int .i64))))]
def rk_S_l9Good : List (Ty × Bool) := [(.bool, false)]
def h_S_l9Good : Hints := { loops := [] }
noncomputable def M_S_l9Good (x : ((Int × (Int × Int)) × (Int × (List Int)))) : (Option Bool) :=
  (bindO (M_S_l2Good (x.1.1, (x.1.2.1, x.1.2.2))) (fun (a0 : Bool) => (cond a0 (cond (x.2.1 != (1 : Int)) (bindO (M_S_gIs ((x.1.1, (x.1.2.1, x.1.2.2)), (x.2.1 :: ([] : List Int)))) (fun (a1 : Bool) => (cond a1 (cond (decide ((((List.length x.2.2) : Nat) : Int) ≤ (24 : Int))) (bindO (M_S_l1Has (x.2.2, (1 : Int))) (fun (a2 : Bool) => (cond (not a2) (bindO (M_S_gIs ((x.1.1, (x.1.2.1, x.1.2.2)), x.2.2)) (fun (a3 : Bool) => (some a3))) (some false)))) (some false)) (some false)))) (some false)) (some false))))

noncomputable def c_S_l9Good : Con0 := ⟨pk_S_l9Good, rk_S_l9Good, M_S_l9Good⟩

set_option maxRecDepth 100000 in
theorem eq_S_l9Good (x : In pk_S_l9Good) : semF (mkE [(80, c_S_l2Good), (44, c_S_gIs), (95, c_S_l1Has)]) h_S_l9Good (info Try.f43) pk_S_l9Good rk_S_l9Good x = M_S_l9Good x := by kernel_rfl

set_option maxRecDepth 100000 in
theorem m_S_l9Good : ConOK Try.prog 43 c_S_l9Good := fn_ok (tyOK _) (E := mkE [(80, c_S_l2Good), (44, c_S_gIs), (95, c_S_l1Has)]) (consOK_cons m_S_l2Good (consOK_cons m_S_gIs (consOK_cons m_S_l1Has (consOK_nil rfl)))) Try.func43 (h := h_S_l9Good) (by kernel_rfl) eq_S_l9Good

/-- S_l1All -/
def pk_S_l1All : List PK := [.data (.sl (.int .i64)), .data (.int .i64), .data (.int .i64)]
def rk_S_l1All : List (Ty × Bool) := [(.bool, false)]
def h_S_l1All : Hints := { loops := [(0, { items := [.slot 11 (.data (.int .i64) [])], kill := [0, 3, 4, 5, 6, 7, 8, 12, 13, 14, 15, 16, 17, 18, 19, 20] })] }
noncomputable def M_S_l1All (x : ((List Int) × (Int × Int))) : (Option Bool) :=
  (loopO (fun (again0 : (Int → (Option Bool))) => (fun (s1 : Int) => (cond (decide (s1 < (((List.length x.1) : Nat) : Int))) (bindO (getI x.1 s1) (fun (a2 : Int) => (bindO (M_S_l1In (a2, (x.2.1, x.2.2))) (fun (a3 : Bool) => (cond (not a3) (some false) (bindO (some (IntKind.wrap .i64 (s1 + (1 : Int)))) (fun (a4 : Int) => (again0 a4)))))))) (some true)))) (0 : Int))

noncomputable def c_S_l1All : Con0 := ⟨pk_S_l1All, rk_S_l1All, M_S_l1All⟩

set_option maxRecDepth 100000 in
theorem eq_S_l1All (x : In pk_S_l1All) : semF (mkE [(81, c_S_l1In)]) h_S_l1All (info Try.f117) pk_S_l1All rk_S_l1All x = M_S_l1All x := by kernel_rfl

set_option maxRecDepth 100000 in
theorem m_S_l1All : ConOK Try.prog 117 c_S_l1All := fn_ok (tyOK _) (E := mkE [(81, c_S_l1In)]) (consOK_cons m_S_l1In (consOK_nil rfl)) Try.func117 (h := h_S_l1All) (by kernel_rfl) eq_S_l1All

/-- S_gExps -/
def pk_S_gExps : List PK := [.data (.cons (.int .i64) (.cons (.int .i64) (.one (.int .i64)))), .data (.sl (.int .i64))]
def rk_S_gExps : List (Ty × Bool) := [(.bool, false)]
def h_S_gExps : Hints := { loops := [] }
noncomputable def M_S_gExps (x : ((Int × (Int × Int)) × (List Int))) : (Option Bool) :=
  (bindO (some (IntKind.wrap .i64 (x.1.2.1 - (1 : Int)))) (fun (a0 : Int) => (bindO (M_S_l1All (x.2, ((0 : Int), a0))) (fun (a1 : Bool) => (some a1)))))

noncomputable def c_S_gExps : Con0 := ⟨pk_S_gExps, rk_S_gExps, M_S_gExps⟩

set_option maxRecDepth 100000 in
theorem eq_S_gExps (x : In pk_S_gExps) : semF (mkE [(117, c_S_l1All)]) h_S_gExps (info Try.f82) pk_S_gExps rk_S_gExps x = M_S_gExps x := by kernel_rfl

set_option maxRecDepth 100000 in
theorem m_S_gExps : ConOK Try.prog 82 c_S_gExps := fn_ok (tyOK _) (E := mkE [(117, c_S_l1All)]) (consOK_cons m_S_l1All (consOK_nil rfl)) Try.func82 (h := h_S_gExps) (by kernel_rfl) eq_S_gExps

/-- S_l9Form -/
def pk_S_l9Form : List PK := [.data (.cons (.int .i64) (.cons (.int .i64) (.one (.int .i64)))), .data (.cons (.sl (.int .i64)) (.cons (.sl (.int .i64)) (.one (.sl (.int .i64))))), .data (.int .i64), .data (.int .i64), .data (.int .i64)]
def rk_S_l9Form : List (Ty × Bool) := [(.bool, false)]
def h_S_l9Form : Hints := { loops := [] }
noncomputable def M_S_l9Form (x : ((Int × (Int × Int)) × (((List Int) × ((List Int) × (List Int))) × (Int × (Int × Int))))) : (Option Bool) :=
  (cond ((((List.length x.2.1.1) : Nat) : Int) == x.2.2.1) (cond ((((List.length x.2.1.2.1) : Nat) : Int) == x.2.2.2.1) (cond ((((List.length x.2.1.2.2) : Nat) : Int) == x.2.2.2.2) (bindO (M_S_gIs ((x.1.1, (x.1.2.1, x.1.2.2)), x.2.1.1)) (fun (a0 : Bool) => (cond a0 (bindO (M_S_gExps ((x.1.1, (x.1.2.1, x.1.2.2)), x.2.1.2.1)) (fun (a1 : Bool) => (cond a1 (bindO (M_S_gExps ((x.1.1, (x.1.2.1, x.1.2.2)), x.2.1.2.2)) (fun (a2 : Bool) => (some a2))) (some false)))) (some false)))) (some false)) (some false)) (some false))

noncomputable def c_S_l9Form : Con0 := ⟨pk_S_l9Form, rk_S_l9Form, M_S_l9Form⟩

set_option maxRecDepth 100000 in
theorem eq_S_l9Form (x : In pk_S_l9Form) : semF (mkE [(44, c_S_gIs), (82, c_S_gExps)]) h_S_l9Form (info Try.f45) pk_S_l9Form rk_S_l9Form x = M_S_l9Form x := by kernel_rfl

set_option maxRecDepth 100000 in
theorem m_S_l9Form : ConOK Try.prog 45 c_S_l9Form := fn_ok (tyOK _) (E := mkE [(44, c_S_gIs), (82, c_S_gExps)]) (consOK_cons m_S_gIs (consOK_cons m_S_gExps (consOK_nil rfl))) Try.func45 (h := h_S_l9Form) (by kernel_rfl) eq_S_l9Form

/-- S_nMod -/
def pk_S_nMod : List PK := [.data (.int .i64), .data (.int .i64)]
def rk_S_nMod : List (Ty × Bool) := [((.int .i64), false)]
def h_S_nMod : Hints := { loops := [] }
noncomputable def M_S_nMod (x : (Int × Int)) : (Option Int) :=
  (bindO (guardO (x.2 != (0 : Int))) (fun (a0 : Unit) => (bindO (some (Int.tmod x.1 x.2)) (fun (a1 : Int) => (bindO (some (IntKind.wrap .i64 (a1 + x.2))) (fun (a2 : Int) => (bindO (guardO (x.2 != (0 : Int))) (fun (a3 : Unit) => (bindO (some (Int.tmod a2 x.2)) (fun (a4 : Int) => (some a4)))))))))))

noncomputable def c_S_nMod : Con0 := ⟨pk_S_nMod, rk_S_nMod, M_S_nMod⟩

set_option maxRecDepth 100000 in
theorem eq_S_nMod (x : In pk_S_nMod) : semF (mkE []) h_S_nMod (info Try.f46) pk_S_nMod rk_S_nMod x = M_S_nMod x := by kernel_rfl

set_option maxRecDepth 100000 in
theorem m_S_nMod : ConOK Try.prog 46 c_S_nMod := fn_ok (tyOK _) (E := mkE []) (consOK_nil rfl) Try.func46 (h := h_S_nMod) (by kernel_rfl) eq_S_nMod

/-- S_l3With -/
def pk_S_l3With : List PK := [.data .str, .data (.sl (.int .i64))]
def rk_S_l3With : List (Ty × Bool) := [((.sl (.int .i64)), true)]
def h_S_l3With : Hints := { loops := [(0, { items := [.slot 5 (.own (.int .i64) true), .slot 6 (.data (.int .i64) [])], kill := [2, 3, 4, 7, 8, 9, 10, 11, 12, 13, 14, 15, 16, 17, 18, 19, 20, 21, 22, 23, 24, 25] })] }
noncomputable def M_S_l3With (x : (ByteArray × (List Int))) : (Option (List Int)) :=
  (loopO (fun (again0 : (((List Int) × Int) → (Option (List Int)))) => (fun (s1 : ((List Int) × Int)) => (cond (decide (s1.2 < (((ByteArray.size x.1) : Nat) : Int))) (bindO (if ((0 : Int) ≤ s1.2) then (x.1[(Int.toNat s1.2)]?) else (none : Option (UInt8))) (fun (a2 : (UInt8)) => (bindO (guardO (lenOk ((List.length s1.1) + (List.length ((IntKind.wrap .i64 (((UInt8.toNat a2) : Nat) : Int)) :: ([] : List Int)))))) (fun (a3 : Unit) => (bindO (some (s1.1 ++ ((IntKind.wrap .i64 (((UInt8.toNat a2) : Nat) : Int)) :: ([] : List Int)))) (fun (a4 : (List Int)) => (bindO (some (IntKind.wrap .i64 (s1.2 + (1 : Int)))) (fun (a5 : Int) => (again0 (a4, a5)))))))))) (bindO (guardO (lenOk ((List.length s1.1) + (List.length x.2)))) (fun (a6 : Unit) => (bindO (some (s1.1 ++ x.2)) (fun (a7 : (List Int)) => (some a7)))))))) (((((ByteArray.size x.1) : Nat) : Int) :: ([] : List Int)), (0 : Int)))

noncomputable def c_S_l3With : Con0 := ⟨pk_S_l3With, rk_S_l3With, M_S_l3With⟩

set_option maxRecDepth 100000 in
theorem eq_S_l3With (x : In pk_S_l3With) : semF (mkE []) h_S_l3With (info Try.f128) pk_S_l3With rk_S_l3With x = M_S_l3With x := by kernel_rfl

set_option maxRecDepth 100000 in
theorem m_S_l3With : ConOK Try.prog 128 c_S_l3With := fn_ok (tyOK _) (E := mkE []) (consOK_nil rfl) Try.func128 (h := h_S_l3With) (by kernel_rfl) eq_S_l3With

/-- S_l3State_absorb -/
def pk_S_l3State_absorb : List PK := [.mp (.cons (.int .i64) (.one (.int .i64))) false, .data (.int .i64)]
def rk_S_l3State_absorb : List (Ty × Bool) := []
def h_S_l3State_absorb : Hints := { loops := [(0, { items := [.slot 12 (.data (.int .i64) []), .cell 0 0 (.data (.int .i64) []), .cell 0 1 (.data (.int .i64) [])], kill := [1, 2, 3, 4, 5, 6, 7, 8, 9, 13, 14, 15, 16, 17, 18, 19, 20, 21, 22, 23, 24, 25, 26, 27, 28, 29, 30, 31, 32, 33, 34, 35, 36, 37, 38, 39, 40] })] }
noncomputable def M_S_l3State_absorb (x : ((Int × Int) × Int)) : (Option (Int × Int)) :=
  (bindO (guardO ((2147483648 : Int) != (0 : Int))) (fun (a0 : Unit) => (bindO (some (Int.tmod x.2 (2147483648 : Int))) (fun (a1 : Int) => (bindO (guardO ((2147483648 : Int) != (0 : Int))) (fun (a2 : Unit) => (bindO (some (IntKind.wrap .i64 (Int.tdiv x.2 (2147483648 : Int)))) (fun (a3 : Int) => (loopO (fun (again4 : ((Int × (Int × Int)) → (Option (Int × Int)))) => (fun (s5 : (Int × (Int × Int))) => (cond (decide (s5.1 < (((List.length (a1 :: (a3 :: ([] : List Int)))) : Nat) : Int))) (bindO (getI (a1 :: (a3 :: ([] : List Int))) s5.1) (fun (a6 : Int) => (bindO (some (IntKind.wrap .i64 ((48271 : Int) * s5.2.1))) (fun (a7 : Int) => (bindO (some (IntKind.wrap .i64 (a7 + a6))) (fun (a8 : Int) => (bindO (some (IntKind.wrap .i64 (a8 + (1 : Int)))) (fun (a9 : Int) => (bindO (guardO ((2147483647 : Int) != (0 : Int))) (fun (a10 : Unit) => (bindO (some (Int.tmod a9 (2147483647 : Int))) (fun (a11 : Int) => (bindO (some (IntKind.wrap .i64 ((69621 : Int) * s5.2.2))) (fun (a12 : Int) => (bindO (some (IntKind.wrap .i64 (a12 + a6))) (fun (a13 : Int) => (bindO (some (IntKind.wrap .i64 (a13 + (1 : Int)))) (fun (a14 : Int) => (bindO (guardO ((2147483647 : Int) != (0 : Int))) (fun (a15 : Unit) => (bindO (some (Int.tmod a14 (2147483647 : Int))) (fun (a16 : Int) => (bindO (some (IntKind.wrap .i64 (s5.1 + (1 : Int)))) (fun (a17 : Int) => (again4 (a17, (a11, a16))))))))))))))))))))))))))) (some (s5.2.1, s5.2.2))))) ((0 : Int), (x.1.1, x.1.2)))))))))))

noncomputable def c_S_l3State_absorb : Con0 := ⟨pk_S_l3State_absorb, rk_S_l3State_absorb, M_S_l3State_absorb⟩

set_option maxRecDepth 100000 in
theorem eq_S_l3State_absorb (x : In pk_S_l3State_absorb) : semF (mkE []) h_S_l3State_absorb (info Try.f143) pk_S_l3State_absorb rk_S_l3State_absorb x = M_S_l3State_absorb x := by kernel_rfl

set_option maxRecDepth 100000 in
theorem m_S_l3State_absorb : ConOK Try.prog 143 c_S_l3State_absorb := fn_ok (tyOK _) (E := mkE []) (consOK_nil rfl) Try.func143 (h := h_S_l3State_absorb) (by kernel_rfl) eq_S_l3State_absorb

/-- S_hInts -/
def pk_S_hInts : List PK := [.data (.sl (.int .i64))]
def rk_S_hInts : List (Ty × Bool) := [((.int .i64), false)]
def h_S_hInts : Hints := { loops := [(0, { items := [.slot 14 (.data (.int .i64) []), .cell 7 0 (.data (.int .i64) []), .cell 7 1 (.data (.int .i64) [])], kill := [0, 1, 2, 4, 5, 6, 8, 9, 10, 11, 15, 16, 17, 18, 19, 20, 21, 22, 23, 24, 25, 26, 27, 28, 29, 30, 31] })] }
noncomputable def M_S_hInts (x : (List Int)) : (Option Int) :=
  (bindO (M_S_l3State_absorb (((1 : Int), (2 : Int)), (((List.length x) : Nat) : Int))) (fun (a0 : (Int × Int)) => (loopO (fun (again1 : ((Int × (Int × Int)) → (Option Int))) => (fun (s2 : (Int × (Int × Int))) => (cond (decide (s2.1 < (((List.length x) : Nat) : Int))) (bindO (getI x s2.1) (fun (a3 : Int) => (bindO (M_S_l3State_absorb ((s2.2.1, s2.2.2), a3)) (fun (a4 : (Int × Int)) => (bindO (some (IntKind.wrap .i64 (s2.1 + (1 : Int)))) (fun (a5 : Int) => (again1 (a5, (a4.1, a4.2))))))))) (bindO (some (IntKind.wrap .i64 (s2.2.1 * (2147483648 : Int)))) (fun (a6 : Int) => (bindO (some (IntKind.wrap .i64 (a6 + s2.2.2))) (fun (a7 : Int) => (some a7)))))))) ((0 : Int), (a0.1, a0.2)))))

noncomputable def c_S_hInts : Con0 := ⟨pk_S_hInts, rk_S_hInts, M_S_hInts⟩

set_option maxRecDepth 100000 in
theorem eq_S_hInts (x : In pk_S_hInts) : semF (mkE [(143, c_S_l3State_absorb)]) h_S_hInts (info Try.f127) pk_S_hInts rk_S_hInts x = M_S_hInts x := by kernel_rfl

set_option maxRecDepth 100000 in
theorem m_S_hInts : ConOK Try.prog 127 c_S_hInts := fn_ok (tyOK _) (E := mkE [(143, c_S_l3State_absorb)]) (consOK_cons m_S_l3State_absorb (consOK_nil rfl)) Try.func127 (h := h_S_hInts) (by kernel_rfl) eq_S_hInts

/-- S_hLabelled -/
def pk_S_hLabelled : List PK := [.data .str, .data (.sl (.int .i64))]
def rk_S_hLabelled : List (Ty × Bool) := [((.int .i64), false)]
def h_S_hLabelled : Hints := { loops := [] }
noncomputable def M_S_hLabelled (x : (ByteArray × (List Int))) : (Option Int) :=
  (bindO (M_S_l3With (x.1, x.2)) (fun (a0 : (List Int)) => (bindO (M_S_hInts a0) (fun (a1 : Int) => (some a1)))))

noncomputable def c_S_hLabelled : Con0 := ⟨pk_S_hLabelled, rk_S_hLabelled, M_S_hLabelled⟩

set_option maxRecDepth 100000 in
theorem eq_S_hLabelled (x : In pk_S_hLabelled) : semF (mkE [(128, c_S_l3With), (127, c_S_hInts)]) h_S_hLabelled (info Try.f98) pk_S_hLabelled rk_S_hLabelled x = M_S_hLabelled x := by kernel_rfl

set_option maxRecDepth 100000 in
theorem m_S_hLabelled : ConOK Try.prog 98 c_S_hLabelled := fn_ok (tyOK _) (E := mkE [(128, c_S_l3With), (127, c_S_hInts)]) (consOK_cons m_S_l3With (consOK_cons m_S_hInts (consOK_nil rfl))) Try.func98 (h := h_S_hLabelled) (by kernel_rfl) eq_S_hLabelled

/-- S_hChallenge -/
def pk_S_hChallenge : List PK := [.data (.cons (.int .i64) (.cons (.int .i64) (.one (.int .i64)))), .data .str, .data (.sl (.int .i64))]
def rk_S_hChallenge : List (Ty × Bool) := [((.int .i64), false)]
def h_S_hChallenge : Hints := { loops := [] }
noncomputable def M_S_hChallenge (x : ((Int × (Int × Int)) × (ByteArray × (List Int)))) : (Option Int) :=
  (bindO (guardO (lenOk ((List.length (x.1.1 :: (x.1.2.1 :: (x.1.2.2 :: ([] : List Int))))) + (List.length x.2.2)))) (fun (a0 : Unit) => (bindO (some ((x.1.1 :: (x.1.2.1 :: (x.1.2.2 :: ([] : List Int)))) ++ x.2.2)) (fun (a1 : (List Int)) => (bindO (M_S_hLabelled (x.2.1, a1)) (fun (a2 : Int) => (bindO (guardO (x.1.2.1 != (0 : Int))) (fun (a3 : Unit) => (bindO (some (Int.tmod a2 x.1.2.1)) (fun (a4 : Int) => (some a4)))))))))))

noncomputable def c_S_hChallenge : Con0 := ⟨pk_S_hChallenge, rk_S_hChallenge, M_S_hChallenge⟩

set_option maxRecDepth 100000 in
theorem eq_S_hChallenge (x : In pk_S_hChallenge) : semF (mkE [(98, c_S_hLabelled)]) h_S_hChallenge (info Try.f73) pk_S_hChallenge rk_S_hChallenge x = M_S_hChallenge x := by kernel_rfl

set_option maxRecDepth 100000 in
theorem m_S_hChallenge : ConOK Try.prog 73 c_S_hChallenge := fn_ok (tyOK _) (E := mkE [(98, c_S_hLabelled)]) (consOK_cons m_S_hLabelled (consOK_nil rfl)) Try.func73 (h := h_S_hChallenge) (by kernel_rfl) eq_S_hChallenge

/-- S_rBitChallenge -/
def pk_S_rBitChallenge : List PK := [.data (.cons (.int .i64) (.cons (.int .i64) (.one (.int .i64)))), .data (.cons (.int .i64) (.one (.sl (.int .i64)))), .data (.int .i64), .data (.sl (.int .i64))]
def rk_S_rBitChallenge : List (Ty × Bool) := [((.int .i64), false)]
def h_S_rBitChallenge : Hints := { loops := [] }
noncomputable def M_S_rBitChallenge (x : ((Int × (Int × Int)) × ((Int × (List Int)) × (Int × (List Int))))) : (Option Int) :=
  (bindO (getI x.2.2.2 (0 : Int)) (fun (a0 : Int) => (bindO (getI x.2.2.2 (1 : Int)) (fun (a1 : Int) => (bindO (M_S_hChallenge ((x.1.1, (x.1.2.1, x.1.2.2)), ((bytesOf [98, 105, 116]), (x.2.1.1 :: (x.2.2.1 :: (a0 :: (a1 :: ([] : List Int)))))))) (fun (a2 : Int) => (some a2)))))))

noncomputable def c_S_rBitChallenge : Con0 := ⟨pk_S_rBitChallenge, rk_S_rBitChallenge, M_S_rBitChallenge⟩

set_option maxRecDepth 100000 in
theorem eq_S_rBitChallenge (x : In pk_S_rBitChallenge) : semF (mkE [(73, c_S_hChallenge)]) h_S_rBitChallenge (info Try.f47) pk_S_rBitChallenge rk_S_rBitChallenge x = M_S_rBitChallenge x := by kernel_rfl

set_option maxRecDepth 100000 in
theorem m_S_rBitChallenge : ConOK Try.prog 47 c_S_rBitChallenge := fn_ok (tyOK _) (E := mkE [(73, c_S_hChallenge)]) (consOK_cons m_S_hChallenge (consOK_nil rfl)) Try.func47 (h := h_S_rBitChallenge) (by kernel_rfl) eq_S_rBitChallenge

/-- S_l1Least -/
def pk_S_l1Least : List PK := [.data (.int .i64), .data (.int .i64)]
def rk_S_l1Least : List (Ty × Bool) := [((.int .i64), false)]
def h_S_l1Least : Hints := { loops := [] }
noncomputable def M_S_l1Least (x : (Int × Int)) : (Option Int) :=
  (cond (decide (x.1 < x.2)) (some x.1) (some x.2))

noncomputable def c_S_l1Least : Con0 := ⟨pk_S_l1Least, rk_S_l1Least, M_S_l1Least⟩

set_option maxRecDepth 100000 in
theorem eq_S_l1Least (x : In pk_S_l1Least) : semF (mkE []) h_S_l1Least (info Try.f97) pk_S_l1Least rk_S_l1Least x = M_S_l1Least x := by kernel_rfl

set_option maxRecDepth 100000 in
theorem m_S_l1Least : ConOK Try.prog 97 c_S_l1Least := fn_ok (tyOK _) (E := mkE []) (consOK_nil rfl) Try.func97 (h := h_S_l1Least) (by kernel_rfl) eq_S_l1Least

/-- S_l1Own -/
def pk_S_l1Own : List PK := [.data (.sl (.int .i64))]
def rk_S_l1Own : List (Ty × Bool) := [((.sl (.int .i64)), true)]
def h_S_l1Own : Hints := { loops := [] }
noncomputable def M_S_l1Own (x : (List Int)) : (Option (List Int)) :=
  (bindO (guardO (lenOk ((List.length ([] : List Int)) + (List.length x)))) (fun (a0 : Unit) => (bindO (some (([] : List Int) ++ x)) (fun (a1 : (List Int)) => (some a1)))))

noncomputable def c_S_l1Own : Con0 := ⟨pk_S_l1Own, rk_S_l1Own, M_S_l1Own⟩

set_option maxRecDepth 100000 in
theorem eq_S_l1Own (x : In pk_S_l1Own) : semF (mkE []) h_S_l1Own (info Try.f99) pk_S_l1Own rk_S_l1Own x = M_S_l1Own x := by kernel_rfl

set_option maxRecDepth 100000 in
theorem m_S_l1Own : ConOK Try.prog 99 c_S_l1Own := fn_ok (tyOK _) (E := mkE []) (consOK_nil rfl) Try.func99 (h := h_S_l1Own) (by kernel_rfl) eq_S_l1Own

/-- S_wSmall -/
def pk_S_wSmall : List PK := [.data (.cons (.int .i64) (.cons (.int .i64) (.one (.int .i64)))), .data (.sl (.int .i64)), .data (.int .i64)]
def rk_S_wSmall : List (Ty × Bool) := [((.sl (.int .i64)), true)]
def h_S_wSmall : Hints := { loops := [(0, { items := [.slot 8 (.own (.int .i64) true), .slot 9 (.data (.int .i64) [])], kill := [0, 3, 4, 5, 6, 10, 11, 12, 13, 14, 15, 16, 17, 18, 19, 20, 21, 22, 23, 24, 25, 26, 27, 28, 29, 30, 31] })] }
noncomputable def M_S_wSmall (x : ((Int × (Int × Int)) × ((List Int) × Int))) : (Option (List Int)) :=
  (bindO (some (IntKind.wrap .i64 (x.1.2.1 - (1 : Int)))) (fun (a0 : Int) => (bindO (M_S_l1Least ((65535 : Int), a0)) (fun (a1 : Int) => (loopO (fun (again2 : (((List Int) × Int) → (Option (List Int)))) => (fun (s3 : ((List Int) × Int)) => (cond (decide (s3.2 < x.2.2)) (bindO (M_S_l1Own x.2.1) (fun (a4 : (List Int)) => (bindO (guardO (lenOk ((List.length a4) + (List.length (s3.2 :: ([] : List Int)))))) (fun (a5 : Unit) => (bindO (some (a4 ++ (s3.2 :: ([] : List Int)))) (fun (a6 : (List Int)) => (bindO (M_S_hLabelled ((bytesOf [115, 109, 97, 108, 108]), a6)) (fun (a7 : Int) => (bindO (guardO (a1 != (0 : Int))) (fun (a8 : Unit) => (bindO (some (Int.tmod a7 a1)) (fun (a9 : Int) => (bindO (some (IntKind.wrap .i64 ((1 : Int) + a9))) (fun (a10 : Int) => (bindO (guardO (lenOk ((List.length s3.1) + (List.length (a10 :: ([] : List Int)))))) (fun (a11 : Unit) => (bindO (some (s3.1 ++ (a10 :: ([] : List Int)))) (fun (a12 : (List Int)) => (bindO (some (IntKind.wrap .i64 (s3.2 + (1 : Int)))) (fun (a13 : Int) => (again2 (a12, a13)))))))))))))))))))))) (some s3.1)))) (([] : List Int), (0 : Int)))))))

noncomputable def c_S_wSmall : Con0 := ⟨pk_S_wSmall, rk_S_wSmall, M_S_wSmall⟩

set_option maxRecDepth 100000 in
theorem eq_S_wSmall (x : In pk_S_wSmall) : semF (mkE [(97, c_S_l1Least), (99, c_S_l1Own), (98, c_S_hLabelled)]) h_S_wSmall (info Try.f48) pk_S_wSmall rk_S_wSmall x = M_S_wSmall x := by kernel_rfl

set_option maxRecDepth 100000 in
theorem m_S_wSmall : ConOK Try.prog 48 c_S_wSmall := fn_ok (tyOK _) (E := mkE [(97, c_S_l1Least), (99, c_S_l1Own), (98, c_S_hLabelled)]) (consOK_cons m_S_l1Least (consOK_cons m_S_l1Own (consOK_cons m_S_hLabelled (consOK_nil rfl)))) Try.func48 (h := h_S_wSmall) (by kernel_rfl) eq_S_wSmall

/-- S_gInv -/
def pk_S_gInv : List PK := [.data (.cons (.int .i64) (.cons (.int .i64) (.one (.int .i64)))), .data (.int .i64)]
def rk_S_gInv : List (Ty × Bool) := [((.int .i64), false)]
def h_S_gInv : Hints := { loops := [] }
noncomputable def M_S_gInv (x : ((Int × (Int × Int)) × Int)) : (Option Int) :=
  (bindO (some (IntKind.wrap .i64 (x.1.2.1 - (1 : Int)))) (fun (a0 : Int) => (bindO (M_S_nPower (x.2, (a0, x.1.1))) (fun (a1 : Int) => (some a1)))))

noncomputable def c_S_gInv : Con0 := ⟨pk_S_gInv, rk_S_gInv, M_S_gInv⟩

set_option maxRecDepth 100000 in
theorem eq_S_gInv (x : In pk_S_gInv) : semF (mkE [(96, c_S_nPower)]) h_S_gInv (info Try.f100) pk_S_gInv rk_S_gInv x = M_S_gInv x := by kernel_rfl

set_option maxRecDepth 100000 in
theorem m_S_gInv : ConOK Try.prog 100 c_S_gInv := fn_ok (tyOK _) (E := mkE [(96, c_S_nPower)]) (consOK_cons m_S_nPower (consOK_nil rfl)) Try.func100 (h := h_S_gInv) (by kernel_rfl) eq_S_gInv

/-- S_gMul -/
def pk_S_gMul : List PK := [.data (.cons (.int .i64) (.cons (.int .i64) (.one (.int .i64)))), .data (.sl (.int .i64))]
def rk_S_gMul : List (Ty × Bool) := [((.int .i64), false)]
def h_S_gMul : Hints := { loops := [(0, { items := [.slot 5 (.data (.int .i64) []), .slot 10 (.data (.int .i64) [])], kill := [0, 1, 3, 4, 6, 7, 11, 12, 13, 14, 15, 16, 17, 18, 19, 20, 21] })] }
noncomputable def M_S_gMul (x : ((Int × (Int × Int)) × (List Int))) : (Option Int) :=
  (loopO (fun (again0 : ((Int × Int) → (Option Int))) => (fun (s1 : (Int × Int)) => (cond (decide (s1.2 < (((List.length x.2) : Nat) : Int))) (bindO (getI x.2 s1.2) (fun (a2 : Int) => (bindO (some (IntKind.wrap .i64 (s1.1 * a2))) (fun (a3 : Int) => (bindO (guardO (x.1.1 != (0 : Int))) (fun (a4 : Unit) => (bindO (some (Int.tmod a3 x.1.1)) (fun (a5 : Int) => (bindO (some (IntKind.wrap .i64 (s1.2 + (1 : Int)))) (fun (a6 : Int) => (again0 (a5, a6)))))))))))) (some s1.1)))) ((1 : Int), (0 : Int)))

noncomputable def c_S_gMul : Con0 := ⟨pk_S_gMul, rk_S_gMul, M_S_gMul⟩

set_option maxRecDepth 100000 in
theorem eq_S_gMul (x : In pk_S_gMul) : semF (mkE []) h_S_gMul (info Try.f51) pk_S_gMul rk_S_gMul x = M_S_gMul x := by kernel_rfl

set_option maxRecDepth 100000 in
theorem m_S_gMul : ConOK Try.prog 51 c_S_gMul := fn_ok (tyOK _) (E := mkE []) (consOK_nil rfl) Try.func51 (h := h_S_gMul) (by kernel_rfl) eq_S_gMul

/-- S_rCase -/
def pk_S_rCase : List PK := [.data (.cons (.int .i64) (.cons (.int .i64) (.one (.int .i64)))), .data (.int .i64), .data (.int .i64)]
def rk_S_rCase : List (Ty × Bool) := [((.int .i64), false)]
def h_S_rCase : Hints := { loops := [] }
noncomputable def M_S_rCase (x : ((Int × (Int × Int)) × (Int × Int))) : (Option Int) :=
  (cond (x.2.2 == (1 : Int)) (bindO (M_S_gInv ((x.1.1, (x.1.2.1, x.1.2.2)), x.1.2.2)) (fun (a0 : Int) => (bindO (M_S_gMul ((x.1.1, (x.1.2.1, x.1.2.2)), (x.2.1 :: (a0 :: ([] : List Int))))) (fun (a1 : Int) => (some a1))))) (some x.2.1))

noncomputable def c_S_rCase : Con0 := ⟨pk_S_rCase, rk_S_rCase, M_S_rCase⟩

set_option maxRecDepth 100000 in
theorem eq_S_rCase (x : In pk_S_rCase) : semF (mkE [(100, c_S_gInv), (51, c_S_gMul)]) h_S_rCase (info Try.f50) pk_S_rCase rk_S_rCase x = M_S_rCase x := by kernel_rfl

set_option maxRecDepth 100000 in
theorem m_S_rCase : ConOK Try.prog 50 c_S_rCase := fn_ok (tyOK _) (E := mkE [(100, c_S_gInv), (51, c_S_gMul)]) (consOK_cons m_S_gInv (consOK_cons m_S_gMul (consOK_nil rfl))) Try.func50 (h := h_S_rCase) (by kernel_rfl) eq_S_rCase

/-- S_gExp -/
def pk_S_gExp : List PK := [.data (.cons (.int .i64) (.cons (.int .i64) (.one (.int .i64)))), .data (.int .i64), .data (.int .i64)]
def rk_S_gExp : List (Ty × Bool) := [((.int .i64), false)]
def h_S_gExp : Hints := { loops := [] }
noncomputable def M_S_gExp (x : ((Int × (Int × Int)) × (Int × Int))) : (Option Int) :=
  (bindO (M_S_nMod (x.2.2, x.1.2.1)) (fun (a0 : Int) => (bindO (M_S_nPower (x.2.1, (a0, x.1.1))) (fun (a1 : Int) => (some a1)))))

noncomputable def c_S_gExp : Con0 := ⟨pk_S_gExp, rk_S_gExp, M_S_gExp⟩

set_option maxRecDepth 100000 in
theorem eq_S_gExp (x : In pk_S_gExp) : semF (mkE [(46, c_S_nMod), (96, c_S_nPower)]) h_S_gExp (info Try.f52) pk_S_gExp rk_S_gExp x = M_S_gExp x := by kernel_rfl

set_option maxRecDepth 100000 in
theorem m_S_gExp : ConOK Try.prog 52 c_S_gExp := fn_ok (tyOK _) (E := mkE [(46, c_S_nMod), (96, c_S_nPower)]) (consOK_cons m_S_nMod (consOK_cons m_S_nPower (consOK_nil rfl))) Try.func52 (h := h_S_gExp) (by kernel_rfl) eq_S_gExp

/-- S_wRatio -/
def pk_S_wRatio : List PK := [.data (.cons (.int .i64) (.cons (.int .i64) (.one (.int .i64)))), .data (.int .i64), .data (.int .i64), .data (.int .i64), .data (.int .i64), .data (.int .i64)]
def rk_S_wRatio : List (Ty × Bool) := [((.int .i64), false)]
def h_S_wRatio : Hints := { loops := [] }
noncomputable def M_S_wRatio (x : ((Int × (Int × Int)) × (Int × (Int × (Int × (Int × Int)))))) : (Option Int) :=
  (bindO (M_S_gExp ((x.1.1, (x.1.2.1, x.1.2.2)), (x.2.1, x.2.2.1))) (fun (a0 : Int) => (bindO (M_S_gExp ((x.1.1, (x.1.2.1, x.1.2.2)), (x.2.2.2.2.1, x.2.2.2.2.2))) (fun (a1 : Int) => (bindO (M_S_gMul ((x.1.1, (x.1.2.1, x.1.2.2)), (x.2.2.2.1 :: (a1 :: ([] : List Int))))) (fun (a2 : Int) => (bindO (M_S_gInv ((x.1.1, (x.1.2.1, x.1.2.2)), a2)) (fun (a3 : Int) => (bindO (M_S_gMul ((x.1.1, (x.1.2.1, x.1.2.2)), (a0 :: (a3 :: ([] : List Int))))) (fun (a4 : Int) => (some a4)))))))))))

noncomputable def c_S_wRatio : Con0 := ⟨pk_S_wRatio, rk_S_wRatio, M_S_wRatio⟩

set_option maxRecDepth 100000 in
theorem eq_S_wRatio (x : In pk_S_wRatio) : semF (mkE [(52, c_S_gExp), (51, c_S_gMul), (100, c_S_gInv)]) h_S_wRatio (info Try.f49) pk_S_wRatio rk_S_wRatio x = M_S_wRatio x := by kernel_rfl

set_option maxRecDepth 100000 in
theorem m_S_wRatio : ConOK Try.prog 49 c_S_wRatio := fn_ok (tyOK _) (E := mkE [(52, c_S_gExp), (51, c_S_gMul), (100, c_S_gInv)]) (consOK_cons m_S_gExp (consOK_cons m_S_gMul (consOK_cons m_S_gInv (consOK_nil rfl)))) Try.func49 (h := h_S_wRatio) (by kernel_rfl) eq_S_wRatio

/-- S_BatchBits -/
def pk_S_BatchBits : List PK := [.data (.cons (.int .i64) (.cons (.int .i64) (.one (.int .i64)))), .data (.cons (.int .i64) (.one (.sl (.int .i64)))), .data (.sl (.int .i64)), .data (.sl (.cons (.sl (.int .i64)) (.cons (.sl (.int .i64)) (.one (.sl (.int .i64))))))]
def rk_S_BatchBits : List (Ty × Bool) := [(.bool, false), (.bool, false)]
def h_S_BatchBits : Hints := { loops := [(0, { items := [.slot 10 (.own (.int .i64) true), .slot 43 (.data (.int .i64) [])], kill := [0, 1, 6, 7, 8, 9, 11, 12, 13, 14, 15, 16, 17, 18, 19, 20, 21, 22, 23, 24, 25, 26, 27, 28, 29, 30, 31, 32, 33, 34, 35, 36, 37, 38, 39, 40, 44, 45, 46, 47, 48, 49, 50, 51, 52, 53, 54, 55, 56, 57, 58, 59, 60, 61, 62, 63, 64, 65, 66, 67, 68, 69, 70, 71, 72, 73, 74, 75, 76, 77, 78, 79, 80, 81, 82, 83, 84, 85, 86, 87, 88, 89, 90, 91, 92, 93, 94, 95, 96, 97, 98, 99, 100, 101, 102, 103, 104, 105, 106, 107, 108, 109, 110, 111, 112, 113, 114, 115, 116, 117, 118, 119, 120, 121, 122, 123, 124, 125, 126, 127, 128, 129, 130, 131, 132, 133, 134, 135, 136, 137, 138, 139, 140] }), (2, { items := [.slot 14 (.data (.int .i64) []), .slot 89 (.data (.int .i64) [])], kill := [0, 1, 3, 6, 7, 8, 9, 10, 11, 12, 15, 16, 17, 18, 19, 20, 21, 22, 23, 24, 25, 26, 27, 28, 29, 30, 31, 32, 33, 34, 35, 36, 37, 38, 39, 40, 41, 42, 43, 44, 45, 46, 47, 48, 49, 50, 51, 52, 53, 54, 55, 56, 57, 58, 59, 60, 61, 62, 63, 64, 65, 66, 67, 68, 69, 70, 71, 72, 73, 74, 75, 76, 77, 78, 79, 80, 81, 82, 83, 84, 85, 86, 90, 91, 92, 93, 94, 95, 96, 97, 98, 99, 100, 101, 102, 103, 104, 105, 106, 107, 108, 109, 110, 111, 112, 113, 114, 115, 116, 117, 118, 119, 120, 121, 122, 123, 124, 125, 126, 127, 128, 129, 130, 131, 132, 133, 134, 135, 136, 137, 138, 139, 140] }), (4, { items := [.slot 14 (.data (.int .i64) []), .slot 17 (.data (.int .i64) [])], kill := [0, 1, 3, 6, 7, 8, 9, 10, 11, 12, 18, 19, 20, 21, 22, 23, 24, 25, 26, 27, 28, 29, 30, 31, 32, 33, 34, 35, 36, 37, 38, 39, 40, 41, 42, 43, 44, 45, 46, 47, 48, 49, 50, 51, 52, 53, 54, 55, 56, 57, 58, 59, 60, 61, 62, 63, 64, 65, 66, 67, 68, 69, 70, 71, 72, 73, 74, 75, 76, 77, 78, 79, 80, 81, 82, 83, 84, 85, 86, 90, 91, 92, 93, 94, 95, 96, 97, 98, 99, 100, 101, 102, 103, 104, 105, 106, 107, 108, 109, 110, 111, 112, 113, 114, 115, 116, 117, 118, 119, 120, 121, 122, 123, 124, 125, 126, 127, 128, 129, 130, 131, 132, 133, 134, 135, 136, 137, 138, 139, 140] })] }
noncomputable def M_S_BatchBits (x : ((Int × (Int × Int)) × ((Int × (List Int)) × ((List Int) × (List ((List Int) × ((List Int) × (List Int)))))))) : (Option (Bool × Bool)) :=
  (bindO (M_S_l9Good ((x.1.1, (x.1.2.1, x.1.2.2)), (x.2.1.1, x.2.1.2))) (fun (a0 : Bool) => (cond (not a0) (some (false, false)) (cond (decide ((((List.length x.2.2.1) : Nat) : Int) > (12 : Int))) (some (false, false)) (bindO (M_S_gIs ((x.1.1, (x.1.2.1, x.1.2.2)), x.2.2.1)) (fun (a1 : Bool) => (cond (not a1) (some (false, false)) (cond ((((List.length x.2.2.2) : Nat) : Int) != (((List.length x.2.2.1) : Nat) : Int)) (some (false, false)) (loopO (fun (again2 : (((List Int) × Int) → (Option (Bool × Bool)))) => (fun (s3 : ((List Int) × Int)) => (cond (decide (s3.2 < (((List.length x.2.2.2) : Nat) : Int))) (bindO (getI x.2.2.2 s3.2) (fun (a4 : ((List Int) × ((List Int) × (List Int)))) => (bindO (M_S_l9Form ((x.1.1, (x.1.2.1, x.1.2.2)), ((a4.1, (a4.2.1, a4.2.2)), ((2 : Int), ((2 : Int), (2 : Int)))))) (fun (a5 : Bool) => (cond (not a5) (some (false, true)) (bindO (getI a4.2.1 (0 : Int)) (fun (a6 : Int) => (bindO (getI a4.2.1 (1 : Int)) (fun (a7 : Int) => (bindO (some (IntKind.wrap .i64 (a6 + a7))) (fun (a8 : Int) => (bindO (M_S_nMod (a8, x.1.2.1)) (fun (a9 : Int) => (bindO (getI x.2.2.1 s3.2) (fun (a10 : Int) => (bindO (M_S_rBitChallenge ((x.1.1, (x.1.2.1, x.1.2.2)), ((x.2.1.1, x.2.1.2), (a10, a4.1)))) (fun (a11 : Int) => (cond (a9 != a11) (some (false, true)) (bindO (guardO (lenOk ((List.length s3.1) + (List.length a4.2.2)))) (fun (a12 : Unit) => (bindO (some (s3.1 ++ a4.2.2)) (fun (a13 : (List Int)) => (bindO (some (IntKind.wrap .i64 (s3.2 + (1 : Int)))) (fun (a14 : Int) => (again2 (a13, a14)))))))))))))))))))))))))) (bindO (some (IntKind.wrap .i64 ((2 : Int) * (((List.length x.2.2.2) : Nat) : Int)))) (fun (a15 : Int) => (bindO (M_S_wSmall ((x.1.1, (x.1.2.1, x.1.2.2)), (s3.1, a15))) (fun (a16 : (List Int)) => (loopO (fun (again17 : ((Int × Int) → (Option (Bool × Bool)))) => (fun (s18 : (Int × Int)) => (cond (decide (s18.2 < (((List.length x.2.2.2) : Nat) : Int))) (bindO (getI x.2.2.2 s18.2) (fun (a19 : ((List Int) × ((List Int) × (List Int)))) => (loopO (fun (again20 : ((Int × Int) → (Option (Bool × Bool)))) => (fun (s21 : (Int × Int)) => (cond (decide (s21.2 < (2 : Int))) (bindO (getI a19.2.2 s21.2) (fun (a22 : Int) => (bindO (getI a19.1 s21.2) (fun (a23 : Int) => (bindO (getI x.2.2.1 s18.2) (fun (a24 : Int) => (bindO (M_S_rCase ((x.1.1, (x.1.2.1, x.1.2.2)), (a24, s21.2))) (fun (a25 : Int) => (bindO (getI a19.2.1 s21.2) (fun (a26 : Int) => (bindO (M_S_wRatio ((x.1.1, (x.1.2.1, x.1.2.2)), (x.2.1.1, (a22, (a23, (a25, a26)))))) (fun (a27 : Int) => (bindO (some (IntKind.wrap .i64 ((2 : Int) * s18.2))) (fun (a28 : Int) => (bindO (some (IntKind.wrap .i64 (a28 + s21.2))) (fun (a29 : Int) => (bindO (getI a16 a29) (fun (a30 : Int) => (bindO (M_S_gExp ((x.1.1, (x.1.2.1, x.1.2.2)), (a27, a30))) (fun (a31 : Int) => (bindO (M_S_gMul ((x.1.1, (x.1.2.1, x.1.2.2)), (s21.1 :: (a31 :: ([] : List Int))))) (fun (a32 : Int) => (bindO (some (IntKind.wrap .i64 (s21.2 + (1 : Int)))) (fun (a33 : Int) => (again20 (a32, a33)))))))))))))))))))))))))) (bindO (some (IntKind.wrap .i64 (s18.2 + (1 : Int)))) (fun (a34 : Int) => (again17 (s21.1, a34))))))) (s18.1, (0 : Int))))) (some ((s18.1 == (1 : Int)), true))))) ((1 : Int), (0 : Int)))))))))) (([] : List Int), (0 : Int)))))))))))

noncomputable def c_S_BatchBits : Con0 := ⟨pk_S_BatchBits, rk_S_BatchBits, M_S_BatchBits⟩

set_option maxRecDepth 100000 in
theorem eq_S_BatchBits (x : In pk_S_BatchBits) : semF (mkE [(43, c_S_l9Good), (44, c_S_gIs), (45, c_S_l9Form), (46, c_S_nMod), (47, c_S_rBitChallenge), (48, c_S_wSmall), (50, c_S_rCase), (49, c_S_wRatio), (52, c_S_gExp), (51, c_S_gMul)]) h_S_BatchBits (info Try.f11) pk_S_BatchBits rk_S_BatchBits x = M_S_BatchBits x := by kernel_rfl

set_option maxRecDepth 100000 in
theorem m_S_BatchBits : ConOK Try.prog 11 c_S_BatchBits := fn_ok (tyOK _) (E := mkE [(43, c_S_l9Good), (44, c_S_gIs), (45, c_S_l9Form), (46, c_S_nMod), (47, c_S_rBitChallenge), (48, c_S_wSmall), (50, c_S_rCase), (49, c_S_wRatio), (52, c_S_gExp), (51, c_S_gMul)]) (consOK_cons m_S_l9Good (consOK_cons m_S_gIs (consOK_cons m_S_l9Form (consOK_cons m_S_nMod (consOK_cons m_S_rBitChallenge (consOK_cons m_S_wSmall (consOK_cons m_S_rCase (consOK_cons m_S_wRatio (consOK_cons m_S_gExp (consOK_cons m_S_gMul (consOK_nil rfl))))))))))) Try.func11 (h := h_S_BatchBits) (by kernel_rfl) eq_S_BatchBits

/-- I_within -/
def pk_I_within : List PK := [.data (.int .i64), .data (.int .i64), .data (.int .i64)]
def rk_I_within : List (Ty × Bool) := [(.bool, false)]
def h_I_within : Hints := { loops := [] }
noncomputable def M_I_within (x : (Int × (Int × Int))) : (Option Bool) :=
  (cond (decide (x.1 ≥ x.2.1)) (some (decide (x.1 ≤ x.2.2))) (some false))

noncomputable def c_I_within : Con0 := ⟨pk_I_within, rk_I_within, M_I_within⟩

set_option maxRecDepth 100000 in
theorem eq_I_within (x : In pk_I_within) : semF (mkE []) h_I_within (info Try.f110) pk_I_within rk_I_within x = M_I_within x := by kernel_rfl

set_option maxRecDepth 100000 in
theorem m_I_within : ConOK Try.prog 110 c_I_within := fn_ok (tyOK _) (E := mkE []) (consOK_nil rfl) Try.func110 (h := h_I_within) (by kernel_rfl) eq_I_within

/-- I_isModulus -/
def pk_I_isModulus : List PK := [.data (.int .i64)]
def rk_I_isModulus : List (Ty × Bool) := [(.bool, false)]
def h_I_isModulus : Hints := { loops := [] }
noncomputable def M_I_isModulus (x : Int) : (Option Bool) :=
  (bindO (M_I_within (x, ((2 : Int), (2000000000 : Int)))) (fun (a0 : Bool) => (some a0)))

noncomputable def c_I_isModulus : Con0 := ⟨pk_I_isModulus, rk_I_isModulus, M_I_isModulus⟩

set_option maxRecDepth 100000 in
theorem eq_I_isModulus (x : In pk_I_isModulus) : semF (mkE [(110, c_I_within)]) h_I_isModulus (info Try.f135) pk_I_isModulus rk_I_isModulus x = M_I_isModulus x := by kernel_rfl

set_option maxRecDepth 100000 in
theorem m_I_isModulus : ConOK Try.prog 135 c_I_isModulus := fn_ok (tyOK _) (E := mkE [(110, c_I_within)]) (consOK_cons m_I_within (consOK_nil rfl)) Try.func135 (h := h_I_isModulus) (by kernel_rfl) eq_I_isModulus

/-- I_isPrime -/
def pk_I_isPrime : List PK := [.data (.int .i64)]
def rk_I_isPrime : List (Ty × Bool) := [(.bool, false)]
def h_I_isPrime : Hints := { loops := [(0, { items := [.slot 3 (.data (.int .i64) [])], kill := [1, 2, 4, 5, 6, 7, 8, 9, 10, 11, 12, 13, 14, 15, 16, 17, 18, 19, 20, 21, 22, 23, 24, 25, 26] })] }
noncomputable def M_I_isPrime (x : Int) : (Option Bool) :=
  (bindO (M_I_isModulus x) (fun (a0 : Bool) => (cond (not a0) (some false) (bindO (guardO ((2 : Int) != (0 : Int))) (fun (a1 : Unit) => (bindO (some (Int.tmod x (2 : Int))) (fun (a2 : Int) => (cond (a2 == (0 : Int)) (cond (x != (2 : Int)) (some false) (loopO (fun (again3 : (Int → (Option Bool))) => (fun (s4 : Int) => (bindO (some (IntKind.wrap .i64 (s4 * s4))) (fun (a5 : Int) => (cond (decide (a5 ≤ x)) (bindO (guardO (s4 != (0 : Int))) (fun (a6 : Unit) => (bindO (some (Int.tmod x s4)) (fun (a7 : Int) => (cond (a7 == (0 : Int)) (some false) (bindO (some (IntKind.wrap .i64 (s4 + (2 : Int)))) (fun (a8 : Int) => (again3 a8)))))))) (some true)))))) (3 : Int))) (loopO (fun (again9 : (Int → (Option Bool))) => (fun (s10 : Int) => (bindO (some (IntKind.wrap .i64 (s10 * s10))) (fun (a11 : Int) => (cond (decide (a11 ≤ x)) (bindO (guardO (s10 != (0 : Int))) (fun (a12 : Unit) => (bindO (some (Int.tmod x s10)) (fun (a13 : Int) => (cond (a13 == (0 : Int)) (some false) (bindO (some (IntKind.wrap .i64 (s10 + (2 : Int)))) (fun (a14 : Int) => (again9 a14)))))))) (some true)))))) (3 : Int))))))))))

noncomputable def c_I_isPrime : Con0 := ⟨pk_I_isPrime, rk_I_isPrime, M_I_isPrime⟩

set_option maxRecDepth 100000 in
theorem eq_I_isPrime (x : In pk_I_isPrime) : semF (mkE [(135, c_I_isModulus)]) h_I_isPrime (info Try.f111) pk_I_isPrime rk_I_isPrime x = M_I_isPrime x := by kernel_rfl

set_option maxRecDepth 100000 in
theorem m_I_isPrime : ConOK Try.prog 111 c_I_isPrime := fn_ok (tyOK _) (E := mkE [(135, c_I_isModulus)]) (consOK_cons m_I_isModulus (consOK_nil rfl)) Try.func111 (h := h_I_isPrime) (by kernel_rfl) eq_I_isPrime

/-- I_power -/
def pk_I_power : List PK := [.data (.int .i64), .data (.int .i64), .data (.int .i64)]
def rk_I_power : List (Ty × Bool) := [((.int .i64), false)]
def h_I_power : Hints := { loops := [(0, { items := [.slot 0 (.data (.int .i64) []), .slot 1 (.data (.int .i64) []), .slot 7 (.data (.int .i64) [])], kill := [3, 4, 5, 6, 8, 9, 10, 11, 12, 13, 14, 15, 16, 17, 18, 19, 20, 21, 22, 23, 24, 25, 26, 27] })] }
noncomputable def M_I_power (x : (Int × (Int × Int))) : (Option Int) :=
  (bindO (guardO (x.2.2 != (0 : Int))) (fun (a0 : Unit) => (bindO (some (Int.tmod (1 : Int) x.2.2)) (fun (a1 : Int) => (loopO (fun (again2 : ((Int × (Int × Int)) → (Option Int))) => (fun (s3 : (Int × (Int × Int))) => (cond (decide (s3.2.1 > (0 : Int))) (bindO (some (bits .and .i64 s3.2.1 (1 : Int))) (fun (a4 : Int) => (cond (a4 == (1 : Int)) (bindO (some (IntKind.wrap .i64 (s3.2.2 * s3.1))) (fun (a5 : Int) => (bindO (guardO (x.2.2 != (0 : Int))) (fun (a6 : Unit) => (bindO (some (Int.tmod a5 x.2.2)) (fun (a7 : Int) => (bindO (some (IntKind.wrap .i64 (s3.1 * s3.1))) (fun (a8 : Int) => (bindO (guardO (x.2.2 != (0 : Int))) (fun (a9 : Unit) => (bindO (some (Int.tmod a8 x.2.2)) (fun (a10 : Int) => (bindO (guardO (decide ((0 : Int) ≤ (1 : Int)))) (fun (a11 : Unit) => (bindO (some (shr .i64 s3.2.1 (1 : Int))) (fun (a12 : Int) => (again2 (a10, (a12, a7))))))))))))))))))) (bindO (some (IntKind.wrap .i64 (s3.1 * s3.1))) (fun (a13 : Int) => (bindO (guardO (x.2.2 != (0 : Int))) (fun (a14 : Unit) => (bindO (some (Int.tmod a13 x.2.2)) (fun (a15 : Int) => (bindO (guardO (decide ((0 : Int) ≤ (1 : Int)))) (fun (a16 : Unit) => (bindO (some (shr .i64 s3.2.1 (1 : Int))) (fun (a17 : Int) => (again2 (a15, (a17, s3.2.2)))))))))))))))) (some s3.2.2)))) (x.1, (x.2.1, a1)))))))

noncomputable def c_I_power : Con0 := ⟨pk_I_power, rk_I_power, M_I_power⟩

set_option maxRecDepth 100000 in
theorem eq_I_power (x : In pk_I_power) : semF (mkE []) h_I_power (info Try.f107) pk_I_power rk_I_power x = M_I_power x := by kernel_rfl

set_option maxRecDepth 100000 in
theorem m_I_power : ConOK Try.prog 107 c_I_power := fn_ok (tyOK _) (E := mkE []) (consOK_nil rfl) Try.func107 (h := h_I_power) (by kernel_rfl) eq_I_power

/-- I_IsValidGroup -/
def pk_I_IsValidGroup : List PK := [.data (.cons (.int .i64) (.cons (.int .i64) (.one (.int .i64))))]
def rk_I_IsValidGroup : List (Ty × Bool) := [(.bool, false)]
def h_I_IsValidGroup : Hints := { loops := [] }
noncomputable def M_I_IsValidGroup (x : (Int × (Int × Int))) : (Option Bool) :=
  (bindO (M_I_within (x.1, ((3 : Int), (2000000000 : Int)))) (fun (a0 : Bool) => (cond a0 (bindO (some (IntKind.wrap .i64 (x.1 - (1 : Int)))) (fun (a1 : Int) => (bindO (M_I_within (x.2.1, ((2 : Int), a1))) (fun (a2 : Bool) => (cond a2 (bindO (some (IntKind.wrap .i64 (x.1 - (1 : Int)))) (fun (a3 : Int) => (bindO (guardO (x.2.1 != (0 : Int))) (fun (a4 : Unit) => (bindO (some (Int.tmod a3 x.2.1)) (fun (a5 : Int) => (cond (a5 == (0 : Int)) (bindO (some (IntKind.wrap .i64 (x.1 - (1 : Int)))) (fun (a6 : Int) => (bindO (M_I_within (x.2.2, ((2 : Int), a6))) (fun (a7 : Bool) => (cond a7 (bindO (M_I_isPrime x.1) (fun (a8 : Bool) => (cond a8 (bindO (M_I_isPrime x.2.1) (fun (a9 : Bool) => (cond a9 (bindO (M_I_power (x.2.2, (x.2.1, x.1))) (fun (a10 : Int) => (some (a10 == (1 : Int))))) (some false)))) (some false)))) (some false)))))) (some false)))))))) (some false)))))) (some false))))

noncomputable def c_I_IsValidGroup : Con0 := ⟨pk_I_IsValidGroup, rk_I_IsValidGroup, M_I_IsValidGroup⟩

set_option maxRecDepth 100000 in
theorem eq_I_IsValidGroup (x : In pk_I_IsValidGroup) : semF (mkE [(110, c_I_within), (111, c_I_isPrime), (107, c_I_power)]) h_I_IsValidGroup (info Try.f67) pk_I_IsValidGroup rk_I_IsValidGroup x = M_I_IsValidGroup x := by kernel_rfl

set_option maxRecDepth 100000 in
theorem m_I_IsValidGroup : ConOK Try.prog 67 c_I_IsValidGroup := fn_ok (tyOK _) (E := mkE [(110, c_I_within), (111, c_I_isPrime), (107, c_I_power)]) (consOK_cons m_I_within (consOK_cons m_I_isPrime (consOK_cons m_I_power (consOK_nil rfl)))) Try.func67 (h := h_I_IsValidGroup) (by kernel_rfl) eq_I_IsValidGroup

/-- slices_IndexFunc_sint_int -/
def pk_slices_IndexFunc_sint_int : List PK := [.data (.sl (.int .i64)), .fn [(.int .i64)] .bool]
def rk_slices_IndexFunc_sint_int : List (Ty × Bool) := [((.int .i64), false)]
def h_slices_IndexFunc_sint_int : Hints := { loops := [(0, { items := [.slot 8 (.data (.int .i64) [])], kill := [2, 3, 4, 5, 6, 9, 10, 11, 12, 13, 14, 15, 16, 17, 18] })] }
noncomputable def M_slices_IndexFunc_sint_int (x : ((List Int) × (Int → (Option Bool)))) : (Option Int) :=
  (loopO (fun (again0 : (Int → (Option Int))) => (fun (s1 : Int) => (cond (decide (s1 < (((List.length x.1) : Nat) : Int))) (bindO (getI x.1 s1) (fun (a2 : Int) => (bindO (x.2 a2) (fun (a3 : Bool) => (cond a3 (some s1) (bindO (some (IntKind.wrap .i64 (s1 + (1 : Int)))) (fun (a4 : Int) => (again0 a4)))))))) (some (- (1 : Int)))))) (0 : Int))

noncomputable def c_slices_IndexFunc_sint_int : Con0 := ⟨pk_slices_IndexFunc_sint_int, rk_slices_IndexFunc_sint_int, M_slices_IndexFunc_sint_int⟩

set_option maxRecDepth 100000 in
theorem eq_slices_IndexFunc_sint_int (x : In pk_slices_IndexFunc_sint_int) : semF (mkE []) h_slices_IndexFunc_sint_int (info Try.f144) pk_slices_IndexFunc_sint_int rk_slices_IndexFunc_sint_int x = M_slices_IndexFunc_sint_int x := by kernel_rfl

set_option maxRecDepth 100000 in
theorem m_slices_IndexFunc_sint_int : ConOK Try.prog 144 c_slices_IndexFunc_sint_int := fn_ok (tyOK _) (E := mkE []) (consOK_nil rfl) Try.func144 (h := h_slices_IndexFunc_sint_int) (by kernel_rfl) eq_slices_IndexFunc_sint_int

/-- slices_ContainsFunc_sint_int -/
def pk_slices_ContainsFunc_sint_int : List PK := [.data (.sl (.int .i64)), .fn [(.int .i64)] .bool]
def rk_slices_ContainsFunc_sint_int : List (Ty × Bool) := [(.bool, false)]
def h_slices_ContainsFunc_sint_int : Hints := { loops := [] }
noncomputable def M_slices_ContainsFunc_sint_int (x : ((List Int) × (Int → (Option Bool)))) : (Option Bool) :=
  (bindO (M_slices_IndexFunc_sint_int (x.1, x.2)) (fun (a0 : Int) => (some (decide (a0 ≥ (0 : Int))))))

noncomputable def c_slices_ContainsFunc_sint_int : Con0 := ⟨pk_slices_ContainsFunc_sint_int, rk_slices_ContainsFunc_sint_int, M_slices_ContainsFunc_sint_int⟩

set_option maxRecDepth 100000 in
theorem eq_slices_ContainsFunc_sint_int (x : In pk_slices_ContainsFunc_sint_int) : semF (mkE [(144, c_slices_IndexFunc_sint_int)]) h_slices_ContainsFunc_sint_int (info Try.f130) pk_slices_ContainsFunc_sint_int rk_slices_ContainsFunc_sint_int x = M_slices_ContainsFunc_sint_int x := by kernel_rfl

set_option maxRecDepth 100000 in
theorem m_slices_ContainsFunc_sint_int : ConOK Try.prog 130 c_slices_ContainsFunc_sint_int := fn_ok (tyOK _) (E := mkE [(144, c_slices_IndexFunc_sint_int)]) (consOK_cons m_slices_IndexFunc_sint_int (consOK_nil rfl)) Try.func130 (h := h_slices_ContainsFunc_sint_int) (by kernel_rfl) eq_slices_ContainsFunc_sint_int

/-- I_areAll_1 -/
def pk_I_areAll_1 : List PK := [.data (.int .i64), .rfn [(.int .i64)] .bool]
def rk_I_areAll_1 : List (Ty × Bool) := [(.bool, false)]
def h_I_areAll_1 : Hints := { loops := [] }
noncomputable def M_I_areAll_1 (x : (Int × (Int → (Option Bool)))) : (Option Bool) :=
  (bindO (x.2 x.1) (fun (a0 : Bool) => (some (not a0))))

noncomputable def c_I_areAll_1 : Con0 := ⟨pk_I_areAll_1, rk_I_areAll_1, M_I_areAll_1⟩

set_option maxRecDepth 100000 in
theorem eq_I_areAll_1 (x : In pk_I_areAll_1) : semF (mkE []) h_I_areAll_1 (info Try.f131) pk_I_areAll_1 rk_I_areAll_1 x = M_I_areAll_1 x := by kernel_rfl

set_option maxRecDepth 100000 in
theorem m_I_areAll_1 : ConOK Try.prog 131 c_I_areAll_1 := fn_ok (tyOK _) (E := mkE []) (consOK_nil rfl) Try.func131 (h := h_I_areAll_1) (by kernel_rfl) eq_I_areAll_1

/-- I_areAll -/
def pk_I_areAll : List PK := [.data (.sl (.int .i64)), .fn [(.int .i64)] .bool]
def rk_I_areAll : List (Ty × Bool) := [(.bool, false)]
def h_I_areAll : Hints := { loops := [] }
noncomputable def M_I_areAll (x : ((List Int) × (Int → (Option Bool)))) : (Option Bool) :=
  (bindO (M_slices_ContainsFunc_sint_int (x.1, (fun (a0 : Int) => (bindO (M_I_areAll_1 (a0, x.2)) (fun (a1 : Bool) => (some a1)))))) (fun (a2 : Bool) => (some (not a2))))

noncomputable def c_I_areAll : Con0 := ⟨pk_I_areAll, rk_I_areAll, M_I_areAll⟩

set_option maxRecDepth 100000 in
theorem eq_I_areAll (x : In pk_I_areAll) : semF (mkE [(130, c_slices_ContainsFunc_sint_int), (131, c_I_areAll_1)]) h_I_areAll (info Try.f102) pk_I_areAll rk_I_areAll x = M_I_areAll x := by kernel_rfl

set_option maxRecDepth 100000 in
theorem m_I_areAll : ConOK Try.prog 102 c_I_areAll := fn_ok (tyOK _) (E := mkE [(130, c_slices_ContainsFunc_sint_int), (131, c_I_areAll_1)]) (consOK_cons m_slices_ContainsFunc_sint_int (consOK_cons m_I_areAll_1 (consOK_nil rfl))) Try.func102 (h := h_I_areAll) (by kernel_rfl) eq_I_areAll

/-- I_Group_has -/
def pk_I_Group_has : List PK := [.data (.cons (.int .i64) (.cons (.int .i64) (.one (.int .i64)))), .data (.int .i64)]
def rk_I_Group_has : List (Ty × Bool) := [(.bool, false)]
def h_I_Group_has : Hints := { loops := [] }
noncomputable def M_I_Group_has (x : ((Int × (Int × Int)) × Int)) : (Option Bool) :=
  (bindO (some (IntKind.wrap .i64 (x.1.1 - (1 : Int)))) (fun (a0 : Int) => (bindO (M_I_within (x.2, ((1 : Int), a0))) (fun (a1 : Bool) => (cond a1 (bindO (M_I_power (x.2, (x.1.2.1, x.1.1))) (fun (a2 : Int) => (some (a2 == (1 : Int))))) (some false))))))

noncomputable def c_I_Group_has : Con0 := ⟨pk_I_Group_has, rk_I_Group_has, M_I_Group_has⟩

set_option maxRecDepth 100000 in
theorem eq_I_Group_has (x : In pk_I_Group_has) : semF (mkE [(110, c_I_within), (107, c_I_power)]) h_I_Group_has (info Try.f68) pk_I_Group_has rk_I_Group_has x = M_I_Group_has x := by kernel_rfl

set_option maxRecDepth 100000 in
theorem m_I_Group_has : ConOK Try.prog 68 c_I_Group_has := fn_ok (tyOK _) (E := mkE [(110, c_I_within), (107, c_I_power)]) (consOK_cons m_I_within (consOK_cons m_I_power (consOK_nil rfl))) Try.func68 (h := h_I_Group_has) (by kernel_rfl) eq_I_Group_has

/-- I_Group_hasBases_1 -/
def pk_I_Group_hasBases_1 : List PK := [.data (.int .i64), .rp (.cons (.int .i64) (.cons (.int .i64) (.one (.int .i64))))]
def rk_I_Group_hasBases_1 : List (Ty × Bool) := [(.bool, false)]
def h_I_Group_hasBases_1 : Hints := { loops := [] }
noncomputable def M_I_Group_hasBases_1 (x : (Int × (Int × (Int × Int)))) : (Option Bool) :=
  (cond (x.1 != (1 : Int)) (bindO (M_I_Group_has ((x.2.1, (x.2.2.1, x.2.2.2)), x.1)) (fun (a0 : Bool) => (some a0))) (some false))

noncomputable def c_I_Group_hasBases_1 : Con0 := ⟨pk_I_Group_hasBases_1, rk_I_Group_hasBases_1, M_I_Group_hasBases_1⟩

set_option maxRecDepth 100000 in
theorem eq_I_Group_hasBases_1 (x : In pk_I_Group_hasBases_1) : semF (mkE [(68, c_I_Group_has)]) h_I_Group_hasBases_1 (info Try.f129) pk_I_Group_hasBases_1 rk_I_Group_hasBases_1 x = M_I_Group_hasBases_1 x := by kernel_rfl

set_option maxRecDepth 100000 in
theorem m_I_Group_hasBases_1 : ConOK Try.prog 129 c_I_Group_hasBases_1 := fn_ok (tyOK _) (E := mkE [(68, c_I_Group_has)]) (consOK_cons m_I_Group_has (consOK_nil rfl)) Try.func129 (h := h_I_Group_hasBases_1) (by kernel_rfl) eq_I_Group_hasBases_1

/-- I_Group_hasBases -/
def pk_I_Group_hasBases : List PK := [.data (.cons (.int .i64) (.cons (.int .i64) (.one (.int .i64)))), .data (.cons (.int .i64) (.one (.sl (.int .i64))))]
def rk_I_Group_hasBases : List (Ty × Bool) := [(.bool, false)]
def h_I_Group_hasBases : Hints := { loops := [] }
noncomputable def M_I_Group_hasBases (x : ((Int × (Int × Int)) × (Int × (List Int)))) : (Option Bool) :=
  (cond (decide ((((List.length x.2.2) : Nat) : Int) ≤ (24 : Int))) (bindO (guardO (lenOk ((List.length (x.2.1 :: ([] : List Int))) + (List.length x.2.2)))) (fun (a0 : Unit) => (bindO (some ((x.2.1 :: ([] : List Int)) ++ x.2.2)) (fun (a1 : (List Int)) => (bindO (M_I_areAll (a1, (fun (a2 : Int) => (bindO (M_I_Group_hasBases_1 (a2, (x.1.1, (x.1.2.1, x.1.2.2)))) (fun (a3 : Bool) => (some a3)))))) (fun (a4 : Bool) => (some a4))))))) (some false))

noncomputable def c_I_Group_hasBases : Con0 := ⟨pk_I_Group_hasBases, rk_I_Group_hasBases, M_I_Group_hasBases⟩

set_option maxRecDepth 100000 in
theorem eq_I_Group_hasBases (x : In pk_I_Group_hasBases) : semF (mkE [(102, c_I_areAll), (129, c_I_Group_hasBases_1)]) h_I_Group_hasBases (info Try.f101) pk_I_Group_hasBases rk_I_Group_hasBases x = M_I_Group_hasBases x := by kernel_rfl

set_option maxRecDepth 100000 in
theorem m_I_Group_hasBases : ConOK Try.prog 101 c_I_Group_hasBases := fn_ok (tyOK _) (E := mkE [(102, c_I_areAll), (129, c_I_Group_hasBases_1)]) (consOK_cons m_I_areAll (consOK_cons m_I_Group_hasBases_1 (consOK_nil rfl))) Try.func101 (h := h_I_Group_hasBases) (by kernel_rfl) eq_I_Group_hasBases

/-- I_IsValidBases -/
def pk_I_IsValidBases : List PK := [.data (.cons (.int .i64) (.cons (.int .i64) (.one (.int .i64)))), .data (.cons (.int .i64) (.one (.sl (.int .i64))))]
def rk_I_IsValidBases : List (Ty × Bool) := [(.bool, false)]
def h_I_IsValidBases : Hints := { loops := [] }
noncomputable def M_I_IsValidBases (x : ((Int × (Int × Int)) × (Int × (List Int)))) : (Option Bool) :=
  (bindO (M_I_IsValidGroup (x.1.1, (x.1.2.1, x.1.2.2))) (fun (a0 : Bool) => (cond a0 (bindO (M_I_Group_hasBases ((x.1.1, (x.1.2.1, x.1.2.2)), (x.2.1, x.2.2))) (fun (a1 : Bool) => (some a1))) (some false))))

noncomputable def c_I_IsValidBases : Con0 := ⟨pk_I_IsValidBases, rk_I_IsValidBases, M_I_IsValidBases⟩

set_option maxRecDepth 100000 in
theorem eq_I_IsValidBases (x : In pk_I_IsValidBases) : semF (mkE [(67, c_I_IsValidGroup), (101, c_I_Group_hasBases)]) h_I_IsValidBases (info Try.f53) pk_I_IsValidBases rk_I_IsValidBases x = M_I_IsValidBases x := by kernel_rfl

set_option maxRecDepth 100000 in
theorem m_I_IsValidBases : ConOK Try.prog 53 c_I_IsValidBases := fn_ok (tyOK _) (E := mkE [(67, c_I_IsValidGroup), (101, c_I_Group_hasBases)]) (consOK_cons m_I_IsValidGroup (consOK_cons m_I_Group_hasBases (consOK_nil rfl))) Try.func53 (h := h_I_IsValidBases) (by kernel_rfl) eq_I_IsValidBases

/-- I_Group_hasAll -/
def pk_I_Group_hasAll : List PK := [.data (.cons (.int .i64) (.cons (.int .i64) (.one (.int .i64)))), .data (.sl (.int .i64))]
def rk_I_Group_hasAll : List (Ty × Bool) := [(.bool, false)]
def h_I_Group_hasAll : Hints := { loops := [] }
noncomputable def M_I_Group_hasAll (x : ((Int × (Int × Int)) × (List Int))) : (Option Bool) :=
  (bindO (M_I_areAll (x.2, (fun (a0 : Int) => (bindO (M_I_Group_has ((x.1.1, (x.1.2.1, x.1.2.2)), a0)) (fun (a1 : Bool) => (some a1)))))) (fun (a2 : Bool) => (some a2)))

noncomputable def c_I_Group_hasAll : Con0 := ⟨pk_I_Group_hasAll, rk_I_Group_hasAll, M_I_Group_hasAll⟩

set_option maxRecDepth 100000 in
theorem eq_I_Group_hasAll (x : In pk_I_Group_hasAll) : semF (mkE [(102, c_I_areAll), (68, c_I_Group_has)]) h_I_Group_hasAll (info Try.f54) pk_I_Group_hasAll rk_I_Group_hasAll x = M_I_Group_hasAll x := by kernel_rfl

set_option maxRecDepth 100000 in
theorem m_I_Group_hasAll : ConOK Try.prog 54 c_I_Group_hasAll := fn_ok (tyOK _) (E := mkE [(102, c_I_areAll), (68, c_I_Group_has)]) (consOK_cons m_I_areAll (consOK_cons m_I_Group_has (consOK_nil rfl))) Try.func54 (h := h_I_Group_hasAll) (by kernel_rfl) eq_I_Group_hasAll

/-- I_Group_isExp -/
def pk_I_Group_isExp : List PK := [.data (.cons (.int .i64) (.cons (.int .i64) (.one (.int .i64)))), .data (.int .i64)]
def rk_I_Group_isExp : List (Ty × Bool) := [(.bool, false)]
def h_I_Group_isExp : Hints := { loops := [] }
noncomputable def M_I_Group_isExp (x : ((Int × (Int × Int)) × Int)) : (Option Bool) :=
  (bindO (some (IntKind.wrap .i64 (x.1.2.1 - (1 : Int)))) (fun (a0 : Int) => (bindO (M_I_within (x.2, ((0 : Int), a0))) (fun (a1 : Bool) => (some a1)))))

noncomputable def c_I_Group_isExp : Con0 := ⟨pk_I_Group_isExp, rk_I_Group_isExp, M_I_Group_isExp⟩

set_option maxRecDepth 100000 in
theorem eq_I_Group_isExp (x : In pk_I_Group_isExp) : semF (mkE [(110, c_I_within)]) h_I_Group_isExp (info Try.f103) pk_I_Group_isExp rk_I_Group_isExp x = M_I_Group_isExp x := by kernel_rfl

set_option maxRecDepth 100000 in
theorem m_I_Group_isExp : ConOK Try.prog 103 c_I_Group_isExp := fn_ok (tyOK _) (E := mkE [(110, c_I_within)]) (consOK_cons m_I_within (consOK_nil rfl)) Try.func103 (h := h_I_Group_isExp) (by kernel_rfl) eq_I_Group_isExp

/-- I_Group_areExps -/
def pk_I_Group_areExps : List PK := [.data (.cons (.int .i64) (.cons (.int .i64) (.one (.int .i64)))), .data (.sl (.int .i64))]
def rk_I_Group_areExps : List (Ty × Bool) := [(.bool, false)]
def h_I_Group_areExps : Hints := { loops := [] }
noncomputable def M_I_Group_areExps (x : ((Int × (Int × Int)) × (List Int))) : (Option Bool) :=
  (bindO (M_I_areAll (x.2, (fun (a0 : Int) => (bindO (M_I_Group_isExp ((x.1.1, (x.1.2.1, x.1.2.2)), a0)) (fun (a1 : Bool) => (some a1)))))) (fun (a2 : Bool) => (some a2)))

noncomputable def c_I_Group_areExps : Con0 := ⟨pk_I_Group_areExps, rk_I_Group_areExps, M_I_Group_areExps⟩

set_option maxRecDepth 100000 in
theorem eq_I_Group_areExps (x : In pk_I_Group_areExps) : semF (mkE [(102, c_I_areAll), (103, c_I_Group_isExp)]) h_I_Group_areExps (info Try.f55) pk_I_Group_areExps rk_I_Group_areExps x = M_I_Group_areExps x := by kernel_rfl

set_option maxRecDepth 100000 in
theorem m_I_Group_areExps : ConOK Try.prog 55 c_I_Group_areExps := fn_ok (tyOK _) (E := mkE [(102, c_I_areAll), (103, c_I_Group_isExp)]) (consOK_cons m_I_areAll (consOK_cons m_I_Group_isExp (consOK_nil rfl))) Try.func55 (h := h_I_Group_areExps) (by kernel_rfl) eq_I_Group_areExps

/-- I_labelled -/
def pk_I_labelled : List PK := [.data .str, .data (.sl (.int .i64))]
def rk_I_labelled : List (Ty × Bool) := [((.sl (.int .i64)), true)]
def h_I_labelled : Hints := { loops := [(0, { items := [.slot 5 (.own (.int .i64) true), .slot 12 (.data (.int .i64) [])], kill := [2, 3, 4, 6, 7, 8, 9, 10, 13, 14, 15, 16, 17, 18, 19, 20, 21, 22, 23, 24, 25] })] }
noncomputable def M_I_labelled (x : (ByteArray × (List Int))) : (Option (List Int)) :=
  (loopO (fun (again0 : (((List Int) × Int) → (Option (List Int)))) => (fun (s1 : ((List Int) × Int)) => (cond (decide (s1.2 < (((ByteArray.size x.1) : Nat) : Int))) (bindO (if ((0 : Int) ≤ s1.2) then (x.1[(Int.toNat s1.2)]?) else (none : Option (UInt8))) (fun (a2 : (UInt8)) => (bindO (guardO (lenOk ((List.length s1.1) + (List.length ((IntKind.wrap .i64 (((UInt8.toNat a2) : Nat) : Int)) :: ([] : List Int)))))) (fun (a3 : Unit) => (bindO (some (s1.1 ++ ((IntKind.wrap .i64 (((UInt8.toNat a2) : Nat) : Int)) :: ([] : List Int)))) (fun (a4 : (List Int)) => (bindO (some (IntKind.wrap .i64 (s1.2 + (1 : Int)))) (fun (a5 : Int) => (again0 (a4, a5)))))))))) (bindO (guardO (lenOk ((List.length s1.1) + (List.length x.2)))) (fun (a6 : Unit) => (bindO (some (s1.1 ++ x.2)) (fun (a7 : (List Int)) => (some a7)))))))) (((((ByteArray.size x.1) : Nat) : Int) :: ([] : List Int)), (0 : Int)))

noncomputable def c_I_labelled : Con0 := ⟨pk_I_labelled, rk_I_labelled, M_I_labelled⟩

set_option maxRecDepth 100000 in
theorem eq_I_labelled (x : In pk_I_labelled) : semF (mkE []) h_I_labelled (info Try.f133) pk_I_labelled rk_I_labelled x = M_I_labelled x := by kernel_rfl

set_option maxRecDepth 100000 in
theorem m_I_labelled : ConOK Try.prog 133 c_I_labelled := fn_ok (tyOK _) (E := mkE []) (consOK_nil rfl) Try.func133 (h := h_I_labelled) (by kernel_rfl) eq_I_labelled

/-- I_isDigest -/
def pk_I_isDigest : List PK := [.data (.int .i64)]
def rk_I_isDigest : List (Ty × Bool) := [(.bool, false)]
def h_I_isDigest : Hints := { loops := [] }
noncomputable def M_I_isDigest (x : Int) : (Option Bool) :=
  (bindO (M_I_within (x, ((0 : Int), (4611686018427387903 : Int)))) (fun (a0 : Bool) => (some a0)))

noncomputable def c_I_isDigest : Con0 := ⟨pk_I_isDigest, rk_I_isDigest, M_I_isDigest⟩

set_option maxRecDepth 100000 in
theorem eq_I_isDigest (x : In pk_I_isDigest) : semF (mkE [(110, c_I_within)]) h_I_isDigest (info Try.f151) pk_I_isDigest rk_I_isDigest x = M_I_isDigest x := by kernel_rfl

set_option maxRecDepth 100000 in
theorem m_I_isDigest : ConOK Try.prog 151 c_I_isDigest := fn_ok (tyOK _) (E := mkE [(110, c_I_within)]) (consOK_cons m_I_within (consOK_nil rfl)) Try.func151 (h := h_I_isDigest) (by kernel_rfl) eq_I_isDigest

/-- I_areDigests -/
def pk_I_areDigests : List PK := [.data (.sl (.int .i64))]
def rk_I_areDigests : List (Ty × Bool) := [(.bool, false)]
def h_I_areDigests : Hints := { loops := [] }
noncomputable def M_I_areDigests (x : (List Int)) : (Option Bool) :=
  (cond (decide ((((List.length x) : Nat) : Int) ≤ (400 : Int))) (bindO (M_I_areAll (x, (fun (a0 : Int) => (bindO (M_I_isDigest a0) (fun (a1 : Bool) => (some a1)))))) (fun (a2 : Bool) => (some a2))) (some false))

noncomputable def c_I_areDigests : Con0 := ⟨pk_I_areDigests, rk_I_areDigests, M_I_areDigests⟩

set_option maxRecDepth 100000 in
theorem eq_I_areDigests (x : In pk_I_areDigests) : semF (mkE [(102, c_I_areAll), (151, c_I_isDigest)]) h_I_areDigests (info Try.f145) pk_I_areDigests rk_I_areDigests x = M_I_areDigests x := by kernel_rfl

set_option maxRecDepth 100000 in
theorem m_I_areDigests : ConOK Try.prog 145 c_I_areDigests := fn_ok (tyOK _) (E := mkE [(102, c_I_areAll), (151, c_I_isDigest)]) (consOK_cons m_I_areAll (consOK_cons m_I_isDigest (consOK_nil rfl))) Try.func145 (h := h_I_areDigests) (by kernel_rfl) eq_I_areDigests

/-- I_hash -/
def pk_I_hash : List PK := [.data (.sl (.int .i64))]
def rk_I_hash : List (Ty × Bool) := [((.int .i64), false)]
def h_I_hash : Hints := { loops := [(0, { items := [.slot 3 (.data (.int .i64) []), .slot 4 (.data (.int .i64) []), .slot 15 (.data (.int .i64) [])], kill := [0, 1, 2, 5, 6, 7, 8, 9, 10, 11, 12, 16, 17, 18, 19, 20, 21, 22, 23, 24, 25, 26, 27, 28, 29, 30, 31, 32, 33, 34, 35, 36, 37, 38, 39, 40, 41, 42, 43, 44, 45, 46, 47, 48, 49, 50, 51] })] }
noncomputable def M_I_hash (x : (List Int)) : (Option Int) :=
  (bindO (guardO (lenOk ((List.length ((((List.length x) : Nat) : Int) :: ([] : List Int))) + (List.length x)))) (fun (a0 : Unit) => (bindO (some (((((List.length x) : Nat) : Int) :: ([] : List Int)) ++ x)) (fun (a1 : (List Int)) => (loopO (fun (again2 : ((Int × (Int × Int)) → (Option Int))) => (fun (s3 : (Int × (Int × Int))) => (cond (decide (s3.2.2 < (((List.length a1) : Nat) : Int))) (bindO (getI a1 s3.2.2) (fun (a4 : Int) => (bindO (guardO (decide ((0 : Int) ≤ (31 : Int)))) (fun (a5 : Unit) => (bindO (some (shr .i64 a4 (31 : Int))) (fun (a6 : Int) => (bindO (some (bits .and .i64 a4 (2147483647 : Int))) (fun (a7 : Int) => (bindO (some (IntKind.wrap .i64 ((48271 : Int) * s3.1))) (fun (a8 : Int) => (bindO (some (IntKind.wrap .i64 (a8 + a7))) (fun (a9 : Int) => (bindO (some (IntKind.wrap .i64 (a9 + (1 : Int)))) (fun (a10 : Int) => (bindO (guardO ((2147483647 : Int) != (0 : Int))) (fun (a11 : Unit) => (bindO (some (Int.tmod a10 (2147483647 : Int))) (fun (a12 : Int) => (bindO (some (IntKind.wrap .i64 ((48271 : Int) * a12))) (fun (a13 : Int) => (bindO (some (IntKind.wrap .i64 (a13 + a6))) (fun (a14 : Int) => (bindO (some (IntKind.wrap .i64 (a14 + (1 : Int)))) (fun (a15 : Int) => (bindO (guardO ((2147483647 : Int) != (0 : Int))) (fun (a16 : Unit) => (bindO (some (Int.tmod a15 (2147483647 : Int))) (fun (a17 : Int) => (bindO (some (IntKind.wrap .i64 ((69621 : Int) * s3.2.1))) (fun (a18 : Int) => (bindO (some (IntKind.wrap .i64 (a18 + a7))) (fun (a19 : Int) => (bindO (some (IntKind.wrap .i64 (a19 + (1 : Int)))) (fun (a20 : Int) => (bindO (guardO ((2147483647 : Int) != (0 : Int))) (fun (a21 : Unit) => (bindO (some (Int.tmod a20 (2147483647 : Int))) (fun (a22 : Int) => (bindO (some (IntKind.wrap .i64 ((69621 : Int) * a22))) (fun (a23 : Int) => (bindO (some (IntKind.wrap .i64 (a23 + a6))) (fun (a24 : Int) => (bindO (some (IntKind.wrap .i64 (a24 + (1 : Int)))) (fun (a25 : Int) => (bindO (guardO ((2147483647 : Int) != (0 : Int))) (fun (a26 : Unit) => (bindO (some (Int.tmod a25 (2147483647 : Int))) (fun (a27 : Int) => (bindO (some (IntKind.wrap .i64 (s3.2.2 + (1 : Int)))) (fun (a28 : Int) => (again2 (a17, (a27, a28))))))))))))))))))))))))))))))))))))))))))))))))))))) (bindO (guardO (decide ((0 : Int) ≤ (31 : Int)))) (fun (a29 : Unit) => (bindO (some (shl .i64 s3.1 (31 : Int))) (fun (a30 : Int) => (bindO (some (IntKind.wrap .i64 (a30 + s3.2.1))) (fun (a31 : Int) => (some a31)))))))))) ((1 : Int), ((2 : Int), (0 : Int))))))))

noncomputable def c_I_hash : Con0 := ⟨pk_I_hash, rk_I_hash, M_I_hash⟩

set_option maxRecDepth 100000 in
theorem eq_I_hash (x : In pk_I_hash) : semF (mkE []) h_I_hash (info Try.f146) pk_I_hash rk_I_hash x = M_I_hash x := by kernel_rfl

set_option maxRecDepth 100000 in
theorem m_I_hash : ConOK Try.prog 146 c_I_hash := fn_ok (tyOK _) (E := mkE []) (consOK_nil rfl) Try.func146 (h := h_I_hash) (by kernel_rfl) eq_I_hash

/-- I_HashInts -/
def pk_I_HashInts : List PK := [.data (.sl (.int .i64))]
def rk_I_HashInts : List (Ty × Bool) := [((.int .i64), false), (.bool, false)]
def h_I_HashInts : Hints := { loops := [] }
noncomputable def M_I_HashInts (x : (List Int)) : (Option (Int × Bool)) :=
  (bindO (M_I_areDigests x) (fun (a0 : Bool) => (cond (not a0) (some ((0 : Int), false)) (bindO (M_I_hash x) (fun (a1 : Int) => (some (a1, true)))))))

noncomputable def c_I_HashInts : Con0 := ⟨pk_I_HashInts, rk_I_HashInts, M_I_HashInts⟩

set_option maxRecDepth 100000 in
theorem eq_I_HashInts (x : In pk_I_HashInts) : semF (mkE [(145, c_I_areDigests), (146, c_I_hash)]) h_I_HashInts (info Try.f132) pk_I_HashInts rk_I_HashInts x = M_I_HashInts x := by kernel_rfl

set_option maxRecDepth 100000 in
theorem m_I_HashInts : ConOK Try.prog 132 c_I_HashInts := fn_ok (tyOK _) (E := mkE [(145, c_I_areDigests), (146, c_I_hash)]) (consOK_cons m_I_areDigests (consOK_cons m_I_hash (consOK_nil rfl))) Try.func132 (h := h_I_HashInts) (by kernel_rfl) eq_I_HashInts

/-- I_HashLabelled -/
def pk_I_HashLabelled : List PK := [.data .str, .data (.sl (.int .i64))]
def rk_I_HashLabelled : List (Ty × Bool) := [((.int .i64), false), (.bool, false)]
def h_I_HashLabelled : Hints := { loops := [] }
noncomputable def M_I_HashLabelled (x : (ByteArray × (List Int))) : (Option (Int × Bool)) :=
  (cond (decide ((((ByteArray.size x.1) : Nat) : Int) > (40 : Int))) (some ((0 : Int), false)) (cond (decide ((((List.length x.2) : Nat) : Int) > (400 : Int))) (some ((0 : Int), false)) (bindO (M_I_labelled (x.1, x.2)) (fun (a0 : (List Int)) => (bindO (M_I_HashInts a0) (fun (a1 : (Int × Bool)) => (some (a1.1, a1.2))))))))

noncomputable def c_I_HashLabelled : Con0 := ⟨pk_I_HashLabelled, rk_I_HashLabelled, M_I_HashLabelled⟩

set_option maxRecDepth 100000 in
theorem eq_I_HashLabelled (x : In pk_I_HashLabelled) : semF (mkE [(133, c_I_labelled), (132, c_I_HashInts)]) h_I_HashLabelled (info Try.f104) pk_I_HashLabelled rk_I_HashLabelled x = M_I_HashLabelled x := by kernel_rfl

set_option maxRecDepth 100000 in
theorem m_I_HashLabelled : ConOK Try.prog 104 c_I_HashLabelled := fn_ok (tyOK _) (E := mkE [(133, c_I_labelled), (132, c_I_HashInts)]) (consOK_cons m_I_labelled (consOK_cons m_I_HashInts (consOK_nil rfl))) Try.func104 (h := h_I_HashLabelled) (by kernel_rfl) eq_I_HashLabelled

/-- I_Group_challenge -/
def pk_I_Group_challenge : List PK := [.data (.cons (.int .i64) (.cons (.int .i64) (.one (.int .i64)))), .data .str, .data (.sl (.int .i64))]
def rk_I_Group_challenge : List (Ty × Bool) := [((.int .i64), false), (.bool, false)]
def h_I_Group_challenge : Hints := { loops := [] }
noncomputable def M_I_Group_challenge (x : ((Int × (Int × Int)) × (ByteArray × (List Int)))) : (Option (Int × Bool)) :=
  (bindO (guardO (lenOk ((List.length (x.1.1 :: (x.1.2.1 :: (x.1.2.2 :: ([] : List Int))))) + (List.length x.2.2)))) (fun (a0 : Unit) => (bindO (some ((x.1.1 :: (x.1.2.1 :: (x.1.2.2 :: ([] : List Int)))) ++ x.2.2)) (fun (a1 : (List Int)) => (bindO (M_I_HashLabelled (x.2.1, a1)) (fun (a2 : (Int × Bool)) => (cond (not a2.2) (some ((0 : Int), false)) (bindO (guardO (x.1.2.1 != (0 : Int))) (fun (a3 : Unit) => (bindO (some (Int.tmod a2.1 x.1.2.1)) (fun (a4 : Int) => (some (a4, true)))))))))))))

noncomputable def c_I_Group_challenge : Con0 := ⟨pk_I_Group_challenge, rk_I_Group_challenge, M_I_Group_challenge⟩

set_option maxRecDepth 100000 in
theorem eq_I_Group_challenge (x : In pk_I_Group_challenge) : semF (mkE [(104, c_I_HashLabelled)]) h_I_Group_challenge (info Try.f56) pk_I_Group_challenge rk_I_Group_challenge x = M_I_Group_challenge x := by kernel_rfl

set_option maxRecDepth 100000 in
theorem m_I_Group_challenge : ConOK Try.prog 56 c_I_Group_challenge := fn_ok (tyOK _) (E := mkE [(104, c_I_HashLabelled)]) (consOK_cons m_I_HashLabelled (consOK_nil rfl)) Try.func56 (h := h_I_Group_challenge) (by kernel_rfl) eq_I_Group_challenge

/-- I_sum -/
def pk_I_sum : List PK := [.data (.sl (.int .i64)), .data (.int .i64)]
def rk_I_sum : List (Ty × Bool) := [((.int .i64), false)]
def h_I_sum : Hints := { loops := [(0, { items := [.slot 5 (.data (.int .i64) []), .slot 10 (.data (.int .i64) [])], kill := [0, 2, 3, 4, 6, 7, 11, 12, 13, 14, 15, 16, 17, 18, 19, 20] })] }
noncomputable def M_I_sum (x : ((List Int) × Int)) : (Option Int) :=
  (loopO (fun (again0 : ((Int × Int) → (Option Int))) => (fun (s1 : (Int × Int)) => (cond (decide (s1.2 < (((List.length x.1) : Nat) : Int))) (bindO (getI x.1 s1.2) (fun (a2 : Int) => (bindO (some (IntKind.wrap .i64 (s1.1 + a2))) (fun (a3 : Int) => (bindO (guardO (x.2 != (0 : Int))) (fun (a4 : Unit) => (bindO (some (Int.tmod a3 x.2)) (fun (a5 : Int) => (bindO (some (IntKind.wrap .i64 (s1.2 + (1 : Int)))) (fun (a6 : Int) => (again0 (a5, a6)))))))))))) (some s1.1)))) ((0 : Int), (0 : Int)))

noncomputable def c_I_sum : Con0 := ⟨pk_I_sum, rk_I_sum, M_I_sum⟩

set_option maxRecDepth 100000 in
theorem eq_I_sum (x : In pk_I_sum) : semF (mkE []) h_I_sum (info Try.f57) pk_I_sum rk_I_sum x = M_I_sum x := by kernel_rfl

set_option maxRecDepth 100000 in
theorem m_I_sum : ConOK Try.prog 57 c_I_sum := fn_ok (tyOK _) (E := mkE []) (consOK_nil rfl) Try.func57 (h := h_I_sum) (by kernel_rfl) eq_I_sum

/-- slices_Clone_sint_int -/
def pk_slices_Clone_sint_int : List PK := [.data (.sl (.int .i64))]
def rk_slices_Clone_sint_int : List (Ty × Bool) := [((.sl (.int .i64)), true)]
def h_slices_Clone_sint_int : Hints := { loops := [] }
noncomputable def M_slices_Clone_sint_int (x : (List Int)) : (Option (List Int)) :=
  (cond (List.isEmpty x) (ambO (some ([] : List Int)) (cond (not true) (some ([] : List Int)) (bindO (guardO (lenOk ((List.length ([] : List Int)) + (List.length x)))) (fun (a0 : Unit) => (bindO (some (([] : List Int) ++ x)) (fun (a1 : (List Int)) => (some a1))))))) (cond (not true) (some ([] : List Int)) (bindO (guardO (lenOk ((List.length ([] : List Int)) + (List.length x)))) (fun (a2 : Unit) => (bindO (some (([] : List Int) ++ x)) (fun (a3 : (List Int)) => (some a3)))))))

noncomputable def c_slices_Clone_sint_int : Con0 := ⟨pk_slices_Clone_sint_int, rk_slices_Clone_sint_int, M_slices_Clone_sint_int⟩

set_option maxRecDepth 100000 in
theorem eq_slices_Clone_sint_int (x : In pk_slices_Clone_sint_int) : semF (mkE []) h_slices_Clone_sint_int (info Try.f105) pk_slices_Clone_sint_int rk_slices_Clone_sint_int x = M_slices_Clone_sint_int x := by kernel_rfl

set_option maxRecDepth 100000 in
theorem m_slices_Clone_sint_int : ConOK Try.prog 105 c_slices_Clone_sint_int := fn_ok (tyOK _) (E := mkE []) (consOK_nil rfl) Try.func105 (h := h_slices_Clone_sint_int) (by kernel_rfl) eq_slices_Clone_sint_int

/-- I_Group_smallExponents -/
def pk_I_Group_smallExponents : List PK := [.data (.cons (.int .i64) (.cons (.int .i64) (.one (.int .i64)))), .data (.sl (.int .i64)), .data (.int .i64)]
def rk_I_Group_smallExponents : List (Ty × Bool) := [((.sl (.int .i64)), true), (.bool, false)]
def h_I_Group_smallExponents : Hints := { loops := [(0, { items := [.slot 8 (.own (.int .i64) true), .slot 15 (.data (.int .i64) [])], kill := [0, 4, 5, 6, 7, 9, 10, 11, 12, 13, 16, 17, 18, 19, 20, 21, 22, 23, 24, 25, 26, 27, 28, 29, 30, 31, 32, 33, 34, 35, 36, 37, 38, 39, 40, 41, 42] })] }
noncomputable def M_I_Group_smallExponents (x : ((Int × (Int × Int)) × ((List Int) × Int))) : (Option ((List Int) × Bool)) :=
  (loopO (fun (again0 : (((List Int) × Int) → (Option ((List Int) × Bool)))) => (fun (s1 : ((List Int) × Int)) => (cond (decide (s1.2 < (if (x.2.2 < (1 : Int)) then (1 : Int) else x.2.2))) (bindO (M_slices_Clone_sint_int x.2.1) (fun (a2 : (List Int)) => (bindO (guardO (lenOk ((List.length a2) + (List.length (s1.2 :: ([] : List Int)))))) (fun (a3 : Unit) => (bindO (some (a2 ++ (s1.2 :: ([] : List Int)))) (fun (a4 : (List Int)) => (bindO (M_I_HashLabelled ((bytesOf [115, 109, 97, 108, 108]), a4)) (fun (a5 : (Int × Bool)) => (cond (not a5.2) (some (([] : List Int), false)) (bindO (some (IntKind.wrap .i64 (x.1.2.1 - (1 : Int)))) (fun (a6 : Int) => (bindO (guardO ((if (a6 < (65535 : Int)) then a6 else (65535 : Int)) != (0 : Int))) (fun (a7 : Unit) => (bindO (some (Int.tmod a5.1 (if (a6 < (65535 : Int)) then a6 else (65535 : Int)))) (fun (a8 : Int) => (bindO (some (IntKind.wrap .i64 ((1 : Int) + a8))) (fun (a9 : Int) => (bindO (guardO (lenOk ((List.length s1.1) + (List.length (a9 :: ([] : List Int)))))) (fun (a10 : Unit) => (bindO (some (s1.1 ++ (a9 :: ([] : List Int)))) (fun (a11 : (List Int)) => (bindO (some (IntKind.wrap .i64 (s1.2 + (1 : Int)))) (fun (a12 : Int) => (again0 (a11, a12))))))))))))))))))))))))) (bindO (sliceNH x.2.2 (List.length s1.1)) (fun (a13 : (Nat × Nat)) => (some ((List.take a13.2 s1.1), true))))))) (([] : List Int), (0 : Int)))

noncomputable def c_I_Group_smallExponents : Con0 := ⟨pk_I_Group_smallExponents, rk_I_Group_smallExponents, M_I_Group_smallExponents⟩

set_option maxRecDepth 100000 in
theorem eq_I_Group_smallExponents (x : In pk_I_Group_smallExponents) : semF (mkE [(105, c_slices_Clone_sint_int), (104, c_I_HashLabelled)]) h_I_Group_smallExponents (info Try.f58) pk_I_Group_smallExponents rk_I_Group_smallExponents x = M_I_Group_smallExponents x := by kernel_rfl

set_option maxRecDepth 100000 in
theorem m_I_Group_smallExponents : ConOK Try.prog 58 c_I_Group_smallExponents := fn_ok (tyOK _) (E := mkE [(105, c_slices_Clone_sint_int), (104, c_I_HashLabelled)]) (consOK_cons m_slices_Clone_sint_int (consOK_cons m_I_HashLabelled (consOK_nil rfl))) Try.func58 (h := h_I_Group_smallExponents) (by kernel_rfl) eq_I_Group_smallExponents

/-- I_mod -/
def pk_I_mod : List PK := [.data (.int .i64), .data (.int .i64)]
def rk_I_mod : List (Ty × Bool) := [((.int .i64), false)]
def h_I_mod : Hints := { loops := [] }
noncomputable def M_I_mod (x : (Int × Int)) : (Option Int) :=
  (bindO (guardO (x.2 != (0 : Int))) (fun (a0 : Unit) => (bindO (some (Int.tmod x.1 x.2)) (fun (a1 : Int) => (bindO (some (IntKind.wrap .i64 (a1 + x.2))) (fun (a2 : Int) => (bindO (guardO (x.2 != (0 : Int))) (fun (a3 : Unit) => (bindO (some (Int.tmod a2 x.2)) (fun (a4 : Int) => (some a4)))))))))))

noncomputable def c_I_mod : Con0 := ⟨pk_I_mod, rk_I_mod, M_I_mod⟩

set_option maxRecDepth 100000 in
theorem eq_I_mod (x : In pk_I_mod) : semF (mkE []) h_I_mod (info Try.f108) pk_I_mod rk_I_mod x = M_I_mod x := by kernel_rfl

set_option maxRecDepth 100000 in
theorem m_I_mod : ConOK Try.prog 108 c_I_mod := fn_ok (tyOK _) (E := mkE []) (consOK_nil rfl) Try.func108 (h := h_I_mod) (by kernel_rfl) eq_I_mod

/-- I_Group_pow -/
def pk_I_Group_pow : List PK := [.data (.cons (.int .i64) (.cons (.int .i64) (.one (.int .i64)))), .data (.int .i64), .data (.int .i64)]
def rk_I_Group_pow : List (Ty × Bool) := [((.int .i64), false)]
def h_I_Group_pow : Hints := { loops := [] }
noncomputable def M_I_Group_pow (x : ((Int × (Int × Int)) × (Int × Int))) : (Option Int) :=
  (bindO (M_I_mod (x.2.2, x.1.2.1)) (fun (a0 : Int) => (bindO (M_I_power (x.2.1, (a0, x.1.1))) (fun (a1 : Int) => (some a1)))))

noncomputable def c_I_Group_pow : Con0 := ⟨pk_I_Group_pow, rk_I_Group_pow, M_I_Group_pow⟩

set_option maxRecDepth 100000 in
theorem eq_I_Group_pow (x : In pk_I_Group_pow) : semF (mkE [(108, c_I_mod), (107, c_I_power)]) h_I_Group_pow (info Try.f60) pk_I_Group_pow rk_I_Group_pow x = M_I_Group_pow x := by kernel_rfl

set_option maxRecDepth 100000 in
theorem m_I_Group_pow : ConOK Try.prog 60 c_I_Group_pow := fn_ok (tyOK _) (E := mkE [(108, c_I_mod), (107, c_I_power)]) (consOK_cons m_I_mod (consOK_cons m_I_power (consOK_nil rfl))) Try.func60 (h := h_I_Group_pow) (by kernel_rfl) eq_I_Group_pow

/-- I_Group_inv -/
def pk_I_Group_inv : List PK := [.data (.cons (.int .i64) (.cons (.int .i64) (.one (.int .i64)))), .data (.int .i64)]
def rk_I_Group_inv : List (Ty × Bool) := [((.int .i64), false)]
def h_I_Group_inv : Hints := { loops := [] }
noncomputable def M_I_Group_inv (x : ((Int × (Int × Int)) × Int)) : (Option Int) :=
  (bindO (M_I_Group_pow ((x.1.1, (x.1.2.1, x.1.2.2)), (x.2, (- (1 : Int))))) (fun (a0 : Int) => (some a0)))

noncomputable def c_I_Group_inv : Con0 := ⟨pk_I_Group_inv, rk_I_Group_inv, M_I_Group_inv⟩

set_option maxRecDepth 100000 in
theorem eq_I_Group_inv (x : In pk_I_Group_inv) : semF (mkE [(60, c_I_Group_pow)]) h_I_Group_inv (info Try.f106) pk_I_Group_inv rk_I_Group_inv x = M_I_Group_inv x := by kernel_rfl

set_option maxRecDepth 100000 in
theorem m_I_Group_inv : ConOK Try.prog 106 c_I_Group_inv := fn_ok (tyOK _) (E := mkE [(60, c_I_Group_pow)]) (consOK_cons m_I_Group_pow (consOK_nil rfl)) Try.func106 (h := h_I_Group_inv) (by kernel_rfl) eq_I_Group_inv

/-- I_Group_mul -/
def pk_I_Group_mul : List PK := [.data (.cons (.int .i64) (.cons (.int .i64) (.one (.int .i64)))), .data (.sl (.int .i64))]
def rk_I_Group_mul : List (Ty × Bool) := [((.int .i64), false)]
def h_I_Group_mul : Hints := { loops := [(0, { items := [.slot 5 (.data (.int .i64) []), .slot 10 (.data (.int .i64) [])], kill := [0, 1, 3, 4, 6, 7, 11, 12, 13, 14, 15, 16, 17, 18, 19, 20, 21] })] }
noncomputable def M_I_Group_mul (x : ((Int × (Int × Int)) × (List Int))) : (Option Int) :=
  (loopO (fun (again0 : ((Int × Int) → (Option Int))) => (fun (s1 : (Int × Int)) => (cond (decide (s1.2 < (((List.length x.2) : Nat) : Int))) (bindO (getI x.2 s1.2) (fun (a2 : Int) => (bindO (some (IntKind.wrap .i64 (s1.1 * a2))) (fun (a3 : Int) => (bindO (guardO (x.1.1 != (0 : Int))) (fun (a4 : Unit) => (bindO (some (Int.tmod a3 x.1.1)) (fun (a5 : Int) => (bindO (some (IntKind.wrap .i64 (s1.2 + (1 : Int)))) (fun (a6 : Int) => (again0 (a5, a6)))))))))))) (some s1.1)))) ((1 : Int), (0 : Int)))

noncomputable def c_I_Group_mul : Con0 := ⟨pk_I_Group_mul, rk_I_Group_mul, M_I_Group_mul⟩

set_option maxRecDepth 100000 in
theorem eq_I_Group_mul (x : In pk_I_Group_mul) : semF (mkE []) h_I_Group_mul (info Try.f61) pk_I_Group_mul rk_I_Group_mul x = M_I_Group_mul x := by kernel_rfl

set_option maxRecDepth 100000 in
theorem m_I_Group_mul : ConOK Try.prog 61 c_I_Group_mul := fn_ok (tyOK _) (E := mkE []) (consOK_nil rfl) Try.func61 (h := h_I_Group_mul) (by kernel_rfl) eq_I_Group_mul

/-- I_Group_bitCase -/
def pk_I_Group_bitCase : List PK := [.data (.cons (.int .i64) (.cons (.int .i64) (.one (.int .i64)))), .data (.int .i64), .data (.int .i64)]
def rk_I_Group_bitCase : List (Ty × Bool) := [((.int .i64), false)]
def h_I_Group_bitCase : Hints := { loops := [] }
noncomputable def M_I_Group_bitCase (x : ((Int × (Int × Int)) × (Int × Int))) : (Option Int) :=
  (cond (x.2.2 == (1 : Int)) (bindO (M_I_Group_inv ((x.1.1, (x.1.2.1, x.1.2.2)), x.1.2.2)) (fun (a0 : Int) => (bindO (M_I_Group_mul ((x.1.1, (x.1.2.1, x.1.2.2)), (x.2.1 :: (a0 :: ([] : List Int))))) (fun (a1 : Int) => (some a1))))) (some x.2.1))

noncomputable def c_I_Group_bitCase : Con0 := ⟨pk_I_Group_bitCase, rk_I_Group_bitCase, M_I_Group_bitCase⟩

set_option maxRecDepth 100000 in
theorem eq_I_Group_bitCase (x : In pk_I_Group_bitCase) : semF (mkE [(106, c_I_Group_inv), (61, c_I_Group_mul)]) h_I_Group_bitCase (info Try.f62) pk_I_Group_bitCase rk_I_Group_bitCase x = M_I_Group_bitCase x := by kernel_rfl

set_option maxRecDepth 100000 in
theorem m_I_Group_bitCase : ConOK Try.prog 62 c_I_Group_bitCase := fn_ok (tyOK _) (E := mkE [(106, c_I_Group_inv), (61, c_I_Group_mul)]) (consOK_cons m_I_Group_inv (consOK_cons m_I_Group_mul (consOK_nil rfl))) Try.func62 (h := h_I_Group_bitCase) (by kernel_rfl) eq_I_Group_bitCase

/-- I_Group_over -/
def pk_I_Group_over : List PK := [.data (.cons (.int .i64) (.cons (.int .i64) (.one (.int .i64)))), .data (.int .i64), .data (.int .i64)]
def rk_I_Group_over : List (Ty × Bool) := [((.int .i64), false)]
def h_I_Group_over : Hints := { loops := [] }
noncomputable def M_I_Group_over (x : ((Int × (Int × Int)) × (Int × Int))) : (Option Int) :=
  (bindO (M_I_Group_inv ((x.1.1, (x.1.2.1, x.1.2.2)), x.2.2)) (fun (a0 : Int) => (bindO (M_I_Group_mul ((x.1.1, (x.1.2.1, x.1.2.2)), (x.2.1 :: (a0 :: ([] : List Int))))) (fun (a1 : Int) => (some a1)))))

noncomputable def c_I_Group_over : Con0 := ⟨pk_I_Group_over, rk_I_Group_over, M_I_Group_over⟩

set_option maxRecDepth 100000 in
theorem eq_I_Group_over (x : In pk_I_Group_over) : semF (mkE [(106, c_I_Group_inv), (61, c_I_Group_mul)]) h_I_Group_over (info Try.f59) pk_I_Group_over rk_I_Group_over x = M_I_Group_over x := by kernel_rfl

set_option maxRecDepth 100000 in
theorem m_I_Group_over : ConOK Try.prog 59 c_I_Group_over := fn_ok (tyOK _) (E := mkE [(106, c_I_Group_inv), (61, c_I_Group_mul)]) (consOK_cons m_I_Group_inv (consOK_cons m_I_Group_mul (consOK_nil rfl))) Try.func59 (h := h_I_Group_over) (by kernel_rfl) eq_I_Group_over

/-- I_BatchBits -/
def pk_I_BatchBits : List PK := [.data (.cons (.int .i64) (.cons (.int .i64) (.one (.int .i64)))), .data (.cons (.int .i64) (.one (.sl (.int .i64)))), .data (.sl (.int .i64)), .data (.sl (.cons (.sl (.int .i64)) (.cons (.sl (.int .i64)) (.one (.sl (.int .i64))))))]
def rk_I_BatchBits : List (Ty × Bool) := [(.bool, false), (.bool, false)]
def h_I_BatchBits : Hints := { loops := [(0, { items := [.slot 10 (.own (.int .i64) true), .slot 48 (.data (.int .i64) [])], kill := [0, 1, 6, 7, 8, 9, 11, 12, 13, 14, 15, 16, 17, 18, 19, 20, 21, 22, 23, 24, 25, 26, 27, 28, 29, 30, 31, 32, 33, 34, 35, 36, 37, 38, 39, 40, 41, 42, 43, 44, 45, 49, 50, 51, 52, 53, 54, 55, 56, 57, 58, 59, 60, 61, 62, 63, 64, 65, 66, 67, 68, 69, 70, 71, 72, 73, 74, 75, 76, 77, 78, 79, 80, 81, 82, 83, 84, 85, 86, 87, 88, 89, 90, 91, 92, 93, 94, 95, 96, 97, 98, 99, 100, 101, 102, 103, 104, 105, 106, 107, 108, 109, 110, 111, 112, 113, 114, 115, 116, 117, 118, 119, 120, 121, 122, 123, 124, 125, 126, 127, 128, 129, 130, 131, 132, 133, 134, 135, 136, 137, 138, 139, 140, 141, 142, 143, 144, 145, 146, 147, 148, 149, 150, 151, 152, 153, 154, 155, 156, 157, 158, 159, 160, 161, 162, 163, 164, 165, 166, 167, 168, 169, 170, 171, 172, 173, 174, 175, 176, 177, 178, 179, 180, 181, 182, 183, 184, 185, 186, 187, 188, 189, 190, 191, 192, 193, 194] }), (2, { items := [.slot 17 (.data (.int .i64) []), .slot 135 (.data (.int .i64) [])], kill := [0, 1, 3, 6, 7, 8, 9, 10, 11, 12, 13, 14, 16, 18, 19, 20, 21, 22, 23, 24, 25, 26, 27, 28, 29, 30, 31, 32, 33, 34, 35, 36, 37, 38, 39, 40, 41, 42, 43, 44, 45, 46, 47, 48, 49, 50, 51, 52, 53, 54, 55, 56, 57, 58, 59, 60, 61, 62, 63, 64, 65, 66, 67, 68, 69, 70, 71, 72, 73, 74, 75, 76, 77, 78, 79, 80, 81, 82, 83, 84, 85, 86, 87, 88, 89, 90, 91, 92, 93, 94, 95, 96, 97, 98, 99, 100, 101, 102, 103, 104, 105, 106, 107, 108, 109, 110, 111, 112, 113, 114, 115, 116, 117, 118, 119, 120, 121, 122, 123, 124, 125, 126, 127, 128, 129, 130, 131, 132, 136, 137, 138, 139, 140, 141, 142, 143, 144, 145, 146, 147, 148, 149, 150, 151, 152, 153, 154, 155, 156, 157, 158, 159, 160, 161, 162, 163, 164, 165, 166, 167, 168, 169, 170, 171, 172, 173, 174, 175, 176, 177, 178, 179, 180, 181, 182, 183, 184, 185, 186, 187, 188, 189, 190, 191, 192, 193, 194] }), (4, { items := [.slot 17 (.data (.int .i64) []), .slot 143 (.data (.int .i64) [])], kill := [0, 1, 3, 6, 7, 8, 9, 10, 11, 12, 13, 14, 16, 20, 21, 22, 23, 24, 25, 26, 27, 28, 29, 30, 31, 32, 33, 34, 35, 36, 37, 38, 39, 40, 41, 42, 43, 44, 45, 46, 47, 48, 49, 50, 51, 52, 53, 54, 55, 56, 57, 58, 59, 60, 61, 62, 63, 64, 65, 66, 67, 68, 69, 70, 71, 72, 73, 74, 75, 76, 77, 78, 79, 80, 81, 82, 83, 84, 85, 86, 87, 88, 89, 90, 91, 92, 93, 94, 95, 96, 97, 98, 99, 100, 101, 102, 103, 104, 105, 106, 107, 108, 109, 110, 111, 112, 113, 114, 115, 116, 117, 118, 119, 120, 121, 122, 123, 124, 125, 126, 127, 128, 129, 130, 131, 132, 136, 137, 138, 139, 140, 144, 145, 146, 147, 148, 149, 150, 151, 152, 153, 154, 155, 156, 157, 158, 159, 160, 161, 162, 163, 164, 165, 166, 167, 168, 169, 170, 171, 172, 173, 174, 175, 176, 177, 178, 179, 180, 181, 182, 183, 184, 185, 186, 187, 188, 189, 190, 191, 192, 193, 194] })] }
noncomputable def M_I_BatchBits (x : ((Int × (Int × Int)) × ((Int × (List Int)) × ((List Int) × (List ((List Int) × ((List Int) × (List Int)))))))) : (Option (Bool × Bool)) :=
  (bindO (M_I_IsValidBases ((x.1.1, (x.1.2.1, x.1.2.2)), (x.2.1.1, x.2.1.2))) (fun (a0 : Bool) => (cond (not a0) (some (false, false)) (cond (decide ((((List.length x.2.2.1) : Nat) : Int) > (12 : Int))) (some (false, false)) (cond ((((List.length x.2.2.2) : Nat) : Int) != (((List.length x.2.2.1) : Nat) : Int)) (some (false, false)) (bindO (M_I_Group_hasAll ((x.1.1, (x.1.2.1, x.1.2.2)), x.2.2.1)) (fun (a1 : Bool) => (cond (not a1) (some (false, false)) (loopO (fun (again2 : (((List Int) × Int) → (Option (Bool × Bool)))) => (fun (s3 : ((List Int) × Int)) => (cond (decide (s3.2 < (((List.length x.2.2.2) : Nat) : Int))) (bindO (getI x.2.2.2 s3.2) (fun (a4 : ((List Int) × ((List Int) × (List Int)))) => (cond ((((List.length a4.1) : Nat) : Int) != (2 : Int)) (some (false, true)) (cond ((((List.length a4.2.1) : Nat) : Int) != (2 : Int)) (some (false, true)) (cond ((((List.length a4.2.2) : Nat) : Int) != (2 : Int)) (some (false, true)) (bindO (M_I_Group_hasAll ((x.1.1, (x.1.2.1, x.1.2.2)), a4.1)) (fun (a5 : Bool) => (cond (not a5) (some (false, true)) (bindO (M_I_Group_areExps ((x.1.1, (x.1.2.1, x.1.2.2)), a4.2.1)) (fun (a6 : Bool) => (cond (not a6) (some (false, true)) (bindO (M_I_Group_areExps ((x.1.1, (x.1.2.1, x.1.2.2)), a4.2.2)) (fun (a7 : Bool) => (cond (not a7) (some (false, true)) (bindO (getI x.2.2.1 s3.2) (fun (a8 : Int) => (bindO (getI a4.1 (0 : Int)) (fun (a9 : Int) => (bindO (getI a4.1 (1 : Int)) (fun (a10 : Int) => (bindO (M_I_Group_challenge ((x.1.1, (x.1.2.1, x.1.2.2)), ((bytesOf [98, 105, 116]), (x.2.1.1 :: (a8 :: (a9 :: (a10 :: ([] : List Int)))))))) (fun (a11 : (Int × Bool)) => (bindO (M_I_sum (a4.2.1, x.1.2.1)) (fun (a12 : Int) => (cond (a12 != a11.1) (some (false, true)) (bindO (guardO (lenOk ((List.length s3.1) + (List.length a4.2.2)))) (fun (a13 : Unit) => (bindO (some (s3.1 ++ a4.2.2)) (fun (a14 : (List Int)) => (bindO (some (IntKind.wrap .i64 (s3.2 + (1 : Int)))) (fun (a15 : Int) => (again2 (a14, a15))))))))))))))))))))))))))))))))) (bindO (some (IntKind.wrap .i64 ((2 : Int) * (((List.length x.2.2.2) : Nat) : Int)))) (fun (a16 : Int) => (bindO (M_I_Group_smallExponents ((x.1.1, (x.1.2.1, x.1.2.2)), (s3.1, a16))) (fun (a17 : ((List Int) × Bool)) => (cond (not a17.2) (some (false, false)) (loopO (fun (again18 : ((Int × Int) → (Option (Bool × Bool)))) => (fun (s19 : (Int × Int)) => (cond (decide (s19.2 < (((List.length x.2.2.2) : Nat) : Int))) (bindO (getI x.2.2.2 s19.2) (fun (a20 : ((List Int) × ((List Int) × (List Int)))) => (loopO (fun (again21 : ((Int × Int) → (Option (Bool × Bool)))) => (fun (s22 : (Int × Int)) => (cond (decide (s22.2 < (((List.length a20.1) : Nat) : Int))) (bindO (getI a20.1 s22.2) (fun (a23 : Int) => (bindO (getI a20.2.2 s22.2) (fun (a24 : Int) => (bindO (M_I_Group_pow ((x.1.1, (x.1.2.1, x.1.2.2)), (x.2.1.1, a24))) (fun (a25 : Int) => (bindO (getI x.2.2.1 s19.2) (fun (a26 : Int) => (bindO (M_I_Group_bitCase ((x.1.1, (x.1.2.1, x.1.2.2)), (a26, s22.2))) (fun (a27 : Int) => (bindO (getI a20.2.1 s22.2) (fun (a28 : Int) => (bindO (M_I_Group_pow ((x.1.1, (x.1.2.1, x.1.2.2)), (a27, a28))) (fun (a29 : Int) => (bindO (M_I_Group_mul ((x.1.1, (x.1.2.1, x.1.2.2)), (a23 :: (a29 :: ([] : List Int))))) (fun (a30 : Int) => (bindO (M_I_Group_over ((x.1.1, (x.1.2.1, x.1.2.2)), (a25, a30))) (fun (a31 : Int) => (bindO (some (IntKind.wrap .i64 ((2 : Int) * s19.2))) (fun (a32 : Int) => (bindO (some (IntKind.wrap .i64 (a32 + s22.2))) (fun (a33 : Int) => (bindO (getI a17.1 a33) (fun (a34 : Int) => (bindO (M_I_Group_pow ((x.1.1, (x.1.2.1, x.1.2.2)), (a31, a34))) (fun (a35 : Int) => (bindO (M_I_Group_mul ((x.1.1, (x.1.2.1, x.1.2.2)), (s22.1 :: (a35 :: ([] : List Int))))) (fun (a36 : Int) => (bindO (some (IntKind.wrap .i64 (s22.2 + (1 : Int)))) (fun (a37 : Int) => (again21 (a36, a37)))))))))))))))))))))))))))))))) (bindO (some (IntKind.wrap .i64 (s19.2 + (1 : Int)))) (fun (a38 : Int) => (again18 (s22.1, a38))))))) (s19.1, (0 : Int))))) (some ((s19.1 == (1 : Int)), true))))) ((1 : Int), (0 : Int))))))))))) (([] : List Int), (0 : Int)))))))))))

noncomputable def c_I_BatchBits : Con0 := ⟨pk_I_BatchBits, rk_I_BatchBits, M_I_BatchBits⟩

set_option maxRecDepth 100000 in
theorem eq_I_BatchBits (x : In pk_I_BatchBits) : semF (mkE [(53, c_I_IsValidBases), (54, c_I_Group_hasAll), (55, c_I_Group_areExps), (56, c_I_Group_challenge), (57, c_I_sum), (58, c_I_Group_smallExponents), (60, c_I_Group_pow), (62, c_I_Group_bitCase), (61, c_I_Group_mul), (59, c_I_Group_over)]) h_I_BatchBits (info Try.f16) pk_I_BatchBits rk_I_BatchBits x = M_I_BatchBits x := by kernel_rfl

set_option maxRecDepth 100000 in
theorem m_I_BatchBits : ConOK Try.prog 16 c_I_BatchBits := fn_ok (tyOK _) (E := mkE [(53, c_I_IsValidBases), (54, c_I_Group_hasAll), (55, c_I_Group_areExps), (56, c_I_Group_challenge), (57, c_I_sum), (58, c_I_Group_smallExponents), (60, c_I_Group_pow), (62, c_I_Group_bitCase), (61, c_I_Group_mul), (59, c_I_Group_over)]) (consOK_cons m_I_IsValidBases (consOK_cons m_I_Group_hasAll (consOK_cons m_I_Group_areExps (consOK_cons m_I_Group_challenge (consOK_cons m_I_sum (consOK_cons m_I_Group_smallExponents (consOK_cons m_I_Group_pow (consOK_cons m_I_Group_bitCase (consOK_cons m_I_Group_mul (consOK_cons m_I_Group_over (consOK_nil rfl))))))))))) Try.func16 (h := h_I_BatchBits) (by kernel_rfl) eq_I_BatchBits

/-- L_eqIntS -/
def pk_L_eqIntS : List PK := [.data (.sl (.int .i64)), .data (.sl (.int .i64))]
def rk_L_eqIntS : List (Ty × Bool) := [(.bool, false)]
def h_L_eqIntS : Hints := { loops := [(0, { items := [.slot 5 (.data (.int .i64) [])], kill := [2, 3, 4, 6, 7, 8, 9, 10, 11, 12, 13, 14, 15, 16, 17, 18, 19, 20, 21, 22, 23, 24, 25] })] }
noncomputable def M_L_eqIntS (x : ((List Int) × (List Int))) : (Option Bool) :=
  (cond ((((List.length x.1) : Nat) : Int) != (((List.length x.2) : Nat) : Int)) (some false) (loopO (fun (again0 : (Int → (Option Bool))) => (fun (s1 : Int) => (cond (decide (s1 < (((List.length x.1) : Nat) : Int))) (bindO (getI x.1 s1) (fun (a2 : Int) => (bindO (getI x.2 s1) (fun (a3 : Int) => (cond (a2 != a3) (some false) (bindO (some (IntKind.wrap .i64 (s1 + (1 : Int)))) (fun (a4 : Int) => (again0 a4)))))))) (some true)))) (0 : Int)))

noncomputable def c_L_eqIntS : Con0 := ⟨pk_L_eqIntS, rk_L_eqIntS, M_L_eqIntS⟩

set_option maxRecDepth 100000 in
theorem eq_L_eqIntS (x : In pk_L_eqIntS) : semF (mkE []) h_L_eqIntS (info Try.f18) pk_L_eqIntS rk_L_eqIntS x = M_L_eqIntS x := by kernel_rfl

set_option maxRecDepth 100000 in
theorem m_L_eqIntS : ConOK Try.prog 18 c_L_eqIntS := fn_ok (tyOK _) (E := mkE []) (consOK_nil rfl) Try.func18 (h := h_L_eqIntS) (by kernel_rfl) eq_L_eqIntS

/-- L_eqBases -/
def pk_L_eqBases : List PK := [.data (.cons (.int .i64) (.one (.sl (.int .i64)))), .data (.cons (.int .i64) (.one (.sl (.int .i64))))]
def rk_L_eqBases : List (Ty × Bool) := [(.bool, false)]
def h_L_eqBases : Hints := { loops := [] }
noncomputable def M_L_eqBases (x : ((Int × (List Int)) × (Int × (List Int)))) : (Option Bool) :=
  (cond (x.1.1 != x.2.1) (some false) (bindO (M_L_eqIntS (x.1.2, x.2.2)) (fun (a0 : Bool) => (cond (not a0) (some false) (some true)))))

noncomputable def c_L_eqBases : Con0 := ⟨pk_L_eqBases, rk_L_eqBases, M_L_eqBases⟩

set_option maxRecDepth 100000 in
theorem eq_L_eqBases (x : In pk_L_eqBases) : semF (mkE [(18, c_L_eqIntS)]) h_L_eqBases (info Try.f17) pk_L_eqBases rk_L_eqBases x = M_L_eqBases x := by kernel_rfl

set_option maxRecDepth 100000 in
theorem m_L_eqBases : ConOK Try.prog 17 c_L_eqBases := fn_ok (tyOK _) (E := mkE [(18, c_L_eqIntS)]) (consOK_cons m_L_eqIntS (consOK_nil rfl)) Try.func17 (h := h_L_eqBases) (by kernel_rfl) eq_L_eqBases

/-- L_eqProof -/
def pk_L_eqProof : List PK := [.data (.cons (.sl (.int .i64)) (.cons (.sl (.int .i64)) (.one (.sl (.int .i64))))), .data (.cons (.sl (.int .i64)) (.cons (.sl (.int .i64)) (.one (.sl (.int .i64)))))]
def rk_L_eqProof : List (Ty × Bool) := [(.bool, false)]
def h_L_eqProof : Hints := { loops := [] }
noncomputable def M_L_eqProof (x : (((List Int) × ((List Int) × (List Int))) × ((List Int) × ((List Int) × (List Int))))) : (Option Bool) :=
  (bindO (M_L_eqIntS (x.1.1, x.2.1)) (fun (a0 : Bool) => (cond (not a0) (some false) (bindO (M_L_eqIntS (x.1.2.1, x.2.2.1)) (fun (a1 : Bool) => (cond (not a1) (some false) (bindO (M_L_eqIntS (x.1.2.2, x.2.2.2)) (fun (a2 : Bool) => (cond (not a2) (some false) (some true))))))))))

noncomputable def c_L_eqProof : Con0 := ⟨pk_L_eqProof, rk_L_eqProof, M_L_eqProof⟩

set_option maxRecDepth 100000 in
theorem eq_L_eqProof (x : In pk_L_eqProof) : semF (mkE [(18, c_L_eqIntS)]) h_L_eqProof (info Try.f25) pk_L_eqProof rk_L_eqProof x = M_L_eqProof x := by kernel_rfl

set_option maxRecDepth 100000 in
theorem m_L_eqProof : ConOK Try.prog 25 c_L_eqProof := fn_ok (tyOK _) (E := mkE [(18, c_L_eqIntS)]) (consOK_cons m_L_eqIntS (consOK_nil rfl)) Try.func25 (h := h_L_eqProof) (by kernel_rfl) eq_L_eqProof

/-- L_eqProofS -/
def pk_L_eqProofS : List PK := [.data (.sl (.cons (.sl (.int .i64)) (.cons (.sl (.int .i64)) (.one (.sl (.int .i64)))))), .data (.sl (.cons (.sl (.int .i64)) (.cons (.sl (.int .i64)) (.one (.sl (.int .i64))))))]
def rk_L_eqProofS : List (Ty × Bool) := [(.bool, false)]
def h_L_eqProofS : Hints := { loops := [(0, { items := [.slot 5 (.data (.int .i64) [])], kill := [2, 3, 4, 6, 7, 8, 9, 10, 11, 12, 13, 14, 15, 16, 17, 18, 19, 20, 21, 22, 23, 24, 25, 26] })] }
noncomputable def M_L_eqProofS (x : ((List ((List Int) × ((List Int) × (List Int)))) × (List ((List Int) × ((List Int) × (List Int)))))) : (Option Bool) :=
  (cond ((((List.length x.1) : Nat) : Int) != (((List.length x.2) : Nat) : Int)) (some false) (loopO (fun (again0 : (Int → (Option Bool))) => (fun (s1 : Int) => (cond (decide (s1 < (((List.length x.1) : Nat) : Int))) (bindO (getI x.1 s1) (fun (a2 : ((List Int) × ((List Int) × (List Int)))) => (bindO (getI x.2 s1) (fun (a3 : ((List Int) × ((List Int) × (List Int)))) => (bindO (M_L_eqProof ((a2.1, (a2.2.1, a2.2.2)), (a3.1, (a3.2.1, a3.2.2)))) (fun (a4 : Bool) => (cond (not a4) (some false) (bindO (some (IntKind.wrap .i64 (s1 + (1 : Int)))) (fun (a5 : Int) => (again0 a5)))))))))) (some true)))) (0 : Int)))

noncomputable def c_L_eqProofS : Con0 := ⟨pk_L_eqProofS, rk_L_eqProofS, M_L_eqProofS⟩

set_option maxRecDepth 100000 in
theorem eq_L_eqProofS (x : In pk_L_eqProofS) : semF (mkE [(25, c_L_eqProof)]) h_L_eqProofS (info Try.f19) pk_L_eqProofS rk_L_eqProofS x = M_L_eqProofS x := by kernel_rfl

set_option maxRecDepth 100000 in
theorem m_L_eqProofS : ConOK Try.prog 19 c_L_eqProofS := fn_ok (tyOK _) (E := mkE [(25, c_L_eqProof)]) (consOK_cons m_L_eqProof (consOK_nil rfl)) Try.func19 (h := h_L_eqProofS) (by kernel_rfl) eq_L_eqProofS

/-- L_FnExactBatchBits -/
def pk_L_FnExactBatchBits : List PK := [.data (.cons (.int .i64) (.cons (.int .i64) (.one (.int .i64)))), .data (.cons (.int .i64) (.one (.sl (.int .i64)))), .data (.sl (.int .i64)), .data (.sl (.cons (.sl (.int .i64)) (.cons (.sl (.int .i64)) (.one (.sl (.int .i64))))))]
def rk_L_FnExactBatchBits : List (Ty × Bool) := [(.bool, false)]
def h_L_FnExactBatchBits : Hints := { loops := [] }
noncomputable def M_L_FnExactBatchBits (x : ((Int × (Int × Int)) × ((Int × (List Int)) × ((List Int) × (List ((List Int) × ((List Int) × (List Int)))))))) : (Option Bool) :=
  (cond (decide ((((List.length x.2.2.1) : Nat) : Int) > (1048576 : Int))) (some true) (bindO (M_L_szBases ((x.2.1.1, x.2.1.2), (1048576 : Int))) (fun (a0 : Int) => (cond (decide (a0 < (0 : Int))) (some true) (bindO (M_L_szProofS (x.2.2.2, a0)) (fun (a1 : Int) => (cond (decide (a1 < (0 : Int))) (some true) (bindO (M_L_toGroup (x.1.1, (x.1.2.1, x.1.2.2))) (fun (a2 : (Int × (Int × Int))) => (bindO (M_L_toBases (x.2.1.1, x.2.1.2)) (fun (a3 : (Int × (List Int))) => (bindO (M_L_toIntS x.2.2.1) (fun (a4 : (List Int)) => (bindO (M_L_toProofS x.2.2.2) (fun (a5 : (List ((List Int) × ((List Int) × (List Int))))) => (bindO (M_S_BatchBits ((a2.1, (a2.2.1, a2.2.2)), ((a3.1, a3.2), (a4, a5)))) (fun (a6 : (Bool × Bool)) => (bindO (M_L_toBases (x.2.1.1, x.2.1.2)) (fun (a7 : (Int × (List Int))) => (bindO (M_L_toIntS x.2.2.1) (fun (a8 : (List Int)) => (bindO (M_L_toProofS x.2.2.2) (fun (a9 : (List ((List Int) × ((List Int) × (List Int))))) => (bindO (M_L_toGroup (x.1.1, (x.1.2.1, x.1.2.2))) (fun (a10 : (Int × (Int × Int))) => (bindO (M_I_BatchBits ((a10.1, (a10.2.1, a10.2.2)), ((a7.1, a7.2), (a8, a9)))) (fun (a11 : (Bool × Bool)) => (cond (not (a11.1 == a6.1)) (some false) (cond (not (a11.2 == a6.2)) (some false) (bindO (M_L_toBases (x.2.1.1, x.2.1.2)) (fun (a12 : (Int × (List Int))) => (bindO (M_L_eqBases ((a7.1, a7.2), (a12.1, a12.2))) (fun (a13 : Bool) => (cond (not a13) (some false) (bindO (M_L_toIntS x.2.2.1) (fun (a14 : (List Int)) => (bindO (M_L_eqIntS (a8, a14)) (fun (a15 : Bool) => (cond (not a15) (some false) (bindO (M_L_toProofS x.2.2.2) (fun (a16 : (List ((List Int) × ((List Int) × (List Int))))) => (bindO (M_L_eqProofS (a9, a16)) (fun (a17 : Bool) => (cond (not a17) (some false) (some true)))))))))))))))))))))))))))))))))))))))))))))

noncomputable def c_L_FnExactBatchBits : Con0 := ⟨pk_L_FnExactBatchBits, rk_L_FnExactBatchBits, M_L_FnExactBatchBits⟩

set_option maxRecDepth 100000 in
theorem eq_L_FnExactBatchBits (x : In pk_L_FnExactBatchBits) : semF (mkE [(9, c_L_szBases), (10, c_L_szProofS), (12, c_L_toGroup), (13, c_L_toBases), (14, c_L_toIntS), (15, c_L_toProofS), (11, c_S_BatchBits), (16, c_I_BatchBits), (17, c_L_eqBases), (18, c_L_eqIntS), (19, c_L_eqProofS)]) h_L_FnExactBatchBits (info Try.f3) pk_L_FnExactBatchBits rk_L_FnExactBatchBits x = M_L_FnExactBatchBits x := by kernel_rfl

set_option maxRecDepth 100000 in
theorem m_L_FnExactBatchBits : ConOK Try.prog 3 c_L_FnExactBatchBits := fn_ok (tyOK _) (E := mkE [(9, c_L_szBases), (10, c_L_szProofS), (12, c_L_toGroup), (13, c_L_toBases), (14, c_L_toIntS), (15, c_L_toProofS), (11, c_S_BatchBits), (16, c_I_BatchBits), (17, c_L_eqBases), (18, c_L_eqIntS), (19, c_L_eqProofS)]) (consOK_cons m_L_szBases (consOK_cons m_L_szProofS (consOK_cons m_L_toGroup (consOK_cons m_L_toBases (consOK_cons m_L_toIntS (consOK_cons m_L_toProofS (consOK_cons m_S_BatchBits (consOK_cons m_I_BatchBits (consOK_cons m_L_eqBases (consOK_cons m_L_eqIntS (consOK_cons m_L_eqProofS (consOK_nil rfl)))))))))))) Try.func3 (h := h_L_FnExactBatchBits) (by kernel_rfl) eq_L_FnExactBatchBits

end Go.Proofs.Ytffknfalfklleaa.Vd
