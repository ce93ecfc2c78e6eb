/- The functions of the law as plain functions on data, and that the program's functions are these. No conditions. -/
import Derived.Test.YtoaabialmenfiaaVdS
import Derived.Test.YtoaabialmenfiaaChecked
import Derived.KernelRfl
set_option linter.unusedVariables false
namespace Go.Proofs.Ytoaabialmenfiaa.Vd
def tys : List (Option Ty) := [none, none, some (.int .i64), some (.int .i64), some .bool, some (.int .u8), some (.int .u8), some (.cons (.int .i64) (.cons (.int .i64) (.cons .bool (.one (.int .u8))))), some (.cons (.int .i64) (.cons (.int .i64) (.cons .bool (.one (.int .u8))))), some .str, some .str, some .str, some (.int .u64), some (.cons .str (.one (.int .u64))), some (.cons .str (.one (.int .u64))), none, none, none, none, none, none, some (.int .i32), some (.cons (.int .i64) (.cons (.int .i64) (.one (.int .i64)))), some (.cons (.int .i64) (.cons (.int .i64) (.one (.int .i64)))), some (.cons (.int .i64) (.one (.int .i64))), some (.cons (.int .i64) (.one (.int .i64))), some (.sl (.cons (.int .i64) (.cons (.cons (.int .i64) (.one (.int .i64))) (.one (.cons (.sl (.int .i64)) (.cons (.sl (.int .i64)) (.one (.sl (.int .i64))))))))), none, some (.cons (.int .i64) (.one (.int .i64))), some (.sl (.int .i64)), none, none, some (.cons (.int .i64) (.cons (.int .i64) (.one (.int .i64)))), none, none, some (.sl (.cons (.int .i64) (.cons (.cons (.int .i64) (.one (.int .i64))) (.one (.cons (.sl (.int .i64)) (.cons (.sl (.int .i64)) (.one (.sl (.int .i64))))))))), none, none, none, none, none, none, none, some (.sl (.cons (.int .i64) (.cons (.int .i64) (.cons (.int .i64) (.one (.int .i64)))))), some (.sl (.cons (.sl (.int .i64)) (.cons (.sl (.int .i64)) (.one (.sl (.int .i64)))))), none, none, none, none, some (.sl (.cons (.int .i64) (.cons (.int .i64) (.cons (.int .i64) (.one (.int .i64)))))), none, some (.sl (.cons (.sl (.int .i64)) (.cons (.sl (.int .i64)) (.one (.sl (.int .i64)))))), none, none, none, none, none, none, none, none, some (.sl (.cons (.int .i64) (.one (.int .i64)))), some (.sl (.cons (.cons (.int .i64) (.one (.int .i64))) (.cons (.cons (.int .i64) (.one (.int .i64))) (.one (.cons (.sl (.int .i64)) (.cons (.sl (.int .i64)) (.one (.sl (.int .i64))))))))), none, none, none, none, some (.sl (.cons (.int .i64) (.one (.int .i64)))), none, some (.sl (.cons (.cons (.int .i64) (.one (.int .i64))) (.cons (.cons (.int .i64) (.one (.int .i64))) (.one (.cons (.sl (.int .i64)) (.cons (.sl (.int .i64)) (.one (.sl (.int .i64))))))))), none, none, none, none, none, none, none, some (.cons (.sl (.int .i64)) (.cons (.sl (.int .i64)) (.one (.sl (.int .i64))))), some (.cons (.sl (.int .i64)) (.cons (.sl (.int .i64)) (.one (.sl (.int .i64))))), some (.cons (.int .i64) (.cons (.cons (.int .i64) (.one (.int .i64))) (.one (.cons (.sl (.int .i64)) (.cons (.sl (.int .i64)) (.one (.sl (.int .i64)))))))), some (.cons (.int .i64) (.cons (.cons (.int .i64) (.one (.int .i64))) (.one (.cons (.sl (.int .i64)) (.cons (.sl (.int .i64)) (.one (.sl (.int .i64)))))))), none, none, none, none, some (.cons (.sl (.int .i64)) (.cons (.sl (.int .i64)) (.one (.sl (.int .i64))))), some (.cons (.int .i64) (.cons (.cons (.int .i64) (.one (.int .i64))) (.one (.cons (.sl (.int .i64)) (.cons (.sl (.int .i64)) (.one (.sl (.int .i64)))))))), some (.cons (.int .i64) (.cons (.cons (.int .i64) (.one (.int .i64))) (.one (.cons (.sl (.int .i64)) (.cons (.sl (.int .i64)) (.one (.sl (.int .i64)))))))), none, none, none, none, none, none, none, none, some (.cons (.int .i64) (.cons (.int .i64) (.cons (.int .i64) (.one (.int .i64))))), some (.cons (.int .i64) (.cons (.int .i64) (.cons (.int .i64) (.one (.int .i64))))), none, some (.cons (.int .i64) (.cons (.int .i64) (.cons (.int .i64) (.one (.int .i64))))), none, none, none, none, none, none, none, none, none, none, some (.cons (.cons (.int .i64) (.one (.int .i64))) (.cons (.cons (.int .i64) (.one (.int .i64))) (.one (.cons (.sl (.int .i64)) (.cons (.sl (.int .i64)) (.one (.sl (.int .i64)))))))), some (.cons (.cons (.int .i64) (.one (.int .i64))) (.cons (.cons (.int .i64) (.one (.int .i64))) (.one (.cons (.sl (.int .i64)) (.cons (.sl (.int .i64)) (.one (.sl (.int .i64)))))))), none, none, some (.cons (.cons (.int .i64) (.one (.int .i64))) (.cons (.cons (.int .i64) (.one (.int .i64))) (.one (.cons (.sl (.int .i64)) (.cons (.sl (.int .i64)) (.one (.sl (.int .i64)))))))), some (.cons (.cons (.int .i64) (.one (.int .i64))) (.cons (.cons (.int .i64) (.one (.int .i64))) (.one (.cons (.sl (.int .i64)) (.cons (.sl (.int .i64)) (.one (.sl (.int .i64)))))))), none, none, none, none, none, none, none, none, none, none, none, none, none, none, none, none, none, none, none, none, none, none, none, none, none, none, none, none, none, none, none, none, none, none, none, none, none, none, none, none, none, none, none, some (.int .u64), none, some (.sl (.sl (.int .i64))), none, none, none, none, none, none, none, none, none, none, none, none, none, none, none, none, none, none, none, none, none, none, none, none, none, some (.cons (.int .i64) (.one (.int .i64))), some (.cons (.int .i64) (.one (.int .i64))), none, none, none, none, none, none, none, none, none, none, none, some (.int .u32), some (.int .u8), some (.int .u8), none, none, some (.int .i32), some (.int .i32), none, none, none, none]
def others : List Nat := [1, 15, 16, 17, 27, 31, 33, 34, 36, 37, 38, 39, 40, 41, 42, 45, 46, 48, 50, 52, 53, 54, 55, 57, 58, 59, 62, 63, 65, 67, 69, 70, 71, 72, 73, 74, 75, 80, 81, 83, 87, 88, 89, 90, 91, 92, 93, 94, 97, 99, 100, 101, 102, 104, 105, 106, 107, 108, 111, 112, 115, 116, 117, 118, 119, 120, 121, 122, 123, 124, 125, 126, 127, 128, 129, 130, 131, 132, 133, 134, 135, 136, 137, 138, 139, 140, 141, 142, 143, 144, 146, 147, 148, 149, 150, 151, 152, 153, 154, 155, 156, 157, 159, 161, 162, 163, 164, 166, 167, 168, 169, 170, 171, 172, 173, 174, 175, 176, 177, 178, 179, 180, 181, 182, 183, 184, 185, 188, 189, 190, 191, 192, 198, 202, 203, 208]
def pairs : List Nat := [24, 25, 28, 186, 187]
noncomputable def mkE (con : List (Nat × Con0)) : Env := ⟨[], tys, others, pairs, con⟩

set_option maxRecDepth 100000 in
theorem tyOK (con : List (Nat × Con0)) : TyOK Try.prog (mkE con) := tyOK_of (E := mkE con) (by kernel_rfl) (by kernel_rfl) (by kernel_rfl)

/-- L_szEqualLogS -/
def pk_L_szEqualLogS : List PK := [.data (.sl (.cons (.int .i64) (.cons (.int .i64) (.cons (.int .i64) (.one (.int .i64)))))), .data (.int .i64)]
def rk_L_szEqualLogS : List (Ty × Bool) := [((.int .i64), false)]
def h_L_szEqualLogS : Hints := { loops := [] }
noncomputable def M_L_szEqualLogS (x : ((List (Int × (Int × (Int × Int)))) × Int)) : (Option Int) :=
  (bindO (some (IntKind.wrap .i64 (x.2 - (((List.length x.1) : Nat) : Int)))) (fun (a0 : Int) => (cond (decide (a0 < (0 : Int))) (some (- (1 : Int))) (some a0))))

noncomputable def c_L_szEqualLogS : Con0 := ⟨pk_L_szEqualLogS, rk_L_szEqualLogS, M_L_szEqualLogS⟩

set_option maxRecDepth 100000 in
theorem eq_L_szEqualLogS (x : In pk_L_szEqualLogS) : semF (mkE []) h_L_szEqualLogS (info Try.f19) pk_L_szEqualLogS rk_L_szEqualLogS x = M_L_szEqualLogS x := by kernel_rfl

set_option maxRecDepth 100000 in
theorem m_L_szEqualLogS : ConOK Try.prog 19 c_L_szEqualLogS := fn_ok (tyOK _) (E := mkE []) (consOK_nil rfl) Try.func19 (h := h_L_szEqualLogS) (by kernel_rfl) eq_L_szEqualLogS

/-- L_szIntS -/
def pk_L_szIntS : List PK := [.data (.sl (.int .i64)), .data (.int .i64)]
def rk_L_szIntS : List (Ty × Bool) := [((.int .i64), false)]
def h_L_szIntS : Hints := { loops := [] }
noncomputable def M_L_szIntS (x : ((List Int) × Int)) : (Option Int) :=
  (bindO (some (IntKind.wrap .i64 (x.2 - (((List.length x.1) : Nat) : Int)))) (fun (a0 : Int) => (cond (decide (a0 < (0 : Int))) (some (- (1 : Int))) (some a0))))

noncomputable def c_L_szIntS : Con0 := ⟨pk_L_szIntS, rk_L_szIntS, M_L_szIntS⟩

set_option maxRecDepth 100000 in
theorem eq_L_szIntS (x : In pk_L_szIntS) : semF (mkE []) h_L_szIntS (info Try.f91) pk_L_szIntS rk_L_szIntS x = M_L_szIntS x := by kernel_rfl

set_option maxRecDepth 100000 in
theorem m_L_szIntS : ConOK Try.prog 91 c_L_szIntS := fn_ok (tyOK _) (E := mkE []) (consOK_nil rfl) Try.func91 (h := h_L_szIntS) (by kernel_rfl) eq_L_szIntS

/-- L_szProof -/
def pk_L_szProof : List PK := [.data (.cons (.sl (.int .i64)) (.cons (.sl (.int .i64)) (.one (.sl (.int .i64))))), .data (.int .i64)]
def rk_L_szProof : List (Ty × Bool) := [((.int .i64), false)]
def h_L_szProof : Hints := { loops := [] }
noncomputable def M_L_szProof (x : (((List Int) × ((List Int) × (List Int))) × Int)) : (Option Int) :=
  (bindO (M_L_szIntS (x.1.1, x.2)) (fun (a0 : Int) => (cond (decide (a0 < (0 : Int))) (some (- (1 : Int))) (bindO (M_L_szIntS (x.1.2.1, a0)) (fun (a1 : Int) => (cond (decide (a1 < (0 : Int))) (some (- (1 : Int))) (bindO (M_L_szIntS (x.1.2.2, a1)) (fun (a2 : Int) => (cond (decide (a2 < (0 : Int))) (some (- (1 : Int))) (some a2))))))))))

noncomputable def c_L_szProof : Con0 := ⟨pk_L_szProof, rk_L_szProof, M_L_szProof⟩

set_option maxRecDepth 100000 in
theorem eq_L_szProof (x : In pk_L_szProof) : semF (mkE [(91, c_L_szIntS)]) h_L_szProof (info Try.f52) pk_L_szProof rk_L_szProof x = M_L_szProof x := by kernel_rfl

set_option maxRecDepth 100000 in
theorem m_L_szProof : ConOK Try.prog 52 c_L_szProof := fn_ok (tyOK _) (E := mkE [(91, c_L_szIntS)]) (consOK_cons m_L_szIntS (consOK_nil rfl)) Try.func52 (h := h_L_szProof) (by kernel_rfl) eq_L_szProof

/-- L_szProofS -/
def pk_L_szProofS : List PK := [.data (.sl (.cons (.sl (.int .i64)) (.cons (.sl (.int .i64)) (.one (.sl (.int .i64)))))), .data (.int .i64)]
def rk_L_szProofS : List (Ty × Bool) := [((.int .i64), false)]
def h_L_szProofS : Hints := { loops := [(0, { items := [.slot 1 (.data (.int .i64) []), .slot 5 (.data (.int .i64) [])], kill := [2, 3, 4, 6, 7, 8, 9, 10, 11, 12, 13, 14, 15, 16, 17, 18, 19, 20, 21, 22, 23, 24, 25, 26] })] }
noncomputable def M_L_szProofS (x : ((List ((List Int) × ((List Int) × (List Int)))) × Int)) : (Option Int) :=
  (bindO (some (IntKind.wrap .i64 (x.2 - (((List.length x.1) : Nat) : Int)))) (fun (a0 : Int) => (cond (decide (a0 < (0 : Int))) (some (- (1 : Int))) (loopO (fun (again1 : ((Int × Int) → (Option Int))) => (fun (s2 : (Int × Int)) => (cond (decide (s2.2 < (((List.length x.1) : Nat) : Int))) (bindO (getI x.1 s2.2) (fun (a3 : ((List Int) × ((List Int) × (List Int)))) => (bindO (M_L_szProof ((a3.1, (a3.2.1, a3.2.2)), s2.1)) (fun (a4 : Int) => (cond (decide (a4 < (0 : Int))) (some (- (1 : Int))) (bindO (some (IntKind.wrap .i64 (s2.2 + (1 : Int)))) (fun (a5 : Int) => (again1 (a4, a5))))))))) (some s2.1)))) (a0, (0 : Int))))))

noncomputable def c_L_szProofS : Con0 := ⟨pk_L_szProofS, rk_L_szProofS, M_L_szProofS⟩

set_option maxRecDepth 100000 in
theorem eq_L_szProofS (x : In pk_L_szProofS) : semF (mkE [(52, c_L_szProof)]) h_L_szProofS (info Try.f20) pk_L_szProofS rk_L_szProofS x = M_L_szProofS x := by kernel_rfl

set_option maxRecDepth 100000 in
theorem m_L_szProofS : ConOK Try.prog 20 c_L_szProofS := fn_ok (tyOK _) (E := mkE [(52, c_L_szProof)]) (consOK_cons m_L_szProof (consOK_nil rfl)) Try.func20 (h := h_L_szProofS) (by kernel_rfl) eq_L_szProofS

/-- L_toGroup -/
def pk_L_toGroup : List PK := [.data (.cons (.int .i64) (.cons (.int .i64) (.one (.int .i64))))]
def rk_L_toGroup : List (Ty × Bool) := [((.cons (.int .i64) (.cons (.int .i64) (.one (.int .i64)))), false)]
def h_L_toGroup : Hints := { loops := [] }
noncomputable def M_L_toGroup (x : (Int × (Int × Int))) : (Option (Int × (Int × Int))) :=
  (some (x.1, (x.2.1, x.2.2)))

noncomputable def c_L_toGroup : Con0 := ⟨pk_L_toGroup, rk_L_toGroup, M_L_toGroup⟩

set_option maxRecDepth 100000 in
theorem eq_L_toGroup (x : In pk_L_toGroup) : semF (mkE []) h_L_toGroup (info Try.f9) pk_L_toGroup rk_L_toGroup x = M_L_toGroup x := by kernel_rfl

set_option maxRecDepth 100000 in
theorem m_L_toGroup : ConOK Try.prog 9 c_L_toGroup := fn_ok (tyOK _) (E := mkE []) (consOK_nil rfl) Try.func9 (h := h_L_toGroup) (by kernel_rfl) eq_L_toGroup

/-- L_toEqualLog -/
def pk_L_toEqualLog : List PK := [.data (.cons (.int .i64) (.cons (.int .i64) (.cons (.int .i64) (.one (.int .i64)))))]
def rk_L_toEqualLog : List (Ty × Bool) := [((.cons (.int .i64) (.cons (.int .i64) (.cons (.int .i64) (.one (.int .i64))))), false)]
def h_L_toEqualLog : Hints := { loops := [] }
noncomputable def M_L_toEqualLog (x : (Int × (Int × (Int × Int)))) : (Option (Int × (Int × (Int × Int)))) :=
  (some (x.1, (x.2.1, (x.2.2.1, x.2.2.2))))

noncomputable def c_L_toEqualLog : Con0 := ⟨pk_L_toEqualLog, rk_L_toEqualLog, M_L_toEqualLog⟩

set_option maxRecDepth 100000 in
theorem eq_L_toEqualLog (x : In pk_L_toEqualLog) : semF (mkE []) h_L_toEqualLog (info Try.f55) pk_L_toEqualLog rk_L_toEqualLog x = M_L_toEqualLog x := by kernel_rfl

set_option maxRecDepth 100000 in
theorem m_L_toEqualLog : ConOK Try.prog 55 c_L_toEqualLog := fn_ok (tyOK _) (E := mkE []) (consOK_nil rfl) Try.func55 (h := h_L_toEqualLog) (by kernel_rfl) eq_L_toEqualLog

/-- L_toEqualLogS -/
def pk_L_toEqualLogS : List PK := [.data (.sl (.cons (.int .i64) (.cons (.int .i64) (.cons (.int .i64) (.one (.int .i64))))))]
def rk_L_toEqualLogS : List (Ty × Bool) := [((.sl (.cons (.int .i64) (.cons (.int .i64) (.cons (.int .i64) (.one (.int .i64)))))), true)]
def h_L_toEqualLogS : Hints := { loops := [(0, { items := [.slot 4 (.data (.int .i64) []), .arr 3 (.cons (.int .i64) (.cons (.int .i64) (.cons (.int .i64) (.one (.int .i64))))) true], kill := [1, 2, 5, 6, 7, 8, 9, 10, 11, 12, 13, 14, 15, 16, 17, 18, 19, 20, 21, 22] })] }
noncomputable def M_L_toEqualLogS (x : (List (Int × (Int × (Int × Int))))) : (Option (List (Int × (Int × (Int × Int))))) :=
  (bindO (guardO (((decide ((0 : Int) ≤ (((List.length x) : Nat) : Int))) && (decide ((((List.length x) : Nat) : Int) ≤ (((List.length x) : Nat) : Int)))) && (decide ((((List.length x) : Nat) : Int) ≤ ((lim : Nat) : Int))))) (fun (a0 : Unit) => (loopO (fun (again1 : ((Int × (List (Int × (Int × (Int × Int))))) → (Option (List (Int × (Int × (Int × Int))))))) => (fun (s2 : (Int × (List (Int × (Int × (Int × Int)))))) => (cond (decide (s2.1 < (((List.length x) : Nat) : Int))) (bindO (getI x s2.1) (fun (a3 : (Int × (Int × (Int × Int)))) => (bindO (M_L_toEqualLog (a3.1, (a3.2.1, (a3.2.2.1, a3.2.2.2)))) (fun (a4 : (Int × (Int × (Int × Int)))) => (bindO (getI s2.2 s2.1) (fun (a5 : (Int × (Int × (Int × Int)))) => (bindO (some (List.set s2.2 (Int.toNat s2.1) (a4.1, (a4.2.1, (a4.2.2.1, a4.2.2.2))))) (fun (a6 : (List (Int × (Int × (Int × Int))))) => (bindO (some (IntKind.wrap .i64 (s2.1 + (1 : Int)))) (fun (a7 : Int) => (again1 (a7, a6)))))))))))) (some s2.2)))) ((0 : Int), (List.replicate (Int.toNat (((List.length x) : Nat) : Int)) ((0 : Int), ((0 : Int), ((0 : Int), (0 : Int)))))))))

noncomputable def c_L_toEqualLogS : Con0 := ⟨pk_L_toEqualLogS, rk_L_toEqualLogS, M_L_toEqualLogS⟩

set_option maxRecDepth 100000 in
theorem eq_L_toEqualLogS (x : In pk_L_toEqualLogS) : semF (mkE [(55, c_L_toEqualLog)]) h_L_toEqualLogS (info Try.f22) pk_L_toEqualLogS rk_L_toEqualLogS x = M_L_toEqualLogS x := by kernel_rfl

set_option maxRecDepth 100000 in
theorem m_L_toEqualLogS : ConOK Try.prog 22 c_L_toEqualLogS := fn_ok (tyOK _) (E := mkE [(55, c_L_toEqualLog)]) (consOK_cons m_L_toEqualLog (consOK_nil rfl)) Try.func22 (h := h_L_toEqualLogS) (by kernel_rfl) eq_L_toEqualLogS

/-- L_toIntS -/
def pk_L_toIntS : List PK := [.data (.sl (.int .i64))]
def rk_L_toIntS : List (Ty × Bool) := [((.sl (.int .i64)), true)]
def h_L_toIntS : Hints := { loops := [(0, { items := [.slot 4 (.data (.int .i64) []), .arr 3 (.int .i64) true], kill := [1, 2, 5, 6, 7, 8, 9, 10, 11, 12, 13, 14, 15, 16, 17, 18, 19, 20, 21] })] }
noncomputable def M_L_toIntS (x : (List Int)) : (Option (List Int)) :=
  (bindO (guardO (((decide ((0 : Int) ≤ (((List.length x) : Nat) : Int))) && (decide ((((List.length x) : Nat) : Int) ≤ (((List.length x) : Nat) : Int)))) && (decide ((((List.length x) : Nat) : Int) ≤ ((lim : Nat) : Int))))) (fun (a0 : Unit) => (loopO (fun (again1 : ((Int × (List Int)) → (Option (List Int)))) => (fun (s2 : (Int × (List Int))) => (cond (decide (s2.1 < (((List.length x) : Nat) : Int))) (bindO (getI x s2.1) (fun (a3 : Int) => (bindO (getI s2.2 s2.1) (fun (a4 : Int) => (bindO (some (List.set s2.2 (Int.toNat s2.1) a3)) (fun (a5 : (List Int)) => (bindO (some (IntKind.wrap .i64 (s2.1 + (1 : Int)))) (fun (a6 : Int) => (again1 (a6, a5)))))))))) (some s2.2)))) ((0 : Int), (List.replicate (Int.toNat (((List.length x) : Nat) : Int)) (0 : Int))))))

noncomputable def c_L_toIntS : Con0 := ⟨pk_L_toIntS, rk_L_toIntS, M_L_toIntS⟩

set_option maxRecDepth 100000 in
theorem eq_L_toIntS (x : In pk_L_toIntS) : semF (mkE []) h_L_toIntS (info Try.f101) pk_L_toIntS rk_L_toIntS x = M_L_toIntS x := by kernel_rfl

set_option maxRecDepth 100000 in
theorem m_L_toIntS : ConOK Try.prog 101 c_L_toIntS := fn_ok (tyOK _) (E := mkE []) (consOK_nil rfl) Try.func101 (h := h_L_toIntS) (by kernel_rfl) eq_L_toIntS

/-- L_toProof -/
def pk_L_toProof : List PK := [.data (.cons (.sl (.int .i64)) (.cons (.sl (.int .i64)) (.one (.sl (.int .i64)))))]
def rk_L_toProof : List (Ty × Bool) := [((.cons (.sl (.int .i64)) (.cons (.sl (.int .i64)) (.one (.sl (.int .i64))))), true)]
def h_L_toProof : Hints := { loops := [] }
noncomputable def M_L_toProof (x : ((List Int) × ((List Int) × (List Int)))) : (Option ((List Int) × ((List Int) × (List Int)))) :=
  (bindO (M_L_toIntS x.1) (fun (a0 : (List Int)) => (bindO (M_L_toIntS x.2.1) (fun (a1 : (List Int)) => (bindO (M_L_toIntS x.2.2) (fun (a2 : (List Int)) => (some (a0, (a1, a2)))))))))

noncomputable def c_L_toProof : Con0 := ⟨pk_L_toProof, rk_L_toProof, M_L_toProof⟩

set_option maxRecDepth 100000 in
theorem eq_L_toProof (x : In pk_L_toProof) : semF (mkE [(101, c_L_toIntS)]) h_L_toProof (info Try.f56) pk_L_toProof rk_L_toProof x = M_L_toProof x := by kernel_rfl

set_option maxRecDepth 100000 in
theorem m_L_toProof : ConOK Try.prog 56 c_L_toProof := fn_ok (tyOK _) (E := mkE [(101, c_L_toIntS)]) (consOK_cons m_L_toIntS (consOK_nil rfl)) Try.func56 (h := h_L_toProof) (by kernel_rfl) eq_L_toProof

/-- L_toProofS -/
def pk_L_toProofS : List PK := [.data (.sl (.cons (.sl (.int .i64)) (.cons (.sl (.int .i64)) (.one (.sl (.int .i64))))))]
def rk_L_toProofS : List (Ty × Bool) := [((.sl (.cons (.sl (.int .i64)) (.cons (.sl (.int .i64)) (.one (.sl (.int .i64)))))), true)]
def h_L_toProofS : Hints := { loops := [(0, { items := [.slot 4 (.data (.int .i64) []), .arr 3 (.cons (.sl (.int .i64)) (.cons (.sl (.int .i64)) (.one (.sl (.int .i64))))) true], kill := [1, 2, 5, 6, 7, 8, 9, 10, 11, 12, 13, 14, 15, 16, 17, 18, 19, 20, 21, 22] })] }
noncomputable def M_L_toProofS (x : (List ((List Int) × ((List Int) × (List Int))))) : (Option (List ((List Int) × ((List Int) × (List Int))))) :=
  (bindO (guardO (((decide ((0 : Int) ≤ (((List.length x) : Nat) : Int))) && (decide ((((List.length x) : Nat) : Int) ≤ (((List.length x) : Nat) : Int)))) && (decide ((((List.length x) : Nat) : Int) ≤ ((lim : Nat) : Int))))) (fun (a0 : Unit) => (loopO (fun (again1 : ((Int × (List ((List Int) × ((List Int) × (List Int))))) → (Option (List ((List Int) × ((List Int) × (List Int))))))) => (fun (s2 : (Int × (List ((List Int) × ((List Int) × (List Int)))))) => (cond (decide (s2.1 < (((List.length x) : Nat) : Int))) (bindO (getI x s2.1) (fun (a3 : ((List Int) × ((List Int) × (List Int)))) => (bindO (M_L_toProof (a3.1, (a3.2.1, a3.2.2))) (fun (a4 : ((List Int) × ((List Int) × (List Int)))) => (bindO (getI s2.2 s2.1) (fun (a5 : ((List Int) × ((List Int) × (List Int)))) => (bindO (some (List.set s2.2 (Int.toNat s2.1) (a4.1, (a4.2.1, a4.2.2)))) (fun (a6 : (List ((List Int) × ((List Int) × (List Int))))) => (bindO (some (IntKind.wrap .i64 (s2.1 + (1 : Int)))) (fun (a7 : Int) => (again1 (a7, a6)))))))))))) (some s2.2)))) ((0 : Int), (List.replicate (Int.toNat (((List.length x) : Nat) : Int)) (([] : List Int), (([] : List Int), ([] : List Int))))))))

noncomputable def c_L_toProofS : Con0 := ⟨pk_L_toProofS, rk_L_toProofS, M_L_toProofS⟩

set_option maxRecDepth 100000 in
theorem eq_L_toProofS (x : In pk_L_toProofS) : semF (mkE [(56, c_L_toProof)]) h_L_toProofS (info Try.f23) pk_L_toProofS rk_L_toProofS x = M_L_toProofS x := by kernel_rfl

set_option maxRecDepth 100000 in
theorem m_L_toProofS : ConOK Try.prog 23 c_L_toProofS := fn_ok (tyOK _) (E := mkE [(56, c_L_toProof)]) (consOK_cons m_L_toProof (consOK_nil rfl)) Try.func23 (h := h_L_toProofS) (by kernel_rfl) eq_L_toProofS

/-- S_l1In -/
def pk_S_l1In : List PK := [.data (.int .i64), .data (.int .i64), .data (.int .i64)]
def rk_S_l1In : List (Ty × Bool) := [(.bool, false)]
def h_S_l1In : Hints := { loops := [] }
noncomputable def M_S_l1In (x : (Int × (Int × Int))) : (Option Bool) :=
  (cond (decide (x.1 ≥ x.2.1)) (some (decide (x.1 ≤ x.2.2))) (some false))

noncomputable def c_S_l1In : Con0 := ⟨pk_S_l1In, rk_S_l1In, M_S_l1In⟩

set_option maxRecDepth 100000 in
theorem eq_S_l1In (x : In pk_S_l1In) : semF (mkE []) h_S_l1In (info Try.f75) pk_S_l1In rk_S_l1In x = M_S_l1In x := by kernel_rfl

set_option maxRecDepth 100000 in
theorem m_S_l1In : ConOK Try.prog 75 c_S_l1In := fn_ok (tyOK _) (E := mkE []) (consOK_nil rfl) Try.func75 (h := h_S_l1In) (by kernel_rfl) eq_S_l1In

/-- S_nPower -/
def pk_S_nPower : List PK := [.data (.int .i64), .data (.int .i64), .data (.int .i64)]
def rk_S_nPower : List (Ty × Bool) := [((.int .i64), false)]
def h_S_nPower : Hints := { loops := [(0, { items := [.slot 0 (.data (.int .i64) []), .slot 1 (.data (.int .i64) []), .slot 7 (.data (.int .i64) [])], kill := [3, 4, 5, 6, 8, 9, 10, 11, 12, 13, 14, 15, 16, 17, 18, 19, 20, 21, 22, 23, 24, 25, 26, 27] })] }
noncomputable def M_S_nPower (x : (Int × (Int × Int))) : (Option Int) :=
  (bindO (guardO (x.2.2 != (0 : Int))) (fun (a0 : Unit) => (bindO (some (Int.tmod (1 : Int) x.2.2)) (fun (a1 : Int) => (loopO (fun (again2 : ((Int × (Int × Int)) → (Option Int))) => (fun (s3 : (Int × (Int × Int))) => (cond (decide (s3.2.1 > (0 : Int))) (bindO (guardO ((2 : Int) != (0 : Int))) (fun (a4 : Unit) => (bindO (some (Int.tmod s3.2.1 (2 : Int))) (fun (a5 : Int) => (cond (a5 == (1 : Int)) (bindO (some (IntKind.wrap .i64 (s3.2.2 * s3.1))) (fun (a6 : Int) => (bindO (guardO (x.2.2 != (0 : Int))) (fun (a7 : Unit) => (bindO (some (Int.tmod a6 x.2.2)) (fun (a8 : Int) => (bindO (some (IntKind.wrap .i64 (s3.1 * s3.1))) (fun (a9 : Int) => (bindO (guardO (x.2.2 != (0 : Int))) (fun (a10 : Unit) => (bindO (some (Int.tmod a9 x.2.2)) (fun (a11 : Int) => (bindO (guardO ((2 : Int) != (0 : Int))) (fun (a12 : Unit) => (bindO (some (IntKind.wrap .i64 (Int.tdiv s3.2.1 (2 : Int)))) (fun (a13 : Int) => (again2 (a11, (a13, a8))))))))))))))))))) (bindO (some (IntKind.wrap .i64 (s3.1 * s3.1))) (fun (a14 : Int) => (bindO (guardO (x.2.2 != (0 : Int))) (fun (a15 : Unit) => (bindO (some (Int.tmod a14 x.2.2)) (fun (a16 : Int) => (bindO (guardO ((2 : Int) != (0 : Int))) (fun (a17 : Unit) => (bindO (some (IntKind.wrap .i64 (Int.tdiv s3.2.1 (2 : Int)))) (fun (a18 : Int) => (again2 (a16, (a18, s3.2.2)))))))))))))))))) (some s3.2.2)))) (x.1, (x.2.1, a1)))))))

noncomputable def c_S_nPower : Con0 := ⟨pk_S_nPower, rk_S_nPower, M_S_nPower⟩

set_option maxRecDepth 100000 in
theorem eq_S_nPower (x : In pk_S_nPower) : semF (mkE []) h_S_nPower (info Try.f76) pk_S_nPower rk_S_nPower x = M_S_nPower x := by kernel_rfl

set_option maxRecDepth 100000 in
theorem m_S_nPower : ConOK Try.prog 76 c_S_nPower := fn_ok (tyOK _) (E := mkE []) (consOK_nil rfl) Try.func76 (h := h_S_nPower) (by kernel_rfl) eq_S_nPower

/-- S_nPrime -/
def pk_S_nPrime : List PK := [.data (.int .i64)]
def rk_S_nPrime : List (Ty × Bool) := [(.bool, false)]
def h_S_nPrime : Hints := { loops := [(0, { items := [.slot 3 (.data (.int .i64) [])], kill := [1, 2, 4, 5, 6, 7, 8, 9, 10, 11, 12, 13, 14, 15, 16] })] }
noncomputable def M_S_nPrime (x : Int) : (Option Bool) :=
  (cond (decide (x < (2 : Int))) (some false) (loopO (fun (again0 : (Int → (Option Bool))) => (fun (s1 : Int) => (bindO (some (IntKind.wrap .i64 (s1 * s1))) (fun (a2 : Int) => (cond (decide (a2 ≤ x)) (bindO (guardO (s1 != (0 : Int))) (fun (a3 : Unit) => (bindO (some (Int.tmod x s1)) (fun (a4 : Int) => (cond (a4 == (0 : Int)) (some false) (bindO (some (IntKind.wrap .i64 (s1 + (1 : Int)))) (fun (a5 : Int) => (again0 a5)))))))) (some true)))))) (2 : Int)))

noncomputable def c_S_nPrime : Con0 := ⟨pk_S_nPrime, rk_S_nPrime, M_S_nPrime⟩

set_option maxRecDepth 100000 in
theorem eq_S_nPrime (x : In pk_S_nPrime) : semF (mkE []) h_S_nPrime (info Try.f77) pk_S_nPrime rk_S_nPrime x = M_S_nPrime x := by kernel_rfl

set_option maxRecDepth 100000 in
theorem m_S_nPrime : ConOK Try.prog 77 c_S_nPrime := fn_ok (tyOK _) (E := mkE []) (consOK_nil rfl) Try.func77 (h := h_S_nPrime) (by kernel_rfl) eq_S_nPrime

/-- S_l2Good -/
def pk_S_l2Good : List PK := [.data (.cons (.int .i64) (.cons (.int .i64) (.one (.int .i64))))]
def rk_S_l2Good : List (Ty × Bool) := [(.bool, false)]
def h_S_l2Good : Hints := { loops := [] }
noncomputable def M_S_l2Good (x : (Int × (Int × Int))) : (Option Bool) :=
  (bindO (M_S_l1In (x.1, ((3 : Int), (2000000000 : Int)))) (fun (a0 : Bool) => (cond a0 (bindO (some (IntKind.wrap .i64 (x.1 - (1 : Int)))) (fun (a1 : Int) => (bindO (M_S_l1In (x.2.1, ((2 : Int), a1))) (fun (a2 : Bool) => (cond a2 (bindO (some (IntKind.wrap .i64 (x.1 - (1 : Int)))) (fun (a3 : Int) => (bindO (guardO (x.2.1 != (0 : Int))) (fun (a4 : Unit) => (bindO (some (Int.tmod a3 x.2.1)) (fun (a5 : Int) => (cond (a5 == (0 : Int)) (bindO (some (IntKind.wrap .i64 (x.1 - (1 : Int)))) (fun (a6 : Int) => (bindO (M_S_l1In (x.2.2, ((2 : Int), a6))) (fun (a7 : Bool) => (cond a7 (bindO (M_S_nPower (x.2.2, (x.2.1, x.1))) (fun (a8 : Int) => (cond (a8 == (1 : Int)) (bindO (M_S_nPrime x.2.1) (fun (a9 : Bool) => (cond a9 (bindO (M_S_nPrime x.1) (fun (a10 : Bool) => (some a10))) (some false)))) (some false)))) (some false)))))) (some false)))))))) (some false)))))) (some false))))

noncomputable def c_S_l2Good : Con0 := ⟨pk_S_l2Good, rk_S_l2Good, M_S_l2Good⟩

set_option maxRecDepth 100000 in
theorem eq_S_l2Good (x : In pk_S_l2Good) : semF (mkE [(75, c_S_l1In), (76, c_S_nPower), (77, c_S_nPrime)]) h_S_l2Good (info Try.f42) pk_S_l2Good rk_S_l2Good x = M_S_l2Good x := by kernel_rfl

set_option maxRecDepth 100000 in
theorem m_S_l2Good : ConOK Try.prog 42 c_S_l2Good := fn_ok (tyOK _) (E := mkE [(75, c_S_l1In), (76, c_S_nPower), (77, c_S_nPrime)]) (consOK_cons m_S_l1In (consOK_cons m_S_nPower (consOK_cons m_S_nPrime (consOK_nil rfl)))) Try.func42 (h := h_S_l2Good) (by kernel_rfl) eq_S_l2Good

/-- S_sLabel -/
def pk_S_sLabel : List PK := [.data (.cons (.int .i64) (.cons (.int .i64) (.one (.int .i64)))), .data .str]
def rk_S_sLabel : List (Ty × Bool) := [(.bool, false)]
def h_S_sLabel : Hints := { loops := [] }
noncomputable def M_S_sLabel (x : ((Int × (Int × Int)) × ByteArray)) : (Option Bool) :=
  (bindO (M_S_l2Good (x.1.1, (x.1.2.1, x.1.2.2))) (fun (a0 : Bool) => (cond a0 (some (decide ((((ByteArray.size x.2) : Nat) : Int) ≤ (40 : Int)))) (some false))))

noncomputable def c_S_sLabel : Con0 := ⟨pk_S_sLabel, rk_S_sLabel, M_S_sLabel⟩

set_option maxRecDepth 100000 in
theorem eq_S_sLabel (x : In pk_S_sLabel) : semF (mkE [(42, c_S_l2Good)]) h_S_sLabel (info Try.f92) pk_S_sLabel rk_S_sLabel x = M_S_sLabel x := by kernel_rfl

set_option maxRecDepth 100000 in
theorem m_S_sLabel : ConOK Try.prog 92 c_S_sLabel := fn_ok (tyOK _) (E := mkE [(42, c_S_l2Good)]) (consOK_cons m_S_l2Good (consOK_nil rfl)) Try.func92 (h := h_S_sLabel) (by kernel_rfl) eq_S_sLabel

/-- S_gIs -/
def pk_S_gIs : List PK := [.data (.cons (.int .i64) (.cons (.int .i64) (.one (.int .i64)))), .data (.sl (.int .i64))]
def rk_S_gIs : List (Ty × Bool) := [(.bool, false)]
def h_S_gIs : Hints := { loops := [(0, { items := [.slot 9 (.data (.int .i64) [])], kill := [0, 1, 3, 4, 5, 6, 10, 11, 12, 13, 14, 15, 16, 17, 18, 19, 20, 21, 22, 23, 24, 25, 26, 27, 28] })] }
noncomputable def M_S_gIs (x : ((Int × (Int × Int)) × (List Int))) : (Option Bool) :=
  (loopO (fun (again0 : (Int → (Option Bool))) => (fun (s1 : Int) => (cond (decide (s1 < (((List.length x.2) : Nat) : Int))) (bindO (getI x.2 s1) (fun (a2 : Int) => (bindO (some (IntKind.wrap .i64 (x.1.1 - (1 : Int)))) (fun (a3 : Int) => (bindO (M_S_l1In (a2, ((1 : Int), a3))) (fun (a4 : Bool) => (cond (not a4) (some false) (bindO (M_S_nPower (a2, (x.1.2.1, x.1.1))) (fun (a5 : Int) => (cond (a5 != (1 : Int)) (some false) (bindO (some (IntKind.wrap .i64 (s1 + (1 : Int)))) (fun (a6 : Int) => (again0 a6))))))))))))) (some true)))) (0 : Int))

noncomputable def c_S_gIs : Con0 := ⟨pk_S_gIs, rk_S_gIs, M_S_gIs⟩

set_option maxRecDepth 100000 in
theorem eq_S_gIs (x : In pk_S_gIs) : semF (mkE [(75, c_S_l1In), (76, c_S_nPower)]) h_S_gIs (info Try.f78) pk_S_gIs rk_S_gIs x = M_S_gIs x := by kernel_rfl

set_option maxRecDepth 100000 in
theorem m_S_gIs : ConOK Try.prog 78 c_S_gIs := fn_ok (tyOK _) (E := mkE [(75, c_S_l1In), (76, c_S_nPower)]) (consOK_cons m_S_l1In (consOK_cons m_S_nPower (consOK_nil rfl))) Try.func78 (h := h_S_gIs) (by kernel_rfl) eq_S_gIs

/-- S_sElements -/
def pk_S_sElements : List PK := [.data (.cons (.int .i64) (.cons (.int .i64) (.one (.int .i64)))), .data (.cons (.int .i64) (.cons (.int .i64) (.cons (.int .i64) (.one (.int .i64)))))]
def rk_S_sElements : List (Ty × Bool) := [(.bool, false)]
def h_S_sElements : Hints := { loops := [] }
noncomputable def M_S_sElements (x : ((Int × (Int × Int)) × (Int × (Int × (Int × Int))))) : (Option Bool) :=
  (bindO (M_S_gIs ((x.1.1, (x.1.2.1, x.1.2.2)), (x.2.1 :: (x.2.2.1 :: (x.2.2.2.1 :: (x.2.2.2.2 :: ([] : List Int))))))) (fun (a0 : Bool) => (some a0)))

noncomputable def c_S_sElements : Con0 := ⟨pk_S_sElements, rk_S_sElements, M_S_sElements⟩

set_option maxRecDepth 100000 in
theorem eq_S_sElements (x : In pk_S_sElements) : semF (mkE [(78, c_S_gIs)]) h_S_sElements (info Try.f93) pk_S_sElements rk_S_sElements x = M_S_sElements x := by kernel_rfl

set_option maxRecDepth 100000 in
theorem m_S_sElements : ConOK Try.prog 93 c_S_sElements := fn_ok (tyOK _) (E := mkE [(78, c_S_gIs)]) (consOK_cons m_S_gIs (consOK_nil rfl)) Try.func93 (h := h_S_sElements) (by kernel_rfl) eq_S_sElements

/-- S_wStatements -/
def pk_S_wStatements : List PK := [.data (.cons (.int .i64) (.cons (.int .i64) (.one (.int .i64)))), .data .str, .data (.sl (.cons (.int .i64) (.cons (.int .i64) (.cons (.int .i64) (.one (.int .i64)))))), .data (.sl (.cons (.sl (.int .i64)) (.cons (.sl (.int .i64)) (.one (.sl (.int .i64))))))]
def rk_S_wStatements : List (Ty × Bool) := [(.bool, false)]
def h_S_wStatements : Hints := { loops := [(0, { items := [.slot 29 (.data (.int .i64) [])], kill := [0, 1, 2, 3, 5, 6, 7, 8, 9, 10, 11, 12, 13, 14, 15, 16, 17, 18, 19, 20, 21, 22, 23, 24, 25, 26, 30, 31, 32, 33, 34, 35, 36, 37] })] }
noncomputable def M_S_wStatements (x : ((Int × (Int × Int)) × (ByteArray × ((List (Int × (Int × (Int × Int)))) × (List ((List Int) × ((List Int) × (List Int)))))))) : (Option Bool) :=
  (bindO (M_S_sLabel ((x.1.1, (x.1.2.1, x.1.2.2)), x.2.1)) (fun (a0 : Bool) => (cond (not a0) (some false) (cond (decide ((((List.length x.2.2.1) : Nat) : Int) > (12 : Int))) (some false) (cond ((((List.length x.2.2.2) : Nat) : Int) != (((List.length x.2.2.1) : Nat) : Int)) (some false) (loopO (fun (again1 : (Int → (Option Bool))) => (fun (s2 : Int) => (cond (decide (s2 < (((List.length x.2.2.1) : Nat) : Int))) (bindO (getI x.2.2.1 s2) (fun (a3 : (Int × (Int × (Int × Int)))) => (bindO (M_S_sElements ((x.1.1, (x.1.2.1, x.1.2.2)), (a3.1, (a3.2.1, (a3.2.2.1, a3.2.2.2))))) (fun (a4 : Bool) => (cond (not a4) (some false) (bindO (some (IntKind.wrap .i64 (s2 + (1 : Int)))) (fun (a5 : Int) => (again1 a5)))))))) (some true)))) (0 : Int)))))))

noncomputable def c_S_wStatements : Con0 := ⟨pk_S_wStatements, rk_S_wStatements, M_S_wStatements⟩

set_option maxRecDepth 100000 in
theorem eq_S_wStatements (x : In pk_S_wStatements) : semF (mkE [(92, c_S_sLabel), (93, c_S_sElements)]) h_S_wStatements (info Try.f53) pk_S_wStatements rk_S_wStatements x = M_S_wStatements x := by kernel_rfl

set_option maxRecDepth 100000 in
theorem m_S_wStatements : ConOK Try.prog 53 c_S_wStatements := fn_ok (tyOK _) (E := mkE [(92, c_S_sLabel), (93, c_S_sElements)]) (consOK_cons m_S_sLabel (consOK_cons m_S_sElements (consOK_nil rfl))) Try.func53 (h := h_S_wStatements) (by kernel_rfl) eq_S_wStatements

/-- S_l1All -/
def pk_S_l1All : List PK := [.data (.sl (.int .i64)), .data (.int .i64), .data (.int .i64)]
def rk_S_l1All : List (Ty × Bool) := [(.bool, false)]
def h_S_l1All : Hints := { loops := [(0, { items := [.slot 11 (.data (.int .i64) [])], kill := [0, 3, 4, 5, 6, 7, 8, 12, 13, 14, 15, 16, 17, 18, 19, 20] })] }
noncomputable def M_S_l1All (x : ((List Int) × (Int × Int))) : (Option Bool) :=
  (loopO (fun (again0 : (Int → (Option Bool))) => (fun (s1 : Int) => (cond (decide (s1 < (((List.length x.1) : Nat) : Int))) (bindO (getI x.1 s1) (fun (a2 : Int) => (bindO (M_S_l1In (a2, (x.2.1, x.2.2))) (fun (a3 : Bool) => (cond (not a3) (some false) (bindO (some (IntKind.wrap .i64 (s1 + (1 : Int)))) (fun (a4 : Int) => (again0 a4)))))))) (some true)))) (0 : Int))

noncomputable def c_S_l1All : Con0 := ⟨pk_S_l1All, rk_S_l1All, M_S_l1All⟩

set_option maxRecDepth 100000 in
theorem eq_S_l1All (x : In pk_S_l1All) : semF (mkE [(75, c_S_l1In)]) h_S_l1All (info Try.f148) pk_S_l1All rk_S_l1All x = M_S_l1All x := by kernel_rfl

set_option maxRecDepth 100000 in
theorem m_S_l1All : ConOK Try.prog 148 c_S_l1All := fn_ok (tyOK _) (E := mkE [(75, c_S_l1In)]) (consOK_cons m_S_l1In (consOK_nil rfl)) Try.func148 (h := h_S_l1All) (by kernel_rfl) eq_S_l1All

/-- S_gExps -/
def pk_S_gExps : List PK := [.data (.cons (.int .i64) (.cons (.int .i64) (.one (.int .i64)))), .data (.sl (.int .i64))]
def rk_S_gExps : List (Ty × Bool) := [(.bool, false)]
def h_S_gExps : Hints := { loops := [] }
noncomputable def M_S_gExps (x : ((Int × (Int × Int)) × (List Int))) : (Option Bool) :=
  (bindO (some (IntKind.wrap .i64 (x.1.2.1 - (1 : Int)))) (fun (a0 : Int) => (bindO (M_S_l1All (x.2, ((0 : Int), a0))) (fun (a1 : Bool) => (some a1)))))

noncomputable def c_S_gExps : Con0 := ⟨pk_S_gExps, rk_S_gExps, M_S_gExps⟩

set_option maxRecDepth 100000 in
theorem eq_S_gExps (x : In pk_S_gExps) : semF (mkE [(148, c_S_l1All)]) h_S_gExps (info Try.f127) pk_S_gExps rk_S_gExps x = M_S_gExps x := by kernel_rfl

set_option maxRecDepth 100000 in
theorem m_S_gExps : ConOK Try.prog 127 c_S_gExps := fn_ok (tyOK _) (E := mkE [(148, c_S_l1All)]) (consOK_cons m_S_l1All (consOK_nil rfl)) Try.func127 (h := h_S_gExps) (by kernel_rfl) eq_S_gExps

/-- S_l9Form -/
def pk_S_l9Form : List PK := [.data (.cons (.int .i64) (.cons (.int .i64) (.one (.int .i64)))), .data (.cons (.sl (.int .i64)) (.cons (.sl (.int .i64)) (.one (.sl (.int .i64))))), .data (.int .i64), .data (.int .i64), .data (.int .i64)]
def rk_S_l9Form : List (Ty × Bool) := [(.bool, false)]
def h_S_l9Form : Hints := { loops := [] }
noncomputable def M_S_l9Form (x : ((Int × (Int × Int)) × (((List Int) × ((List Int) × (List Int))) × (Int × (Int × Int))))) : (Option Bool) :=
  (cond ((((List.length x.2.1.1) : Nat) : Int) == x.2.2.1) (cond ((((List.length x.2.1.2.1) : Nat) : Int) == x.2.2.2.1) (cond ((((List.length x.2.1.2.2) : Nat) : Int) == x.2.2.2.2) (bindO (M_S_gIs ((x.1.1, (x.1.2.1, x.1.2.2)), x.2.1.1)) (fun (a0 : Bool) => (cond a0 (bindO (M_S_gExps ((x.1.1, (x.1.2.1, x.1.2.2)), x.2.1.2.1)) (fun (a1 : Bool) => (cond a1 (bindO (M_S_gExps ((x.1.1, (x.1.2.1, x.1.2.2)), x.2.1.2.2)) (fun (a2 : Bool) => (some a2))) (some false)))) (some false)))) (some false)) (some false)) (some false))

noncomputable def c_S_l9Form : Con0 := ⟨pk_S_l9Form, rk_S_l9Form, M_S_l9Form⟩

set_option maxRecDepth 100000 in
theorem eq_S_l9Form (x : In pk_S_l9Form) : semF (mkE [(78, c_S_gIs), (127, c_S_gExps)]) h_S_l9Form (info Try.f94) pk_S_l9Form rk_S_l9Form x = M_S_l9Form x := by kernel_rfl

set_option maxRecDepth 100000 in
theorem m_S_l9Form : ConOK Try.prog 94 c_S_l9Form := fn_ok (tyOK _) (E := mkE [(78, c_S_gIs), (127, c_S_gExps)]) (consOK_cons m_S_gIs (consOK_cons m_S_gExps (consOK_nil rfl))) Try.func94 (h := h_S_l9Form) (by kernel_rfl) eq_S_l9Form

/-- S_l3With -/
def pk_S_l3With : List PK := [.data .str, .data (.sl (.int .i64))]
def rk_S_l3With : List (Ty × Bool) := [((.sl (.int .i64)), true)]
def h_S_l3With : Hints := { loops := [(0, { items := [.slot 5 (.own (.int .i64) true), .slot 6 (.data (.int .i64) [])], kill := [2, 3, 4, 7, 8, 9, 10, 11, 12, 13, 14, 15, 16, 17, 18, 19, 20, 21, 22, 23, 24, 25] })] }
noncomputable def M_S_l3With (x : (ByteArray × (List Int))) : (Option (List Int)) :=
  (loopO (fun (again0 : (((List Int) × Int) → (Option (List Int)))) => (fun (s1 : ((List Int) × Int)) => (cond (decide (s1.2 < (((ByteArray.size x.1) : Nat) : Int))) (bindO (if ((0 : Int) ≤ s1.2) then (x.1[(Int.toNat s1.2)]?) else (none : Option (UInt8))) (fun (a2 : (UInt8)) => (bindO (guardO (lenOk ((List.length s1.1) + (List.length ((IntKind.wrap .i64 (((UInt8.toNat a2) : Nat) : Int)) :: ([] : List Int)))))) (fun (a3 : Unit) => (bindO (some (s1.1 ++ ((IntKind.wrap .i64 (((UInt8.toNat a2) : Nat) : Int)) :: ([] : List Int)))) (fun (a4 : (List Int)) => (bindO (some (IntKind.wrap .i64 (s1.2 + (1 : Int)))) (fun (a5 : Int) => (again0 (a4, a5)))))))))) (bindO (guardO (lenOk ((List.length s1.1) + (List.length x.2)))) (fun (a6 : Unit) => (bindO (some (s1.1 ++ x.2)) (fun (a7 : (List Int)) => (some a7)))))))) (((((ByteArray.size x.1) : Nat) : Int) :: ([] : List Int)), (0 : Int)))

noncomputable def c_S_l3With : Con0 := ⟨pk_S_l3With, rk_S_l3With, M_S_l3With⟩

set_option maxRecDepth 100000 in
theorem eq_S_l3With (x : In pk_S_l3With) : semF (mkE []) h_S_l3With (info Try.f150) pk_S_l3With rk_S_l3With x = M_S_l3With x := by kernel_rfl

set_option maxRecDepth 100000 in
theorem m_S_l3With : ConOK Try.prog 150 c_S_l3With := fn_ok (tyOK _) (E := mkE []) (consOK_nil rfl) Try.func150 (h := h_S_l3With) (by kernel_rfl) eq_S_l3With

/-- S_l3State_absorb -/
def pk_S_l3State_absorb : List PK := [.mp (.cons (.int .i64) (.one (.int .i64))) false, .data (.int .i64)]
def rk_S_l3State_absorb : List (Ty × Bool) := []
def h_S_l3State_absorb : Hints := { loops := [(0, { items := [.slot 12 (.data (.int .i64) []), .cell 0 0 (.data (.int .i64) []), .cell 0 1 (.data (.int .i64) [])], kill := [1, 2, 3, 4, 5, 6, 7, 8, 9, 13, 14, 15, 16, 17, 18, 19, 20, 21, 22, 23, 24, 25, 26, 27, 28, 29, 30, 31, 32, 33, 34, 35, 36, 37, 38, 39, 40] })] }
noncomputable def M_S_l3State_absorb (x : ((Int × Int) × Int)) : (Option (Int × Int)) :=
  (bindO (guardO ((2147483648 : Int) != (0 : Int))) (fun (a0 : Unit) => (bindO (some (Int.tmod x.2 (2147483648 : Int))) (fun (a1 : Int) => (bindO (guardO ((2147483648 : Int) != (0 : Int))) (fun (a2 : Unit) => (bindO (some (IntKind.wrap .i64 (Int.tdiv x.2 (2147483648 : Int)))) (fun (a3 : Int) => (loopO (fun (again4 : ((Int × (Int × Int)) → (Option (Int × Int)))) => (fun (s5 : (Int × (Int × Int))) => (cond (decide (s5.1 < (((List.length (a1 :: (a3 :: ([] : List Int)))) : Nat) : Int))) (bindO (getI (a1 :: (a3 :: ([] : List Int))) s5.1) (fun (a6 : Int) => (bindO (some (IntKind.wrap .i64 ((48271 : Int) * s5.2.1))) (fun (a7 : Int) => (bindO (some (IntKind.wrap .i64 (a7 + a6))) (fun (a8 : Int) => (bindO (some (IntKind.wrap .i64 (a8 + (1 : Int)))) (fun (a9 : Int) => (bindO (guardO ((2147483647 : Int) != (0 : Int))) (fun (a10 : Unit) => (bindO (some (Int.tmod a9 (2147483647 : Int))) (fun (a11 : Int) => (bindO (some (IntKind.wrap .i64 ((69621 : Int) * s5.2.2))) (fun (a12 : Int) => (bindO (some (IntKind.wrap .i64 (a12 + a6))) (fun (a13 : Int) => (bindO (some (IntKind.wrap .i64 (a13 + (1 : Int)))) (fun (a14 : Int) => (bindO (guardO ((2147483647 : Int) != (0 : Int))) (fun (a15 : Unit) => (bindO (some (Int.tmod a14 (2147483647 : Int))) (fun (a16 : Int) => (bindO (some (IntKind.wrap .i64 (s5.1 + (1 : Int)))) (fun (a17 : Int) => (again4 (a17, (a11, a16))))))))))))))))))))))))))) (some (s5.2.1, s5.2.2))))) ((0 : Int), (x.1.1, x.1.2)))))))))))

noncomputable def c_S_l3State_absorb : Con0 := ⟨pk_S_l3State_absorb, rk_S_l3State_absorb, M_S_l3State_absorb⟩

set_option maxRecDepth 100000 in
theorem eq_S_l3State_absorb (x : In pk_S_l3State_absorb) : semF (mkE []) h_S_l3State_absorb (info Try.f160) pk_S_l3State_absorb rk_S_l3State_absorb x = M_S_l3State_absorb x := by kernel_rfl

set_option maxRecDepth 100000 in
theorem m_S_l3State_absorb : ConOK Try.prog 160 c_S_l3State_absorb := fn_ok (tyOK _) (E := mkE []) (consOK_nil rfl) Try.func160 (h := h_S_l3State_absorb) (by kernel_rfl) eq_S_l3State_absorb

/-- S_hInts -/
def pk_S_hInts : List PK := [.data (.sl (.int .i64))]
def rk_S_hInts : List (Ty × Bool) := [((.int .i64), false)]
def h_S_hInts : Hints := { loops := [(0, { items := [.slot 14 (.data (.int .i64) []), .cell 7 0 (.data (.int .i64) []), .cell 7 1 (.data (.int .i64) [])], kill := [0, 1, 2, 4, 5, 6, 8, 9, 10, 11, 15, 16, 17, 18, 19, 20, 21, 22, 23, 24, 25, 26, 27, 28, 29, 30, 31] })] }
noncomputable def M_S_hInts (x : (List Int)) : (Option Int) :=
  (bindO (M_S_l3State_absorb (((1 : Int), (2 : Int)), (((List.length x) : Nat) : Int))) (fun (a0 : (Int × Int)) => (loopO (fun (again1 : ((Int × (Int × Int)) → (Option Int))) => (fun (s2 : (Int × (Int × Int))) => (cond (decide (s2.1 < (((List.length x) : Nat) : Int))) (bindO (getI x s2.1) (fun (a3 : Int) => (bindO (M_S_l3State_absorb ((s2.2.1, s2.2.2), a3)) (fun (a4 : (Int × Int)) => (bindO (some (IntKind.wrap .i64 (s2.1 + (1 : Int)))) (fun (a5 : Int) => (again1 (a5, (a4.1, a4.2))))))))) (bindO (some (IntKind.wrap .i64 (s2.2.1 * (2147483648 : Int)))) (fun (a6 : Int) => (bindO (some (IntKind.wrap .i64 (a6 + s2.2.2))) (fun (a7 : Int) => (some a7)))))))) ((0 : Int), (a0.1, a0.2)))))

noncomputable def c_S_hInts : Con0 := ⟨pk_S_hInts, rk_S_hInts, M_S_hInts⟩

set_option maxRecDepth 100000 in
theorem eq_S_hInts (x : In pk_S_hInts) : semF (mkE [(160, c_S_l3State_absorb)]) h_S_hInts (info Try.f149) pk_S_hInts rk_S_hInts x = M_S_hInts x := by kernel_rfl

set_option maxRecDepth 100000 in
theorem m_S_hInts : ConOK Try.prog 149 c_S_hInts := fn_ok (tyOK _) (E := mkE [(160, c_S_l3State_absorb)]) (consOK_cons m_S_l3State_absorb (consOK_nil rfl)) Try.func149 (h := h_S_hInts) (by kernel_rfl) eq_S_hInts

/-- S_hLabelled -/
def pk_S_hLabelled : List PK := [.data .str, .data (.sl (.int .i64))]
def rk_S_hLabelled : List (Ty × Bool) := [((.int .i64), false)]
def h_S_hLabelled : Hints := { loops := [] }
noncomputable def M_S_hLabelled (x : (ByteArray × (List Int))) : (Option Int) :=
  (bindO (M_S_l3With (x.1, x.2)) (fun (a0 : (List Int)) => (bindO (M_S_hInts a0) (fun (a1 : Int) => (some a1)))))

noncomputable def c_S_hLabelled : Con0 := ⟨pk_S_hLabelled, rk_S_hLabelled, M_S_hLabelled⟩

set_option maxRecDepth 100000 in
theorem eq_S_hLabelled (x : In pk_S_hLabelled) : semF (mkE [(150, c_S_l3With), (149, c_S_hInts)]) h_S_hLabelled (info Try.f128) pk_S_hLabelled rk_S_hLabelled x = M_S_hLabelled x := by kernel_rfl

set_option maxRecDepth 100000 in
theorem m_S_hLabelled : ConOK Try.prog 128 c_S_hLabelled := fn_ok (tyOK _) (E := mkE [(150, c_S_l3With), (149, c_S_hInts)]) (consOK_cons m_S_l3With (consOK_cons m_S_hInts (consOK_nil rfl))) Try.func128 (h := h_S_hLabelled) (by kernel_rfl) eq_S_hLabelled

/-- S_hChallenge -/
def pk_S_hChallenge : List PK := [.data (.cons (.int .i64) (.cons (.int .i64) (.one (.int .i64)))), .data .str, .data (.sl (.int .i64))]
def rk_S_hChallenge : List (Ty × Bool) := [((.int .i64), false)]
def h_S_hChallenge : Hints := { loops := [] }
noncomputable def M_S_hChallenge (x : ((Int × (Int × Int)) × (ByteArray × (List Int)))) : (Option Int) :=
  (bindO (guardO (lenOk ((List.length (x.1.1 :: (x.1.2.1 :: (x.1.2.2 :: ([] : List Int))))) + (List.length x.2.2)))) (fun (a0 : Unit) => (bindO (some ((x.1.1 :: (x.1.2.1 :: (x.1.2.2 :: ([] : List Int)))) ++ x.2.2)) (fun (a1 : (List Int)) => (bindO (M_S_hLabelled (x.2.1, a1)) (fun (a2 : Int) => (bindO (guardO (x.1.2.1 != (0 : Int))) (fun (a3 : Unit) => (bindO (some (Int.tmod a2 x.1.2.1)) (fun (a4 : Int) => (some a4)))))))))))

noncomputable def c_S_hChallenge : Con0 := ⟨pk_S_hChallenge, rk_S_hChallenge, M_S_hChallenge⟩

set_option maxRecDepth 100000 in
theorem eq_S_hChallenge (x : In pk_S_hChallenge) : semF (mkE [(128, c_S_hLabelled)]) h_S_hChallenge (info Try.f95) pk_S_hChallenge rk_S_hChallenge x = M_S_hChallenge x := by kernel_rfl

set_option maxRecDepth 100000 in
theorem m_S_hChallenge : ConOK Try.prog 95 c_S_hChallenge := fn_ok (tyOK _) (E := mkE [(128, c_S_hLabelled)]) (consOK_cons m_S_hLabelled (consOK_nil rfl)) Try.func95 (h := h_S_hChallenge) (by kernel_rfl) eq_S_hChallenge

/-- S_wBoth -/
def pk_S_wBoth : List PK := [.data (.sl (.cons (.sl (.int .i64)) (.cons (.sl (.int .i64)) (.one (.sl (.int .i64))))))]
def rk_S_wBoth : List (Ty × Bool) := [((.sl (.int .i64)), true)]
def h_S_wBoth : Hints := { loops := [(0, { items := [.slot 3 (.own (.int .i64) true), .slot 4 (.own (.int .i64) true), .slot 9 (.data (.int .i64) [])], kill := [0, 1, 2, 5, 6, 10, 11, 12, 13, 14, 15, 16, 17, 18, 19, 20, 21, 22, 23, 24] })] }
noncomputable def M_S_wBoth (x : (List ((List Int) × ((List Int) × (List Int))))) : (Option (List Int)) :=
  (loopO (fun (again0 : (((List Int) × ((List Int) × Int)) → (Option (List Int)))) => (fun (s1 : ((List Int) × ((List Int) × Int))) => (cond (decide (s1.2.2 < (((List.length x) : Nat) : Int))) (bindO (getI x s1.2.2) (fun (a2 : ((List Int) × ((List Int) × (List Int)))) => (bindO (guardO (lenOk ((List.length s1.1) + (List.length a2.2.1)))) (fun (a3 : Unit) => (bindO (some (s1.1 ++ a2.2.1)) (fun (a4 : (List Int)) => (bindO (guardO (lenOk ((List.length s1.2.1) + (List.length a2.2.2)))) (fun (a5 : Unit) => (bindO (some (s1.2.1 ++ a2.2.2)) (fun (a6 : (List Int)) => (bindO (some (IntKind.wrap .i64 (s1.2.2 + (1 : Int)))) (fun (a7 : Int) => (again0 (a4, (a6, a7))))))))))))))) (bindO (guardO (lenOk ((List.length s1.1) + (List.length s1.2.1)))) (fun (a8 : Unit) => (bindO (some (s1.1 ++ s1.2.1)) (fun (a9 : (List Int)) => (some a9)))))))) (([] : List Int), (([] : List Int), (0 : Int))))

noncomputable def c_S_wBoth : Con0 := ⟨pk_S_wBoth, rk_S_wBoth, M_S_wBoth⟩

set_option maxRecDepth 100000 in
theorem eq_S_wBoth (x : In pk_S_wBoth) : semF (mkE []) h_S_wBoth (info Try.f97) pk_S_wBoth rk_S_wBoth x = M_S_wBoth x := by kernel_rfl

set_option maxRecDepth 100000 in
theorem m_S_wBoth : ConOK Try.prog 97 c_S_wBoth := fn_ok (tyOK _) (E := mkE []) (consOK_nil rfl) Try.func97 (h := h_S_wBoth) (by kernel_rfl) eq_S_wBoth

/-- S_l1Least -/
def pk_S_l1Least : List PK := [.data (.int .i64), .data (.int .i64)]
def rk_S_l1Least : List (Ty × Bool) := [((.int .i64), false)]
def h_S_l1Least : Hints := { loops := [] }
noncomputable def M_S_l1Least (x : (Int × Int)) : (Option Int) :=
  (cond (decide (x.1 < x.2)) (some x.1) (some x.2))

noncomputable def c_S_l1Least : Con0 := ⟨pk_S_l1Least, rk_S_l1Least, M_S_l1Least⟩

set_option maxRecDepth 100000 in
theorem eq_S_l1Least (x : In pk_S_l1Least) : semF (mkE []) h_S_l1Least (info Try.f129) pk_S_l1Least rk_S_l1Least x = M_S_l1Least x := by kernel_rfl

set_option maxRecDepth 100000 in
theorem m_S_l1Least : ConOK Try.prog 129 c_S_l1Least := fn_ok (tyOK _) (E := mkE []) (consOK_nil rfl) Try.func129 (h := h_S_l1Least) (by kernel_rfl) eq_S_l1Least

/-- S_l1Own -/
def pk_S_l1Own : List PK := [.data (.sl (.int .i64))]
def rk_S_l1Own : List (Ty × Bool) := [((.sl (.int .i64)), true)]
def h_S_l1Own : Hints := { loops := [] }
noncomputable def M_S_l1Own (x : (List Int)) : (Option (List Int)) :=
  (bindO (guardO (lenOk ((List.length ([] : List Int)) + (List.length x)))) (fun (a0 : Unit) => (bindO (some (([] : List Int) ++ x)) (fun (a1 : (List Int)) => (some a1)))))

noncomputable def c_S_l1Own : Con0 := ⟨pk_S_l1Own, rk_S_l1Own, M_S_l1Own⟩

set_option maxRecDepth 100000 in
theorem eq_S_l1Own (x : In pk_S_l1Own) : semF (mkE []) h_S_l1Own (info Try.f130) pk_S_l1Own rk_S_l1Own x = M_S_l1Own x := by kernel_rfl

set_option maxRecDepth 100000 in
theorem m_S_l1Own : ConOK Try.prog 130 c_S_l1Own := fn_ok (tyOK _) (E := mkE []) (consOK_nil rfl) Try.func130 (h := h_S_l1Own) (by kernel_rfl) eq_S_l1Own

/-- S_wSmall -/
def pk_S_wSmall : List PK := [.data (.cons (.int .i64) (.cons (.int .i64) (.one (.int .i64)))), .data (.sl (.int .i64)), .data (.int .i64)]
def rk_S_wSmall : List (Ty × Bool) := [((.sl (.int .i64)), true)]
def h_S_wSmall : Hints := { loops := [(0, { items := [.slot 8 (.own (.int .i64) true), .slot 9 (.data (.int .i64) [])], kill := [0, 3, 4, 5, 6, 10, 11, 12, 13, 14, 15, 16, 17, 18, 19, 20, 21, 22, 23, 24, 25, 26, 27, 28, 29, 30, 31] })] }
noncomputable def M_S_wSmall (x : ((Int × (Int × Int)) × ((List Int) × Int))) : (Option (List Int)) :=
  (bindO (some (IntKind.wrap .i64 (x.1.2.1 - (1 : Int)))) (fun (a0 : Int) => (bindO (M_S_l1Least ((65535 : Int), a0)) (fun (a1 : Int) => (loopO (fun (again2 : (((List Int) × Int) → (Option (List Int)))) => (fun (s3 : ((List Int) × Int)) => (cond (decide (s3.2 < x.2.2)) (bindO (M_S_l1Own x.2.1) (fun (a4 : (List Int)) => (bindO (guardO (lenOk ((List.length a4) + (List.length (s3.2 :: ([] : List Int)))))) (fun (a5 : Unit) => (bindO (some (a4 ++ (s3.2 :: ([] : List Int)))) (fun (a6 : (List Int)) => (bindO (M_S_hLabelled ((bytesOf [115, 109, 97, 108, 108]), a6)) (fun (a7 : Int) => (bindO (guardO (a1 != (0 : Int))) (fun (a8 : Unit) => (bindO (some (Int.tmod a7 a1)) (fun (a9 : Int) => (bindO (some (IntKind.wrap .i64 ((1 : Int) + a9))) (fun (a10 : Int) => (bindO (guardO (lenOk ((List.length s3.1) + (List.length (a10 :: ([] : List Int)))))) (fun (a11 : Unit) => (bindO (some (s3.1 ++ (a10 :: ([] : List Int)))) (fun (a12 : (List Int)) => (bindO (some (IntKind.wrap .i64 (s3.2 + (1 : Int)))) (fun (a13 : Int) => (again2 (a12, a13)))))))))))))))))))))) (some s3.1)))) (([] : List Int), (0 : Int)))))))

noncomputable def c_S_wSmall : Con0 := ⟨pk_S_wSmall, rk_S_wSmall, M_S_wSmall⟩

set_option maxRecDepth 100000 in
theorem eq_S_wSmall (x : In pk_S_wSmall) : semF (mkE [(129, c_S_l1Least), (130, c_S_l1Own), (128, c_S_hLabelled)]) h_S_wSmall (info Try.f96) pk_S_wSmall rk_S_wSmall x = M_S_wSmall x := by kernel_rfl

set_option maxRecDepth 100000 in
theorem m_S_wSmall : ConOK Try.prog 96 c_S_wSmall := fn_ok (tyOK _) (E := mkE [(129, c_S_l1Least), (130, c_S_l1Own), (128, c_S_hLabelled)]) (consOK_cons m_S_l1Least (consOK_cons m_S_l1Own (consOK_cons m_S_hLabelled (consOK_nil rfl)))) Try.func96 (h := h_S_wSmall) (by kernel_rfl) eq_S_wSmall

/-- S_nMod -/
def pk_S_nMod : List PK := [.data (.int .i64), .data (.int .i64)]
def rk_S_nMod : List (Ty × Bool) := [((.int .i64), false)]
def h_S_nMod : Hints := { loops := [] }
noncomputable def M_S_nMod (x : (Int × Int)) : (Option Int) :=
  (bindO (guardO (x.2 != (0 : Int))) (fun (a0 : Unit) => (bindO (some (Int.tmod x.1 x.2)) (fun (a1 : Int) => (bindO (some (IntKind.wrap .i64 (a1 + x.2))) (fun (a2 : Int) => (bindO (guardO (x.2 != (0 : Int))) (fun (a3 : Unit) => (bindO (some (Int.tmod a2 x.2)) (fun (a4 : Int) => (some a4)))))))))))

noncomputable def c_S_nMod : Con0 := ⟨pk_S_nMod, rk_S_nMod, M_S_nMod⟩

set_option maxRecDepth 100000 in
theorem eq_S_nMod (x : In pk_S_nMod) : semF (mkE []) h_S_nMod (info Try.f131) pk_S_nMod rk_S_nMod x = M_S_nMod x := by kernel_rfl

set_option maxRecDepth 100000 in
theorem m_S_nMod : ConOK Try.prog 131 c_S_nMod := fn_ok (tyOK _) (E := mkE []) (consOK_nil rfl) Try.func131 (h := h_S_nMod) (by kernel_rfl) eq_S_nMod

/-- S_gExp -/
def pk_S_gExp : List PK := [.data (.cons (.int .i64) (.cons (.int .i64) (.one (.int .i64)))), .data (.int .i64), .data (.int .i64)]
def rk_S_gExp : List (Ty × Bool) := [((.int .i64), false)]
def h_S_gExp : Hints := { loops := [] }
noncomputable def M_S_gExp (x : ((Int × (Int × Int)) × (Int × Int))) : (Option Int) :=
  (bindO (M_S_nMod (x.2.2, x.1.2.1)) (fun (a0 : Int) => (bindO (M_S_nPower (x.2.1, (a0, x.1.1))) (fun (a1 : Int) => (some a1)))))

noncomputable def c_S_gExp : Con0 := ⟨pk_S_gExp, rk_S_gExp, M_S_gExp⟩

set_option maxRecDepth 100000 in
theorem eq_S_gExp (x : In pk_S_gExp) : semF (mkE [(131, c_S_nMod), (76, c_S_nPower)]) h_S_gExp (info Try.f99) pk_S_gExp rk_S_gExp x = M_S_gExp x := by kernel_rfl

set_option maxRecDepth 100000 in
theorem m_S_gExp : ConOK Try.prog 99 c_S_gExp := fn_ok (tyOK _) (E := mkE [(131, c_S_nMod), (76, c_S_nPower)]) (consOK_cons m_S_nMod (consOK_cons m_S_nPower (consOK_nil rfl))) Try.func99 (h := h_S_gExp) (by kernel_rfl) eq_S_gExp

/-- S_gMul -/
def pk_S_gMul : List PK := [.data (.cons (.int .i64) (.cons (.int .i64) (.one (.int .i64)))), .data (.sl (.int .i64))]
def rk_S_gMul : List (Ty × Bool) := [((.int .i64), false)]
def h_S_gMul : Hints := { loops := [(0, { items := [.slot 5 (.data (.int .i64) []), .slot 10 (.data (.int .i64) [])], kill := [0, 1, 3, 4, 6, 7, 11, 12, 13, 14, 15, 16, 17, 18, 19, 20, 21] })] }
noncomputable def M_S_gMul (x : ((Int × (Int × Int)) × (List Int))) : (Option Int) :=
  (loopO (fun (again0 : ((Int × Int) → (Option Int))) => (fun (s1 : (Int × Int)) => (cond (decide (s1.2 < (((List.length x.2) : Nat) : Int))) (bindO (getI x.2 s1.2) (fun (a2 : Int) => (bindO (some (IntKind.wrap .i64 (s1.1 * a2))) (fun (a3 : Int) => (bindO (guardO (x.1.1 != (0 : Int))) (fun (a4 : Unit) => (bindO (some (Int.tmod a3 x.1.1)) (fun (a5 : Int) => (bindO (some (IntKind.wrap .i64 (s1.2 + (1 : Int)))) (fun (a6 : Int) => (again0 (a5, a6)))))))))))) (some s1.1)))) ((1 : Int), (0 : Int)))

noncomputable def c_S_gMul : Con0 := ⟨pk_S_gMul, rk_S_gMul, M_S_gMul⟩

set_option maxRecDepth 100000 in
theorem eq_S_gMul (x : In pk_S_gMul) : semF (mkE []) h_S_gMul (info Try.f98) pk_S_gMul rk_S_gMul x = M_S_gMul x := by kernel_rfl

set_option maxRecDepth 100000 in
theorem m_S_gMul : ConOK Try.prog 98 c_S_gMul := fn_ok (tyOK _) (E := mkE []) (consOK_nil rfl) Try.func98 (h := h_S_gMul) (by kernel_rfl) eq_S_gMul

/-- S_gInv -/
def pk_S_gInv : List PK := [.data (.cons (.int .i64) (.cons (.int .i64) (.one (.int .i64)))), .data (.int .i64)]
def rk_S_gInv : List (Ty × Bool) := [((.int .i64), false)]
def h_S_gInv : Hints := { loops := [] }
noncomputable def M_S_gInv (x : ((Int × (Int × Int)) × Int)) : (Option Int) :=
  (bindO (some (IntKind.wrap .i64 (x.1.2.1 - (1 : Int)))) (fun (a0 : Int) => (bindO (M_S_nPower (x.2, (a0, x.1.1))) (fun (a1 : Int) => (some a1)))))

noncomputable def c_S_gInv : Con0 := ⟨pk_S_gInv, rk_S_gInv, M_S_gInv⟩

set_option maxRecDepth 100000 in
theorem eq_S_gInv (x : In pk_S_gInv) : semF (mkE [(76, c_S_nPower)]) h_S_gInv (info Try.f132) pk_S_gInv rk_S_gInv x = M_S_gInv x := by kernel_rfl

set_option maxRecDepth 100000 in
theorem m_S_gInv : ConOK Try.prog 132 c_S_gInv := fn_ok (tyOK _) (E := mkE [(76, c_S_nPower)]) (consOK_cons m_S_nPower (consOK_nil rfl)) Try.func132 (h := h_S_gInv) (by kernel_rfl) eq_S_gInv

/-- S_wRatio -/
def pk_S_wRatio : List PK := [.data (.cons (.int .i64) (.cons (.int .i64) (.one (.int .i64)))), .data (.int .i64), .data (.int .i64), .data (.int .i64), .data (.int .i64), .data (.int .i64)]
def rk_S_wRatio : List (Ty × Bool) := [((.int .i64), false)]
def h_S_wRatio : Hints := { loops := [] }
noncomputable def M_S_wRatio (x : ((Int × (Int × Int)) × (Int × (Int × (Int × (Int × Int)))))) : (Option Int) :=
  (bindO (M_S_gExp ((x.1.1, (x.1.2.1, x.1.2.2)), (x.2.1, x.2.2.1))) (fun (a0 : Int) => (bindO (M_S_gExp ((x.1.1, (x.1.2.1, x.1.2.2)), (x.2.2.2.2.1, x.2.2.2.2.2))) (fun (a1 : Int) => (bindO (M_S_gMul ((x.1.1, (x.1.2.1, x.1.2.2)), (x.2.2.2.1 :: (a1 :: ([] : List Int))))) (fun (a2 : Int) => (bindO (M_S_gInv ((x.1.1, (x.1.2.1, x.1.2.2)), a2)) (fun (a3 : Int) => (bindO (M_S_gMul ((x.1.1, (x.1.2.1, x.1.2.2)), (a0 :: (a3 :: ([] : List Int))))) (fun (a4 : Int) => (some a4)))))))))))

noncomputable def c_S_wRatio : Con0 := ⟨pk_S_wRatio, rk_S_wRatio, M_S_wRatio⟩

set_option maxRecDepth 100000 in
theorem eq_S_wRatio (x : In pk_S_wRatio) : semF (mkE [(99, c_S_gExp), (98, c_S_gMul), (132, c_S_gInv)]) h_S_wRatio (info Try.f100) pk_S_wRatio rk_S_wRatio x = M_S_wRatio x := by kernel_rfl

set_option maxRecDepth 100000 in
theorem m_S_wRatio : ConOK Try.prog 100 c_S_wRatio := fn_ok (tyOK _) (E := mkE [(99, c_S_gExp), (98, c_S_gMul), (132, c_S_gInv)]) (consOK_cons m_S_gExp (consOK_cons m_S_gMul (consOK_cons m_S_gInv (consOK_nil rfl)))) Try.func100 (h := h_S_wRatio) (by kernel_rfl) eq_S_wRatio

/-- S_wEqual -/
def pk_S_wEqual : List PK := [.data (.cons (.int .i64) (.cons (.int .i64) (.one (.int .i64)))), .data .str, .data (.sl (.cons (.int .i64) (.cons (.int .i64) (.cons (.int .i64) (.one (.int .i64)))))), .data (.sl (.cons (.sl (.int .i64)) (.cons (.sl (.int .i64)) (.one (.sl (.int .i64))))))]
def rk_S_wEqual : List (Ty × Bool) := [(.bool, false)]
def h_S_wEqual : Hints := { loops := [(0, { items := [.slot 22 (.data (.int .i64) [])], kill := [0, 5, 6, 7, 8, 9, 10, 11, 12, 13, 14, 15, 16, 17, 18, 19, 23, 24, 25, 26, 27, 28, 29, 30, 31, 32, 33, 34, 35, 36, 37, 38, 39, 40, 41, 42, 43, 44, 45, 46, 47, 48, 49, 50, 51, 52, 53, 54, 55, 56, 57, 58, 59, 60, 61, 62, 63, 64, 65, 66, 67, 68, 69, 70, 71, 72, 73, 74, 75, 76, 77, 78, 79, 80, 81, 82, 83, 84, 85, 86, 87, 88, 89, 90, 91, 92, 93, 94, 95, 96, 97, 98, 99, 100, 101, 102, 103, 104, 105, 106, 107, 108, 109, 110, 111, 112, 113, 114, 115, 116, 117, 118, 119, 120, 121, 122, 123, 124, 125, 126, 127, 128, 129, 130, 131, 132, 133, 134] }), (2, { items := [.slot 14 (.data (.int .i64) []), .slot 73 (.data (.int .i64) [])], kill := [0, 1, 3, 5, 6, 7, 8, 9, 10, 11, 15, 16, 17, 18, 19, 20, 21, 22, 23, 24, 25, 26, 27, 28, 29, 30, 31, 32, 33, 34, 35, 36, 37, 38, 39, 40, 41, 42, 43, 44, 45, 46, 47, 48, 49, 50, 51, 52, 53, 54, 55, 56, 57, 58, 59, 60, 61, 62, 63, 64, 65, 66, 67, 68, 69, 70, 74, 75, 76, 77, 78, 79, 80, 81, 82, 83, 84, 85, 86, 87, 88, 89, 90, 91, 92, 93, 94, 95, 96, 97, 98, 99, 100, 101, 102, 103, 104, 105, 106, 107, 108, 109, 110, 111, 112, 113, 114, 115, 116, 117, 118, 119, 120, 121, 122, 123, 124, 125, 126, 127, 128, 129, 130, 131, 132, 133, 134] })] }
noncomputable def M_S_wEqual (x : ((Int × (Int × Int)) × (ByteArray × ((List (Int × (Int × (Int × Int)))) × (List ((List Int) × ((List Int) × (List Int)))))))) : (Option Bool) :=
  (loopO (fun (again0 : (Int → (Option Bool))) => (fun (s1 : Int) => (cond (decide (s1 < (((List.length x.2.2.2) : Nat) : Int))) (bindO (getI x.2.2.2 s1) (fun (a2 : ((List Int) × ((List Int) × (List Int)))) => (bindO (getI x.2.2.1 s1) (fun (a3 : (Int × (Int × (Int × Int)))) => (bindO (M_S_l9Form ((x.1.1, (x.1.2.1, x.1.2.2)), ((a2.1, (a2.2.1, a2.2.2)), ((2 : Int), ((1 : Int), (1 : Int)))))) (fun (a4 : Bool) => (cond (not a4) (some false) (bindO (getI a2.2.1 (0 : Int)) (fun (a5 : Int) => (bindO (getI a2.1 (0 : Int)) (fun (a6 : Int) => (bindO (getI a2.1 (1 : Int)) (fun (a7 : Int) => (bindO (M_S_hChallenge ((x.1.1, (x.1.2.1, x.1.2.2)), (x.2.1, (a3.1 :: (a3.2.2.1 :: (a3.2.1 :: (a3.2.2.2 :: (a6 :: (a7 :: ([] : List Int)))))))))) (fun (a8 : Int) => (cond (a5 != a8) (some false) (bindO (some (IntKind.wrap .i64 (s1 + (1 : Int)))) (fun (a9 : Int) => (again0 a9))))))))))))))))))) (bindO (M_S_wBoth x.2.2.2) (fun (a10 : (List Int)) => (bindO (some (IntKind.wrap .i64 ((2 : Int) * (((List.length x.2.2.2) : Nat) : Int)))) (fun (a11 : Int) => (bindO (M_S_wSmall ((x.1.1, (x.1.2.1, x.1.2.2)), (a10, a11))) (fun (a12 : (List Int)) => (loopO (fun (again13 : ((Int × Int) → (Option Bool))) => (fun (s14 : (Int × Int)) => (cond (decide (s14.2 < (((List.length x.2.2.2) : Nat) : Int))) (bindO (getI x.2.2.2 s14.2) (fun (a15 : ((List Int) × ((List Int) × (List Int)))) => (bindO (getI x.2.2.1 s14.2) (fun (a16 : (Int × (Int × (Int × Int)))) => (bindO (getI a15.2.1 (0 : Int)) (fun (a17 : Int) => (bindO (getI a15.2.2 (0 : Int)) (fun (a18 : Int) => (bindO (getI a15.1 (0 : Int)) (fun (a19 : Int) => (bindO (M_S_wRatio ((x.1.1, (x.1.2.1, x.1.2.2)), (a16.1, (a18, (a19, (a16.2.1, a17)))))) (fun (a20 : Int) => (bindO (getI a12 s14.2) (fun (a21 : Int) => (bindO (M_S_gExp ((x.1.1, (x.1.2.1, x.1.2.2)), (a20, a21))) (fun (a22 : Int) => (bindO (getI a15.1 (1 : Int)) (fun (a23 : Int) => (bindO (M_S_wRatio ((x.1.1, (x.1.2.1, x.1.2.2)), (a16.2.2.1, (a18, (a23, (a16.2.2.2, a17)))))) (fun (a24 : Int) => (bindO (some (IntKind.wrap .i64 ((((List.length x.2.2.2) : Nat) : Int) + s14.2))) (fun (a25 : Int) => (bindO (getI a12 a25) (fun (a26 : Int) => (bindO (M_S_gExp ((x.1.1, (x.1.2.1, x.1.2.2)), (a24, a26))) (fun (a27 : Int) => (bindO (M_S_gMul ((x.1.1, (x.1.2.1, x.1.2.2)), (s14.1 :: (a22 :: (a27 :: ([] : List Int)))))) (fun (a28 : Int) => (bindO (some (IntKind.wrap .i64 (s14.2 + (1 : Int)))) (fun (a29 : Int) => (again13 (a28, a29)))))))))))))))))))))))))))))))) (some (s14.1 == (1 : Int)))))) ((1 : Int), (0 : Int)))))))))))) (0 : Int))

noncomputable def c_S_wEqual : Con0 := ⟨pk_S_wEqual, rk_S_wEqual, M_S_wEqual⟩

set_option maxRecDepth 100000 in
theorem eq_S_wEqual (x : In pk_S_wEqual) : semF (mkE [(94, c_S_l9Form), (95, c_S_hChallenge), (97, c_S_wBoth), (96, c_S_wSmall), (100, c_S_wRatio), (99, c_S_gExp), (98, c_S_gMul)]) h_S_wEqual (info Try.f54) pk_S_wEqual rk_S_wEqual x = M_S_wEqual x := by kernel_rfl

set_option maxRecDepth 100000 in
theorem m_S_wEqual : ConOK Try.prog 54 c_S_wEqual := fn_ok (tyOK _) (E := mkE [(94, c_S_l9Form), (95, c_S_hChallenge), (97, c_S_wBoth), (96, c_S_wSmall), (100, c_S_wRatio), (99, c_S_gExp), (98, c_S_gMul)]) (consOK_cons m_S_l9Form (consOK_cons m_S_hChallenge (consOK_cons m_S_wBoth (consOK_cons m_S_wSmall (consOK_cons m_S_wRatio (consOK_cons m_S_gExp (consOK_cons m_S_gMul (consOK_nil rfl)))))))) Try.func54 (h := h_S_wEqual) (by kernel_rfl) eq_S_wEqual

/-- S_wSearch -/
def pk_S_wSearch : List PK := [.data (.cons (.int .i64) (.cons (.int .i64) (.one (.int .i64)))), .data .str, .data (.sl (.cons (.int .i64) (.cons (.int .i64) (.cons (.int .i64) (.one (.int .i64)))))), .data (.sl (.cons (.sl (.int .i64)) (.cons (.sl (.int .i64)) (.one (.sl (.int .i64)))))), .data (.int .i64), .data (.int .i64)]
def rk_S_wSearch : List (Ty × Bool) := [((.sl (.int .i64)), true), ((.int .i64), false)]
def h_S_wSearch : Hints := { loops := [] }
noncomputable def R_S_wSearch : Nat → ((Int × (Int × Int)) × (ByteArray × ((List (Int × (Int × (Int × Int)))) × ((List ((List Int) × ((List Int) × (List Int)))) × (Int × Int))))) → (Option ((List Int) × Int))
  | 0, _ => none
  | n + 1, x => (bindO (sliceLH x.2.2.2.2.1 x.2.2.2.2.2 (List.length x.2.2.1)) (fun (a0 : (Nat × Nat)) => (bindO (sliceLH x.2.2.2.2.1 x.2.2.2.2.2 (List.length x.2.2.2.1)) (fun (a1 : (Nat × Nat)) => (bindO (M_S_wEqual ((x.1.1, (x.1.2.1, x.1.2.2)), (x.2.1, ((List.drop a0.1 (List.take a0.2 x.2.2.1)), (List.drop a1.1 (List.take a1.2 x.2.2.2.1)))))) (fun (a2 : Bool) => (cond a2 (some (([] : List Int), (1 : Int))) (bindO (some (IntKind.wrap .i64 (x.2.2.2.2.2 - x.2.2.2.2.1))) (fun (a3 : Int) => (cond (a3 == (1 : Int)) (some ((x.2.2.2.2.1 :: ([] : List Int)), (1 : Int))) (bindO (some (IntKind.wrap .i64 (x.2.2.2.2.2 - x.2.2.2.2.1))) (fun (a4 : Int) => (bindO (some (IntKind.wrap .i64 (a4 + (1 : Int)))) (fun (a5 : Int) => (bindO (guardO ((2 : Int) != (0 : Int))) (fun (a6 : Unit) => (bindO (some (IntKind.wrap .i64 (Int.tdiv a5 (2 : Int)))) (fun (a7 : Int) => (bindO (some (IntKind.wrap .i64 (x.2.2.2.2.1 + a7))) (fun (a8 : Int) => (bindO (R_S_wSearch n ((x.1.1, (x.1.2.1, x.1.2.2)), (x.2.1, (x.2.2.1, (x.2.2.2.1, (x.2.2.2.2.1, a8)))))) (fun (a9 : ((List Int) × Int)) => (bindO (R_S_wSearch n ((x.1.1, (x.1.2.1, x.1.2.2)), (x.2.1, (x.2.2.1, (x.2.2.2.1, (a8, x.2.2.2.2.2)))))) (fun (a10 : ((List Int) × Int)) => (bindO (guardO (lenOk ((List.length a9.1) + (List.length a10.1)))) (fun (a11 : Unit) => (bindO (some (a9.1 ++ a10.1)) (fun (a12 : (List Int)) => (bindO (some (IntKind.wrap .i64 (a9.2 + a10.2))) (fun (a13 : Int) => (bindO (some (IntKind.wrap .i64 (a13 + (1 : Int)))) (fun (a14 : Int) => (some (a12, a14))))))))))))))))))))))))))))))))))

noncomputable def M_S_wSearch (x : ((Int × (Int × Int)) × (ByteArray × ((List (Int × (Int × (Int × Int)))) × ((List ((List Int) × ((List Int) × (List Int)))) × (Int × Int)))))) : (Option ((List Int) × Int)) := limO R_S_wSearch x

noncomputable def c_S_wSearch : Con0 := ⟨pk_S_wSearch, rk_S_wSearch, M_S_wSearch⟩

set_option maxRecDepth 100000 in
theorem eq_S_wSearch (n : Nat) (x : In pk_S_wSearch) : semF (mkE ((61, ⟨pk_S_wSearch, rk_S_wSearch, R_S_wSearch n⟩) :: [(54, c_S_wEqual)])) h_S_wSearch (info Try.f61) pk_S_wSearch rk_S_wSearch x = R_S_wSearch (n + 1) x := by kernel_rfl

set_option maxRecDepth 100000 in
theorem mR_S_wSearch : ∀ n, ConOK Try.prog 61 ⟨pk_S_wSearch, rk_S_wSearch, R_S_wSearch n⟩
  | 0 => conOK_none Try.func61 (h := h_S_wSearch) (by kernel_rfl)
  | n + 1 => fn_ok (tyOK _) (E := mkE ((61, ⟨pk_S_wSearch, rk_S_wSearch, R_S_wSearch n⟩) :: [(54, c_S_wEqual)])) (consOK_cons (mR_S_wSearch n) (consOK_cons m_S_wEqual (consOK_nil rfl))) Try.func61 (h := h_S_wSearch) (by kernel_rfl) (eq_S_wSearch n)

theorem m_S_wSearch : ConOK Try.prog 61 c_S_wSearch := conOK_lim mR_S_wSearch

/-- S_FindBadEqual -/
def pk_S_FindBadEqual : List PK := [.data (.cons (.int .i64) (.cons (.int .i64) (.one (.int .i64)))), .data .str, .data (.sl (.cons (.int .i64) (.cons (.int .i64) (.cons (.int .i64) (.one (.int .i64)))))), .data (.sl (.cons (.sl (.int .i64)) (.cons (.sl (.int .i64)) (.one (.sl (.int .i64))))))]
def rk_S_FindBadEqual : List (Ty × Bool) := [((.sl (.int .i64)), true), ((.int .i64), false), (.bool, false)]
def h_S_FindBadEqual : Hints := { loops := [] }
noncomputable def M_S_FindBadEqual (x : ((Int × (Int × Int)) × (ByteArray × ((List (Int × (Int × (Int × Int)))) × (List ((List Int) × ((List Int) × (List Int)))))))) : (Option ((List Int) × (Int × Bool))) :=
  (bindO (M_S_wStatements ((x.1.1, (x.1.2.1, x.1.2.2)), (x.2.1, (x.2.2.1, x.2.2.2)))) (fun (a0 : Bool) => (cond (not a0) (some (([] : List Int), ((0 : Int), false))) (cond ((((List.length x.2.2.2) : Nat) : Int) == (0 : Int)) (some (([] : List Int), ((0 : Int), true))) (bindO (M_S_wSearch ((x.1.1, (x.1.2.1, x.1.2.2)), (x.2.1, (x.2.2.1, (x.2.2.2, ((0 : Int), (((List.length x.2.2.2) : Nat) : Int))))))) (fun (a1 : ((List Int) × Int)) => (some (a1.1, (a1.2, true)))))))))

noncomputable def c_S_FindBadEqual : Con0 := ⟨pk_S_FindBadEqual, rk_S_FindBadEqual, M_S_FindBadEqual⟩

set_option maxRecDepth 100000 in
theorem eq_S_FindBadEqual (x : In pk_S_FindBadEqual) : semF (mkE [(53, c_S_wStatements), (61, c_S_wSearch)]) h_S_FindBadEqual (info Try.f27) pk_S_FindBadEqual rk_S_FindBadEqual x = M_S_FindBadEqual x := by kernel_rfl

set_option maxRecDepth 100000 in
theorem m_S_FindBadEqual : ConOK Try.prog 27 c_S_FindBadEqual := fn_ok (tyOK _) (E := mkE [(53, c_S_wStatements), (61, c_S_wSearch)]) (consOK_cons m_S_wStatements (consOK_cons m_S_wSearch (consOK_nil rfl))) Try.func27 (h := h_S_FindBadEqual) (by kernel_rfl) eq_S_FindBadEqual

/-- I_within -/
def pk_I_within : List PK := [.data (.int .i64), .data (.int .i64), .data (.int .i64)]
def rk_I_within : List (Ty × Bool) := [(.bool, false)]
def h_I_within : Hints := { loops := [] }
noncomputable def M_I_within (x : (Int × (Int × Int))) : (Option Bool) :=
  (cond (decide (x.1 ≥ x.2.1)) (some (decide (x.1 ≤ x.2.2))) (some false))

noncomputable def c_I_within : Con0 := ⟨pk_I_within, rk_I_within, M_I_within⟩

set_option maxRecDepth 100000 in
theorem eq_I_within (x : In pk_I_within) : semF (mkE []) h_I_within (info Try.f82) pk_I_within rk_I_within x = M_I_within x := by kernel_rfl

set_option maxRecDepth 100000 in
theorem m_I_within : ConOK Try.prog 82 c_I_within := fn_ok (tyOK _) (E := mkE []) (consOK_nil rfl) Try.func82 (h := h_I_within) (by kernel_rfl) eq_I_within

/-- I_isModulus -/
def pk_I_isModulus : List PK := [.data (.int .i64)]
def rk_I_isModulus : List (Ty × Bool) := [(.bool, false)]
def h_I_isModulus : Hints := { loops := [] }
noncomputable def M_I_isModulus (x : Int) : (Option Bool) :=
  (bindO (M_I_within (x, ((2 : Int), (2000000000 : Int)))) (fun (a0 : Bool) => (some a0)))

noncomputable def c_I_isModulus : Con0 := ⟨pk_I_isModulus, rk_I_isModulus, M_I_isModulus⟩

set_option maxRecDepth 100000 in
theorem eq_I_isModulus (x : In pk_I_isModulus) : semF (mkE [(82, c_I_within)]) h_I_isModulus (info Try.f124) pk_I_isModulus rk_I_isModulus x = M_I_isModulus x := by kernel_rfl

set_option maxRecDepth 100000 in
theorem m_I_isModulus : ConOK Try.prog 124 c_I_isModulus := fn_ok (tyOK _) (E := mkE [(82, c_I_within)]) (consOK_cons m_I_within (consOK_nil rfl)) Try.func124 (h := h_I_isModulus) (by kernel_rfl) eq_I_isModulus

/-- I_isPrime -/
def pk_I_isPrime : List PK := [.data (.int .i64)]
def rk_I_isPrime : List (Ty × Bool) := [(.bool, false)]
def h_I_isPrime : Hints := { loops := [(0, { items := [.slot 3 (.data (.int .i64) [])], kill := [1, 2, 4, 5, 6, 7, 8, 9, 10, 11, 12, 13, 14, 15, 16, 17, 18, 19, 20, 21, 22, 23, 24, 25, 26] })] }
noncomputable def M_I_isPrime (x : Int) : (Option Bool) :=
  (bindO (M_I_isModulus x) (fun (a0 : Bool) => (cond (not a0) (some false) (bindO (guardO ((2 : Int) != (0 : Int))) (fun (a1 : Unit) => (bindO (some (Int.tmod x (2 : Int))) (fun (a2 : Int) => (cond (a2 == (0 : Int)) (cond (x != (2 : Int)) (some false) (loopO (fun (again3 : (Int → (Option Bool))) => (fun (s4 : Int) => (bindO (some (IntKind.wrap .i64 (s4 * s4))) (fun (a5 : Int) => (cond (decide (a5 ≤ x)) (bindO (guardO (s4 != (0 : Int))) (fun (a6 : Unit) => (bindO (some (Int.tmod x s4)) (fun (a7 : Int) => (cond (a7 == (0 : Int)) (some false) (bindO (some (IntKind.wrap .i64 (s4 + (2 : Int)))) (fun (a8 : Int) => (again3 a8)))))))) (some true)))))) (3 : Int))) (loopO (fun (again9 : (Int → (Option Bool))) => (fun (s10 : Int) => (bindO (some (IntKind.wrap .i64 (s10 * s10))) (fun (a11 : Int) => (cond (decide (a11 ≤ x)) (bindO (guardO (s10 != (0 : Int))) (fun (a12 : Unit) => (bindO (some (Int.tmod x s10)) (fun (a13 : Int) => (cond (a13 == (0 : Int)) (some false) (bindO (some (IntKind.wrap .i64 (s10 + (2 : Int)))) (fun (a14 : Int) => (again9 a14)))))))) (some true)))))) (3 : Int))))))))))

noncomputable def c_I_isPrime : Con0 := ⟨pk_I_isPrime, rk_I_isPrime, M_I_isPrime⟩

set_option maxRecDepth 100000 in
theorem eq_I_isPrime (x : In pk_I_isPrime) : semF (mkE [(124, c_I_isModulus)]) h_I_isPrime (info Try.f83) pk_I_isPrime rk_I_isPrime x = M_I_isPrime x := by kernel_rfl

set_option maxRecDepth 100000 in
theorem m_I_isPrime : ConOK Try.prog 83 c_I_isPrime := fn_ok (tyOK _) (E := mkE [(124, c_I_isModulus)]) (consOK_cons m_I_isModulus (consOK_nil rfl)) Try.func83 (h := h_I_isPrime) (by kernel_rfl) eq_I_isPrime

/-- I_power -/
def pk_I_power : List PK := [.data (.int .i64), .data (.int .i64), .data (.int .i64)]
def rk_I_power : List (Ty × Bool) := [((.int .i64), false)]
def h_I_power : Hints := { loops := [(0, { items := [.slot 0 (.data (.int .i64) []), .slot 1 (.data (.int .i64) []), .slot 7 (.data (.int .i64) [])], kill := [3, 4, 5, 6, 8, 9, 10, 11, 12, 13, 14, 15, 16, 17, 18, 19, 20, 21, 22, 23, 24, 25, 26, 27] })] }
noncomputable def M_I_power (x : (Int × (Int × Int))) : (Option Int) :=
  (bindO (guardO (x.2.2 != (0 : Int))) (fun (a0 : Unit) => (bindO (some (Int.tmod (1 : Int) x.2.2)) (fun (a1 : Int) => (loopO (fun (again2 : ((Int × (Int × Int)) → (Option Int))) => (fun (s3 : (Int × (Int × Int))) => (cond (decide (s3.2.1 > (0 : Int))) (bindO (some (bits .and .i64 s3.2.1 (1 : Int))) (fun (a4 : Int) => (cond (a4 == (1 : Int)) (bindO (some (IntKind.wrap .i64 (s3.2.2 * s3.1))) (fun (a5 : Int) => (bindO (guardO (x.2.2 != (0 : Int))) (fun (a6 : Unit) => (bindO (some (Int.tmod a5 x.2.2)) (fun (a7 : Int) => (bindO (some (IntKind.wrap .i64 (s3.1 * s3.1))) (fun (a8 : Int) => (bindO (guardO (x.2.2 != (0 : Int))) (fun (a9 : Unit) => (bindO (some (Int.tmod a8 x.2.2)) (fun (a10 : Int) => (bindO (guardO (decide ((0 : Int) ≤ (1 : Int)))) (fun (a11 : Unit) => (bindO (some (shr .i64 s3.2.1 (1 : Int))) (fun (a12 : Int) => (again2 (a10, (a12, a7))))))))))))))))))) (bindO (some (IntKind.wrap .i64 (s3.1 * s3.1))) (fun (a13 : Int) => (bindO (guardO (x.2.2 != (0 : Int))) (fun (a14 : Unit) => (bindO (some (Int.tmod a13 x.2.2)) (fun (a15 : Int) => (bindO (guardO (decide ((0 : Int) ≤ (1 : Int)))) (fun (a16 : Unit) => (bindO (some (shr .i64 s3.2.1 (1 : Int))) (fun (a17 : Int) => (again2 (a15, (a17, s3.2.2)))))))))))))))) (some s3.2.2)))) (x.1, (x.2.1, a1)))))))

noncomputable def c_I_power : Con0 := ⟨pk_I_power, rk_I_power, M_I_power⟩

set_option maxRecDepth 100000 in
theorem eq_I_power (x : In pk_I_power) : semF (mkE []) h_I_power (info Try.f84) pk_I_power rk_I_power x = M_I_power x := by kernel_rfl

set_option maxRecDepth 100000 in
theorem m_I_power : ConOK Try.prog 84 c_I_power := fn_ok (tyOK _) (E := mkE []) (consOK_nil rfl) Try.func84 (h := h_I_power) (by kernel_rfl) eq_I_power

/-- I_IsValidGroup -/
def pk_I_IsValidGroup : List PK := [.data (.cons (.int .i64) (.cons (.int .i64) (.one (.int .i64))))]
def rk_I_IsValidGroup : List (Ty × Bool) := [(.bool, false)]
def h_I_IsValidGroup : Hints := { loops := [] }
noncomputable def M_I_IsValidGroup (x : (Int × (Int × Int))) : (Option Bool) :=
  (bindO (M_I_within (x.1, ((3 : Int), (2000000000 : Int)))) (fun (a0 : Bool) => (cond a0 (bindO (some (IntKind.wrap .i64 (x.1 - (1 : Int)))) (fun (a1 : Int) => (bindO (M_I_within (x.2.1, ((2 : Int), a1))) (fun (a2 : Bool) => (cond a2 (bindO (some (IntKind.wrap .i64 (x.1 - (1 : Int)))) (fun (a3 : Int) => (bindO (guardO (x.2.1 != (0 : Int))) (fun (a4 : Unit) => (bindO (some (Int.tmod a3 x.2.1)) (fun (a5 : Int) => (cond (a5 == (0 : Int)) (bindO (some (IntKind.wrap .i64 (x.1 - (1 : Int)))) (fun (a6 : Int) => (bindO (M_I_within (x.2.2, ((2 : Int), a6))) (fun (a7 : Bool) => (cond a7 (bindO (M_I_isPrime x.1) (fun (a8 : Bool) => (cond a8 (bindO (M_I_isPrime x.2.1) (fun (a9 : Bool) => (cond a9 (bindO (M_I_power (x.2.2, (x.2.1, x.1))) (fun (a10 : Int) => (some (a10 == (1 : Int))))) (some false)))) (some false)))) (some false)))))) (some false)))))))) (some false)))))) (some false))))

noncomputable def c_I_IsValidGroup : Con0 := ⟨pk_I_IsValidGroup, rk_I_IsValidGroup, M_I_IsValidGroup⟩

set_option maxRecDepth 100000 in
theorem eq_I_IsValidGroup (x : In pk_I_IsValidGroup) : semF (mkE [(82, c_I_within), (83, c_I_isPrime), (84, c_I_power)]) h_I_IsValidGroup (info Try.f46) pk_I_IsValidGroup rk_I_IsValidGroup x = M_I_IsValidGroup x := by kernel_rfl

set_option maxRecDepth 100000 in
theorem m_I_IsValidGroup : ConOK Try.prog 46 c_I_IsValidGroup := fn_ok (tyOK _) (E := mkE [(82, c_I_within), (83, c_I_isPrime), (84, c_I_power)]) (consOK_cons m_I_within (consOK_cons m_I_isPrime (consOK_cons m_I_power (consOK_nil rfl)))) Try.func46 (h := h_I_IsValidGroup) (by kernel_rfl) eq_I_IsValidGroup

/-- I_isLabel -/
def pk_I_isLabel : List PK := [.data .str]
def rk_I_isLabel : List (Ty × Bool) := [(.bool, false)]
def h_I_isLabel : Hints := { loops := [] }
noncomputable def M_I_isLabel (x : ByteArray) : (Option Bool) :=
  (some (decide ((((ByteArray.size x) : Nat) : Int) ≤ (40 : Int))))

noncomputable def c_I_isLabel : Con0 := ⟨pk_I_isLabel, rk_I_isLabel, M_I_isLabel⟩

set_option maxRecDepth 100000 in
theorem eq_I_isLabel (x : In pk_I_isLabel) : semF (mkE []) h_I_isLabel (info Try.f102) pk_I_isLabel rk_I_isLabel x = M_I_isLabel x := by kernel_rfl

set_option maxRecDepth 100000 in
theorem m_I_isLabel : ConOK Try.prog 102 c_I_isLabel := fn_ok (tyOK _) (E := mkE []) (consOK_nil rfl) Try.func102 (h := h_I_isLabel) (by kernel_rfl) eq_I_isLabel

/-- slices_IndexFunc_sI_EqualLog_I_EqualLog -/
def pk_slices_IndexFunc_sI_EqualLog_I_EqualLog : List PK := [.data (.sl (.cons (.int .i64) (.cons (.int .i64) (.cons (.int .i64) (.one (.int .i64)))))), .fn [(.cons (.int .i64) (.cons (.int .i64) (.cons (.int .i64) (.one (.int .i64)))))] .bool]
def rk_slices_IndexFunc_sI_EqualLog_I_EqualLog : List (Ty × Bool) := [((.int .i64), false)]
def h_slices_IndexFunc_sI_EqualLog_I_EqualLog : Hints := { loops := [(0, { items := [.slot 8 (.data (.int .i64) [])], kill := [2, 3, 4, 5, 6, 9, 10, 11, 12, 13, 14, 15, 16, 17, 18] })] }
noncomputable def M_slices_IndexFunc_sI_EqualLog_I_EqualLog (x : ((List (Int × (Int × (Int × Int)))) × ((Int × (Int × (Int × Int))) → (Option Bool)))) : (Option Int) :=
  (loopO (fun (again0 : (Int → (Option Int))) => (fun (s1 : Int) => (cond (decide (s1 < (((List.length x.1) : Nat) : Int))) (bindO (getI x.1 s1) (fun (a2 : (Int × (Int × (Int × Int)))) => (bindO (x.2 (a2.1, (a2.2.1, (a2.2.2.1, a2.2.2.2)))) (fun (a3 : Bool) => (cond a3 (some s1) (bindO (some (IntKind.wrap .i64 (s1 + (1 : Int)))) (fun (a4 : Int) => (again0 a4)))))))) (some (- (1 : Int)))))) (0 : Int))

noncomputable def c_slices_IndexFunc_sI_EqualLog_I_EqualLog : Con0 := ⟨pk_slices_IndexFunc_sI_EqualLog_I_EqualLog, rk_slices_IndexFunc_sI_EqualLog_I_EqualLog, M_slices_IndexFunc_sI_EqualLog_I_EqualLog⟩

set_option maxRecDepth 100000 in
theorem eq_slices_IndexFunc_sI_EqualLog_I_EqualLog (x : In pk_slices_IndexFunc_sI_EqualLog_I_EqualLog) : semF (mkE []) h_slices_IndexFunc_sI_EqualLog_I_EqualLog (info Try.f133) pk_slices_IndexFunc_sI_EqualLog_I_EqualLog rk_slices_IndexFunc_sI_EqualLog_I_EqualLog x = M_slices_IndexFunc_sI_EqualLog_I_EqualLog x := by kernel_rfl

set_option maxRecDepth 100000 in
theorem m_slices_IndexFunc_sI_EqualLog_I_EqualLog : ConOK Try.prog 133 c_slices_IndexFunc_sI_EqualLog_I_EqualLog := fn_ok (tyOK _) (E := mkE []) (consOK_nil rfl) Try.func133 (h := h_slices_IndexFunc_sI_EqualLog_I_EqualLog) (by kernel_rfl) eq_slices_IndexFunc_sI_EqualLog_I_EqualLog

/-- slices_ContainsFunc_sI_EqualLog_I_EqualLog -/
def pk_slices_ContainsFunc_sI_EqualLog_I_EqualLog : List PK := [.data (.sl (.cons (.int .i64) (.cons (.int .i64) (.cons (.int .i64) (.one (.int .i64)))))), .fn [(.cons (.int .i64) (.cons (.int .i64) (.cons (.int .i64) (.one (.int .i64)))))] .bool]
def rk_slices_ContainsFunc_sI_EqualLog_I_EqualLog : List (Ty × Bool) := [(.bool, false)]
def h_slices_ContainsFunc_sI_EqualLog_I_EqualLog : Hints := { loops := [] }
noncomputable def M_slices_ContainsFunc_sI_EqualLog_I_EqualLog (x : ((List (Int × (Int × (Int × Int)))) × ((Int × (Int × (Int × Int))) → (Option Bool)))) : (Option Bool) :=
  (bindO (M_slices_IndexFunc_sI_EqualLog_I_EqualLog (x.1, x.2)) (fun (a0 : Int) => (some (decide (a0 ≥ (0 : Int))))))

noncomputable def c_slices_ContainsFunc_sI_EqualLog_I_EqualLog : Con0 := ⟨pk_slices_ContainsFunc_sI_EqualLog_I_EqualLog, rk_slices_ContainsFunc_sI_EqualLog_I_EqualLog, M_slices_ContainsFunc_sI_EqualLog_I_EqualLog⟩

set_option maxRecDepth 100000 in
theorem eq_slices_ContainsFunc_sI_EqualLog_I_EqualLog (x : In pk_slices_ContainsFunc_sI_EqualLog_I_EqualLog) : semF (mkE [(133, c_slices_IndexFunc_sI_EqualLog_I_EqualLog)]) h_slices_ContainsFunc_sI_EqualLog_I_EqualLog (info Try.f103) pk_slices_ContainsFunc_sI_EqualLog_I_EqualLog rk_slices_ContainsFunc_sI_EqualLog_I_EqualLog x = M_slices_ContainsFunc_sI_EqualLog_I_EqualLog x := by kernel_rfl

set_option maxRecDepth 100000 in
theorem m_slices_ContainsFunc_sI_EqualLog_I_EqualLog : ConOK Try.prog 103 c_slices_ContainsFunc_sI_EqualLog_I_EqualLog := fn_ok (tyOK _) (E := mkE [(133, c_slices_IndexFunc_sI_EqualLog_I_EqualLog)]) (consOK_cons m_slices_IndexFunc_sI_EqualLog_I_EqualLog (consOK_nil rfl)) Try.func103 (h := h_slices_ContainsFunc_sI_EqualLog_I_EqualLog) (by kernel_rfl) eq_slices_ContainsFunc_sI_EqualLog_I_EqualLog

/-- slices_IndexFunc_sint_int -/
def pk_slices_IndexFunc_sint_int : List PK := [.data (.sl (.int .i64)), .fn [(.int .i64)] .bool]
def rk_slices_IndexFunc_sint_int : List (Ty × Bool) := [((.int .i64), false)]
def h_slices_IndexFunc_sint_int : Hints := { loops := [(0, { items := [.slot 8 (.data (.int .i64) [])], kill := [2, 3, 4, 5, 6, 9, 10, 11, 12, 13, 14, 15, 16, 17, 18] })] }
noncomputable def M_slices_IndexFunc_sint_int (x : ((List Int) × (Int → (Option Bool)))) : (Option Int) :=
  (loopO (fun (again0 : (Int → (Option Int))) => (fun (s1 : Int) => (cond (decide (s1 < (((List.length x.1) : Nat) : Int))) (bindO (getI x.1 s1) (fun (a2 : Int) => (bindO (x.2 a2) (fun (a3 : Bool) => (cond a3 (some s1) (bindO (some (IntKind.wrap .i64 (s1 + (1 : Int)))) (fun (a4 : Int) => (again0 a4)))))))) (some (- (1 : Int)))))) (0 : Int))

noncomputable def c_slices_IndexFunc_sint_int : Con0 := ⟨pk_slices_IndexFunc_sint_int, rk_slices_IndexFunc_sint_int, M_slices_IndexFunc_sint_int⟩

set_option maxRecDepth 100000 in
theorem eq_slices_IndexFunc_sint_int (x : In pk_slices_IndexFunc_sint_int) : semF (mkE []) h_slices_IndexFunc_sint_int (info Try.f163) pk_slices_IndexFunc_sint_int rk_slices_IndexFunc_sint_int x = M_slices_IndexFunc_sint_int x := by kernel_rfl

set_option maxRecDepth 100000 in
theorem m_slices_IndexFunc_sint_int : ConOK Try.prog 163 c_slices_IndexFunc_sint_int := fn_ok (tyOK _) (E := mkE []) (consOK_nil rfl) Try.func163 (h := h_slices_IndexFunc_sint_int) (by kernel_rfl) eq_slices_IndexFunc_sint_int

/-- slices_ContainsFunc_sint_int -/
def pk_slices_ContainsFunc_sint_int : List PK := [.data (.sl (.int .i64)), .fn [(.int .i64)] .bool]
def rk_slices_ContainsFunc_sint_int : List (Ty × Bool) := [(.bool, false)]
def h_slices_ContainsFunc_sint_int : Hints := { loops := [] }
noncomputable def M_slices_ContainsFunc_sint_int (x : ((List Int) × (Int → (Option Bool)))) : (Option Bool) :=
  (bindO (M_slices_IndexFunc_sint_int (x.1, x.2)) (fun (a0 : Int) => (some (decide (a0 ≥ (0 : Int))))))

noncomputable def c_slices_ContainsFunc_sint_int : Con0 := ⟨pk_slices_ContainsFunc_sint_int, rk_slices_ContainsFunc_sint_int, M_slices_ContainsFunc_sint_int⟩

set_option maxRecDepth 100000 in
theorem eq_slices_ContainsFunc_sint_int (x : In pk_slices_ContainsFunc_sint_int) : semF (mkE [(163, c_slices_IndexFunc_sint_int)]) h_slices_ContainsFunc_sint_int (info Try.f153) pk_slices_ContainsFunc_sint_int rk_slices_ContainsFunc_sint_int x = M_slices_ContainsFunc_sint_int x := by kernel_rfl

set_option maxRecDepth 100000 in
theorem m_slices_ContainsFunc_sint_int : ConOK Try.prog 153 c_slices_ContainsFunc_sint_int := fn_ok (tyOK _) (E := mkE [(163, c_slices_IndexFunc_sint_int)]) (consOK_cons m_slices_IndexFunc_sint_int (consOK_nil rfl)) Try.func153 (h := h_slices_ContainsFunc_sint_int) (by kernel_rfl) eq_slices_ContainsFunc_sint_int

/-- I_areAll_1 -/
def pk_I_areAll_1 : List PK := [.data (.int .i64), .rfn [(.int .i64)] .bool]
def rk_I_areAll_1 : List (Ty × Bool) := [(.bool, false)]
def h_I_areAll_1 : Hints := { loops := [] }
noncomputable def M_I_areAll_1 (x : (Int × (Int → (Option Bool)))) : (Option Bool) :=
  (bindO (x.2 x.1) (fun (a0 : Bool) => (some (not a0))))

noncomputable def c_I_areAll_1 : Con0 := ⟨pk_I_areAll_1, rk_I_areAll_1, M_I_areAll_1⟩

set_option maxRecDepth 100000 in
theorem eq_I_areAll_1 (x : In pk_I_areAll_1) : semF (mkE []) h_I_areAll_1 (info Try.f154) pk_I_areAll_1 rk_I_areAll_1 x = M_I_areAll_1 x := by kernel_rfl

set_option maxRecDepth 100000 in
theorem m_I_areAll_1 : ConOK Try.prog 154 c_I_areAll_1 := fn_ok (tyOK _) (E := mkE []) (consOK_nil rfl) Try.func154 (h := h_I_areAll_1) (by kernel_rfl) eq_I_areAll_1

/-- I_areAll -/
def pk_I_areAll : List PK := [.data (.sl (.int .i64)), .fn [(.int .i64)] .bool]
def rk_I_areAll : List (Ty × Bool) := [(.bool, false)]
def h_I_areAll : Hints := { loops := [] }
noncomputable def M_I_areAll (x : ((List Int) × (Int → (Option Bool)))) : (Option Bool) :=
  (bindO (M_slices_ContainsFunc_sint_int (x.1, (fun (a0 : Int) => (bindO (M_I_areAll_1 (a0, x.2)) (fun (a1 : Bool) => (some a1)))))) (fun (a2 : Bool) => (some (not a2))))

noncomputable def c_I_areAll : Con0 := ⟨pk_I_areAll, rk_I_areAll, M_I_areAll⟩

set_option maxRecDepth 100000 in
theorem eq_I_areAll (x : In pk_I_areAll) : semF (mkE [(153, c_slices_ContainsFunc_sint_int), (154, c_I_areAll_1)]) h_I_areAll (info Try.f143) pk_I_areAll rk_I_areAll x = M_I_areAll x := by kernel_rfl

set_option maxRecDepth 100000 in
theorem m_I_areAll : ConOK Try.prog 143 c_I_areAll := fn_ok (tyOK _) (E := mkE [(153, c_slices_ContainsFunc_sint_int), (154, c_I_areAll_1)]) (consOK_cons m_slices_ContainsFunc_sint_int (consOK_cons m_I_areAll_1 (consOK_nil rfl))) Try.func143 (h := h_I_areAll) (by kernel_rfl) eq_I_areAll

/-- I_Group_has -/
def pk_I_Group_has : List PK := [.data (.cons (.int .i64) (.cons (.int .i64) (.one (.int .i64)))), .data (.int .i64)]
def rk_I_Group_has : List (Ty × Bool) := [(.bool, false)]
def h_I_Group_has : Hints := { loops := [] }
noncomputable def M_I_Group_has (x : ((Int × (Int × Int)) × Int)) : (Option Bool) :=
  (bindO (some (IntKind.wrap .i64 (x.1.1 - (1 : Int)))) (fun (a0 : Int) => (bindO (M_I_within (x.2, ((1 : Int), a0))) (fun (a1 : Bool) => (cond a1 (bindO (M_I_power (x.2, (x.1.2.1, x.1.1))) (fun (a2 : Int) => (some (a2 == (1 : Int))))) (some false))))))

noncomputable def c_I_Group_has : Con0 := ⟨pk_I_Group_has, rk_I_Group_has, M_I_Group_has⟩

set_option maxRecDepth 100000 in
theorem eq_I_Group_has (x : In pk_I_Group_has) : semF (mkE [(82, c_I_within), (84, c_I_power)]) h_I_Group_has (info Try.f85) pk_I_Group_has rk_I_Group_has x = M_I_Group_has x := by kernel_rfl

set_option maxRecDepth 100000 in
theorem m_I_Group_has : ConOK Try.prog 85 c_I_Group_has := fn_ok (tyOK _) (E := mkE [(82, c_I_within), (84, c_I_power)]) (consOK_cons m_I_within (consOK_cons m_I_power (consOK_nil rfl))) Try.func85 (h := h_I_Group_has) (by kernel_rfl) eq_I_Group_has

/-- I_Group_hasAll -/
def pk_I_Group_hasAll : List PK := [.data (.cons (.int .i64) (.cons (.int .i64) (.one (.int .i64)))), .data (.sl (.int .i64))]
def rk_I_Group_hasAll : List (Ty × Bool) := [(.bool, false)]
def h_I_Group_hasAll : Hints := { loops := [] }
noncomputable def M_I_Group_hasAll (x : ((Int × (Int × Int)) × (List Int))) : (Option Bool) :=
  (bindO (M_I_areAll (x.2, (fun (a0 : Int) => (bindO (M_I_Group_has ((x.1.1, (x.1.2.1, x.1.2.2)), a0)) (fun (a1 : Bool) => (some a1)))))) (fun (a2 : Bool) => (some a2)))

noncomputable def c_I_Group_hasAll : Con0 := ⟨pk_I_Group_hasAll, rk_I_Group_hasAll, M_I_Group_hasAll⟩

set_option maxRecDepth 100000 in
theorem eq_I_Group_hasAll (x : In pk_I_Group_hasAll) : semF (mkE [(143, c_I_areAll), (85, c_I_Group_has)]) h_I_Group_hasAll (info Try.f120) pk_I_Group_hasAll rk_I_Group_hasAll x = M_I_Group_hasAll x := by kernel_rfl

set_option maxRecDepth 100000 in
theorem m_I_Group_hasAll : ConOK Try.prog 120 c_I_Group_hasAll := fn_ok (tyOK _) (E := mkE [(143, c_I_areAll), (85, c_I_Group_has)]) (consOK_cons m_I_areAll (consOK_cons m_I_Group_has (consOK_nil rfl))) Try.func120 (h := h_I_Group_hasAll) (by kernel_rfl) eq_I_Group_hasAll

/-- I_Group_hasEqual -/
def pk_I_Group_hasEqual : List PK := [.data (.cons (.int .i64) (.cons (.int .i64) (.one (.int .i64)))), .data (.cons (.int .i64) (.cons (.int .i64) (.cons (.int .i64) (.one (.int .i64)))))]
def rk_I_Group_hasEqual : List (Ty × Bool) := [(.bool, false)]
def h_I_Group_hasEqual : Hints := { loops := [] }
noncomputable def M_I_Group_hasEqual (x : ((Int × (Int × Int)) × (Int × (Int × (Int × Int))))) : (Option Bool) :=
  (bindO (M_I_Group_hasAll ((x.1.1, (x.1.2.1, x.1.2.2)), (x.2.1 :: (x.2.2.1 :: (x.2.2.2.1 :: (x.2.2.2.2 :: ([] : List Int))))))) (fun (a0 : Bool) => (some a0)))

noncomputable def c_I_Group_hasEqual : Con0 := ⟨pk_I_Group_hasEqual, rk_I_Group_hasEqual, M_I_Group_hasEqual⟩

set_option maxRecDepth 100000 in
theorem eq_I_Group_hasEqual (x : In pk_I_Group_hasEqual) : semF (mkE [(120, c_I_Group_hasAll)]) h_I_Group_hasEqual (info Try.f105) pk_I_Group_hasEqual rk_I_Group_hasEqual x = M_I_Group_hasEqual x := by kernel_rfl

set_option maxRecDepth 100000 in
theorem m_I_Group_hasEqual : ConOK Try.prog 105 c_I_Group_hasEqual := fn_ok (tyOK _) (E := mkE [(120, c_I_Group_hasAll)]) (consOK_cons m_I_Group_hasAll (consOK_nil rfl)) Try.func105 (h := h_I_Group_hasEqual) (by kernel_rfl) eq_I_Group_hasEqual

/-- I_areBatch_1 -/
def pk_I_areBatch_1 : List PK := [.data (.cons (.int .i64) (.cons (.int .i64) (.cons (.int .i64) (.one (.int .i64))))), .rp (.cons (.int .i64) (.cons (.int .i64) (.one (.int .i64))))]
def rk_I_areBatch_1 : List (Ty × Bool) := [(.bool, false)]
def h_I_areBatch_1 : Hints := { loops := [] }
noncomputable def M_I_areBatch_1 (x : ((Int × (Int × (Int × Int))) × (Int × (Int × Int)))) : (Option Bool) :=
  (bindO (M_I_Group_hasEqual ((x.2.1, (x.2.2.1, x.2.2.2)), (x.1.1, (x.1.2.1, (x.1.2.2.1, x.1.2.2.2))))) (fun (a0 : Bool) => (some (not a0))))

noncomputable def c_I_areBatch_1 : Con0 := ⟨pk_I_areBatch_1, rk_I_areBatch_1, M_I_areBatch_1⟩

set_option maxRecDepth 100000 in
theorem eq_I_areBatch_1 (x : In pk_I_areBatch_1) : semF (mkE [(105, c_I_Group_hasEqual)]) h_I_areBatch_1 (info Try.f104) pk_I_areBatch_1 rk_I_areBatch_1 x = M_I_areBatch_1 x := by kernel_rfl

set_option maxRecDepth 100000 in
theorem m_I_areBatch_1 : ConOK Try.prog 104 c_I_areBatch_1 := fn_ok (tyOK _) (E := mkE [(105, c_I_Group_hasEqual)]) (consOK_cons m_I_Group_hasEqual (consOK_nil rfl)) Try.func104 (h := h_I_areBatch_1) (by kernel_rfl) eq_I_areBatch_1

/-- I_areBatch -/
def pk_I_areBatch : List PK := [.data (.cons (.int .i64) (.cons (.int .i64) (.one (.int .i64)))), .data .str, .data (.sl (.cons (.int .i64) (.cons (.int .i64) (.cons (.int .i64) (.one (.int .i64)))))), .data (.sl (.cons (.sl (.int .i64)) (.cons (.sl (.int .i64)) (.one (.sl (.int .i64))))))]
def rk_I_areBatch : List (Ty × Bool) := [(.bool, false)]
def h_I_areBatch : Hints := { loops := [] }
noncomputable def M_I_areBatch (x : ((Int × (Int × Int)) × (ByteArray × ((List (Int × (Int × (Int × Int)))) × (List ((List Int) × ((List Int) × (List Int)))))))) : (Option Bool) :=
  (bindO (M_I_IsValidGroup (x.1.1, (x.1.2.1, x.1.2.2))) (fun (a0 : Bool) => (cond a0 (bindO (M_I_isLabel x.2.1) (fun (a1 : Bool) => (cond a1 (cond (decide ((((List.length x.2.2.1) : Nat) : Int) ≤ (12 : Int))) (cond ((((List.length x.2.2.2) : Nat) : Int) == (((List.length x.2.2.1) : Nat) : Int)) (bindO (M_slices_ContainsFunc_sI_EqualLog_I_EqualLog (x.2.2.1, (fun (a2 : (Int × (Int × (Int × Int)))) => (bindO (M_I_areBatch_1 (a2, (x.1.1, (x.1.2.1, x.1.2.2)))) (fun (a3 : Bool) => (some a3)))))) (fun (a4 : Bool) => (some (not a4)))) (some false)) (some false)) (some false)))) (some false))))

noncomputable def c_I_areBatch : Con0 := ⟨pk_I_areBatch, rk_I_areBatch, M_I_areBatch⟩

set_option maxRecDepth 100000 in
theorem eq_I_areBatch (x : In pk_I_areBatch) : semF (mkE [(46, c_I_IsValidGroup), (102, c_I_isLabel), (103, c_slices_ContainsFunc_sI_EqualLog_I_EqualLog), (104, c_I_areBatch_1)]) h_I_areBatch (info Try.f57) pk_I_areBatch rk_I_areBatch x = M_I_areBatch x := by kernel_rfl

set_option maxRecDepth 100000 in
theorem m_I_areBatch : ConOK Try.prog 57 c_I_areBatch := fn_ok (tyOK _) (E := mkE [(46, c_I_IsValidGroup), (102, c_I_isLabel), (103, c_slices_ContainsFunc_sI_EqualLog_I_EqualLog), (104, c_I_areBatch_1)]) (consOK_cons m_I_IsValidGroup (consOK_cons m_I_isLabel (consOK_cons m_slices_ContainsFunc_sI_EqualLog_I_EqualLog (consOK_cons m_I_areBatch_1 (consOK_nil rfl))))) Try.func57 (h := h_I_areBatch) (by kernel_rfl) eq_I_areBatch

/-- I_Group_isExp -/
def pk_I_Group_isExp : List PK := [.data (.cons (.int .i64) (.cons (.int .i64) (.one (.int .i64)))), .data (.int .i64)]
def rk_I_Group_isExp : List (Ty × Bool) := [(.bool, false)]
def h_I_Group_isExp : Hints := { loops := [] }
noncomputable def M_I_Group_isExp (x : ((Int × (Int × Int)) × Int)) : (Option Bool) :=
  (bindO (some (IntKind.wrap .i64 (x.1.2.1 - (1 : Int)))) (fun (a0 : Int) => (bindO (M_I_within (x.2, ((0 : Int), a0))) (fun (a1 : Bool) => (some a1)))))

noncomputable def c_I_Group_isExp : Con0 := ⟨pk_I_Group_isExp, rk_I_Group_isExp, M_I_Group_isExp⟩

set_option maxRecDepth 100000 in
theorem eq_I_Group_isExp (x : In pk_I_Group_isExp) : semF (mkE [(82, c_I_within)]) h_I_Group_isExp (info Try.f134) pk_I_Group_isExp rk_I_Group_isExp x = M_I_Group_isExp x := by kernel_rfl

set_option maxRecDepth 100000 in
theorem m_I_Group_isExp : ConOK Try.prog 134 c_I_Group_isExp := fn_ok (tyOK _) (E := mkE [(82, c_I_within)]) (consOK_cons m_I_within (consOK_nil rfl)) Try.func134 (h := h_I_Group_isExp) (by kernel_rfl) eq_I_Group_isExp

/-- slices_Grow_sint_int -/
def pk_slices_Grow_sint_int : List PK := [.ow (.sl (.int .i64)), .data (.int .i64)]
def rk_slices_Grow_sint_int : List (Ty × Bool) := [((.sl (.int .i64)), true)]
noncomputable def M_slices_Grow_sint_int (x : ((List Int) × Int)) : (Option (List Int)) :=
  (if 0 ≤ x.2 ∧ (x.1.length : Int) + x.2 ≤ 68719476736 then some x.1 else Option.none)

noncomputable def c_slices_Grow_sint_int : Con0 := ⟨pk_slices_Grow_sint_int, rk_slices_Grow_sint_int, M_slices_Grow_sint_int⟩

def grow_ren : Go.Shelf.Ren := ⟨fun | 4 => 138 | n => n, fun | 0 => 0 | 3 => 3 | 4 => 4 | 9 => 9 | 20 => 20 | 22 => 29 | 25 => 3 | n => n, fun n => n⟩
set_option maxRecDepth 100000 in
theorem grow_lays : Go.Proofs.Lays8.n4 Try.prog grow_ren where
  mixed := by kernel_rfl
  f4 := ⟨Try.f138.name, of_decide_eq_true (by kernel_rfl), Try.func138.trans (congrArg some (by kernel_rfl))⟩
  t0 := Try.underlying0
  a0 := Try.isAgg0
  z0 := Try.sizeOf0
  v0 := Try.zeroValue0
  t3 := Try.underlying3
  a3 := Try.isAgg3
  z3 := Try.sizeOf3
  v3 := Try.zeroValue3
  t4 := Try.underlying4
  a4 := Try.isAgg4
  z4 := Try.sizeOf4
  v4 := Try.zeroValue4
  t9 := Try.underlying9
  a9 := Try.isAgg9
  z9 := Try.sizeOf9
  v9 := Try.zeroValue9
  t20 := Try.underlying20
  a20 := Try.isAgg20
  z20 := Try.sizeOf20
  v20 := Try.zeroValue20
  t22 := Try.underlying29
  a22 := Try.isAgg29
  z22 := Try.sizeOf29
  v22 := Try.zeroValue29

theorem m_slices_Grow_sint_int : ConOK Try.prog 138 c_slices_Grow_sint_int := grow_ok ⟨Try.f138, Try.func138, of_decide_eq_true (by kernel_rfl), by kernel_rfl⟩ (grow_room grow_lays) (grow_more grow_lays (tyOK []) (by kernel_rfl))

/-- slices_Concat_sint_int -/
def pk_slices_Concat_sint_int : List PK := [.data (.sl (.sl (.int .i64)))]
def rk_slices_Concat_sint_int : List (Ty × Bool) := [((.sl (.int .i64)), true)]
def h_slices_Concat_sint_int : Hints := { loops := [(0, { items := [.slot 3 (.data (.int .i64) []), .slot 11 (.data (.int .i64) [])], kill := [1, 2, 4, 5, 6, 7, 8, 12, 13, 14, 15, 16, 17, 18, 19, 20, 21, 22, 23, 24, 25, 26, 27, 28, 29, 30, 31, 32, 33, 34, 35] }), (2, { items := [.slot 6 (.own (.int .i64) true), .slot 27 (.data (.int .i64) [])], kill := [0, 1, 2, 3, 4, 5, 7, 8, 9, 10, 11, 12, 13, 14, 15, 16, 17, 18, 19, 20, 21, 22, 23, 24, 28, 29, 30, 31, 32, 33, 34, 35] })] }
noncomputable def M_slices_Concat_sint_int (x : (List (List Int))) : (Option (List Int)) :=
  (loopO (fun (again0 : ((Int × Int) → (Option (List Int)))) => (fun (s1 : (Int × Int)) => (cond (decide (s1.2 < (((List.length x) : Nat) : Int))) (bindO (getI x s1.2) (fun (a2 : (List Int)) => (bindO (some (IntKind.wrap .i64 (s1.1 + (((List.length a2) : Nat) : Int)))) (fun (a3 : Int) => (cond (decide (a3 < (0 : Int))) (none : Option (List Int)) (bindO (some (IntKind.wrap .i64 (s1.2 + (1 : Int)))) (fun (a4 : Int) => (again0 (a3, a4))))))))) (bindO (M_slices_Grow_sint_int (([] : List Int), s1.1)) (fun (a5 : (List Int)) => (loopO (fun (again6 : (((List Int) × Int) → (Option (List Int)))) => (fun (s7 : ((List Int) × Int)) => (cond (decide (s7.2 < (((List.length x) : Nat) : Int))) (bindO (getI x s7.2) (fun (a8 : (List Int)) => (bindO (guardO (lenOk ((List.length s7.1) + (List.length a8)))) (fun (a9 : Unit) => (bindO (some (s7.1 ++ a8)) (fun (a10 : (List Int)) => (bindO (some (IntKind.wrap .i64 (s7.2 + (1 : Int)))) (fun (a11 : Int) => (again6 (a10, a11)))))))))) (some s7.1)))) (a5, (0 : Int)))))))) ((0 : Int), (0 : Int)))

noncomputable def c_slices_Concat_sint_int : Con0 := ⟨pk_slices_Concat_sint_int, rk_slices_Concat_sint_int, M_slices_Concat_sint_int⟩

set_option maxRecDepth 100000 in
theorem eq_slices_Concat_sint_int (x : In pk_slices_Concat_sint_int) : semF (mkE [(138, c_slices_Grow_sint_int)]) h_slices_Concat_sint_int (info Try.f109) pk_slices_Concat_sint_int rk_slices_Concat_sint_int x = M_slices_Concat_sint_int x := by kernel_rfl

set_option maxRecDepth 100000 in
theorem m_slices_Concat_sint_int : ConOK Try.prog 109 c_slices_Concat_sint_int := fn_ok (tyOK _) (E := mkE [(138, c_slices_Grow_sint_int)]) (consOK_cons m_slices_Grow_sint_int (consOK_nil rfl)) Try.func109 (h := h_slices_Concat_sint_int) (by kernel_rfl) eq_slices_Concat_sint_int

/-- I_labelled -/
def pk_I_labelled : List PK := [.data .str, .data (.sl (.int .i64))]
def rk_I_labelled : List (Ty × Bool) := [((.sl (.int .i64)), true)]
def h_I_labelled : Hints := { loops := [(0, { items := [.slot 5 (.own (.int .i64) true), .slot 12 (.data (.int .i64) [])], kill := [2, 3, 4, 6, 7, 8, 9, 10, 13, 14, 15, 16, 17, 18, 19, 20, 21, 22, 23, 24, 25] })] }
noncomputable def M_I_labelled (x : (ByteArray × (List Int))) : (Option (List Int)) :=
  (loopO (fun (again0 : (((List Int) × Int) → (Option (List Int)))) => (fun (s1 : ((List Int) × Int)) => (cond (decide (s1.2 < (((ByteArray.size x.1) : Nat) : Int))) (bindO (if ((0 : Int) ≤ s1.2) then (x.1[(Int.toNat s1.2)]?) else (none : Option (UInt8))) (fun (a2 : (UInt8)) => (bindO (guardO (lenOk ((List.length s1.1) + (List.length ((IntKind.wrap .i64 (((UInt8.toNat a2) : Nat) : Int)) :: ([] : List Int)))))) (fun (a3 : Unit) => (bindO (some (s1.1 ++ ((IntKind.wrap .i64 (((UInt8.toNat a2) : Nat) : Int)) :: ([] : List Int)))) (fun (a4 : (List Int)) => (bindO (some (IntKind.wrap .i64 (s1.2 + (1 : Int)))) (fun (a5 : Int) => (again0 (a4, a5)))))))))) (bindO (guardO (lenOk ((List.length s1.1) + (List.length x.2)))) (fun (a6 : Unit) => (bindO (some (s1.1 ++ x.2)) (fun (a7 : (List Int)) => (some a7)))))))) (((((ByteArray.size x.1) : Nat) : Int) :: ([] : List Int)), (0 : Int)))

noncomputable def c_I_labelled : Con0 := ⟨pk_I_labelled, rk_I_labelled, M_I_labelled⟩

set_option maxRecDepth 100000 in
theorem eq_I_labelled (x : In pk_I_labelled) : semF (mkE []) h_I_labelled (info Try.f152) pk_I_labelled rk_I_labelled x = M_I_labelled x := by kernel_rfl

set_option maxRecDepth 100000 in
theorem m_I_labelled : ConOK Try.prog 152 c_I_labelled := fn_ok (tyOK _) (E := mkE []) (consOK_nil rfl) Try.func152 (h := h_I_labelled) (by kernel_rfl) eq_I_labelled

/-- I_isDigest -/
def pk_I_isDigest : List PK := [.data (.int .i64)]
def rk_I_isDigest : List (Ty × Bool) := [(.bool, false)]
def h_I_isDigest : Hints := { loops := [] }
noncomputable def M_I_isDigest (x : Int) : (Option Bool) :=
  (bindO (M_I_within (x, ((0 : Int), (4611686018427387903 : Int)))) (fun (a0 : Bool) => (some a0)))

noncomputable def c_I_isDigest : Con0 := ⟨pk_I_isDigest, rk_I_isDigest, M_I_isDigest⟩

set_option maxRecDepth 100000 in
theorem eq_I_isDigest (x : In pk_I_isDigest) : semF (mkE [(82, c_I_within)]) h_I_isDigest (info Try.f166) pk_I_isDigest rk_I_isDigest x = M_I_isDigest x := by kernel_rfl

set_option maxRecDepth 100000 in
theorem m_I_isDigest : ConOK Try.prog 166 c_I_isDigest := fn_ok (tyOK _) (E := mkE [(82, c_I_within)]) (consOK_cons m_I_within (consOK_nil rfl)) Try.func166 (h := h_I_isDigest) (by kernel_rfl) eq_I_isDigest

/-- I_areDigests -/
def pk_I_areDigests : List PK := [.data (.sl (.int .i64))]
def rk_I_areDigests : List (Ty × Bool) := [(.bool, false)]
def h_I_areDigests : Hints := { loops := [] }
noncomputable def M_I_areDigests (x : (List Int)) : (Option Bool) :=
  (cond (decide ((((List.length x) : Nat) : Int) ≤ (400 : Int))) (bindO (M_I_areAll (x, (fun (a0 : Int) => (bindO (M_I_isDigest a0) (fun (a1 : Bool) => (some a1)))))) (fun (a2 : Bool) => (some a2))) (some false))

noncomputable def c_I_areDigests : Con0 := ⟨pk_I_areDigests, rk_I_areDigests, M_I_areDigests⟩

set_option maxRecDepth 100000 in
theorem eq_I_areDigests (x : In pk_I_areDigests) : semF (mkE [(143, c_I_areAll), (166, c_I_isDigest)]) h_I_areDigests (info Try.f161) pk_I_areDigests rk_I_areDigests x = M_I_areDigests x := by kernel_rfl

set_option maxRecDepth 100000 in
theorem m_I_areDigests : ConOK Try.prog 161 c_I_areDigests := fn_ok (tyOK _) (E := mkE [(143, c_I_areAll), (166, c_I_isDigest)]) (consOK_cons m_I_areAll (consOK_cons m_I_isDigest (consOK_nil rfl))) Try.func161 (h := h_I_areDigests) (by kernel_rfl) eq_I_areDigests

/-- I_hash -/
def pk_I_hash : List PK := [.data (.sl (.int .i64))]
def rk_I_hash : List (Ty × Bool) := [((.int .i64), false)]
def h_I_hash : Hints := { loops := [(0, { items := [.slot 3 (.data (.int .i64) []), .slot 4 (.data (.int .i64) []), .slot 15 (.data (.int .i64) [])], kill := [0, 1, 2, 5, 6, 7, 8, 9, 10, 11, 12, 16, 17, 18, 19, 20, 21, 22, 23, 24, 25, 26, 27, 28, 29, 30, 31, 32, 33, 34, 35, 36, 37, 38, 39, 40, 41, 42, 43, 44, 45, 46, 47, 48, 49, 50, 51] })] }
noncomputable def M_I_hash (x : (List Int)) : (Option Int) :=
  (bindO (guardO (lenOk ((List.length ((((List.length x) : Nat) : Int) :: ([] : List Int))) + (List.length x)))) (fun (a0 : Unit) => (bindO (some (((((List.length x) : Nat) : Int) :: ([] : List Int)) ++ x)) (fun (a1 : (List Int)) => (loopO (fun (again2 : ((Int × (Int × Int)) → (Option Int))) => (fun (s3 : (Int × (Int × Int))) => (cond (decide (s3.2.2 < (((List.length a1) : Nat) : Int))) (bindO (getI a1 s3.2.2) (fun (a4 : Int) => (bindO (guardO (decide ((0 : Int) ≤ (31 : Int)))) (fun (a5 : Unit) => (bindO (some (shr .i64 a4 (31 : Int))) (fun (a6 : Int) => (bindO (some (bits .and .i64 a4 (2147483647 : Int))) (fun (a7 : Int) => (bindO (some (IntKind.wrap .i64 ((48271 : Int) * s3.1))) (fun (a8 : Int) => (bindO (some (IntKind.wrap .i64 (a8 + a7))) (fun (a9 : Int) => (bindO (some (IntKind.wrap .i64 (a9 + (1 : Int)))) (fun (a10 : Int) => (bindO (guardO ((2147483647 : Int) != (0 : Int))) (fun (a11 : Unit) => (bindO (some (Int.tmod a10 (2147483647 : Int))) (fun (a12 : Int) => (bindO (some (IntKind.wrap .i64 ((48271 : Int) * a12))) (fun (a13 : Int) => (bindO (some (IntKind.wrap .i64 (a13 + a6))) (fun (a14 : Int) => (bindO (some (IntKind.wrap .i64 (a14 + (1 : Int)))) (fun (a15 : Int) => (bindO (guardO ((2147483647 : Int) != (0 : Int))) (fun (a16 : Unit) => (bindO (some (Int.tmod a15 (2147483647 : Int))) (fun (a17 : Int) => (bindO (some (IntKind.wrap .i64 ((69621 : Int) * s3.2.1))) (fun (a18 : Int) => (bindO (some (IntKind.wrap .i64 (a18 + a7))) (fun (a19 : Int) => (bindO (some (IntKind.wrap .i64 (a19 + (1 : Int)))) (fun (a20 : Int) => (bindO (guardO ((2147483647 : Int) != (0 : Int))) (fun (a21 : Unit) => (bindO (some (Int.tmod a20 (2147483647 : Int))) (fun (a22 : Int) => (bindO (some (IntKind.wrap .i64 ((69621 : Int) * a22))) (fun (a23 : Int) => (bindO (some (IntKind.wrap .i64 (a23 + a6))) (fun (a24 : Int) => (bindO (some (IntKind.wrap .i64 (a24 + (1 : Int)))) (fun (a25 : Int) => (bindO (guardO ((2147483647 : Int) != (0 : Int))) (fun (a26 : Unit) => (bindO (some (Int.tmod a25 (2147483647 : Int))) (fun (a27 : Int) => (bindO (some (IntKind.wrap .i64 (s3.2.2 + (1 : Int)))) (fun (a28 : Int) => (again2 (a17, (a27, a28))))))))))))))))))))))))))))))))))))))))))))))))))))) (bindO (guardO (decide ((0 : Int) ≤ (31 : Int)))) (fun (a29 : Unit) => (bindO (some (shl .i64 s3.1 (31 : Int))) (fun (a30 : Int) => (bindO (some (IntKind.wrap .i64 (a30 + s3.2.1))) (fun (a31 : Int) => (some a31)))))))))) ((1 : Int), ((2 : Int), (0 : Int))))))))

noncomputable def c_I_hash : Con0 := ⟨pk_I_hash, rk_I_hash, M_I_hash⟩

set_option maxRecDepth 100000 in
theorem eq_I_hash (x : In pk_I_hash) : semF (mkE []) h_I_hash (info Try.f162) pk_I_hash rk_I_hash x = M_I_hash x := by kernel_rfl

set_option maxRecDepth 100000 in
theorem m_I_hash : ConOK Try.prog 162 c_I_hash := fn_ok (tyOK _) (E := mkE []) (consOK_nil rfl) Try.func162 (h := h_I_hash) (by kernel_rfl) eq_I_hash

/-- I_HashInts -/
def pk_I_HashInts : List PK := [.data (.sl (.int .i64))]
def rk_I_HashInts : List (Ty × Bool) := [((.int .i64), false), (.bool, false)]
def h_I_HashInts : Hints := { loops := [] }
noncomputable def M_I_HashInts (x : (List Int)) : (Option (Int × Bool)) :=
  (bindO (M_I_areDigests x) (fun (a0 : Bool) => (cond (not a0) (some ((0 : Int), false)) (bindO (M_I_hash x) (fun (a1 : Int) => (some (a1, true)))))))

noncomputable def c_I_HashInts : Con0 := ⟨pk_I_HashInts, rk_I_HashInts, M_I_HashInts⟩

set_option maxRecDepth 100000 in
theorem eq_I_HashInts (x : In pk_I_HashInts) : semF (mkE [(161, c_I_areDigests), (162, c_I_hash)]) h_I_HashInts (info Try.f151) pk_I_HashInts rk_I_HashInts x = M_I_HashInts x := by kernel_rfl

set_option maxRecDepth 100000 in
theorem m_I_HashInts : ConOK Try.prog 151 c_I_HashInts := fn_ok (tyOK _) (E := mkE [(161, c_I_areDigests), (162, c_I_hash)]) (consOK_cons m_I_areDigests (consOK_cons m_I_hash (consOK_nil rfl))) Try.func151 (h := h_I_HashInts) (by kernel_rfl) eq_I_HashInts

/-- I_HashLabelled -/
def pk_I_HashLabelled : List PK := [.data .str, .data (.sl (.int .i64))]
def rk_I_HashLabelled : List (Ty × Bool) := [((.int .i64), false), (.bool, false)]
def h_I_HashLabelled : Hints := { loops := [] }
noncomputable def M_I_HashLabelled (x : (ByteArray × (List Int))) : (Option (Int × Bool)) :=
  (cond (decide ((((ByteArray.size x.1) : Nat) : Int) > (40 : Int))) (some ((0 : Int), false)) (cond (decide ((((List.length x.2) : Nat) : Int) > (400 : Int))) (some ((0 : Int), false)) (bindO (M_I_labelled (x.1, x.2)) (fun (a0 : (List Int)) => (bindO (M_I_HashInts a0) (fun (a1 : (Int × Bool)) => (some (a1.1, a1.2))))))))

noncomputable def c_I_HashLabelled : Con0 := ⟨pk_I_HashLabelled, rk_I_HashLabelled, M_I_HashLabelled⟩

set_option maxRecDepth 100000 in
theorem eq_I_HashLabelled (x : In pk_I_HashLabelled) : semF (mkE [(152, c_I_labelled), (151, c_I_HashInts)]) h_I_HashLabelled (info Try.f136) pk_I_HashLabelled rk_I_HashLabelled x = M_I_HashLabelled x := by kernel_rfl

set_option maxRecDepth 100000 in
theorem m_I_HashLabelled : ConOK Try.prog 136 c_I_HashLabelled := fn_ok (tyOK _) (E := mkE [(152, c_I_labelled), (151, c_I_HashInts)]) (consOK_cons m_I_labelled (consOK_cons m_I_HashInts (consOK_nil rfl))) Try.func136 (h := h_I_HashLabelled) (by kernel_rfl) eq_I_HashLabelled

/-- I_Group_challenge -/
def pk_I_Group_challenge : List PK := [.data (.cons (.int .i64) (.cons (.int .i64) (.one (.int .i64)))), .data .str, .data (.sl (.int .i64))]
def rk_I_Group_challenge : List (Ty × Bool) := [((.int .i64), false), (.bool, false)]
def h_I_Group_challenge : Hints := { loops := [] }
noncomputable def M_I_Group_challenge (x : ((Int × (Int × Int)) × (ByteArray × (List Int)))) : (Option (Int × Bool)) :=
  (bindO (guardO (lenOk ((List.length (x.1.1 :: (x.1.2.1 :: (x.1.2.2 :: ([] : List Int))))) + (List.length x.2.2)))) (fun (a0 : Unit) => (bindO (some ((x.1.1 :: (x.1.2.1 :: (x.1.2.2 :: ([] : List Int)))) ++ x.2.2)) (fun (a1 : (List Int)) => (bindO (M_I_HashLabelled (x.2.1, a1)) (fun (a2 : (Int × Bool)) => (cond (not a2.2) (some ((0 : Int), false)) (bindO (guardO (x.1.2.1 != (0 : Int))) (fun (a3 : Unit) => (bindO (some (Int.tmod a2.1 x.1.2.1)) (fun (a4 : Int) => (some (a4, true)))))))))))))

noncomputable def c_I_Group_challenge : Con0 := ⟨pk_I_Group_challenge, rk_I_Group_challenge, M_I_Group_challenge⟩

set_option maxRecDepth 100000 in
theorem eq_I_Group_challenge (x : In pk_I_Group_challenge) : semF (mkE [(136, c_I_HashLabelled)]) h_I_Group_challenge (info Try.f135) pk_I_Group_challenge rk_I_Group_challenge x = M_I_Group_challenge x := by kernel_rfl

set_option maxRecDepth 100000 in
theorem m_I_Group_challenge : ConOK Try.prog 135 c_I_Group_challenge := fn_ok (tyOK _) (E := mkE [(136, c_I_HashLabelled)]) (consOK_cons m_I_HashLabelled (consOK_nil rfl)) Try.func135 (h := h_I_Group_challenge) (by kernel_rfl) eq_I_Group_challenge

/-- I_Group_isLinearForm -/
def pk_I_Group_isLinearForm : List PK := [.data (.cons (.int .i64) (.cons (.int .i64) (.one (.int .i64)))), .data .str, .data (.sl (.int .i64)), .data (.sl (.int .i64)), .data (.cons (.sl (.int .i64)) (.cons (.sl (.int .i64)) (.one (.sl (.int .i64)))))]
def rk_I_Group_isLinearForm : List (Ty × Bool) := [(.bool, false)]
def h_I_Group_isLinearForm : Hints := { loops := [] }
noncomputable def M_I_Group_isLinearForm (x : ((Int × (Int × Int)) × (ByteArray × ((List Int) × ((List Int) × ((List Int) × ((List Int) × (List Int)))))))) : (Option Bool) :=
  (cond ((((List.length x.2.2.2.2.1) : Nat) : Int) != (((List.length x.2.2.1) : Nat) : Int)) (some false) (cond ((((List.length x.2.2.2.2.2.1) : Nat) : Int) != (1 : Int)) (some false) (cond ((((List.length x.2.2.2.2.2.2) : Nat) : Int) != (1 : Int)) (some false) (bindO (M_I_Group_hasAll ((x.1.1, (x.1.2.1, x.1.2.2)), x.2.2.2.2.1)) (fun (a0 : Bool) => (cond (not a0) (some false) (bindO (getI x.2.2.2.2.2.2 (0 : Int)) (fun (a1 : Int) => (bindO (M_I_Group_isExp ((x.1.1, (x.1.2.1, x.1.2.2)), a1)) (fun (a2 : Bool) => (cond (not a2) (some false) (bindO (M_slices_Concat_sint_int (x.2.2.1 :: (x.2.2.2.1 :: (x.2.2.2.2.1 :: ([] : List (List Int)))))) (fun (a3 : (List Int)) => (bindO (M_I_Group_challenge ((x.1.1, (x.1.2.1, x.1.2.2)), (x.2.1, a3))) (fun (a4 : (Int × Bool)) => (cond a4.2 (bindO (getI x.2.2.2.2.2.1 (0 : Int)) (fun (a5 : Int) => (some (a5 == a4.1)))) (some false)))))))))))))))))

noncomputable def c_I_Group_isLinearForm : Con0 := ⟨pk_I_Group_isLinearForm, rk_I_Group_isLinearForm, M_I_Group_isLinearForm⟩

set_option maxRecDepth 100000 in
theorem eq_I_Group_isLinearForm (x : In pk_I_Group_isLinearForm) : semF (mkE [(120, c_I_Group_hasAll), (134, c_I_Group_isExp), (109, c_slices_Concat_sint_int), (135, c_I_Group_challenge)]) h_I_Group_isLinearForm (info Try.f106) pk_I_Group_isLinearForm rk_I_Group_isLinearForm x = M_I_Group_isLinearForm x := by kernel_rfl

set_option maxRecDepth 100000 in
theorem m_I_Group_isLinearForm : ConOK Try.prog 106 c_I_Group_isLinearForm := fn_ok (tyOK _) (E := mkE [(120, c_I_Group_hasAll), (134, c_I_Group_isExp), (109, c_slices_Concat_sint_int), (135, c_I_Group_challenge)]) (consOK_cons m_I_Group_hasAll (consOK_cons m_I_Group_isExp (consOK_cons m_slices_Concat_sint_int (consOK_cons m_I_Group_challenge (consOK_nil rfl))))) Try.func106 (h := h_I_Group_isLinearForm) (by kernel_rfl) eq_I_Group_isLinearForm

/-- I_tops -/
def pk_I_tops : List PK := [.data (.sl (.cons (.sl (.int .i64)) (.cons (.sl (.int .i64)) (.one (.sl (.int .i64))))))]
def rk_I_tops : List (Ty × Bool) := [((.sl (.int .i64)), true), ((.sl (.int .i64)), true)]
def h_I_tops : Hints := { loops := [(0, { items := [.slot 4 (.own (.int .i64) true), .slot 5 (.own (.int .i64) true), .slot 12 (.data (.int .i64) [])], kill := [0, 1, 2, 3, 6, 7, 8, 9, 13, 14, 15, 16, 17, 18, 19, 20, 21, 22, 23, 24, 25, 26, 27, 28, 29, 30, 31, 32] })] }
noncomputable def M_I_tops (x : (List ((List Int) × ((List Int) × (List Int))))) : (Option ((List Int) × (List Int))) :=
  (loopO (fun (again0 : (((List Int) × ((List Int) × Int)) → (Option ((List Int) × (List Int))))) => (fun (s1 : ((List Int) × ((List Int) × Int))) => (cond (decide (s1.2.2 < (((List.length x) : Nat) : Int))) (bindO (getI x s1.2.2) (fun (a2 : ((List Int) × ((List Int) × (List Int)))) => (bindO (getI a2.2.1 (0 : Int)) (fun (a3 : Int) => (bindO (guardO (lenOk ((List.length s1.1) + (List.length (a3 :: ([] : List Int)))))) (fun (a4 : Unit) => (bindO (some (s1.1 ++ (a3 :: ([] : List Int)))) (fun (a5 : (List Int)) => (bindO (getI a2.2.2 (0 : Int)) (fun (a6 : Int) => (bindO (guardO (lenOk ((List.length s1.2.1) + (List.length (a6 :: ([] : List Int)))))) (fun (a7 : Unit) => (bindO (some (s1.2.1 ++ (a6 :: ([] : List Int)))) (fun (a8 : (List Int)) => (bindO (some (IntKind.wrap .i64 (s1.2.2 + (1 : Int)))) (fun (a9 : Int) => (again0 (a5, (a8, a9))))))))))))))))))) (some (s1.1, s1.2.1))))) (([] : List Int), (([] : List Int), (0 : Int))))

noncomputable def c_I_tops : Con0 := ⟨pk_I_tops, rk_I_tops, M_I_tops⟩

set_option maxRecDepth 100000 in
theorem eq_I_tops (x : In pk_I_tops) : semF (mkE []) h_I_tops (info Try.f107) pk_I_tops rk_I_tops x = M_I_tops x := by kernel_rfl

set_option maxRecDepth 100000 in
theorem m_I_tops : ConOK Try.prog 107 c_I_tops := fn_ok (tyOK _) (E := mkE []) (consOK_nil rfl) Try.func107 (h := h_I_tops) (by kernel_rfl) eq_I_tops

/-- slices_Clone_sint_int -/
def pk_slices_Clone_sint_int : List PK := [.data (.sl (.int .i64))]
def rk_slices_Clone_sint_int : List (Ty × Bool) := [((.sl (.int .i64)), true)]
def h_slices_Clone_sint_int : Hints := { loops := [] }
noncomputable def M_slices_Clone_sint_int (x : (List Int)) : (Option (List Int)) :=
  (cond (List.isEmpty x) (ambO (some ([] : List Int)) (cond (not true) (some ([] : List Int)) (bindO (guardO (lenOk ((List.length ([] : List Int)) + (List.length x)))) (fun (a0 : Unit) => (bindO (some (([] : List Int) ++ x)) (fun (a1 : (List Int)) => (some a1))))))) (cond (not true) (some ([] : List Int)) (bindO (guardO (lenOk ((List.length ([] : List Int)) + (List.length x)))) (fun (a2 : Unit) => (bindO (some (([] : List Int) ++ x)) (fun (a3 : (List Int)) => (some a3)))))))

noncomputable def c_slices_Clone_sint_int : Con0 := ⟨pk_slices_Clone_sint_int, rk_slices_Clone_sint_int, M_slices_Clone_sint_int⟩

set_option maxRecDepth 100000 in
theorem eq_slices_Clone_sint_int (x : In pk_slices_Clone_sint_int) : semF (mkE []) h_slices_Clone_sint_int (info Try.f137) pk_slices_Clone_sint_int rk_slices_Clone_sint_int x = M_slices_Clone_sint_int x := by kernel_rfl

set_option maxRecDepth 100000 in
theorem m_slices_Clone_sint_int : ConOK Try.prog 137 c_slices_Clone_sint_int := fn_ok (tyOK _) (E := mkE []) (consOK_nil rfl) Try.func137 (h := h_slices_Clone_sint_int) (by kernel_rfl) eq_slices_Clone_sint_int

/-- I_Group_smallExponents -/
def pk_I_Group_smallExponents : List PK := [.data (.cons (.int .i64) (.cons (.int .i64) (.one (.int .i64)))), .data (.sl (.int .i64)), .data (.int .i64)]
def rk_I_Group_smallExponents : List (Ty × Bool) := [((.sl (.int .i64)), true), (.bool, false)]
def h_I_Group_smallExponents : Hints := { loops := [(0, { items := [.slot 8 (.own (.int .i64) true), .slot 15 (.data (.int .i64) [])], kill := [0, 4, 5, 6, 7, 9, 10, 11, 12, 13, 16, 17, 18, 19, 20, 21, 22, 23, 24, 25, 26, 27, 28, 29, 30, 31, 32, 33, 34, 35, 36, 37, 38, 39, 40, 41, 42] })] }
noncomputable def M_I_Group_smallExponents (x : ((Int × (Int × Int)) × ((List Int) × Int))) : (Option ((List Int) × Bool)) :=
  (loopO (fun (again0 : (((List Int) × Int) → (Option ((List Int) × Bool)))) => (fun (s1 : ((List Int) × Int)) => (cond (decide (s1.2 < (if (x.2.2 < (1 : Int)) then (1 : Int) else x.2.2))) (bindO (M_slices_Clone_sint_int x.2.1) (fun (a2 : (List Int)) => (bindO (guardO (lenOk ((List.length a2) + (List.length (s1.2 :: ([] : List Int)))))) (fun (a3 : Unit) => (bindO (some (a2 ++ (s1.2 :: ([] : List Int)))) (fun (a4 : (List Int)) => (bindO (M_I_HashLabelled ((bytesOf [115, 109, 97, 108, 108]), a4)) (fun (a5 : (Int × Bool)) => (cond (not a5.2) (some (([] : List Int), false)) (bindO (some (IntKind.wrap .i64 (x.1.2.1 - (1 : Int)))) (fun (a6 : Int) => (bindO (guardO ((if (a6 < (65535 : Int)) then a6 else (65535 : Int)) != (0 : Int))) (fun (a7 : Unit) => (bindO (some (Int.tmod a5.1 (if (a6 < (65535 : Int)) then a6 else (65535 : Int)))) (fun (a8 : Int) => (bindO (some (IntKind.wrap .i64 ((1 : Int) + a8))) (fun (a9 : Int) => (bindO (guardO (lenOk ((List.length s1.1) + (List.length (a9 :: ([] : List Int)))))) (fun (a10 : Unit) => (bindO (some (s1.1 ++ (a9 :: ([] : List Int)))) (fun (a11 : (List Int)) => (bindO (some (IntKind.wrap .i64 (s1.2 + (1 : Int)))) (fun (a12 : Int) => (again0 (a11, a12))))))))))))))))))))))))) (bindO (sliceNH x.2.2 (List.length s1.1)) (fun (a13 : (Nat × Nat)) => (some ((List.take a13.2 s1.1), true))))))) (([] : List Int), (0 : Int)))

noncomputable def c_I_Group_smallExponents : Con0 := ⟨pk_I_Group_smallExponents, rk_I_Group_smallExponents, M_I_Group_smallExponents⟩

set_option maxRecDepth 100000 in
theorem eq_I_Group_smallExponents (x : In pk_I_Group_smallExponents) : semF (mkE [(137, c_slices_Clone_sint_int), (136, c_I_HashLabelled)]) h_I_Group_smallExponents (info Try.f108) pk_I_Group_smallExponents rk_I_Group_smallExponents x = M_I_Group_smallExponents x := by kernel_rfl

set_option maxRecDepth 100000 in
theorem m_I_Group_smallExponents : ConOK Try.prog 108 c_I_Group_smallExponents := fn_ok (tyOK _) (E := mkE [(137, c_slices_Clone_sint_int), (136, c_I_HashLabelled)]) (consOK_cons m_slices_Clone_sint_int (consOK_cons m_I_HashLabelled (consOK_nil rfl))) Try.func108 (h := h_I_Group_smallExponents) (by kernel_rfl) eq_I_Group_smallExponents

/-- I_mod -/
def pk_I_mod : List PK := [.data (.int .i64), .data (.int .i64)]
def rk_I_mod : List (Ty × Bool) := [((.int .i64), false)]
def h_I_mod : Hints := { loops := [] }
noncomputable def M_I_mod (x : (Int × Int)) : (Option Int) :=
  (bindO (guardO (x.2 != (0 : Int))) (fun (a0 : Unit) => (bindO (some (Int.tmod x.1 x.2)) (fun (a1 : Int) => (bindO (some (IntKind.wrap .i64 (a1 + x.2))) (fun (a2 : Int) => (bindO (guardO (x.2 != (0 : Int))) (fun (a3 : Unit) => (bindO (some (Int.tmod a2 x.2)) (fun (a4 : Int) => (some a4)))))))))))

noncomputable def c_I_mod : Con0 := ⟨pk_I_mod, rk_I_mod, M_I_mod⟩

set_option maxRecDepth 100000 in
theorem eq_I_mod (x : In pk_I_mod) : semF (mkE []) h_I_mod (info Try.f140) pk_I_mod rk_I_mod x = M_I_mod x := by kernel_rfl

set_option maxRecDepth 100000 in
theorem m_I_mod : ConOK Try.prog 140 c_I_mod := fn_ok (tyOK _) (E := mkE []) (consOK_nil rfl) Try.func140 (h := h_I_mod) (by kernel_rfl) eq_I_mod

/-- I_Group_pow -/
def pk_I_Group_pow : List PK := [.data (.cons (.int .i64) (.cons (.int .i64) (.one (.int .i64)))), .data (.int .i64), .data (.int .i64)]
def rk_I_Group_pow : List (Ty × Bool) := [((.int .i64), false)]
def h_I_Group_pow : Hints := { loops := [] }
noncomputable def M_I_Group_pow (x : ((Int × (Int × Int)) × (Int × Int))) : (Option Int) :=
  (bindO (M_I_mod (x.2.2, x.1.2.1)) (fun (a0 : Int) => (bindO (M_I_power (x.2.1, (a0, x.1.1))) (fun (a1 : Int) => (some a1)))))

noncomputable def c_I_Group_pow : Con0 := ⟨pk_I_Group_pow, rk_I_Group_pow, M_I_Group_pow⟩

set_option maxRecDepth 100000 in
theorem eq_I_Group_pow (x : In pk_I_Group_pow) : semF (mkE [(140, c_I_mod), (84, c_I_power)]) h_I_Group_pow (info Try.f111) pk_I_Group_pow rk_I_Group_pow x = M_I_Group_pow x := by kernel_rfl

set_option maxRecDepth 100000 in
theorem m_I_Group_pow : ConOK Try.prog 111 c_I_Group_pow := fn_ok (tyOK _) (E := mkE [(140, c_I_mod), (84, c_I_power)]) (consOK_cons m_I_mod (consOK_cons m_I_power (consOK_nil rfl))) Try.func111 (h := h_I_Group_pow) (by kernel_rfl) eq_I_Group_pow

/-- I_Group_mul -/
def pk_I_Group_mul : List PK := [.data (.cons (.int .i64) (.cons (.int .i64) (.one (.int .i64)))), .data (.sl (.int .i64))]
def rk_I_Group_mul : List (Ty × Bool) := [((.int .i64), false)]
def h_I_Group_mul : Hints := { loops := [(0, { items := [.slot 5 (.data (.int .i64) []), .slot 10 (.data (.int .i64) [])], kill := [0, 1, 3, 4, 6, 7, 11, 12, 13, 14, 15, 16, 17, 18, 19, 20, 21] })] }
noncomputable def M_I_Group_mul (x : ((Int × (Int × Int)) × (List Int))) : (Option Int) :=
  (loopO (fun (again0 : ((Int × Int) → (Option Int))) => (fun (s1 : (Int × Int)) => (cond (decide (s1.2 < (((List.length x.2) : Nat) : Int))) (bindO (getI x.2 s1.2) (fun (a2 : Int) => (bindO (some (IntKind.wrap .i64 (s1.1 * a2))) (fun (a3 : Int) => (bindO (guardO (x.1.1 != (0 : Int))) (fun (a4 : Unit) => (bindO (some (Int.tmod a3 x.1.1)) (fun (a5 : Int) => (bindO (some (IntKind.wrap .i64 (s1.2 + (1 : Int)))) (fun (a6 : Int) => (again0 (a5, a6)))))))))))) (some s1.1)))) ((1 : Int), (0 : Int)))

noncomputable def c_I_Group_mul : Con0 := ⟨pk_I_Group_mul, rk_I_Group_mul, M_I_Group_mul⟩

set_option maxRecDepth 100000 in
theorem eq_I_Group_mul (x : In pk_I_Group_mul) : semF (mkE []) h_I_Group_mul (info Try.f90) pk_I_Group_mul rk_I_Group_mul x = M_I_Group_mul x := by kernel_rfl

set_option maxRecDepth 100000 in
theorem m_I_Group_mul : ConOK Try.prog 90 c_I_Group_mul := fn_ok (tyOK _) (E := mkE []) (consOK_nil rfl) Try.func90 (h := h_I_Group_mul) (by kernel_rfl) eq_I_Group_mul

/-- I_Group_inv -/
def pk_I_Group_inv : List PK := [.data (.cons (.int .i64) (.cons (.int .i64) (.one (.int .i64)))), .data (.int .i64)]
def rk_I_Group_inv : List (Ty × Bool) := [((.int .i64), false)]
def h_I_Group_inv : Hints := { loops := [] }
noncomputable def M_I_Group_inv (x : ((Int × (Int × Int)) × Int)) : (Option Int) :=
  (bindO (M_I_Group_pow ((x.1.1, (x.1.2.1, x.1.2.2)), (x.2, (- (1 : Int))))) (fun (a0 : Int) => (some a0)))

noncomputable def c_I_Group_inv : Con0 := ⟨pk_I_Group_inv, rk_I_Group_inv, M_I_Group_inv⟩

set_option maxRecDepth 100000 in
theorem eq_I_Group_inv (x : In pk_I_Group_inv) : semF (mkE [(111, c_I_Group_pow)]) h_I_Group_inv (info Try.f139) pk_I_Group_inv rk_I_Group_inv x = M_I_Group_inv x := by kernel_rfl

set_option maxRecDepth 100000 in
theorem m_I_Group_inv : ConOK Try.prog 139 c_I_Group_inv := fn_ok (tyOK _) (E := mkE [(111, c_I_Group_pow)]) (consOK_cons m_I_Group_pow (consOK_nil rfl)) Try.func139 (h := h_I_Group_inv) (by kernel_rfl) eq_I_Group_inv

/-- I_Group_over -/
def pk_I_Group_over : List PK := [.data (.cons (.int .i64) (.cons (.int .i64) (.one (.int .i64)))), .data (.int .i64), .data (.int .i64)]
def rk_I_Group_over : List (Ty × Bool) := [((.int .i64), false)]
def h_I_Group_over : Hints := { loops := [] }
noncomputable def M_I_Group_over (x : ((Int × (Int × Int)) × (Int × Int))) : (Option Int) :=
  (bindO (M_I_Group_inv ((x.1.1, (x.1.2.1, x.1.2.2)), x.2.2)) (fun (a0 : Int) => (bindO (M_I_Group_mul ((x.1.1, (x.1.2.1, x.1.2.2)), (x.2.1 :: (a0 :: ([] : List Int))))) (fun (a1 : Int) => (some a1)))))

noncomputable def c_I_Group_over : Con0 := ⟨pk_I_Group_over, rk_I_Group_over, M_I_Group_over⟩

set_option maxRecDepth 100000 in
theorem eq_I_Group_over (x : In pk_I_Group_over) : semF (mkE [(139, c_I_Group_inv), (90, c_I_Group_mul)]) h_I_Group_over (info Try.f110) pk_I_Group_over rk_I_Group_over x = M_I_Group_over x := by kernel_rfl

set_option maxRecDepth 100000 in
theorem m_I_Group_over : ConOK Try.prog 110 c_I_Group_over := fn_ok (tyOK _) (E := mkE [(139, c_I_Group_inv), (90, c_I_Group_mul)]) (consOK_cons m_I_Group_inv (consOK_cons m_I_Group_mul (consOK_nil rfl))) Try.func110 (h := h_I_Group_over) (by kernel_rfl) eq_I_Group_over

/-- I_Group_batchEqual -/
def pk_I_Group_batchEqual : List PK := [.data (.cons (.int .i64) (.cons (.int .i64) (.one (.int .i64)))), .data .str, .data (.sl (.cons (.int .i64) (.cons (.int .i64) (.cons (.int .i64) (.one (.int .i64)))))), .data (.sl (.cons (.sl (.int .i64)) (.cons (.sl (.int .i64)) (.one (.sl (.int .i64))))))]
def rk_I_Group_batchEqual : List (Ty × Bool) := [(.bool, false), (.bool, false)]
def h_I_Group_batchEqual : Hints := { loops := [(0, { items := [.slot 24 (.data (.int .i64) [])], kill := [0, 5, 6, 7, 8, 9, 10, 11, 12, 13, 14, 15, 16, 17, 18, 19, 20, 21, 25, 26, 27, 28, 29, 30, 31, 32, 33, 34, 35, 36, 37, 38, 39, 40, 41, 42, 43, 44, 45, 46, 47, 48, 49, 50, 51, 52, 53, 54, 55, 56, 57, 58, 59, 60, 61, 62, 63, 64, 65, 66, 67, 68, 69, 70, 71, 72, 73, 74, 75, 76, 77, 78, 79, 80, 81, 82, 83, 84, 85, 86, 87, 88, 89, 90, 91, 92, 93, 94, 95, 96, 97, 98, 99, 100, 101, 102, 103, 104, 105, 106, 107, 108, 109, 110, 111, 112, 113, 114, 115, 116, 117, 118, 119, 120, 121, 122, 123, 124, 125, 126, 127, 128, 129, 130, 131, 132, 133, 134, 135, 136, 137, 138, 139, 140, 141, 142, 143, 144, 145, 146, 147, 148, 149, 150, 151, 152, 153, 154, 155, 156, 157, 158, 159, 160, 161, 162, 163, 164, 165, 166, 167, 168] }), (2, { items := [.slot 17 (.data (.int .i64) []), .slot 79 (.data (.int .i64) [])], kill := [0, 1, 3, 5, 6, 7, 8, 9, 10, 11, 16, 18, 19, 20, 21, 22, 23, 24, 25, 26, 27, 28, 29, 30, 31, 32, 33, 34, 35, 36, 37, 38, 39, 40, 41, 42, 43, 44, 45, 46, 47, 48, 49, 50, 51, 52, 53, 54, 55, 56, 57, 58, 59, 60, 61, 62, 63, 64, 65, 66, 67, 68, 69, 70, 71, 72, 73, 74, 75, 76, 80, 81, 82, 83, 84, 85, 86, 87, 88, 89, 90, 91, 92, 93, 94, 95, 96, 97, 98, 99, 100, 101, 102, 103, 104, 105, 106, 107, 108, 109, 110, 111, 112, 113, 114, 115, 116, 117, 118, 119, 120, 121, 122, 123, 124, 125, 126, 127, 128, 129, 130, 131, 132, 133, 134, 135, 136, 137, 138, 139, 140, 141, 142, 143, 144, 145, 146, 147, 148, 149, 150, 151, 152, 153, 154, 155, 156, 157, 158, 159, 160, 161, 162, 163, 164, 165, 166, 167, 168] })] }
noncomputable def M_I_Group_batchEqual (x : ((Int × (Int × Int)) × (ByteArray × ((List (Int × (Int × (Int × Int)))) × (List ((List Int) × ((List Int) × (List Int)))))))) : (Option (Bool × Bool)) :=
  (loopO (fun (again0 : (Int → (Option (Bool × Bool)))) => (fun (s1 : Int) => (cond (decide (s1 < (((List.length x.2.2.2) : Nat) : Int))) (bindO (getI x.2.2.2 s1) (fun (a2 : ((List Int) × ((List Int) × (List Int)))) => (bindO (getI x.2.2.1 s1) (fun (a3 : (Int × (Int × (Int × Int)))) => (bindO (getI x.2.2.1 s1) (fun (a4 : (Int × (Int × (Int × Int)))) => (bindO (getI x.2.2.1 s1) (fun (a5 : (Int × (Int × (Int × Int)))) => (bindO (getI x.2.2.1 s1) (fun (a6 : (Int × (Int × (Int × Int)))) => (bindO (M_I_Group_isLinearForm ((x.1.1, (x.1.2.1, x.1.2.2)), (x.2.1, ((a3.1 :: (a4.2.2.1 :: ([] : List Int))), ((a5.2.1 :: (a6.2.2.2 :: ([] : List Int))), (a2.1, (a2.2.1, a2.2.2))))))) (fun (a7 : Bool) => (cond (not a7) (some (false, true)) (bindO (some (IntKind.wrap .i64 (s1 + (1 : Int)))) (fun (a8 : Int) => (again0 a8)))))))))))))))) (bindO (M_I_tops x.2.2.2) (fun (a9 : ((List Int) × (List Int))) => (bindO (M_slices_Concat_sint_int (a9.1 :: (a9.2 :: ([] : List (List Int))))) (fun (a10 : (List Int)) => (bindO (some (IntKind.wrap .i64 ((2 : Int) * (((List.length x.2.2.2) : Nat) : Int)))) (fun (a11 : Int) => (bindO (M_I_Group_smallExponents ((x.1.1, (x.1.2.1, x.1.2.2)), (a10, a11))) (fun (a12 : ((List Int) × Bool)) => (cond (not a12.2) (some (false, false)) (loopO (fun (again13 : ((Int × Int) → (Option (Bool × Bool)))) => (fun (s14 : (Int × Int)) => (cond (decide (s14.2 < (((List.length x.2.2.2) : Nat) : Int))) (bindO (getI x.2.2.2 s14.2) (fun (a15 : ((List Int) × ((List Int) × (List Int)))) => (bindO (getI x.2.2.1 s14.2) (fun (a16 : (Int × (Int × (Int × Int)))) => (bindO (getI a9.2 s14.2) (fun (a17 : Int) => (bindO (M_I_Group_pow ((x.1.1, (x.1.2.1, x.1.2.2)), (a16.1, a17))) (fun (a18 : Int) => (bindO (getI a15.1 (0 : Int)) (fun (a19 : Int) => (bindO (getI x.2.2.1 s14.2) (fun (a20 : (Int × (Int × (Int × Int)))) => (bindO (getI a9.1 s14.2) (fun (a21 : Int) => (bindO (M_I_Group_pow ((x.1.1, (x.1.2.1, x.1.2.2)), (a20.2.1, a21))) (fun (a22 : Int) => (bindO (M_I_Group_mul ((x.1.1, (x.1.2.1, x.1.2.2)), (a19 :: (a22 :: ([] : List Int))))) (fun (a23 : Int) => (bindO (M_I_Group_over ((x.1.1, (x.1.2.1, x.1.2.2)), (a18, a23))) (fun (a24 : Int) => (bindO (getI x.2.2.1 s14.2) (fun (a25 : (Int × (Int × (Int × Int)))) => (bindO (getI a9.2 s14.2) (fun (a26 : Int) => (bindO (M_I_Group_pow ((x.1.1, (x.1.2.1, x.1.2.2)), (a25.2.2.1, a26))) (fun (a27 : Int) => (bindO (getI a15.1 (1 : Int)) (fun (a28 : Int) => (bindO (getI x.2.2.1 s14.2) (fun (a29 : (Int × (Int × (Int × Int)))) => (bindO (getI a9.1 s14.2) (fun (a30 : Int) => (bindO (M_I_Group_pow ((x.1.1, (x.1.2.1, x.1.2.2)), (a29.2.2.2, a30))) (fun (a31 : Int) => (bindO (M_I_Group_mul ((x.1.1, (x.1.2.1, x.1.2.2)), (a28 :: (a31 :: ([] : List Int))))) (fun (a32 : Int) => (bindO (M_I_Group_over ((x.1.1, (x.1.2.1, x.1.2.2)), (a27, a32))) (fun (a33 : Int) => (bindO (getI a12.1 s14.2) (fun (a34 : Int) => (bindO (M_I_Group_pow ((x.1.1, (x.1.2.1, x.1.2.2)), (a24, a34))) (fun (a35 : Int) => (bindO (some (IntKind.wrap .i64 ((((List.length x.2.2.2) : Nat) : Int) + s14.2))) (fun (a36 : Int) => (bindO (getI a12.1 a36) (fun (a37 : Int) => (bindO (M_I_Group_pow ((x.1.1, (x.1.2.1, x.1.2.2)), (a33, a37))) (fun (a38 : Int) => (bindO (M_I_Group_mul ((x.1.1, (x.1.2.1, x.1.2.2)), (s14.1 :: (a35 :: (a38 :: ([] : List Int)))))) (fun (a39 : Int) => (bindO (some (IntKind.wrap .i64 (s14.2 + (1 : Int)))) (fun (a40 : Int) => (again13 (a39, a40)))))))))))))))))))))))))))))))))))))))))))))))))))))) (some ((s14.1 == (1 : Int)), true))))) ((1 : Int), (0 : Int))))))))))))))) (0 : Int))

noncomputable def c_I_Group_batchEqual : Con0 := ⟨pk_I_Group_batchEqual, rk_I_Group_batchEqual, M_I_Group_batchEqual⟩

set_option maxRecDepth 100000 in
theorem eq_I_Group_batchEqual (x : In pk_I_Group_batchEqual) : semF (mkE [(106, c_I_Group_isLinearForm), (107, c_I_tops), (109, c_slices_Concat_sint_int), (108, c_I_Group_smallExponents), (111, c_I_Group_pow), (90, c_I_Group_mul), (110, c_I_Group_over)]) h_I_Group_batchEqual (info Try.f58) pk_I_Group_batchEqual rk_I_Group_batchEqual x = M_I_Group_batchEqual x := by kernel_rfl

set_option maxRecDepth 100000 in
theorem m_I_Group_batchEqual : ConOK Try.prog 58 c_I_Group_batchEqual := fn_ok (tyOK _) (E := mkE [(106, c_I_Group_isLinearForm), (107, c_I_tops), (109, c_slices_Concat_sint_int), (108, c_I_Group_smallExponents), (111, c_I_Group_pow), (90, c_I_Group_mul), (110, c_I_Group_over)]) (consOK_cons m_I_Group_isLinearForm (consOK_cons m_I_tops (consOK_cons m_slices_Concat_sint_int (consOK_cons m_I_Group_smallExponents (consOK_cons m_I_Group_pow (consOK_cons m_I_Group_mul (consOK_cons m_I_Group_over (consOK_nil rfl)))))))) Try.func58 (h := h_I_Group_batchEqual) (by kernel_rfl) eq_I_Group_batchEqual

/-- I_Group_findBad -/
def pk_I_Group_findBad : List PK := [.data (.cons (.int .i64) (.cons (.int .i64) (.one (.int .i64)))), .data .str, .data (.sl (.cons (.int .i64) (.cons (.int .i64) (.cons (.int .i64) (.one (.int .i64)))))), .data (.sl (.cons (.sl (.int .i64)) (.cons (.sl (.int .i64)) (.one (.sl (.int .i64)))))), .data (.int .i64), .data (.int .i64), .mp (.sl (.int .i64)) true, .mp (.int .i64) false]
def rk_I_Group_findBad : List (Ty × Bool) := [(.bool, false)]
def h_I_Group_findBad : Hints := { loops := [] }
noncomputable def R_I_Group_findBad : Nat → ((Int × (Int × Int)) × (ByteArray × ((List (Int × (Int × (Int × Int)))) × ((List ((List Int) × ((List Int) × (List Int)))) × (Int × (Int × ((List Int) × Int))))))) → (Option (Bool × ((List Int) × Int)))
  | 0, _ => none
  | n + 1, x => (bindO (some (IntKind.wrap .i64 (x.2.2.2.2.2.2.2 + (1 : Int)))) (fun (a0 : Int) => (bindO (sliceLH x.2.2.2.2.1 x.2.2.2.2.2.1 (List.length x.2.2.1)) (fun (a1 : (Nat × Nat)) => (bindO (sliceLH x.2.2.2.2.1 x.2.2.2.2.2.1 (List.length x.2.2.2.1)) (fun (a2 : (Nat × Nat)) => (bindO (M_I_Group_batchEqual ((x.1.1, (x.1.2.1, x.1.2.2)), (x.2.1, ((List.drop a1.1 (List.take a1.2 x.2.2.1)), (List.drop a2.1 (List.take a2.2 x.2.2.2.1)))))) (fun (a3 : (Bool × Bool)) => (cond (not a3.2) (some (false, (x.2.2.2.2.2.2.1, a0))) (cond a3.1 (some (true, (x.2.2.2.2.2.2.1, a0))) (bindO (some (IntKind.wrap .i64 (x.2.2.2.2.2.1 - x.2.2.2.2.1))) (fun (a4 : Int) => (cond (a4 == (1 : Int)) (bindO (guardO (lenOk ((List.length x.2.2.2.2.2.2.1) + (List.length (x.2.2.2.2.1 :: ([] : List Int)))))) (fun (a5 : Unit) => (bindO (some (x.2.2.2.2.2.2.1 ++ (x.2.2.2.2.1 :: ([] : List Int)))) (fun (a6 : (List Int)) => (some (true, (a6, a0))))))) (bindO (some (IntKind.wrap .i64 (x.2.2.2.2.2.1 - x.2.2.2.2.1))) (fun (a7 : Int) => (bindO (some (IntKind.wrap .i64 (a7 + (1 : Int)))) (fun (a8 : Int) => (bindO (guardO ((2 : Int) != (0 : Int))) (fun (a9 : Unit) => (bindO (some (IntKind.wrap .i64 (Int.tdiv a8 (2 : Int)))) (fun (a10 : Int) => (bindO (some (IntKind.wrap .i64 (x.2.2.2.2.1 + a10))) (fun (a11 : Int) => (bindO (R_I_Group_findBad n ((x.1.1, (x.1.2.1, x.1.2.2)), (x.2.1, (x.2.2.1, (x.2.2.2.1, (x.2.2.2.2.1, (a11, (x.2.2.2.2.2.2.1, a0)))))))) (fun (a12 : (Bool × ((List Int) × Int))) => (cond a12.1 (bindO (R_I_Group_findBad n ((x.1.1, (x.1.2.1, x.1.2.2)), (x.2.1, (x.2.2.1, (x.2.2.2.1, (a11, (x.2.2.2.2.2.1, (a12.2.1, a12.2.2)))))))) (fun (a13 : (Bool × ((List Int) × Int))) => (some (a13.1, (a13.2.1, a13.2.2))))) (some (false, (a12.2.1, a12.2.2)))))))))))))))))))))))))))))

noncomputable def M_I_Group_findBad (x : ((Int × (Int × Int)) × (ByteArray × ((List (Int × (Int × (Int × Int)))) × ((List ((List Int) × ((List Int) × (List Int)))) × (Int × (Int × ((List Int) × Int)))))))) : (Option (Bool × ((List Int) × Int))) := limO R_I_Group_findBad x

noncomputable def c_I_Group_findBad : Con0 := ⟨pk_I_Group_findBad, rk_I_Group_findBad, M_I_Group_findBad⟩

set_option maxRecDepth 100000 in
theorem eq_I_Group_findBad (n : Nat) (x : In pk_I_Group_findBad) : semF (mkE ((62, ⟨pk_I_Group_findBad, rk_I_Group_findBad, R_I_Group_findBad n⟩) :: [(58, c_I_Group_batchEqual)])) h_I_Group_findBad (info Try.f62) pk_I_Group_findBad rk_I_Group_findBad x = R_I_Group_findBad (n + 1) x := by kernel_rfl

set_option maxRecDepth 100000 in
theorem mR_I_Group_findBad : ∀ n, ConOK Try.prog 62 ⟨pk_I_Group_findBad, rk_I_Group_findBad, R_I_Group_findBad n⟩
  | 0 => conOK_none Try.func62 (h := h_I_Group_findBad) (by kernel_rfl)
  | n + 1 => fn_ok (tyOK _) (E := mkE ((62, ⟨pk_I_Group_findBad, rk_I_Group_findBad, R_I_Group_findBad n⟩) :: [(58, c_I_Group_batchEqual)])) (consOK_cons (mR_I_Group_findBad n) (consOK_cons m_I_Group_batchEqual (consOK_nil rfl))) Try.func62 (h := h_I_Group_findBad) (by kernel_rfl) (eq_I_Group_findBad n)

theorem m_I_Group_findBad : ConOK Try.prog 62 c_I_Group_findBad := conOK_lim mR_I_Group_findBad

/-- I_FindBadEqual -/
def pk_I_FindBadEqual : List PK := [.data (.cons (.int .i64) (.cons (.int .i64) (.one (.int .i64)))), .data .str, .data (.sl (.cons (.int .i64) (.cons (.int .i64) (.cons (.int .i64) (.one (.int .i64)))))), .data (.sl (.cons (.sl (.int .i64)) (.cons (.sl (.int .i64)) (.one (.sl (.int .i64))))))]
def rk_I_FindBadEqual : List (Ty × Bool) := [((.sl (.int .i64)), true), ((.int .i64), false), (.bool, false)]
def h_I_FindBadEqual : Hints := { loops := [] }
noncomputable def M_I_FindBadEqual (x : ((Int × (Int × Int)) × (ByteArray × ((List (Int × (Int × (Int × Int)))) × (List ((List Int) × ((List Int) × (List Int)))))))) : (Option ((List Int) × (Int × Bool))) :=
  (bindO (M_I_areBatch ((x.1.1, (x.1.2.1, x.1.2.2)), (x.2.1, (x.2.2.1, x.2.2.2)))) (fun (a0 : Bool) => (cond (not a0) (some (([] : List Int), ((0 : Int), false))) (cond (decide ((((List.length x.2.2.2) : Nat) : Int) > (0 : Int))) (bindO (M_I_Group_findBad ((x.1.1, (x.1.2.1, x.1.2.2)), (x.2.1, (x.2.2.1, (x.2.2.2, ((0 : Int), ((((List.length x.2.2.2) : Nat) : Int), (([] : List Int), (0 : Int))))))))) (fun (a1 : (Bool × ((List Int) × Int))) => (cond (not a1.1) (some (([] : List Int), ((0 : Int), false))) (some (a1.2.1, (a1.2.2, true)))))) (some (([] : List Int), ((0 : Int), true)))))))

noncomputable def c_I_FindBadEqual : Con0 := ⟨pk_I_FindBadEqual, rk_I_FindBadEqual, M_I_FindBadEqual⟩

set_option maxRecDepth 100000 in
theorem eq_I_FindBadEqual (x : In pk_I_FindBadEqual) : semF (mkE [(57, c_I_areBatch), (62, c_I_Group_findBad)]) h_I_FindBadEqual (info Try.f28) pk_I_FindBadEqual rk_I_FindBadEqual x = M_I_FindBadEqual x := by kernel_rfl

set_option maxRecDepth 100000 in
theorem m_I_FindBadEqual : ConOK Try.prog 28 c_I_FindBadEqual := fn_ok (tyOK _) (E := mkE [(57, c_I_areBatch), (62, c_I_Group_findBad)]) (consOK_cons m_I_areBatch (consOK_cons m_I_Group_findBad (consOK_nil rfl))) Try.func28 (h := h_I_FindBadEqual) (by kernel_rfl) eq_I_FindBadEqual

/-- L_eqIntS -/
def pk_L_eqIntS : List PK := [.data (.sl (.int .i64)), .data (.sl (.int .i64))]
def rk_L_eqIntS : List (Ty × Bool) := [(.bool, false)]
def h_L_eqIntS : Hints := { loops := [(0, { items := [.slot 5 (.data (.int .i64) [])], kill := [2, 3, 4, 6, 7, 8, 9, 10, 11, 12, 13, 14, 15, 16, 17, 18, 19, 20, 21, 22, 23, 24, 25] })] }
noncomputable def M_L_eqIntS (x : ((List Int) × (List Int))) : (Option Bool) :=
  (cond ((((List.length x.1) : Nat) : Int) != (((List.length x.2) : Nat) : Int)) (some false) (loopO (fun (again0 : (Int → (Option Bool))) => (fun (s1 : Int) => (cond (decide (s1 < (((List.length x.1) : Nat) : Int))) (bindO (getI x.1 s1) (fun (a2 : Int) => (bindO (getI x.2 s1) (fun (a3 : Int) => (cond (a2 != a3) (some false) (bindO (some (IntKind.wrap .i64 (s1 + (1 : Int)))) (fun (a4 : Int) => (again0 a4)))))))) (some true)))) (0 : Int)))

noncomputable def c_L_eqIntS : Con0 := ⟨pk_L_eqIntS, rk_L_eqIntS, M_L_eqIntS⟩

set_option maxRecDepth 100000 in
theorem eq_L_eqIntS (x : In pk_L_eqIntS) : semF (mkE []) h_L_eqIntS (info Try.f14) pk_L_eqIntS rk_L_eqIntS x = M_L_eqIntS x := by kernel_rfl

set_option maxRecDepth 100000 in
theorem m_L_eqIntS : ConOK Try.prog 14 c_L_eqIntS := fn_ok (tyOK _) (E := mkE []) (consOK_nil rfl) Try.func14 (h := h_L_eqIntS) (by kernel_rfl) eq_L_eqIntS

/-- L_eqEqualLog -/
def pk_L_eqEqualLog : List PK := [.data (.cons (.int .i64) (.cons (.int .i64) (.cons (.int .i64) (.one (.int .i64))))), .data (.cons (.int .i64) (.cons (.int .i64) (.cons (.int .i64) (.one (.int .i64)))))]
def rk_L_eqEqualLog : List (Ty × Bool) := [(.bool, false)]
def h_L_eqEqualLog : Hints := { loops := [] }
noncomputable def M_L_eqEqualLog (x : ((Int × (Int × (Int × Int))) × (Int × (Int × (Int × Int))))) : (Option Bool) :=
  (cond (x.1.1 != x.2.1) (some false) (cond (x.1.2.1 != x.2.2.1) (some false) (cond (x.1.2.2.1 != x.2.2.2.1) (some false) (cond (x.1.2.2.2 != x.2.2.2.2) (some false) (some true)))))

noncomputable def c_L_eqEqualLog : Con0 := ⟨pk_L_eqEqualLog, rk_L_eqEqualLog, M_L_eqEqualLog⟩

set_option maxRecDepth 100000 in
theorem eq_L_eqEqualLog (x : In pk_L_eqEqualLog) : semF (mkE []) h_L_eqEqualLog (info Try.f59) pk_L_eqEqualLog rk_L_eqEqualLog x = M_L_eqEqualLog x := by kernel_rfl

set_option maxRecDepth 100000 in
theorem m_L_eqEqualLog : ConOK Try.prog 59 c_L_eqEqualLog := fn_ok (tyOK _) (E := mkE []) (consOK_nil rfl) Try.func59 (h := h_L_eqEqualLog) (by kernel_rfl) eq_L_eqEqualLog

/-- L_eqEqualLogS -/
def pk_L_eqEqualLogS : List PK := [.data (.sl (.cons (.int .i64) (.cons (.int .i64) (.cons (.int .i64) (.one (.int .i64)))))), .data (.sl (.cons (.int .i64) (.cons (.int .i64) (.cons (.int .i64) (.one (.int .i64))))))]
def rk_L_eqEqualLogS : List (Ty × Bool) := [(.bool, false)]
def h_L_eqEqualLogS : Hints := { loops := [(0, { items := [.slot 5 (.data (.int .i64) [])], kill := [2, 3, 4, 6, 7, 8, 9, 10, 11, 12, 13, 14, 15, 16, 17, 18, 19, 20, 21, 22, 23, 24, 25, 26] })] }
noncomputable def M_L_eqEqualLogS (x : ((List (Int × (Int × (Int × Int)))) × (List (Int × (Int × (Int × Int)))))) : (Option Bool) :=
  (cond ((((List.length x.1) : Nat) : Int) != (((List.length x.2) : Nat) : Int)) (some false) (loopO (fun (again0 : (Int → (Option Bool))) => (fun (s1 : Int) => (cond (decide (s1 < (((List.length x.1) : Nat) : Int))) (bindO (getI x.1 s1) (fun (a2 : (Int × (Int × (Int × Int)))) => (bindO (getI x.2 s1) (fun (a3 : (Int × (Int × (Int × Int)))) => (bindO (M_L_eqEqualLog ((a2.1, (a2.2.1, (a2.2.2.1, a2.2.2.2))), (a3.1, (a3.2.1, (a3.2.2.1, a3.2.2.2))))) (fun (a4 : Bool) => (cond (not a4) (some false) (bindO (some (IntKind.wrap .i64 (s1 + (1 : Int)))) (fun (a5 : Int) => (again0 a5)))))))))) (some true)))) (0 : Int)))

noncomputable def c_L_eqEqualLogS : Con0 := ⟨pk_L_eqEqualLogS, rk_L_eqEqualLogS, M_L_eqEqualLogS⟩

set_option maxRecDepth 100000 in
theorem eq_L_eqEqualLogS (x : In pk_L_eqEqualLogS) : semF (mkE [(59, c_L_eqEqualLog)]) h_L_eqEqualLogS (info Try.f25) pk_L_eqEqualLogS rk_L_eqEqualLogS x = M_L_eqEqualLogS x := by kernel_rfl

set_option maxRecDepth 100000 in
theorem m_L_eqEqualLogS : ConOK Try.prog 25 c_L_eqEqualLogS := fn_ok (tyOK _) (E := mkE [(59, c_L_eqEqualLog)]) (consOK_cons m_L_eqEqualLog (consOK_nil rfl)) Try.func25 (h := h_L_eqEqualLogS) (by kernel_rfl) eq_L_eqEqualLogS

/-- L_eqProof -/
def pk_L_eqProof : List PK := [.data (.cons (.sl (.int .i64)) (.cons (.sl (.int .i64)) (.one (.sl (.int .i64))))), .data (.cons (.sl (.int .i64)) (.cons (.sl (.int .i64)) (.one (.sl (.int .i64)))))]
def rk_L_eqProof : List (Ty × Bool) := [(.bool, false)]
def h_L_eqProof : Hints := { loops := [] }
noncomputable def M_L_eqProof (x : (((List Int) × ((List Int) × (List Int))) × ((List Int) × ((List Int) × (List Int))))) : (Option Bool) :=
  (bindO (M_L_eqIntS (x.1.1, x.2.1)) (fun (a0 : Bool) => (cond (not a0) (some false) (bindO (M_L_eqIntS (x.1.2.1, x.2.2.1)) (fun (a1 : Bool) => (cond (not a1) (some false) (bindO (M_L_eqIntS (x.1.2.2, x.2.2.2)) (fun (a2 : Bool) => (cond (not a2) (some false) (some true))))))))))

noncomputable def c_L_eqProof : Con0 := ⟨pk_L_eqProof, rk_L_eqProof, M_L_eqProof⟩

set_option maxRecDepth 100000 in
theorem eq_L_eqProof (x : In pk_L_eqProof) : semF (mkE [(14, c_L_eqIntS)]) h_L_eqProof (info Try.f60) pk_L_eqProof rk_L_eqProof x = M_L_eqProof x := by kernel_rfl

set_option maxRecDepth 100000 in
theorem m_L_eqProof : ConOK Try.prog 60 c_L_eqProof := fn_ok (tyOK _) (E := mkE [(14, c_L_eqIntS)]) (consOK_cons m_L_eqIntS (consOK_nil rfl)) Try.func60 (h := h_L_eqProof) (by kernel_rfl) eq_L_eqProof

/-- L_eqProofS -/
def pk_L_eqProofS : List PK := [.data (.sl (.cons (.sl (.int .i64)) (.cons (.sl (.int .i64)) (.one (.sl (.int .i64)))))), .data (.sl (.cons (.sl (.int .i64)) (.cons (.sl (.int .i64)) (.one (.sl (.int .i64))))))]
def rk_L_eqProofS : List (Ty × Bool) := [(.bool, false)]
def h_L_eqProofS : Hints := { loops := [(0, { items := [.slot 5 (.data (.int .i64) [])], kill := [2, 3, 4, 6, 7, 8, 9, 10, 11, 12, 13, 14, 15, 16, 17, 18, 19, 20, 21, 22, 23, 24, 25, 26] })] }
noncomputable def M_L_eqProofS (x : ((List ((List Int) × ((List Int) × (List Int)))) × (List ((List Int) × ((List Int) × (List Int)))))) : (Option Bool) :=
  (cond ((((List.length x.1) : Nat) : Int) != (((List.length x.2) : Nat) : Int)) (some false) (loopO (fun (again0 : (Int → (Option Bool))) => (fun (s1 : Int) => (cond (decide (s1 < (((List.length x.1) : Nat) : Int))) (bindO (getI x.1 s1) (fun (a2 : ((List Int) × ((List Int) × (List Int)))) => (bindO (getI x.2 s1) (fun (a3 : ((List Int) × ((List Int) × (List Int)))) => (bindO (M_L_eqProof ((a2.1, (a2.2.1, a2.2.2)), (a3.1, (a3.2.1, a3.2.2)))) (fun (a4 : Bool) => (cond (not a4) (some false) (bindO (some (IntKind.wrap .i64 (s1 + (1 : Int)))) (fun (a5 : Int) => (again0 a5)))))))))) (some true)))) (0 : Int)))

noncomputable def c_L_eqProofS : Con0 := ⟨pk_L_eqProofS, rk_L_eqProofS, M_L_eqProofS⟩

set_option maxRecDepth 100000 in
theorem eq_L_eqProofS (x : In pk_L_eqProofS) : semF (mkE [(60, c_L_eqProof)]) h_L_eqProofS (info Try.f26) pk_L_eqProofS rk_L_eqProofS x = M_L_eqProofS x := by kernel_rfl

set_option maxRecDepth 100000 in
theorem m_L_eqProofS : ConOK Try.prog 26 c_L_eqProofS := fn_ok (tyOK _) (E := mkE [(60, c_L_eqProof)]) (consOK_cons m_L_eqProof (consOK_nil rfl)) Try.func26 (h := h_L_eqProofS) (by kernel_rfl) eq_L_eqProofS

/-- L_markEqualLogS -/
def pk_L_markEqualLogS : List PK := [.mv (.sl (.cons (.int .i64) (.cons (.int .i64) (.cons (.int .i64) (.one (.int .i64)))))), .data (.int .i64)]
def rk_L_markEqualLogS : List (Ty × Bool) := [((.int .i64), false)]
def h_L_markEqualLogS : Hints := { loops := [(0, { items := [.slot 1 (.data (.int .i64) []), .slot 5 (.data (.int .i64) []), .arr 0 (.cons (.int .i64) (.cons (.int .i64) (.cons (.int .i64) (.one (.int .i64))))) true], kill := [2, 3, 4, 6, 7, 8, 9, 10, 11, 12, 13, 14, 15, 16, 17, 18, 19, 20, 21, 22, 23, 24, 25, 26, 27, 28, 29, 30, 31, 32, 33, 34, 35, 36, 37, 38, 39, 40] })] }
noncomputable def M_L_markEqualLogS (x : ((List (Int × (Int × (Int × Int)))) × Int)) : (Option (Int × (List (Int × (Int × (Int × Int)))))) :=
  (loopO (fun (again0 : ((Int × (Int × (List (Int × (Int × (Int × Int)))))) → (Option (Int × (List (Int × (Int × (Int × Int)))))))) => (fun (s1 : (Int × (Int × (List (Int × (Int × (Int × Int))))))) => (cond (decide (s1.2.1 < (((List.length s1.2.2) : Nat) : Int))) (bindO (getI s1.2.2 s1.2.1) (fun (a2 : (Int × (Int × (Int × Int)))) => (bindO (some (List.set s1.2.2 (Int.toNat s1.2.1) (s1.1, a2.2))) (fun (a3 : (List (Int × (Int × (Int × Int))))) => (bindO (some (IntKind.wrap .i64 (s1.1 + (1 : Int)))) (fun (a4 : Int) => (bindO (getI a3 s1.2.1) (fun (a5 : (Int × (Int × (Int × Int)))) => (bindO (some (List.set a3 (Int.toNat s1.2.1) (a5.1, (a4, a5.2.2)))) (fun (a6 : (List (Int × (Int × (Int × Int))))) => (bindO (some (IntKind.wrap .i64 (a4 + (1 : Int)))) (fun (a7 : Int) => (bindO (getI a6 s1.2.1) (fun (a8 : (Int × (Int × (Int × Int)))) => (bindO (some (List.set a6 (Int.toNat s1.2.1) (a8.1, (a8.2.1, (a7, a8.2.2.2))))) (fun (a9 : (List (Int × (Int × (Int × Int))))) => (bindO (some (IntKind.wrap .i64 (a7 + (1 : Int)))) (fun (a10 : Int) => (bindO (getI a9 s1.2.1) (fun (a11 : (Int × (Int × (Int × Int)))) => (bindO (some (List.set a9 (Int.toNat s1.2.1) (a11.1, (a11.2.1, (a11.2.2.1, a10))))) (fun (a12 : (List (Int × (Int × (Int × Int))))) => (bindO (some (IntKind.wrap .i64 (a10 + (1 : Int)))) (fun (a13 : Int) => (bindO (some (IntKind.wrap .i64 (s1.2.1 + (1 : Int)))) (fun (a14 : Int) => (again0 (a13, (a14, a12))))))))))))))))))))))))))))) (some (s1.1, s1.2.2))))) (x.2, ((0 : Int), x.1)))

noncomputable def c_L_markEqualLogS : Con0 := ⟨pk_L_markEqualLogS, rk_L_markEqualLogS, M_L_markEqualLogS⟩

set_option maxRecDepth 100000 in
theorem eq_L_markEqualLogS (x : In pk_L_markEqualLogS) : semF (mkE []) h_L_markEqualLogS (info Try.f29) pk_L_markEqualLogS rk_L_markEqualLogS x = M_L_markEqualLogS x := by kernel_rfl

set_option maxRecDepth 100000 in
theorem m_L_markEqualLogS : ConOK Try.prog 29 c_L_markEqualLogS := fn_ok (tyOK _) (E := mkE []) (consOK_nil rfl) Try.func29 (h := h_L_markEqualLogS) (by kernel_rfl) eq_L_markEqualLogS

/-- L_markIntS -/
def pk_L_markIntS : List PK := [.mv (.sl (.int .i64)), .data (.int .i64)]
def rk_L_markIntS : List (Ty × Bool) := [((.int .i64), false)]
def h_L_markIntS : Hints := { loops := [(0, { items := [.slot 1 (.data (.int .i64) []), .slot 5 (.data (.int .i64) []), .arr 0 (.int .i64) true], kill := [2, 3, 4, 6, 7, 8, 9, 10, 11, 12, 13, 14, 15, 16, 17, 18] })] }
noncomputable def M_L_markIntS (x : ((List Int) × Int)) : (Option (Int × (List Int))) :=
  (loopO (fun (again0 : ((Int × (Int × (List Int))) → (Option (Int × (List Int))))) => (fun (s1 : (Int × (Int × (List Int)))) => (cond (decide (s1.2.1 < (((List.length s1.2.2) : Nat) : Int))) (bindO (getI s1.2.2 s1.2.1) (fun (a2 : Int) => (bindO (some (List.set s1.2.2 (Int.toNat s1.2.1) s1.1)) (fun (a3 : (List Int)) => (bindO (some (IntKind.wrap .i64 (s1.1 + (1 : Int)))) (fun (a4 : Int) => (bindO (some (IntKind.wrap .i64 (s1.2.1 + (1 : Int)))) (fun (a5 : Int) => (again0 (a4, (a5, a3))))))))))) (some (s1.1, s1.2.2))))) (x.2, ((0 : Int), x.1)))

noncomputable def c_L_markIntS : Con0 := ⟨pk_L_markIntS, rk_L_markIntS, M_L_markIntS⟩

set_option maxRecDepth 100000 in
theorem eq_L_markIntS (x : In pk_L_markIntS) : semF (mkE []) h_L_markIntS (info Try.f17) pk_L_markIntS rk_L_markIntS x = M_L_markIntS x := by kernel_rfl

set_option maxRecDepth 100000 in
theorem m_L_markIntS : ConOK Try.prog 17 c_L_markIntS := fn_ok (tyOK _) (E := mkE []) (consOK_nil rfl) Try.func17 (h := h_L_markIntS) (by kernel_rfl) eq_L_markIntS

/-- L_markProofS -/
def pk_L_markProofS : List PK := [.mv (.sl (.cons (.sl (.int .i64)) (.cons (.sl (.int .i64)) (.one (.sl (.int .i64)))))), .data (.int .i64)]
def rk_L_markProofS : List (Ty × Bool) := [((.int .i64), false)]
def h_L_markProofS : Hints := { loops := [(0, { items := [.slot 1 (.data (.int .i64) []), .slot 5 (.data (.int .i64) []), .arr 0 (.cons (.sl (.int .i64)) (.cons (.sl (.int .i64)) (.one (.sl (.int .i64))))) true], kill := [2, 3, 4, 6, 7, 8, 9, 10, 11, 12, 13, 14, 15, 16, 17, 18, 19, 20, 21, 22, 23, 24, 25, 26, 27, 28, 29, 30, 31, 32, 33] })] }
noncomputable def M_L_markProofS (x : ((List ((List Int) × ((List Int) × (List Int)))) × Int)) : (Option (Int × (List ((List Int) × ((List Int) × (List Int)))))) :=
  (loopO (fun (again0 : ((Int × (Int × (List ((List Int) × ((List Int) × (List Int)))))) → (Option (Int × (List ((List Int) × ((List Int) × (List Int)))))))) => (fun (s1 : (Int × (Int × (List ((List Int) × ((List Int) × (List Int))))))) => (cond (decide (s1.2.1 < (((List.length s1.2.2) : Nat) : Int))) (bindO (getI s1.2.2 s1.2.1) (fun (a2 : ((List Int) × ((List Int) × (List Int)))) => (bindO (M_L_markIntS (a2.1, s1.1)) (fun (a3 : (Int × (List Int))) => (bindO (getI (List.modify s1.2.2 (Int.toNat s1.2.1) (fun (a4 : ((List Int) × ((List Int) × (List Int)))) => (a3.2, a4.2))) s1.2.1) (fun (a5 : ((List Int) × ((List Int) × (List Int)))) => (bindO (M_L_markIntS (a5.2.1, a3.1)) (fun (a6 : (Int × (List Int))) => (bindO (getI (List.modify (List.modify s1.2.2 (Int.toNat s1.2.1) (fun (a7 : ((List Int) × ((List Int) × (List Int)))) => (a3.2, a7.2))) (Int.toNat s1.2.1) (fun (a8 : ((List Int) × ((List Int) × (List Int)))) => (a8.1, (a6.2, a8.2.2)))) s1.2.1) (fun (a9 : ((List Int) × ((List Int) × (List Int)))) => (bindO (M_L_markIntS (a9.2.2, a6.1)) (fun (a10 : (Int × (List Int))) => (bindO (some (IntKind.wrap .i64 (s1.2.1 + (1 : Int)))) (fun (a11 : Int) => (again0 (a10.1, (a11, (List.modify (List.modify (List.modify s1.2.2 (Int.toNat s1.2.1) (fun (a12 : ((List Int) × ((List Int) × (List Int)))) => (a3.2, a12.2))) (Int.toNat s1.2.1) (fun (a13 : ((List Int) × ((List Int) × (List Int)))) => (a13.1, (a6.2, a13.2.2)))) (Int.toNat s1.2.1) (fun (a14 : ((List Int) × ((List Int) × (List Int)))) => (a14.1, (a14.2.1, a10.2))))))))))))))))))))) (some (s1.1, s1.2.2))))) (x.2, ((0 : Int), x.1)))

noncomputable def c_L_markProofS : Con0 := ⟨pk_L_markProofS, rk_L_markProofS, M_L_markProofS⟩

set_option maxRecDepth 100000 in
theorem eq_L_markProofS (x : In pk_L_markProofS) : semF (mkE [(17, c_L_markIntS)]) h_L_markProofS (info Try.f30) pk_L_markProofS rk_L_markProofS x = M_L_markProofS x := by kernel_rfl

set_option maxRecDepth 100000 in
theorem m_L_markProofS : ConOK Try.prog 30 c_L_markProofS := fn_ok (tyOK _) (E := mkE [(17, c_L_markIntS)]) (consOK_cons m_L_markIntS (consOK_nil rfl)) Try.func30 (h := h_L_markProofS) (by kernel_rfl) eq_L_markProofS

/-- L_heldIntS -/
def pk_L_heldIntS : List PK := [.data (.sl (.int .i64)), .data (.int .i64)]
def rk_L_heldIntS : List (Ty × Bool) := [((.int .i64), false)]
def h_L_heldIntS : Hints := { loops := [(0, { items := [.slot 1 (.data (.int .i64) []), .slot 5 (.data (.int .i64) [])], kill := [2, 3, 4, 6, 7, 8, 9, 10, 11, 12, 13, 14, 15, 16, 17, 18, 19, 20] })] }
noncomputable def M_L_heldIntS (x : ((List Int) × Int)) : (Option Int) :=
  (loopO (fun (again0 : ((Int × Int) → (Option Int))) => (fun (s1 : (Int × Int)) => (cond (decide (s1.2 < (((List.length x.1) : Nat) : Int))) (bindO (getI x.1 s1.2) (fun (a2 : Int) => (cond (a2 != s1.1) (some (- (1 : Int))) (bindO (some (IntKind.wrap .i64 (s1.1 + (1 : Int)))) (fun (a3 : Int) => (bindO (some (IntKind.wrap .i64 (s1.2 + (1 : Int)))) (fun (a4 : Int) => (again0 (a3, a4))))))))) (some s1.1)))) (x.2, (0 : Int)))

noncomputable def c_L_heldIntS : Con0 := ⟨pk_L_heldIntS, rk_L_heldIntS, M_L_heldIntS⟩

set_option maxRecDepth 100000 in
theorem eq_L_heldIntS (x : In pk_L_heldIntS) : semF (mkE []) h_L_heldIntS (info Try.f18) pk_L_heldIntS rk_L_heldIntS x = M_L_heldIntS x := by kernel_rfl

set_option maxRecDepth 100000 in
theorem m_L_heldIntS : ConOK Try.prog 18 c_L_heldIntS := fn_ok (tyOK _) (E := mkE []) (consOK_nil rfl) Try.func18 (h := h_L_heldIntS) (by kernel_rfl) eq_L_heldIntS

/-- L_FnExactFindBadEqual -/
def pk_L_FnExactFindBadEqual : List PK := [.data (.cons (.int .i64) (.cons (.int .i64) (.one (.int .i64)))), .data .str, .data (.sl (.cons (.int .i64) (.cons (.int .i64) (.cons (.int .i64) (.one (.int .i64)))))), .data (.sl (.cons (.sl (.int .i64)) (.cons (.sl (.int .i64)) (.one (.sl (.int .i64))))))]
def rk_L_FnExactFindBadEqual : List (Ty × Bool) := [(.bool, false)]
def h_L_FnExactFindBadEqual : Hints := { loops := [] }
noncomputable def M_L_FnExactFindBadEqual (x : ((Int × (Int × Int)) × (ByteArray × ((List (Int × (Int × (Int × Int)))) × (List ((List Int) × ((List Int) × (List Int)))))))) : (Option Bool) :=
  (cond (decide ((((ByteArray.size x.2.1) : Nat) : Int) > (1048576 : Int))) (some true) (bindO (M_L_szEqualLogS (x.2.2.1, (1048576 : Int))) (fun (a0 : Int) => (cond (decide (a0 < (0 : Int))) (some true) (bindO (M_L_szProofS (x.2.2.2, a0)) (fun (a1 : Int) => (cond (decide (a1 < (0 : Int))) (some true) (bindO (M_L_toGroup (x.1.1, (x.1.2.1, x.1.2.2))) (fun (a2 : (Int × (Int × Int))) => (bindO (M_L_toEqualLogS x.2.2.1) (fun (a3 : (List (Int × (Int × (Int × Int))))) => (bindO (M_L_toProofS x.2.2.2) (fun (a4 : (List ((List Int) × ((List Int) × (List Int))))) => (bindO (M_S_FindBadEqual ((a2.1, (a2.2.1, a2.2.2)), (x.2.1, (a3, a4)))) (fun (a5 : ((List Int) × (Int × Bool))) => (bindO (M_L_toEqualLogS x.2.2.1) (fun (a6 : (List (Int × (Int × (Int × Int))))) => (bindO (M_L_toProofS x.2.2.2) (fun (a7 : (List ((List Int) × ((List Int) × (List Int))))) => (bindO (M_L_toGroup (x.1.1, (x.1.2.1, x.1.2.2))) (fun (a8 : (Int × (Int × Int))) => (bindO (M_I_FindBadEqual ((a8.1, (a8.2.1, a8.2.2)), (x.2.1, (a6, a7)))) (fun (a9 : ((List Int) × (Int × Bool))) => (bindO (M_L_eqIntS (a9.1, a5.1)) (fun (a10 : Bool) => (cond (not a10) (some false) (cond (a9.2.1 != a5.2.1) (some false) (cond (not (a9.2.2 == a5.2.2)) (some false) (bindO (M_L_toEqualLogS x.2.2.1) (fun (a11 : (List (Int × (Int × (Int × Int))))) => (bindO (M_L_eqEqualLogS (a6, a11)) (fun (a12 : Bool) => (cond (not a12) (some false) (bindO (M_L_toProofS x.2.2.2) (fun (a13 : (List ((List Int) × ((List Int) × (List Int))))) => (bindO (M_L_eqProofS (a7, a13)) (fun (a14 : Bool) => (cond (not a14) (some false) (bindO (M_L_markEqualLogS (a6, (1 : Int))) (fun (a15 : (Int × (List (Int × (Int × (Int × Int)))))) => (bindO (M_L_markProofS (a7, a15.1)) (fun (a16 : (Int × (List ((List Int) × ((List Int) × (List Int)))))) => (cond (decide (a16.1 < (0 : Int))) (some false) (bindO (M_L_eqIntS (a9.1, a5.1)) (fun (a17 : Bool) => (cond (not a17) (some false) (cond (a9.2.1 != a5.2.1) (some false) (cond (not (a9.2.2 == a5.2.2)) (some false) (bindO (M_L_markIntS (a9.1, (1 : Int))) (fun (a18 : (Int × (List Int))) => (bindO (M_L_heldIntS (a18.2, (1 : Int))) (fun (a19 : Int) => (cond (decide (a19 < (0 : Int))) (some false) (cond (a19 != a18.1) (some false) (bindO (M_L_toGroup (x.1.1, (x.1.2.1, x.1.2.2))) (fun (a20 : (Int × (Int × Int))) => (bindO (M_L_toEqualLogS x.2.2.1) (fun (a21 : (List (Int × (Int × (Int × Int))))) => (bindO (M_L_toProofS x.2.2.2) (fun (a22 : (List ((List Int) × ((List Int) × (List Int))))) => (bindO (M_I_FindBadEqual ((a20.1, (a20.2.1, a20.2.2)), (x.2.1, (a21, a22)))) (fun (a23 : ((List Int) × (Int × Bool))) => (bindO (M_L_eqIntS (a23.1, a5.1)) (fun (a24 : Bool) => (cond (not a24) (some false) (cond (a23.2.1 != a5.2.1) (some false) (cond (not (a23.2.2 == a5.2.2)) (some false) (bindO (M_L_heldIntS (a18.2, (1 : Int))) (fun (a25 : Int) => (cond (decide (a25 < (0 : Int))) (some false) (cond (a25 != a18.1) (some false) (some true))))))))))))))))))))))))))))))))))))))))))))))))))))))))))))))))))))))))

noncomputable def c_L_FnExactFindBadEqual : Con0 := ⟨pk_L_FnExactFindBadEqual, rk_L_FnExactFindBadEqual, M_L_FnExactFindBadEqual⟩

set_option maxRecDepth 100000 in
theorem eq_L_FnExactFindBadEqual (x : In pk_L_FnExactFindBadEqual) : semF (mkE [(19, c_L_szEqualLogS), (20, c_L_szProofS), (9, c_L_toGroup), (22, c_L_toEqualLogS), (23, c_L_toProofS), (27, c_S_FindBadEqual), (28, c_I_FindBadEqual), (14, c_L_eqIntS), (25, c_L_eqEqualLogS), (26, c_L_eqProofS), (29, c_L_markEqualLogS), (30, c_L_markProofS), (17, c_L_markIntS), (18, c_L_heldIntS)]) h_L_FnExactFindBadEqual (info Try.f5) pk_L_FnExactFindBadEqual rk_L_FnExactFindBadEqual x = M_L_FnExactFindBadEqual x := by kernel_rfl

set_option maxRecDepth 100000 in
theorem m_L_FnExactFindBadEqual : ConOK Try.prog 5 c_L_FnExactFindBadEqual := fn_ok (tyOK _) (E := mkE [(19, c_L_szEqualLogS), (20, c_L_szProofS), (9, c_L_toGroup), (22, c_L_toEqualLogS), (23, c_L_toProofS), (27, c_S_FindBadEqual), (28, c_I_FindBadEqual), (14, c_L_eqIntS), (25, c_L_eqEqualLogS), (26, c_L_eqProofS), (29, c_L_markEqualLogS), (30, c_L_markProofS), (17, c_L_markIntS), (18, c_L_heldIntS)]) (consOK_cons m_L_szEqualLogS (consOK_cons m_L_szProofS (consOK_cons m_L_toGroup (consOK_cons m_L_toEqualLogS (consOK_cons m_L_toProofS (consOK_cons m_S_FindBadEqual (consOK_cons m_I_FindBadEqual (consOK_cons m_L_eqIntS (consOK_cons m_L_eqEqualLogS (consOK_cons m_L_eqProofS (consOK_cons m_L_markEqualLogS (consOK_cons m_L_markProofS (consOK_cons m_L_markIntS (consOK_cons m_L_heldIntS (consOK_nil rfl))))))))))))))) Try.func5 (h := h_L_FnExactFindBadEqual) (by kernel_rfl) eq_L_FnExactFindBadEqual

end Go.Proofs.Ytoaabialmenfiaa.Vd
