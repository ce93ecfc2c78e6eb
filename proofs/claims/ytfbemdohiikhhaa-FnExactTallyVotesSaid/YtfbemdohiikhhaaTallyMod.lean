/- The functions of the law as plain functions on data, and that the program's functions are these. No conditions. -/
import Derived.Test.YtfbemdohiikhhaaVd3
import Derived.Test.YtfbemdohiikhhaaChecked
import Derived.KernelRfl
set_option linter.unusedVariables false
namespace Go.Proofs.Ytfbemdohiikhhaa.Vd
def tys : List (Option Ty) := [none, none, some (.int .i64), some (.int .i64), some .bool, some (.int .u8), some (.int .u8), some (.cons (.int .i64) (.cons (.int .i64) (.cons .bool (.one (.int .u8))))), some (.cons (.int .i64) (.cons (.int .i64) (.cons .bool (.one (.int .u8))))), some .str, some .str, some .str, some (.int .u64), some (.cons .str (.one (.int .u64))), some (.cons .str (.one (.int .u64))), none, none, none, none, none, none, some (.int .i32), some (.cons (.int .i64) (.cons (.int .i64) (.cons (.int .i64) (.cons (.int .i64) (.one (.int .i64)))))), some (.cons (.int .i64) (.cons (.int .i64) (.cons (.int .i64) (.cons (.int .i64) (.one (.int .i64)))))), some (.sl (.sl (.int .i64))), none, some (.sl (.int .i64)), none, none, some (.cons (.int .i64) (.cons (.int .i64) (.cons (.int .i64) (.cons (.int .i64) (.one (.int .i64)))))), none, none, none, none, none, none, some (.sl (.int .u8)), none, none, none, none, none, none, none, none, none, some (.cons (.int .i64) (.cons (.int .i64) (.one (.int .i64)))), some (.cons (.int .i64) (.cons (.int .i64) (.one (.int .i64)))), some (.cons (.int .i64) (.one (.int .i64))), some (.cons (.int .i64) (.one (.int .i64))), some (.cons (.sl (.int .i64)) (.cons (.sl (.int .i64)) (.one (.sl (.int .i64))))), some (.cons (.sl (.int .i64)) (.cons (.sl (.int .i64)) (.one (.sl (.int .i64))))), none, none, none, some (.cons (.int .i64) (.cons (.int .i64) (.one (.int .i64)))), none, some (.cons (.int .i64) (.one (.int .i64))), none, some (.cons (.sl (.int .i64)) (.cons (.sl (.int .i64)) (.one (.sl (.int .i64))))), none, none, none, some (.sl (.cons (.sl (.int .i64)) (.cons (.sl (.int .i64)) (.one (.sl (.int .i64)))))), none, none, none, some (.sl (.cons (.sl (.int .i64)) (.cons (.sl (.int .i64)) (.one (.sl (.int .i64)))))), none, none, none, none, none, none, none, none, none, none, none, none, none, none, some (.cons (.int .i64) (.one (.sl (.int .i64)))), some (.cons (.int .i64) (.one (.sl (.int .i64)))), none, none, some (.cons (.int .i64) (.one (.sl (.int .i64)))), none, none, none, some (.cons (.int .i64) (.cons (.cons (.int .i64) (.one (.int .i64))) (.one (.cons (.sl (.int .i64)) (.cons (.sl (.int .i64)) (.one (.sl (.int .i64)))))))), some (.cons (.int .i64) (.cons (.cons (.int .i64) (.one (.int .i64))) (.one (.cons (.sl (.int .i64)) (.cons (.sl (.int .i64)) (.one (.sl (.int .i64)))))))), none, none, none, none, none, some (.cons (.int .i64) (.cons (.cons (.int .i64) (.one (.int .i64))) (.one (.cons (.sl (.int .i64)) (.cons (.sl (.int .i64)) (.one (.sl (.int .i64)))))))), some (.cons (.int .i64) (.cons (.cons (.int .i64) (.one (.int .i64))) (.one (.cons (.sl (.int .i64)) (.cons (.sl (.int .i64)) (.one (.sl (.int .i64)))))))), none, none, none, none, none, none, none, none, none, some (.sl (.cons (.int .i64) (.cons (.int .i64) (.cons (.int .i64) (.one (.int .i64)))))), none, none, some (.sl (.cons (.int .i64) (.cons (.int .i64) (.cons (.int .i64) (.one (.int .i64)))))), none, none, none, some (.sl (.cons (.int .i64) (.one (.int .i64)))), some (.sl (.cons (.cons (.int .i64) (.one (.int .i64))) (.cons (.cons (.int .i64) (.one (.int .i64))) (.one (.cons (.sl (.int .i64)) (.cons (.sl (.int .i64)) (.one (.sl (.int .i64))))))))), none, none, none, some (.sl (.cons (.int .i64) (.one (.int .i64)))), none, some (.sl (.cons (.cons (.int .i64) (.one (.int .i64))) (.cons (.cons (.int .i64) (.one (.int .i64))) (.one (.cons (.sl (.int .i64)) (.cons (.sl (.int .i64)) (.one (.sl (.int .i64))))))))), none, none, none, none, none, none, some (.sl (.cons (.int .i64) (.cons (.cons (.int .i64) (.one (.int .i64))) (.one (.cons (.sl (.int .i64)) (.cons (.sl (.int .i64)) (.one (.sl (.int .i64))))))))), none, none, none, some (.sl (.cons (.int .i64) (.cons (.cons (.int .i64) (.one (.int .i64))) (.one (.cons (.sl (.int .i64)) (.cons (.sl (.int .i64)) (.one (.sl (.int .i64))))))))), none, none, none, none, none, none, none, none, none, none, none, none, some (.int .u64), none, none, none, none, none, none, none, some (.cons (.int .i64) (.cons (.int .i64) (.cons (.int .i64) (.one (.int .i64))))), some (.cons (.int .i64) (.cons (.int .i64) (.cons (.int .i64) (.one (.int .i64))))), none, none, none, none, none, none, none, none, none, none, none, none, none, none, none, none, none, none, none, none, none, none, none, none, some (.int .u64), some (.cons (.sl (.int .u8)) (.cons (.int .i64) (.one (.int .u64)))), some (.cons (.sl (.int .u8)) (.cons (.int .i64) (.one (.int .u64)))), none, none, none, none, none, none, none, none, none, none, none, none, none, none, none, none, none, none, none, none, none, none, none, none, none, none, none, some (.cons (.int .i64) (.cons (.int .i64) (.cons (.int .i64) (.one (.int .i64))))), none, none, none, some (.cons (.cons (.int .i64) (.one (.int .i64))) (.cons (.cons (.int .i64) (.one (.int .i64))) (.one (.cons (.sl (.int .i64)) (.cons (.sl (.int .i64)) (.one (.sl (.int .i64)))))))), some (.cons (.cons (.int .i64) (.one (.int .i64))) (.cons (.cons (.int .i64) (.one (.int .i64))) (.one (.cons (.sl (.int .i64)) (.cons (.sl (.int .i64)) (.one (.sl (.int .i64)))))))), none, none, some (.cons (.cons (.int .i64) (.one (.int .i64))) (.cons (.cons (.int .i64) (.one (.int .i64))) (.one (.cons (.sl (.int .i64)) (.cons (.sl (.int .i64)) (.one (.sl (.int .i64)))))))), some (.cons (.cons (.int .i64) (.one (.int .i64))) (.cons (.cons (.int .i64) (.one (.int .i64))) (.one (.cons (.sl (.int .i64)) (.cons (.sl (.int .i64)) (.one (.sl (.int .i64)))))))), none, none, none, none, none, none, none, none, none, none, none, none, none, none, none, none, none, none, some (.int .u32), none, none, none, none, none, none, none, none, none, none, none, none, none, none, none, none, none, none, none, none, none, none, none, none, none, none, none, none, none, none, none, none, none, none, none, none, none, none, none, none, none, none, none, none, none, none, none, none, some (.cons (.int .i64) (.one (.int .i64))), some (.cons (.int .i64) (.one (.int .i64))), none, none, none, none, none, none, none, none, some (.int .u8), some (.int .u8), none, none, some (.int .i32), some (.int .i32), none, none, none]
def others : List Nat := [1, 15, 16, 17, 25, 28, 30, 31, 32, 33, 34, 35, 37, 39, 41, 42, 43, 45, 52, 54, 56, 58, 60, 61, 62, 64, 65, 66, 68, 69, 70, 72, 73, 75, 76, 77, 78, 79, 80, 81, 84, 85, 87, 88, 89, 93, 94, 95, 96, 99, 100, 101, 102, 104, 105, 106, 107, 109, 110, 112, 113, 114, 117, 118, 119, 121, 123, 124, 125, 126, 127, 128, 130, 132, 134, 135, 136, 137, 138, 139, 140, 141, 142, 143, 144, 145, 147, 148, 149, 150, 151, 152, 153, 156, 157, 158, 159, 160, 161, 162, 163, 164, 165, 166, 167, 168, 169, 170, 171, 173, 174, 175, 176, 177, 178, 179, 183, 184, 185, 186, 187, 188, 189, 190, 191, 192, 193, 194, 195, 196, 197, 198, 200, 201, 202, 203, 204, 205, 207, 208, 209, 211, 212, 213, 216, 217, 220, 221, 222, 223, 224, 225, 226, 228, 229, 230, 231, 232, 233, 234, 235, 236, 237, 239, 240, 241, 242, 243, 244, 245, 246, 247, 248, 249, 250, 251, 252, 253, 254, 255, 256, 257, 258, 259, 260, 261, 262, 263, 264, 265, 266, 267, 268, 269, 270, 271, 272, 273, 274, 275, 276, 277, 278, 279, 280, 281, 282, 283, 284, 285, 286, 289, 290, 291, 299, 300]
def pairs : List Nat := [48, 49, 57, 287, 288]
noncomputable def mkE (con : List (Nat × Con0)) : Env := ⟨[], tys, others, pairs, con⟩

set_option maxRecDepth 100000 in
theorem tyOK (con : List (Nat × Con0)) : TyOK Try.prog (mkE con) := tyOK_of (E := mkE con) (by kernel_rfl) (by kernel_rfl) (by kernel_rfl)

/-- L_szIntS -/
def pk_L_szIntS : List PK := [.data (.sl (.int .i64)), .data (.int .i64)]
def rk_L_szIntS : List (Ty × Bool) := [((.int .i64), false)]
def h_L_szIntS : Hints := { loops := [] }
noncomputable def M_L_szIntS (x : ((List Int) × Int)) : (Option Int) :=
  (bindO (some (IntKind.wrap .i64 (x.2 - (((List.length x.1) : Nat) : Int)))) (fun (a0 : Int) => (cond (decide (a0 < (0 : Int))) (some (- (1 : Int))) (some a0))))

noncomputable def c_L_szIntS : Con0 := ⟨pk_L_szIntS, rk_L_szIntS, M_L_szIntS⟩

set_option maxRecDepth 100000 in
theorem eq_L_szIntS (x : In pk_L_szIntS) : semF (mkE []) h_L_szIntS (info Try.f102) pk_L_szIntS rk_L_szIntS x = M_L_szIntS x := by kernel_rfl

set_option maxRecDepth 100000 in
theorem m_L_szIntS : ConOK Try.prog 102 c_L_szIntS := fn_ok (tyOK _) (E := mkE []) (consOK_nil rfl) Try.func102 (h := h_L_szIntS) (by kernel_rfl) eq_L_szIntS

/-- L_szIntSS -/
def pk_L_szIntSS : List PK := [.data (.sl (.sl (.int .i64))), .data (.int .i64)]
def rk_L_szIntSS : List (Ty × Bool) := [((.int .i64), false)]
def h_L_szIntSS : Hints := { loops := [(0, { items := [.slot 1 (.data (.int .i64) []), .slot 5 (.data (.int .i64) [])], kill := [2, 3, 4, 6, 7, 8, 9, 10, 11, 12, 13, 14, 15, 16, 17, 18, 19, 20, 21, 22, 23, 24, 25, 26] })] }
noncomputable def M_L_szIntSS (x : ((List (List Int)) × Int)) : (Option Int) :=
  (bindO (some (IntKind.wrap .i64 (x.2 - (((List.length x.1) : Nat) : Int)))) (fun (a0 : Int) => (cond (decide (a0 < (0 : Int))) (some (- (1 : Int))) (loopO (fun (again1 : ((Int × Int) → (Option Int))) => (fun (s2 : (Int × Int)) => (cond (decide (s2.2 < (((List.length x.1) : Nat) : Int))) (bindO (getI x.1 s2.2) (fun (a3 : (List Int)) => (bindO (M_L_szIntS (a3, s2.1)) (fun (a4 : Int) => (cond (decide (a4 < (0 : Int))) (some (- (1 : Int))) (bindO (some (IntKind.wrap .i64 (s2.2 + (1 : Int)))) (fun (a5 : Int) => (again1 (a4, a5))))))))) (some s2.1)))) (a0, (0 : Int))))))

noncomputable def c_L_szIntSS : Con0 := ⟨pk_L_szIntSS, rk_L_szIntSS, M_L_szIntSS⟩

set_option maxRecDepth 100000 in
theorem eq_L_szIntSS (x : In pk_L_szIntSS) : semF (mkE [(102, c_L_szIntS)]) h_L_szIntSS (info Try.f15) pk_L_szIntSS rk_L_szIntSS x = M_L_szIntSS x := by kernel_rfl

set_option maxRecDepth 100000 in
theorem m_L_szIntSS : ConOK Try.prog 15 c_L_szIntSS := fn_ok (tyOK _) (E := mkE [(102, c_L_szIntS)]) (consOK_cons m_L_szIntS (consOK_nil rfl)) Try.func15 (h := h_L_szIntSS) (by kernel_rfl) eq_L_szIntSS

/-- L_toContest -/
def pk_L_toContest : List PK := [.data (.cons (.int .i64) (.cons (.int .i64) (.cons (.int .i64) (.cons (.int .i64) (.one (.int .i64))))))]
def rk_L_toContest : List (Ty × Bool) := [((.cons (.int .i64) (.cons (.int .i64) (.cons (.int .i64) (.cons (.int .i64) (.one (.int .i64)))))), false)]
def h_L_toContest : Hints := { loops := [] }
noncomputable def M_L_toContest (x : (Int × (Int × (Int × (Int × Int))))) : (Option (Int × (Int × (Int × (Int × Int))))) :=
  (some (x.1, (x.2.1, (x.2.2.1, (x.2.2.2.1, x.2.2.2.2)))))

noncomputable def c_L_toContest : Con0 := ⟨pk_L_toContest, rk_L_toContest, M_L_toContest⟩

set_option maxRecDepth 100000 in
theorem eq_L_toContest (x : In pk_L_toContest) : semF (mkE []) h_L_toContest (info Try.f17) pk_L_toContest rk_L_toContest x = M_L_toContest x := by kernel_rfl

set_option maxRecDepth 100000 in
theorem m_L_toContest : ConOK Try.prog 17 c_L_toContest := fn_ok (tyOK _) (E := mkE []) (consOK_nil rfl) Try.func17 (h := h_L_toContest) (by kernel_rfl) eq_L_toContest

/-- L_toIntS -/
def pk_L_toIntS : List PK := [.data (.sl (.int .i64))]
def rk_L_toIntS : List (Ty × Bool) := [((.sl (.int .i64)), true)]
def h_L_toIntS : Hints := { loops := [(0, { items := [.slot 4 (.data (.int .i64) []), .arr 3 (.int .i64) true], kill := [1, 2, 5, 6, 7, 8, 9, 10, 11, 12, 13, 14, 15, 16, 17, 18, 19, 20, 21] })] }
noncomputable def M_L_toIntS (x : (List Int)) : (Option (List Int)) :=
  (bindO (guardO (((decide ((0 : Int) ≤ (((List.length x) : Nat) : Int))) && (decide ((((List.length x) : Nat) : Int) ≤ (((List.length x) : Nat) : Int)))) && (decide ((((List.length x) : Nat) : Int) ≤ ((lim : Nat) : Int))))) (fun (a0 : Unit) => (loopO (fun (again1 : ((Int × (List Int)) → (Option (List Int)))) => (fun (s2 : (Int × (List Int))) => (cond (decide (s2.1 < (((List.length x) : Nat) : Int))) (bindO (getI x s2.1) (fun (a3 : Int) => (bindO (getI s2.2 s2.1) (fun (a4 : Int) => (bindO (some (List.set s2.2 (Int.toNat s2.1) a3)) (fun (a5 : (List Int)) => (bindO (some (IntKind.wrap .i64 (s2.1 + (1 : Int)))) (fun (a6 : Int) => (again1 (a6, a5)))))))))) (some s2.2)))) ((0 : Int), (List.replicate (Int.toNat (((List.length x) : Nat) : Int)) (0 : Int))))))

noncomputable def c_L_toIntS : Con0 := ⟨pk_L_toIntS, rk_L_toIntS, M_L_toIntS⟩

set_option maxRecDepth 100000 in
theorem eq_L_toIntS (x : In pk_L_toIntS) : semF (mkE []) h_L_toIntS (info Try.f45) pk_L_toIntS rk_L_toIntS x = M_L_toIntS x := by kernel_rfl

set_option maxRecDepth 100000 in
theorem m_L_toIntS : ConOK Try.prog 45 c_L_toIntS := fn_ok (tyOK _) (E := mkE []) (consOK_nil rfl) Try.func45 (h := h_L_toIntS) (by kernel_rfl) eq_L_toIntS

/-- L_toIntSS -/
def pk_L_toIntSS : List PK := [.data (.sl (.sl (.int .i64)))]
def rk_L_toIntSS : List (Ty × Bool) := [((.sl (.sl (.int .i64))), true)]
def h_L_toIntSS : Hints := { loops := [(0, { items := [.slot 4 (.data (.int .i64) []), .arr 3 (.sl (.int .i64)) true], kill := [1, 2, 5, 6, 7, 8, 9, 10, 11, 12, 13, 14, 15, 16, 17, 18, 19, 20, 21, 22] })] }
noncomputable def M_L_toIntSS (x : (List (List Int))) : (Option (List (List Int))) :=
  (bindO (guardO (((decide ((0 : Int) ≤ (((List.length x) : Nat) : Int))) && (decide ((((List.length x) : Nat) : Int) ≤ (((List.length x) : Nat) : Int)))) && (decide ((((List.length x) : Nat) : Int) ≤ ((lim : Nat) : Int))))) (fun (a0 : Unit) => (loopO (fun (again1 : ((Int × (List (List Int))) → (Option (List (List Int))))) => (fun (s2 : (Int × (List (List Int)))) => (cond (decide (s2.1 < (((List.length x) : Nat) : Int))) (bindO (getI x s2.1) (fun (a3 : (List Int)) => (bindO (M_L_toIntS a3) (fun (a4 : (List Int)) => (bindO (getI s2.2 s2.1) (fun (a5 : (List Int)) => (bindO (some (List.set s2.2 (Int.toNat s2.1) a4)) (fun (a6 : (List (List Int))) => (bindO (some (IntKind.wrap .i64 (s2.1 + (1 : Int)))) (fun (a7 : Int) => (again1 (a7, a6)))))))))))) (some s2.2)))) ((0 : Int), (List.replicate (Int.toNat (((List.length x) : Nat) : Int)) ([] : List Int))))))

noncomputable def c_L_toIntSS : Con0 := ⟨pk_L_toIntSS, rk_L_toIntSS, M_L_toIntSS⟩

set_option maxRecDepth 100000 in
theorem eq_L_toIntSS (x : In pk_L_toIntSS) : semF (mkE [(45, c_L_toIntS)]) h_L_toIntSS (info Try.f18) pk_L_toIntSS rk_L_toIntSS x = M_L_toIntSS x := by kernel_rfl

set_option maxRecDepth 100000 in
theorem m_L_toIntSS : ConOK Try.prog 18 c_L_toIntSS := fn_ok (tyOK _) (E := mkE [(45, c_L_toIntS)]) (consOK_cons m_L_toIntS (consOK_nil rfl)) Try.func18 (h := h_L_toIntSS) (by kernel_rfl) eq_L_toIntSS

/-- S_l1In -/
def pk_S_l1In : List PK := [.data (.int .i64), .data (.int .i64), .data (.int .i64)]
def rk_S_l1In : List (Ty × Bool) := [(.bool, false)]
def h_S_l1In : Hints := { loops := [] }
noncomputable def M_S_l1In (x : (Int × (Int × Int))) : (Option Bool) :=
  (cond (decide (x.1 ≥ x.2.1)) (some (decide (x.1 ≤ x.2.2))) (some false))

noncomputable def c_S_l1In : Con0 := ⟨pk_S_l1In, rk_S_l1In, M_S_l1In⟩

set_option maxRecDepth 100000 in
theorem eq_S_l1In (x : In pk_S_l1In) : semF (mkE []) h_S_l1In (info Try.f175) pk_S_l1In rk_S_l1In x = M_S_l1In x := by kernel_rfl

set_option maxRecDepth 100000 in
theorem m_S_l1In : ConOK Try.prog 175 c_S_l1In := fn_ok (tyOK _) (E := mkE []) (consOK_nil rfl) Try.func175 (h := h_S_l1In) (by kernel_rfl) eq_S_l1In

/-- S_vContest -/
def pk_S_vContest : List PK := [.data (.cons (.int .i64) (.cons (.int .i64) (.cons (.int .i64) (.cons (.int .i64) (.one (.int .i64))))))]
def rk_S_vContest : List (Ty × Bool) := [(.bool, false)]
def h_S_vContest : Hints := { loops := [] }
noncomputable def M_S_vContest (x : (Int × (Int × (Int × (Int × Int))))) : (Option Bool) :=
  (cond (decide (x.2.2.1 < (0 : Int))) (some false) (cond (decide (x.2.2.1 > x.2.2.2.1)) (some false) (cond (x.1 == (1 : Int)) (cond (x.1 == (1 : Int)) (bindO (M_S_l1In (x.2.1, ((1 : Int), (8 : Int)))) (fun (a0 : Bool) => (cond a0 (cond (decide (x.2.2.2.1 ≤ x.2.1)) (some (x.2.2.2.2 == (0 : Int))) (some false)) (some false)))) (cond (x.1 == (2 : Int)) (bindO (M_S_l1In (x.2.1, ((1 : Int), (8 : Int)))) (fun (a1 : Bool) => (cond a1 (bindO (M_S_l1In (x.2.2.2.2, ((1 : Int), (5 : Int)))) (fun (a2 : Bool) => (cond a2 (bindO (some (IntKind.wrap .i64 (x.2.1 * x.2.2.2.2))) (fun (a3 : Int) => (some (decide (x.2.2.2.1 ≤ a3))))) (some false)))) (some false)))) (cond (x.1 == (4 : Int)) (cond (x.2.1 == (0 : Int)) (cond (decide (x.2.2.2.1 ≤ (5 : Int))) (some (x.2.2.2.2 == (0 : Int))) (some false)) (some false)) (some false)))) (cond (x.1 == (3 : Int)) (bindO (M_S_l1In (x.2.1, ((1 : Int), (8 : Int)))) (fun (a4 : Bool) => (cond a4 (cond (decide (x.2.2.2.1 ≤ x.2.1)) (some (x.2.2.2.2 == (0 : Int))) (some false)) (some false)))) (cond (x.1 == (2 : Int)) (bindO (M_S_l1In (x.2.1, ((1 : Int), (8 : Int)))) (fun (a5 : Bool) => (cond a5 (bindO (M_S_l1In (x.2.2.2.2, ((1 : Int), (5 : Int)))) (fun (a6 : Bool) => (cond a6 (bindO (some (IntKind.wrap .i64 (x.2.1 * x.2.2.2.2))) (fun (a7 : Int) => (some (decide (x.2.2.2.1 ≤ a7))))) (some false)))) (some false)))) (cond (x.1 == (4 : Int)) (cond (x.2.1 == (0 : Int)) (cond (decide (x.2.2.2.1 ≤ (5 : Int))) (some (x.2.2.2.2 == (0 : Int))) (some false)) (some false)) (some false)))))))

noncomputable def c_S_vContest : Con0 := ⟨pk_S_vContest, rk_S_vContest, M_S_vContest⟩

set_option maxRecDepth 100000 in
theorem eq_S_vContest (x : In pk_S_vContest) : semF (mkE [(175, c_S_l1In)]) h_S_vContest (info Try.f207) pk_S_vContest rk_S_vContest x = M_S_vContest x := by kernel_rfl

set_option maxRecDepth 100000 in
theorem m_S_vContest : ConOK Try.prog 207 c_S_vContest := fn_ok (tyOK _) (E := mkE [(175, c_S_l1In)]) (consOK_cons m_S_l1In (consOK_nil rfl)) Try.func207 (h := h_S_vContest) (by kernel_rfl) eq_S_vContest

/-- S_l1Rising -/
def pk_S_l1Rising : List PK := [.data (.sl (.int .i64)), .data (.int .i64), .data (.int .i64)]
def rk_S_l1Rising : List (Ty × Bool) := [(.bool, false)]
def h_S_l1Rising : Hints := { loops := [(0, { items := [.slot 11 (.data (.int .i64) [])], kill := [3, 4, 5, 6, 7, 8, 12, 13, 14, 15, 16, 17, 18, 19, 20, 21, 22, 23, 24, 25, 26, 27, 28, 29, 30, 31, 32, 33, 34] })] }
noncomputable def M_S_l1Rising (x : ((List Int) × (Int × Int))) : (Option Bool) :=
  (loopO (fun (again0 : (Int → (Option Bool))) => (fun (s1 : Int) => (cond (decide (s1 < (((List.length x.1) : Nat) : Int))) (bindO (getI x.1 s1) (fun (a2 : Int) => (bindO (M_S_l1In (a2, (x.2.1, x.2.2))) (fun (a3 : Bool) => (cond (not a3) (some false) (cond (decide (s1 > (0 : Int))) (bindO (some (IntKind.wrap .i64 (s1 - (1 : Int)))) (fun (a4 : Int) => (bindO (getI x.1 a4) (fun (a5 : Int) => (cond (decide (a5 ≥ a2)) (some false) (bindO (some (IntKind.wrap .i64 (s1 + (1 : Int)))) (fun (a6 : Int) => (again0 a6)))))))) (bindO (some (IntKind.wrap .i64 (s1 + (1 : Int)))) (fun (a7 : Int) => (again0 a7))))))))) (some true)))) (0 : Int))

noncomputable def c_S_l1Rising : Con0 := ⟨pk_S_l1Rising, rk_S_l1Rising, M_S_l1Rising⟩

set_option maxRecDepth 100000 in
theorem eq_S_l1Rising (x : In pk_S_l1Rising) : semF (mkE [(175, c_S_l1In)]) h_S_l1Rising (info Try.f285) pk_S_l1Rising rk_S_l1Rising x = M_S_l1Rising x := by kernel_rfl

set_option maxRecDepth 100000 in
theorem m_S_l1Rising : ConOK Try.prog 285 c_S_l1Rising := fn_ok (tyOK _) (E := mkE [(175, c_S_l1In)]) (consOK_cons m_S_l1In (consOK_nil rfl)) Try.func285 (h := h_S_l1Rising) (by kernel_rfl) eq_S_l1Rising

/-- S_l1All -/
def pk_S_l1All : List PK := [.data (.sl (.int .i64)), .data (.int .i64), .data (.int .i64)]
def rk_S_l1All : List (Ty × Bool) := [(.bool, false)]
def h_S_l1All : Hints := { loops := [(0, { items := [.slot 11 (.data (.int .i64) [])], kill := [0, 3, 4, 5, 6, 7, 8, 12, 13, 14, 15, 16, 17, 18, 19, 20] })] }
noncomputable def M_S_l1All (x : ((List Int) × (Int × Int))) : (Option Bool) :=
  (loopO (fun (again0 : (Int → (Option Bool))) => (fun (s1 : Int) => (cond (decide (s1 < (((List.length x.1) : Nat) : Int))) (bindO (getI x.1 s1) (fun (a2 : Int) => (bindO (M_S_l1In (a2, (x.2.1, x.2.2))) (fun (a3 : Bool) => (cond (not a3) (some false) (bindO (some (IntKind.wrap .i64 (s1 + (1 : Int)))) (fun (a4 : Int) => (again0 a4)))))))) (some true)))) (0 : Int))

noncomputable def c_S_l1All : Con0 := ⟨pk_S_l1All, rk_S_l1All, M_S_l1All⟩

set_option maxRecDepth 100000 in
theorem eq_S_l1All (x : In pk_S_l1All) : semF (mkE [(175, c_S_l1In)]) h_S_l1All (info Try.f221) pk_S_l1All rk_S_l1All x = M_S_l1All x := by kernel_rfl

set_option maxRecDepth 100000 in
theorem m_S_l1All : ConOK Try.prog 221 c_S_l1All := fn_ok (tyOK _) (E := mkE [(175, c_S_l1In)]) (consOK_cons m_S_l1In (consOK_nil rfl)) Try.func221 (h := h_S_l1All) (by kernel_rfl) eq_S_l1All

/-- S_vPlain -/
def pk_S_vPlain : List PK := [.data (.sl (.int .i64))]
def rk_S_vPlain : List (Ty × Bool) := [((.int .i64), false)]
def h_S_vPlain : Hints := { loops := [(0, { items := [.slot 3 (.data (.int .i64) []), .slot 8 (.data (.int .i64) [])], kill := [0, 1, 2, 4, 5, 9, 10, 11, 12, 13, 14, 15, 16] })] }
noncomputable def M_S_vPlain (x : (List Int)) : (Option Int) :=
  (loopO (fun (again0 : ((Int × Int) → (Option Int))) => (fun (s1 : (Int × Int)) => (cond (decide (s1.2 < (((List.length x) : Nat) : Int))) (bindO (getI x s1.2) (fun (a2 : Int) => (bindO (some (IntKind.wrap .i64 (s1.1 + a2))) (fun (a3 : Int) => (bindO (some (IntKind.wrap .i64 (s1.2 + (1 : Int)))) (fun (a4 : Int) => (again0 (a3, a4)))))))) (some s1.1)))) ((0 : Int), (0 : Int)))

noncomputable def c_S_vPlain : Con0 := ⟨pk_S_vPlain, rk_S_vPlain, M_S_vPlain⟩

set_option maxRecDepth 100000 in
theorem eq_S_vPlain (x : In pk_S_vPlain) : semF (mkE []) h_S_vPlain (info Try.f286) pk_S_vPlain rk_S_vPlain x = M_S_vPlain x := by kernel_rfl

set_option maxRecDepth 100000 in
theorem m_S_vPlain : ConOK Try.prog 286 c_S_vPlain := fn_ok (tyOK _) (E := mkE []) (consOK_nil rfl) Try.func286 (h := h_S_vPlain) (by kernel_rfl) eq_S_vPlain

/-- S_l1Has -/
def pk_S_l1Has : List PK := [.data (.sl (.int .i64)), .data (.int .i64)]
def rk_S_l1Has : List (Ty × Bool) := [(.bool, false)]
def h_S_l1Has : Hints := { loops := [(0, { items := [.slot 9 (.data (.int .i64) [])], kill := [0, 2, 3, 4, 5, 6, 10, 11, 12, 13, 14, 15, 16] })] }
noncomputable def M_S_l1Has (x : ((List Int) × Int)) : (Option Bool) :=
  (loopO (fun (again0 : (Int → (Option Bool))) => (fun (s1 : Int) => (cond (decide (s1 < (((List.length x.1) : Nat) : Int))) (bindO (getI x.1 s1) (fun (a2 : Int) => (cond (a2 == x.2) (some true) (bindO (some (IntKind.wrap .i64 (s1 + (1 : Int)))) (fun (a3 : Int) => (again0 a3)))))) (some false)))) (0 : Int))

noncomputable def c_S_l1Has : Con0 := ⟨pk_S_l1Has, rk_S_l1Has, M_S_l1Has⟩

set_option maxRecDepth 100000 in
theorem eq_S_l1Has (x : In pk_S_l1Has) : semF (mkE []) h_S_l1Has (info Try.f247) pk_S_l1Has rk_S_l1Has x = M_S_l1Has x := by kernel_rfl

set_option maxRecDepth 100000 in
theorem m_S_l1Has : ConOK Try.prog 247 c_S_l1Has := fn_ok (tyOK _) (E := mkE []) (consOK_nil rfl) Try.func247 (h := h_S_l1Has) (by kernel_rfl) eq_S_l1Has

/-- S_vDifferent -/
def pk_S_vDifferent : List PK := [.data (.sl (.int .i64))]
def rk_S_vDifferent : List (Ty × Bool) := [(.bool, false)]
def h_S_vDifferent : Hints := { loops := [(0, { items := [.slot 7 (.data (.int .i64) [])], kill := [1, 2, 3, 4, 8, 9, 10, 11, 12, 13, 14, 15, 16, 17] })] }
noncomputable def M_S_vDifferent (x : (List Int)) : (Option Bool) :=
  (loopO (fun (again0 : (Int → (Option Bool))) => (fun (s1 : Int) => (cond (decide (s1 < (((List.length x) : Nat) : Int))) (bindO (getI x s1) (fun (a2 : Int) => (bindO (sliceNH s1 (List.length x)) (fun (a3 : (Nat × Nat)) => (bindO (M_S_l1Has ((List.drop a3.1 (List.take a3.2 x)), a2)) (fun (a4 : Bool) => (cond a4 (some false) (bindO (some (IntKind.wrap .i64 (s1 + (1 : Int)))) (fun (a5 : Int) => (again0 a5)))))))))) (some true)))) (0 : Int))

noncomputable def c_S_vDifferent : Con0 := ⟨pk_S_vDifferent, rk_S_vDifferent, M_S_vDifferent⟩

set_option maxRecDepth 100000 in
theorem eq_S_vDifferent (x : In pk_S_vDifferent) : semF (mkE [(247, c_S_l1Has)]) h_S_vDifferent (info Try.f222) pk_S_vDifferent rk_S_vDifferent x = M_S_vDifferent x := by kernel_rfl

set_option maxRecDepth 100000 in
theorem m_S_vDifferent : ConOK Try.prog 222 c_S_vDifferent := fn_ok (tyOK _) (E := mkE [(247, c_S_l1Has)]) (consOK_cons m_S_l1Has (consOK_nil rfl)) Try.func222 (h := h_S_vDifferent) (by kernel_rfl) eq_S_vDifferent

/-- S_vVote -/
def pk_S_vVote : List PK := [.data (.cons (.int .i64) (.cons (.int .i64) (.cons (.int .i64) (.cons (.int .i64) (.one (.int .i64)))))), .data (.sl (.int .i64))]
def rk_S_vVote : List (Ty × Bool) := [(.bool, false)]
def h_S_vVote : Hints := { loops := [] }
noncomputable def M_S_vVote (x : ((Int × (Int × (Int × (Int × Int)))) × (List Int))) : (Option Bool) :=
  (cond (x.1.1 == (1 : Int)) (bindO (some (IntKind.wrap .i64 (x.1.2.1 - (1 : Int)))) (fun (a0 : Int) => (bindO (M_S_l1Rising (x.2, ((0 : Int), a0))) (fun (a1 : Bool) => (cond a1 (bindO (M_S_l1In ((((List.length x.2) : Nat) : Int), (x.1.2.2.1, x.1.2.2.2.1))) (fun (a2 : Bool) => (some a2))) (some false)))))) (cond (x.1.1 == (2 : Int)) (cond ((((List.length x.2) : Nat) : Int) == x.1.2.1) (bindO (M_S_l1All (x.2, ((0 : Int), x.1.2.2.2.2))) (fun (a3 : Bool) => (cond a3 (bindO (M_S_vPlain x.2) (fun (a4 : Int) => (bindO (M_S_l1In (a4, (x.1.2.2.1, x.1.2.2.2.1))) (fun (a5 : Bool) => (some a5))))) (some false)))) (some false)) (cond (x.1.1 == (3 : Int)) (bindO (some (IntKind.wrap .i64 (x.1.2.1 - (1 : Int)))) (fun (a6 : Int) => (bindO (M_S_l1All (x.2, ((0 : Int), a6))) (fun (a7 : Bool) => (cond a7 (bindO (M_S_vDifferent x.2) (fun (a8 : Bool) => (cond a8 (bindO (M_S_l1In ((((List.length x.2) : Nat) : Int), (x.1.2.2.1, x.1.2.2.2.1))) (fun (a9 : Bool) => (some a9))) (some false)))) (some false)))))) (bindO (M_S_l1All (x.2, ((1 : Int), (26 : Int)))) (fun (a10 : Bool) => (cond a10 (bindO (M_S_l1In ((((List.length x.2) : Nat) : Int), (x.1.2.2.1, x.1.2.2.2.1))) (fun (a11 : Bool) => (some a11))) (some false)))))))

noncomputable def c_S_vVote : Con0 := ⟨pk_S_vVote, rk_S_vVote, M_S_vVote⟩

set_option maxRecDepth 100000 in
theorem eq_S_vVote (x : In pk_S_vVote) : semF (mkE [(285, c_S_l1Rising), (175, c_S_l1In), (221, c_S_l1All), (286, c_S_vPlain), (222, c_S_vDifferent)]) h_S_vVote (info Try.f208) pk_S_vVote rk_S_vVote x = M_S_vVote x := by kernel_rfl

set_option maxRecDepth 100000 in
theorem m_S_vVote : ConOK Try.prog 208 c_S_vVote := fn_ok (tyOK _) (E := mkE [(285, c_S_l1Rising), (175, c_S_l1In), (221, c_S_l1All), (286, c_S_vPlain), (222, c_S_vDifferent)]) (consOK_cons m_S_l1Rising (consOK_cons m_S_l1In (consOK_cons m_S_l1All (consOK_cons m_S_vPlain (consOK_cons m_S_vDifferent (consOK_nil rfl)))))) Try.func208 (h := h_S_vVote) (by kernel_rfl) eq_S_vVote

/-- S_tVotes -/
def pk_S_tVotes : List PK := [.data (.cons (.int .i64) (.cons (.int .i64) (.cons (.int .i64) (.cons (.int .i64) (.one (.int .i64)))))), .data (.sl (.sl (.int .i64)))]
def rk_S_tVotes : List (Ty × Bool) := [(.bool, false)]
def h_S_tVotes : Hints := { loops := [(0, { items := [.slot 17 (.data (.int .i64) [])], kill := [0, 1, 3, 4, 5, 6, 7, 8, 9, 10, 11, 12, 13, 14, 18, 19, 20, 21, 22, 23, 24, 25] })] }
noncomputable def M_S_tVotes (x : ((Int × (Int × (Int × (Int × Int)))) × (List (List Int)))) : (Option Bool) :=
  (bindO (M_S_vContest (x.1.1, (x.1.2.1, (x.1.2.2.1, (x.1.2.2.2.1, x.1.2.2.2.2))))) (fun (a0 : Bool) => (cond (not a0) (some false) (cond (decide ((((List.length x.2) : Nat) : Int) > (24 : Int))) (some false) (loopO (fun (again1 : (Int → (Option Bool))) => (fun (s2 : Int) => (cond (decide (s2 < (((List.length x.2) : Nat) : Int))) (bindO (getI x.2 s2) (fun (a3 : (List Int)) => (bindO (M_S_vVote ((x.1.1, (x.1.2.1, (x.1.2.2.1, (x.1.2.2.2.1, x.1.2.2.2.2)))), a3)) (fun (a4 : Bool) => (cond (not a4) (some false) (bindO (some (IntKind.wrap .i64 (s2 + (1 : Int)))) (fun (a5 : Int) => (again1 a5)))))))) (some true)))) (0 : Int))))))

noncomputable def c_S_tVotes : Con0 := ⟨pk_S_tVotes, rk_S_tVotes, M_S_tVotes⟩

set_option maxRecDepth 100000 in
theorem eq_S_tVotes (x : In pk_S_tVotes) : semF (mkE [(207, c_S_vContest), (208, c_S_vVote)]) h_S_tVotes (info Try.f103) pk_S_tVotes rk_S_tVotes x = M_S_tVotes x := by kernel_rfl

set_option maxRecDepth 100000 in
theorem m_S_tVotes : ConOK Try.prog 103 c_S_tVotes := fn_ok (tyOK _) (E := mkE [(207, c_S_vContest), (208, c_S_vVote)]) (consOK_cons m_S_vContest (consOK_cons m_S_vVote (consOK_nil rfl))) Try.func103 (h := h_S_tVotes) (by kernel_rfl) eq_S_tVotes

/-- S_vMarks -/
def pk_S_vMarks : List PK := [.data (.cons (.int .i64) (.cons (.int .i64) (.cons (.int .i64) (.cons (.int .i64) (.one (.int .i64)))))), .data (.sl (.int .i64))]
def rk_S_vMarks : List (Ty × Bool) := [((.sl (.int .i64)), true)]
def h_S_vMarks : Hints := { loops := [(0, { items := [.slot 13 (.data (.int .i64) []), .arr 5 (.int .i64) true], kill := [0, 1, 2, 3, 4, 6, 7, 8, 9, 10, 14, 15, 16, 17, 18, 19, 20, 21] })] }
noncomputable def M_S_vMarks (x : ((Int × (Int × (Int × (Int × Int)))) × (List Int))) : (Option (List Int)) :=
  (bindO (guardO (((decide ((0 : Int) ≤ x.1.2.1)) && (decide (x.1.2.1 ≤ x.1.2.1))) && (decide (x.1.2.1 ≤ ((lim : Nat) : Int))))) (fun (a0 : Unit) => (loopO (fun (again1 : ((Int × (List Int)) → (Option (List Int)))) => (fun (s2 : (Int × (List Int))) => (cond (decide (s2.1 < (((List.length x.2) : Nat) : Int))) (bindO (getI x.2 s2.1) (fun (a3 : Int) => (bindO (getI s2.2 a3) (fun (a4 : Int) => (bindO (some (List.set s2.2 (Int.toNat a3) (1 : Int))) (fun (a5 : (List Int)) => (bindO (some (IntKind.wrap .i64 (s2.1 + (1 : Int)))) (fun (a6 : Int) => (again1 (a6, a5)))))))))) (some s2.2)))) ((0 : Int), (List.replicate (Int.toNat x.1.2.1) (0 : Int))))))

noncomputable def c_S_vMarks : Con0 := ⟨pk_S_vMarks, rk_S_vMarks, M_S_vMarks⟩

set_option maxRecDepth 100000 in
theorem eq_S_vMarks (x : In pk_S_vMarks) : semF (mkE []) h_S_vMarks (info Try.f287) pk_S_vMarks rk_S_vMarks x = M_S_vMarks x := by kernel_rfl

set_option maxRecDepth 100000 in
theorem m_S_vMarks : ConOK Try.prog 287 c_S_vMarks := fn_ok (tyOK _) (E := mkE []) (consOK_nil rfl) Try.func287 (h := h_S_vMarks) (by kernel_rfl) eq_S_vMarks

/-- S_l1Own -/
def pk_S_l1Own : List PK := [.data (.sl (.int .i64))]
def rk_S_l1Own : List (Ty × Bool) := [((.sl (.int .i64)), true)]
def h_S_l1Own : Hints := { loops := [] }
noncomputable def M_S_l1Own (x : (List Int)) : (Option (List Int)) :=
  (bindO (guardO (lenOk ((List.length ([] : List Int)) + (List.length x)))) (fun (a0 : Unit) => (bindO (some (([] : List Int) ++ x)) (fun (a1 : (List Int)) => (some a1)))))

noncomputable def c_S_l1Own : Con0 := ⟨pk_S_l1Own, rk_S_l1Own, M_S_l1Own⟩

set_option maxRecDepth 100000 in
theorem eq_S_l1Own (x : In pk_S_l1Own) : semF (mkE []) h_S_l1Own (info Try.f239) pk_S_l1Own rk_S_l1Own x = M_S_l1Own x := by kernel_rfl

set_option maxRecDepth 100000 in
theorem m_S_l1Own : ConOK Try.prog 239 c_S_l1Own := fn_ok (tyOK _) (E := mkE []) (consOK_nil rfl) Try.func239 (h := h_S_l1Own) (by kernel_rfl) eq_S_l1Own

/-- S_vNumber -/
def pk_S_vNumber : List PK := [.data (.sl (.int .i64)), .data (.int .i64), .data (.int .i64)]
def rk_S_vNumber : List (Ty × Bool) := [((.int .i64), false)]
def h_S_vNumber : Hints := { loops := [(0, { items := [.slot 7 (.data (.int .i64) []), .slot 8 (.data (.int .i64) [])], kill := [3, 4, 5, 6, 9, 10, 11, 12, 13, 14, 15, 16, 17, 18, 19, 20, 21, 22, 23, 24, 25, 26] })] }
noncomputable def M_S_vNumber (x : ((List Int) × (Int × Int))) : (Option Int) :=
  (bindO (some (IntKind.wrap .i64 ((((List.length x.1) : Nat) : Int) - (1 : Int)))) (fun (a0 : Int) => (loopO (fun (again1 : ((Int × Int) → (Option Int))) => (fun (s2 : (Int × Int)) => (cond (decide (s2.2 ≥ (0 : Int))) (bindO (some (IntKind.wrap .i64 (s2.1 * x.2.1))) (fun (a3 : Int) => (bindO (getI x.1 s2.2) (fun (a4 : Int) => (bindO (some (IntKind.wrap .i64 (a3 + a4))) (fun (a5 : Int) => (bindO (some (IntKind.wrap .i64 (a5 + x.2.2))) (fun (a6 : Int) => (bindO (some (IntKind.wrap .i64 (s2.2 - (1 : Int)))) (fun (a7 : Int) => (again1 (a6, a7)))))))))))) (some s2.1)))) ((0 : Int), a0))))

noncomputable def c_S_vNumber : Con0 := ⟨pk_S_vNumber, rk_S_vNumber, M_S_vNumber⟩

set_option maxRecDepth 100000 in
theorem eq_S_vNumber (x : In pk_S_vNumber) : semF (mkE []) h_S_vNumber (info Try.f316) pk_S_vNumber rk_S_vNumber x = M_S_vNumber x := by kernel_rfl

set_option maxRecDepth 100000 in
theorem m_S_vNumber : ConOK Try.prog 316 c_S_vNumber := fn_ok (tyOK _) (E := mkE []) (consOK_nil rfl) Try.func316 (h := h_S_vNumber) (by kernel_rfl) eq_S_vNumber

/-- S_vCode -/
def pk_S_vCode : List PK := [.data (.cons (.int .i64) (.cons (.int .i64) (.cons (.int .i64) (.cons (.int .i64) (.one (.int .i64)))))), .data (.sl (.int .i64))]
def rk_S_vCode : List (Ty × Bool) := [((.int .i64), false)]
def h_S_vCode : Hints := { loops := [] }
noncomputable def M_S_vCode (x : ((Int × (Int × (Int × (Int × Int)))) × (List Int))) : (Option Int) :=
  (cond (x.1.1 == (1 : Int)) (bindO (M_S_vMarks ((x.1.1, (x.1.2.1, (x.1.2.2.1, (x.1.2.2.2.1, x.1.2.2.2.2)))), x.2)) (fun (a0 : (List Int)) => (bindO (M_S_vNumber (a0, ((2 : Int), (0 : Int)))) (fun (a1 : Int) => (some a1))))) (cond (x.1.1 == (2 : Int)) (bindO (some (IntKind.wrap .i64 (x.1.2.2.2.2 + (1 : Int)))) (fun (a2 : Int) => (bindO (M_S_vNumber (x.2, (a2, (0 : Int)))) (fun (a3 : Int) => (some a3))))) (cond (x.1.1 == (3 : Int)) (bindO (some (IntKind.wrap .i64 (x.1.2.1 + (1 : Int)))) (fun (a4 : Int) => (bindO (M_S_vNumber (x.2, (a4, (1 : Int)))) (fun (a5 : Int) => (some a5))))) (bindO (M_S_vNumber (x.2, ((27 : Int), (0 : Int)))) (fun (a6 : Int) => (some a6))))))

noncomputable def c_S_vCode : Con0 := ⟨pk_S_vCode, rk_S_vCode, M_S_vCode⟩

set_option maxRecDepth 100000 in
theorem eq_S_vCode (x : In pk_S_vCode) : semF (mkE [(287, c_S_vMarks), (316, c_S_vNumber)]) h_S_vCode (info Try.f288) pk_S_vCode rk_S_vCode x = M_S_vCode x := by kernel_rfl

set_option maxRecDepth 100000 in
theorem m_S_vCode : ConOK Try.prog 288 c_S_vCode := fn_ok (tyOK _) (E := mkE [(287, c_S_vMarks), (316, c_S_vNumber)]) (consOK_cons m_S_vMarks (consOK_cons m_S_vNumber (consOK_nil rfl))) Try.func288 (h := h_S_vCode) (by kernel_rfl) eq_S_vCode

/-- S_vExps -/
def pk_S_vExps : List PK := [.data (.cons (.int .i64) (.cons (.int .i64) (.cons (.int .i64) (.cons (.int .i64) (.one (.int .i64)))))), .data (.sl (.int .i64))]
def rk_S_vExps : List (Ty × Bool) := [((.sl (.int .i64)), true)]
def h_S_vExps : Hints := { loops := [] }
noncomputable def M_S_vExps (x : ((Int × (Int × (Int × (Int × Int)))) × (List Int))) : (Option (List Int)) :=
  (cond (x.1.1 == (1 : Int)) (bindO (M_S_vMarks ((x.1.1, (x.1.2.1, (x.1.2.2.1, (x.1.2.2.2.1, x.1.2.2.2.2)))), x.2)) (fun (a0 : (List Int)) => (some a0))) (cond (x.1.1 == (2 : Int)) (bindO (M_S_l1Own x.2) (fun (a1 : (List Int)) => (some a1))) (bindO (M_S_vCode ((x.1.1, (x.1.2.1, (x.1.2.2.1, (x.1.2.2.2.1, x.1.2.2.2.2)))), x.2)) (fun (a2 : Int) => (some (a2 :: ([] : List Int)))))))

noncomputable def c_S_vExps : Con0 := ⟨pk_S_vExps, rk_S_vExps, M_S_vExps⟩

set_option maxRecDepth 100000 in
theorem eq_S_vExps (x : In pk_S_vExps) : semF (mkE [(287, c_S_vMarks), (239, c_S_l1Own), (288, c_S_vCode)]) h_S_vExps (info Try.f209) pk_S_vExps rk_S_vExps x = M_S_vExps x := by kernel_rfl

set_option maxRecDepth 100000 in
theorem m_S_vExps : ConOK Try.prog 209 c_S_vExps := fn_ok (tyOK _) (E := mkE [(287, c_S_vMarks), (239, c_S_l1Own), (288, c_S_vCode)]) (consOK_cons m_S_vMarks (consOK_cons m_S_l1Own (consOK_cons m_S_vCode (consOK_nil rfl)))) Try.func209 (h := h_S_vExps) (by kernel_rfl) eq_S_vExps

/-- S_tTally -/
def pk_S_tTally : List PK := [.data (.cons (.int .i64) (.cons (.int .i64) (.cons (.int .i64) (.cons (.int .i64) (.one (.int .i64)))))), .data (.sl (.sl (.int .i64)))]
def rk_S_tTally : List (Ty × Bool) := [((.sl (.int .i64)), true)]
def h_S_tTally : Hints := { loops := [(0, { items := [.slot 15 (.data (.int .i64) []), .arr 5 (.int .i64) true], kill := [0, 1, 3, 4, 6, 7, 8, 9, 10, 11, 12, 16, 17, 18, 19, 20, 21, 22, 23, 24, 25, 26, 27, 28, 29, 30, 31, 32, 33, 34, 35, 36, 37] }), (2, { items := [.slot 23 (.data (.int .i64) []), .arr 5 (.int .i64) true], kill := [0, 1, 3, 4, 6, 7, 8, 9, 10, 11, 12, 16, 17, 18, 19, 20, 24, 25, 26, 27, 28, 29, 30, 31, 32, 33, 34, 35, 36, 37] })] }
noncomputable def M_S_tTally (x : ((Int × (Int × (Int × (Int × Int)))) × (List (List Int)))) : (Option (List Int)) :=
  (bindO (guardO (((decide ((0 : Int) ≤ x.1.2.1)) && (decide (x.1.2.1 ≤ x.1.2.1))) && (decide (x.1.2.1 ≤ ((lim : Nat) : Int))))) (fun (a0 : Unit) => (loopO (fun (again1 : ((Int × (List Int)) → (Option (List Int)))) => (fun (s2 : (Int × (List Int))) => (cond (decide (s2.1 < (((List.length x.2) : Nat) : Int))) (bindO (getI x.2 s2.1) (fun (a3 : (List Int)) => (bindO (M_S_vExps ((x.1.1, (x.1.2.1, (x.1.2.2.1, (x.1.2.2.2.1, x.1.2.2.2.2)))), a3)) (fun (a4 : (List Int)) => (loopO (fun (again5 : ((Int × (List Int)) → (Option (List Int)))) => (fun (s6 : (Int × (List Int))) => (cond (decide (s6.1 < (((List.length a4) : Nat) : Int))) (bindO (getI a4 s6.1) (fun (a7 : Int) => (bindO (getI s6.2 s6.1) (fun (a8 : Int) => (bindO (some (IntKind.wrap .i64 (a8 + a7))) (fun (a9 : Int) => (bindO (getI s6.2 s6.1) (fun (a10 : Int) => (bindO (some (List.set s6.2 (Int.toNat s6.1) a9)) (fun (a11 : (List Int)) => (bindO (some (IntKind.wrap .i64 (s6.1 + (1 : Int)))) (fun (a12 : Int) => (again5 (a12, a11)))))))))))))) (bindO (some (IntKind.wrap .i64 (s2.1 + (1 : Int)))) (fun (a13 : Int) => (again1 (a13, s6.2))))))) ((0 : Int), s2.2)))))) (some s2.2)))) ((0 : Int), (List.replicate (Int.toNat x.1.2.1) (0 : Int))))))

noncomputable def c_S_tTally : Con0 := ⟨pk_S_tTally, rk_S_tTally, M_S_tTally⟩

set_option maxRecDepth 100000 in
theorem eq_S_tTally (x : In pk_S_tTally) : semF (mkE [(209, c_S_vExps)]) h_S_tTally (info Try.f104) pk_S_tTally rk_S_tTally x = M_S_tTally x := by kernel_rfl

set_option maxRecDepth 100000 in
theorem m_S_tTally : ConOK Try.prog 104 c_S_tTally := fn_ok (tyOK _) (E := mkE [(209, c_S_vExps)]) (consOK_cons m_S_vExps (consOK_nil rfl)) Try.func104 (h := h_S_tTally) (by kernel_rfl) eq_S_tTally

/-- S_TallyVotes -/
def pk_S_TallyVotes : List PK := [.data (.cons (.int .i64) (.cons (.int .i64) (.cons (.int .i64) (.cons (.int .i64) (.one (.int .i64)))))), .data (.sl (.sl (.int .i64)))]
def rk_S_TallyVotes : List (Ty × Bool) := [((.sl (.int .i64)), true), (.bool, false)]
def h_S_TallyVotes : Hints := { loops := [] }
noncomputable def M_S_TallyVotes (x : ((Int × (Int × (Int × (Int × Int)))) × (List (List Int)))) : (Option ((List Int) × Bool)) :=
  (cond (x.1.1 != (1 : Int)) (cond (x.1.1 != (2 : Int)) (some (([] : List Int), false)) (bindO (M_S_tVotes ((x.1.1, (x.1.2.1, (x.1.2.2.1, (x.1.2.2.2.1, x.1.2.2.2.2)))), x.2)) (fun (a0 : Bool) => (cond (not a0) (some (([] : List Int), false)) (bindO (M_S_tTally ((x.1.1, (x.1.2.1, (x.1.2.2.1, (x.1.2.2.2.1, x.1.2.2.2.2)))), x.2)) (fun (a1 : (List Int)) => (some (a1, true)))))))) (bindO (M_S_tVotes ((x.1.1, (x.1.2.1, (x.1.2.2.1, (x.1.2.2.2.1, x.1.2.2.2.2)))), x.2)) (fun (a2 : Bool) => (cond (not a2) (some (([] : List Int), false)) (bindO (M_S_tTally ((x.1.1, (x.1.2.1, (x.1.2.2.1, (x.1.2.2.2.1, x.1.2.2.2.2)))), x.2)) (fun (a3 : (List Int)) => (some (a3, true))))))))

noncomputable def c_S_TallyVotes : Con0 := ⟨pk_S_TallyVotes, rk_S_TallyVotes, M_S_TallyVotes⟩

set_option maxRecDepth 100000 in
theorem eq_S_TallyVotes (x : In pk_S_TallyVotes) : semF (mkE [(103, c_S_tVotes), (104, c_S_tTally)]) h_S_TallyVotes (info Try.f16) pk_S_TallyVotes rk_S_TallyVotes x = M_S_TallyVotes x := by kernel_rfl

set_option maxRecDepth 100000 in
theorem m_S_TallyVotes : ConOK Try.prog 16 c_S_TallyVotes := fn_ok (tyOK _) (E := mkE [(103, c_S_tVotes), (104, c_S_tTally)]) (consOK_cons m_S_tVotes (consOK_cons m_S_tTally (consOK_nil rfl))) Try.func16 (h := h_S_TallyVotes) (by kernel_rfl) eq_S_TallyVotes

/-- I_within -/
def pk_I_within : List PK := [.data (.int .i64), .data (.int .i64), .data (.int .i64)]
def rk_I_within : List (Ty × Bool) := [(.bool, false)]
def h_I_within : Hints := { loops := [] }
noncomputable def M_I_within (x : (Int × (Int × Int))) : (Option Bool) :=
  (cond (decide (x.1 ≥ x.2.1)) (some (decide (x.1 ≤ x.2.2))) (some false))

noncomputable def c_I_within : Con0 := ⟨pk_I_within, rk_I_within, M_I_within⟩

set_option maxRecDepth 100000 in
theorem eq_I_within (x : In pk_I_within) : semF (mkE []) h_I_within (info Try.f160) pk_I_within rk_I_within x = M_I_within x := by kernel_rfl

set_option maxRecDepth 100000 in
theorem m_I_within : ConOK Try.prog 160 c_I_within := fn_ok (tyOK _) (E := mkE []) (consOK_nil rfl) Try.func160 (h := h_I_within) (by kernel_rfl) eq_I_within

/-- I_IsValidContest -/
def pk_I_IsValidContest : List PK := [.data (.cons (.int .i64) (.cons (.int .i64) (.cons (.int .i64) (.cons (.int .i64) (.one (.int .i64))))))]
def rk_I_IsValidContest : List (Ty × Bool) := [(.bool, false)]
def h_I_IsValidContest : Hints := { loops := [] }
noncomputable def M_I_IsValidContest (x : (Int × (Int × (Int × (Int × Int))))) : (Option Bool) :=
  (cond (decide (x.2.2.1 < (0 : Int))) (some false) (cond (decide (x.2.2.1 > x.2.2.2.1)) (some false) (cond (x.1 == (1 : Int)) (cond (x.1 == (1 : Int)) (bindO (M_I_within (x.2.1, ((1 : Int), (8 : Int)))) (fun (a0 : Bool) => (cond a0 (cond (decide (x.2.2.2.1 ≤ x.2.1)) (some (x.2.2.2.2 == (0 : Int))) (some false)) (some false)))) (cond (x.1 == (2 : Int)) (bindO (M_I_within (x.2.1, ((1 : Int), (8 : Int)))) (fun (a1 : Bool) => (cond a1 (bindO (M_I_within (x.2.2.2.2, ((1 : Int), (5 : Int)))) (fun (a2 : Bool) => (cond a2 (bindO (some (IntKind.wrap .i64 (x.2.1 * x.2.2.2.2))) (fun (a3 : Int) => (some (decide (x.2.2.2.1 ≤ a3))))) (some false)))) (some false)))) (cond (x.1 == (4 : Int)) (cond (x.2.1 == (0 : Int)) (cond (decide (x.2.2.2.1 ≤ (5 : Int))) (some (x.2.2.2.2 == (0 : Int))) (some false)) (some false)) (some false)))) (cond (x.1 == (3 : Int)) (bindO (M_I_within (x.2.1, ((1 : Int), (8 : Int)))) (fun (a4 : Bool) => (cond a4 (cond (decide (x.2.2.2.1 ≤ x.2.1)) (some (x.2.2.2.2 == (0 : Int))) (some false)) (some false)))) (cond (x.1 == (2 : Int)) (bindO (M_I_within (x.2.1, ((1 : Int), (8 : Int)))) (fun (a5 : Bool) => (cond a5 (bindO (M_I_within (x.2.2.2.2, ((1 : Int), (5 : Int)))) (fun (a6 : Bool) => (cond a6 (bindO (some (IntKind.wrap .i64 (x.2.1 * x.2.2.2.2))) (fun (a7 : Int) => (some (decide (x.2.2.2.1 ≤ a7))))) (some false)))) (some false)))) (cond (x.1 == (4 : Int)) (cond (x.2.1 == (0 : Int)) (cond (decide (x.2.2.2.1 ≤ (5 : Int))) (some (x.2.2.2.2 == (0 : Int))) (some false)) (some false)) (some false)))))))

noncomputable def c_I_IsValidContest : Con0 := ⟨pk_I_IsValidContest, rk_I_IsValidContest, M_I_IsValidContest⟩

set_option maxRecDepth 100000 in
theorem eq_I_IsValidContest (x : In pk_I_IsValidContest) : semF (mkE [(160, c_I_within)]) h_I_IsValidContest (info Try.f105) pk_I_IsValidContest rk_I_IsValidContest x = M_I_IsValidContest x := by kernel_rfl

set_option maxRecDepth 100000 in
theorem m_I_IsValidContest : ConOK Try.prog 105 c_I_IsValidContest := fn_ok (tyOK _) (E := mkE [(160, c_I_within)]) (consOK_cons m_I_within (consOK_nil rfl)) Try.func105 (h := h_I_IsValidContest) (by kernel_rfl) eq_I_IsValidContest

/-- I_Contest_isForm -/
def pk_I_Contest_isForm : List PK := [.data (.cons (.int .i64) (.cons (.int .i64) (.cons (.int .i64) (.cons (.int .i64) (.one (.int .i64))))))]
def rk_I_Contest_isForm : List (Ty × Bool) := [(.bool, false)]
def h_I_Contest_isForm : Hints := { loops := [] }
noncomputable def M_I_Contest_isForm (x : (Int × (Int × (Int × (Int × Int))))) : (Option Bool) :=
  (cond (x.1 == (1 : Int)) (some true) (some (x.1 == (2 : Int))))

noncomputable def c_I_Contest_isForm : Con0 := ⟨pk_I_Contest_isForm, rk_I_Contest_isForm, M_I_Contest_isForm⟩

set_option maxRecDepth 100000 in
theorem eq_I_Contest_isForm (x : In pk_I_Contest_isForm) : semF (mkE []) h_I_Contest_isForm (info Try.f106) pk_I_Contest_isForm rk_I_Contest_isForm x = M_I_Contest_isForm x := by kernel_rfl

set_option maxRecDepth 100000 in
theorem m_I_Contest_isForm : ConOK Try.prog 106 c_I_Contest_isForm := fn_ok (tyOK _) (E := mkE []) (consOK_nil rfl) Try.func106 (h := h_I_Contest_isForm) (by kernel_rfl) eq_I_Contest_isForm

/-- slices_IndexFunc_sint_int -/
def pk_slices_IndexFunc_sint_int : List PK := [.data (.sl (.int .i64)), .fn [(.int .i64)] .bool]
def rk_slices_IndexFunc_sint_int : List (Ty × Bool) := [((.int .i64), false)]
def h_slices_IndexFunc_sint_int : Hints := { loops := [(0, { items := [.slot 8 (.data (.int .i64) [])], kill := [2, 3, 4, 5, 6, 9, 10, 11, 12, 13, 14, 15, 16, 17, 18] })] }
noncomputable def M_slices_IndexFunc_sint_int (x : ((List Int) × (Int → (Option Bool)))) : (Option Int) :=
  (loopO (fun (again0 : (Int → (Option Int))) => (fun (s1 : Int) => (cond (decide (s1 < (((List.length x.1) : Nat) : Int))) (bindO (getI x.1 s1) (fun (a2 : Int) => (bindO (x.2 a2) (fun (a3 : Bool) => (cond a3 (some s1) (bindO (some (IntKind.wrap .i64 (s1 + (1 : Int)))) (fun (a4 : Int) => (again0 a4)))))))) (some (- (1 : Int)))))) (0 : Int))

noncomputable def c_slices_IndexFunc_sint_int : Con0 := ⟨pk_slices_IndexFunc_sint_int, rk_slices_IndexFunc_sint_int, M_slices_IndexFunc_sint_int⟩

set_option maxRecDepth 100000 in
theorem eq_slices_IndexFunc_sint_int (x : In pk_slices_IndexFunc_sint_int) : semF (mkE []) h_slices_IndexFunc_sint_int (info Try.f317) pk_slices_IndexFunc_sint_int rk_slices_IndexFunc_sint_int x = M_slices_IndexFunc_sint_int x := by kernel_rfl

set_option maxRecDepth 100000 in
theorem m_slices_IndexFunc_sint_int : ConOK Try.prog 317 c_slices_IndexFunc_sint_int := fn_ok (tyOK _) (E := mkE []) (consOK_nil rfl) Try.func317 (h := h_slices_IndexFunc_sint_int) (by kernel_rfl) eq_slices_IndexFunc_sint_int

/-- slices_ContainsFunc_sint_int -/
def pk_slices_ContainsFunc_sint_int : List PK := [.data (.sl (.int .i64)), .fn [(.int .i64)] .bool]
def rk_slices_ContainsFunc_sint_int : List (Ty × Bool) := [(.bool, false)]
def h_slices_ContainsFunc_sint_int : Hints := { loops := [] }
noncomputable def M_slices_ContainsFunc_sint_int (x : ((List Int) × (Int → (Option Bool)))) : (Option Bool) :=
  (bindO (M_slices_IndexFunc_sint_int (x.1, x.2)) (fun (a0 : Int) => (some (decide (a0 ≥ (0 : Int))))))

noncomputable def c_slices_ContainsFunc_sint_int : Con0 := ⟨pk_slices_ContainsFunc_sint_int, rk_slices_ContainsFunc_sint_int, M_slices_ContainsFunc_sint_int⟩

set_option maxRecDepth 100000 in
theorem eq_slices_ContainsFunc_sint_int (x : In pk_slices_ContainsFunc_sint_int) : semF (mkE [(317, c_slices_IndexFunc_sint_int)]) h_slices_ContainsFunc_sint_int (info Try.f289) pk_slices_ContainsFunc_sint_int rk_slices_ContainsFunc_sint_int x = M_slices_ContainsFunc_sint_int x := by kernel_rfl

set_option maxRecDepth 100000 in
theorem m_slices_ContainsFunc_sint_int : ConOK Try.prog 289 c_slices_ContainsFunc_sint_int := fn_ok (tyOK _) (E := mkE [(317, c_slices_IndexFunc_sint_int)]) (consOK_cons m_slices_IndexFunc_sint_int (consOK_nil rfl)) Try.func289 (h := h_slices_ContainsFunc_sint_int) (by kernel_rfl) eq_slices_ContainsFunc_sint_int

/-- I_areAll_1 -/
def pk_I_areAll_1 : List PK := [.data (.int .i64), .rfn [(.int .i64)] .bool]
def rk_I_areAll_1 : List (Ty × Bool) := [(.bool, false)]
def h_I_areAll_1 : Hints := { loops := [] }
noncomputable def M_I_areAll_1 (x : (Int × (Int → (Option Bool)))) : (Option Bool) :=
  (bindO (x.2 x.1) (fun (a0 : Bool) => (some (not a0))))

noncomputable def c_I_areAll_1 : Con0 := ⟨pk_I_areAll_1, rk_I_areAll_1, M_I_areAll_1⟩

set_option maxRecDepth 100000 in
theorem eq_I_areAll_1 (x : In pk_I_areAll_1) : semF (mkE []) h_I_areAll_1 (info Try.f290) pk_I_areAll_1 rk_I_areAll_1 x = M_I_areAll_1 x := by kernel_rfl

set_option maxRecDepth 100000 in
theorem m_I_areAll_1 : ConOK Try.prog 290 c_I_areAll_1 := fn_ok (tyOK _) (E := mkE []) (consOK_nil rfl) Try.func290 (h := h_I_areAll_1) (by kernel_rfl) eq_I_areAll_1

/-- I_areAll -/
def pk_I_areAll : List PK := [.data (.sl (.int .i64)), .fn [(.int .i64)] .bool]
def rk_I_areAll : List (Ty × Bool) := [(.bool, false)]
def h_I_areAll : Hints := { loops := [] }
noncomputable def M_I_areAll (x : ((List Int) × (Int → (Option Bool)))) : (Option Bool) :=
  (bindO (M_slices_ContainsFunc_sint_int (x.1, (fun (a0 : Int) => (bindO (M_I_areAll_1 (a0, x.2)) (fun (a1 : Bool) => (some a1)))))) (fun (a2 : Bool) => (some (not a2))))

noncomputable def c_I_areAll : Con0 := ⟨pk_I_areAll, rk_I_areAll, M_I_areAll⟩

set_option maxRecDepth 100000 in
theorem eq_I_areAll (x : In pk_I_areAll) : semF (mkE [(289, c_slices_ContainsFunc_sint_int), (290, c_I_areAll_1)]) h_I_areAll (info Try.f210) pk_I_areAll rk_I_areAll x = M_I_areAll x := by kernel_rfl

set_option maxRecDepth 100000 in
theorem m_I_areAll : ConOK Try.prog 210 c_I_areAll := fn_ok (tyOK _) (E := mkE [(289, c_slices_ContainsFunc_sint_int), (290, c_I_areAll_1)]) (consOK_cons m_slices_ContainsFunc_sint_int (consOK_cons m_I_areAll_1 (consOK_nil rfl))) Try.func210 (h := h_I_areAll) (by kernel_rfl) eq_I_areAll

/-- cmp_isNaN_int -/
def pk_cmp_isNaN_int : List PK := [.data (.int .i64)]
def rk_cmp_isNaN_int : List (Ty × Bool) := [(.bool, false)]
def h_cmp_isNaN_int : Hints := { loops := [] }
noncomputable def M_cmp_isNaN_int (x : Int) : (Option Bool) :=
  (some (x != x))

noncomputable def c_cmp_isNaN_int : Con0 := ⟨pk_cmp_isNaN_int, rk_cmp_isNaN_int, M_cmp_isNaN_int⟩

set_option maxRecDepth 100000 in
theorem eq_cmp_isNaN_int (x : In pk_cmp_isNaN_int) : semF (mkE []) h_cmp_isNaN_int (info Try.f318) pk_cmp_isNaN_int rk_cmp_isNaN_int x = M_cmp_isNaN_int x := by kernel_rfl

set_option maxRecDepth 100000 in
theorem m_cmp_isNaN_int : ConOK Try.prog 318 c_cmp_isNaN_int := fn_ok (tyOK _) (E := mkE []) (consOK_nil rfl) Try.func318 (h := h_cmp_isNaN_int) (by kernel_rfl) eq_cmp_isNaN_int

/-- cmp_Less_int -/
def pk_cmp_Less_int : List PK := [.data (.int .i64), .data (.int .i64)]
def rk_cmp_Less_int : List (Ty × Bool) := [(.bool, false)]
def h_cmp_Less_int : Hints := { loops := [] }
noncomputable def M_cmp_Less_int (x : (Int × Int)) : (Option Bool) :=
  (bindO (M_cmp_isNaN_int x.1) (fun (a0 : Bool) => (cond a0 (bindO (M_cmp_isNaN_int x.2) (fun (a1 : Bool) => (cond (not a1) (some true) (some (decide (x.1 < x.2)))))) (some (decide (x.1 < x.2))))))

noncomputable def c_cmp_Less_int : Con0 := ⟨pk_cmp_Less_int, rk_cmp_Less_int, M_cmp_Less_int⟩

set_option maxRecDepth 100000 in
theorem eq_cmp_Less_int (x : In pk_cmp_Less_int) : semF (mkE [(318, c_cmp_isNaN_int)]) h_cmp_Less_int (info Try.f291) pk_cmp_Less_int rk_cmp_Less_int x = M_cmp_Less_int x := by kernel_rfl

set_option maxRecDepth 100000 in
theorem m_cmp_Less_int : ConOK Try.prog 291 c_cmp_Less_int := fn_ok (tyOK _) (E := mkE [(318, c_cmp_isNaN_int)]) (consOK_cons m_cmp_isNaN_int (consOK_nil rfl)) Try.func291 (h := h_cmp_Less_int) (by kernel_rfl) eq_cmp_Less_int

/-- slices_IsSorted_sint_int -/
def pk_slices_IsSorted_sint_int : List PK := [.data (.sl (.int .i64))]
def rk_slices_IsSorted_sint_int : List (Ty × Bool) := [(.bool, false)]
def h_slices_IsSorted_sint_int : Hints := { loops := [(0, { items := [.slot 3 (.data (.int .i64) [])], kill := [1, 2, 4, 5, 6, 7, 8, 9, 10, 11, 12, 13, 14, 15, 16, 17, 18, 19, 20] })] }
noncomputable def M_slices_IsSorted_sint_int (x : (List Int)) : (Option Bool) :=
  (bindO (some (IntKind.wrap .i64 ((((List.length x) : Nat) : Int) - (1 : Int)))) (fun (a0 : Int) => (loopO (fun (again1 : (Int → (Option Bool))) => (fun (s2 : Int) => (cond (decide (s2 > (0 : Int))) (bindO (getI x s2) (fun (a3 : Int) => (bindO (some (IntKind.wrap .i64 (s2 - (1 : Int)))) (fun (a4 : Int) => (bindO (getI x a4) (fun (a5 : Int) => (bindO (M_cmp_Less_int (a3, a5)) (fun (a6 : Bool) => (cond a6 (some false) (bindO (some (IntKind.wrap .i64 (s2 - (1 : Int)))) (fun (a7 : Int) => (again1 a7)))))))))))) (some true)))) a0)))

noncomputable def c_slices_IsSorted_sint_int : Con0 := ⟨pk_slices_IsSorted_sint_int, rk_slices_IsSorted_sint_int, M_slices_IsSorted_sint_int⟩

set_option maxRecDepth 100000 in
theorem eq_slices_IsSorted_sint_int (x : In pk_slices_IsSorted_sint_int) : semF (mkE [(291, c_cmp_Less_int)]) h_slices_IsSorted_sint_int (info Try.f213) pk_slices_IsSorted_sint_int rk_slices_IsSorted_sint_int x = M_slices_IsSorted_sint_int x := by kernel_rfl

set_option maxRecDepth 100000 in
theorem m_slices_IsSorted_sint_int : ConOK Try.prog 213 c_slices_IsSorted_sint_int := fn_ok (tyOK _) (E := mkE [(291, c_cmp_Less_int)]) (consOK_cons m_cmp_Less_int (consOK_nil rfl)) Try.func213 (h := h_slices_IsSorted_sint_int) (by kernel_rfl) eq_slices_IsSorted_sint_int

/-- slices_Index_sint_int -/
def pk_slices_Index_sint_int : List PK := [.data (.sl (.int .i64)), .data (.int .i64)]
def rk_slices_Index_sint_int : List (Ty × Bool) := [((.int .i64), false)]
def h_slices_Index_sint_int : Hints := { loops := [(0, { items := [.slot 8 (.data (.int .i64) [])], kill := [2, 3, 4, 5, 6, 9, 10, 11, 12, 13, 14, 15, 16, 17, 18] })] }
noncomputable def M_slices_Index_sint_int (x : ((List Int) × Int)) : (Option Int) :=
  (loopO (fun (again0 : (Int → (Option Int))) => (fun (s1 : Int) => (cond (decide (s1 < (((List.length x.1) : Nat) : Int))) (bindO (getI x.1 s1) (fun (a2 : Int) => (cond (x.2 == a2) (some s1) (bindO (some (IntKind.wrap .i64 (s1 + (1 : Int)))) (fun (a3 : Int) => (again0 a3)))))) (some (- (1 : Int)))))) (0 : Int))

noncomputable def c_slices_Index_sint_int : Con0 := ⟨pk_slices_Index_sint_int, rk_slices_Index_sint_int, M_slices_Index_sint_int⟩

set_option maxRecDepth 100000 in
theorem eq_slices_Index_sint_int (x : In pk_slices_Index_sint_int) : semF (mkE []) h_slices_Index_sint_int (info Try.f220) pk_slices_Index_sint_int rk_slices_Index_sint_int x = M_slices_Index_sint_int x := by kernel_rfl

set_option maxRecDepth 100000 in
theorem m_slices_Index_sint_int : ConOK Try.prog 220 c_slices_Index_sint_int := fn_ok (tyOK _) (E := mkE []) (consOK_nil rfl) Try.func220 (h := h_slices_Index_sint_int) (by kernel_rfl) eq_slices_Index_sint_int

/-- slices_Contains_sint_int -/
def pk_slices_Contains_sint_int : List PK := [.data (.sl (.int .i64)), .data (.int .i64)]
def rk_slices_Contains_sint_int : List (Ty × Bool) := [(.bool, false)]
def h_slices_Contains_sint_int : Hints := { loops := [] }
noncomputable def M_slices_Contains_sint_int (x : ((List Int) × Int)) : (Option Bool) :=
  (bindO (M_slices_Index_sint_int (x.1, x.2)) (fun (a0 : Int) => (some (decide (a0 ≥ (0 : Int))))))

noncomputable def c_slices_Contains_sint_int : Con0 := ⟨pk_slices_Contains_sint_int, rk_slices_Contains_sint_int, M_slices_Contains_sint_int⟩

set_option maxRecDepth 100000 in
theorem eq_slices_Contains_sint_int (x : In pk_slices_Contains_sint_int) : semF (mkE [(220, c_slices_Index_sint_int)]) h_slices_Contains_sint_int (info Try.f111) pk_slices_Contains_sint_int rk_slices_Contains_sint_int x = M_slices_Contains_sint_int x := by kernel_rfl

set_option maxRecDepth 100000 in
theorem m_slices_Contains_sint_int : ConOK Try.prog 111 c_slices_Contains_sint_int := fn_ok (tyOK _) (E := mkE [(220, c_slices_Index_sint_int)]) (consOK_cons m_slices_Index_sint_int (consOK_nil rfl)) Try.func111 (h := h_slices_Contains_sint_int) (by kernel_rfl) eq_slices_Contains_sint_int

/-- I_areDifferent -/
def pk_I_areDifferent : List PK := [.data (.sl (.int .i64))]
def rk_I_areDifferent : List (Ty × Bool) := [(.bool, false)]
def h_I_areDifferent : Hints := { loops := [(0, { items := [.slot 7 (.data (.int .i64) [])], kill := [1, 2, 3, 4, 8, 9, 10, 11, 12, 13, 14, 15, 16, 17] })] }
noncomputable def M_I_areDifferent (x : (List Int)) : (Option Bool) :=
  (loopO (fun (again0 : (Int → (Option Bool))) => (fun (s1 : Int) => (cond (decide (s1 < (((List.length x) : Nat) : Int))) (bindO (getI x s1) (fun (a2 : Int) => (bindO (sliceNH s1 (List.length x)) (fun (a3 : (Nat × Nat)) => (bindO (M_slices_Contains_sint_int ((List.drop a3.1 (List.take a3.2 x)), a2)) (fun (a4 : Bool) => (cond a4 (some false) (bindO (some (IntKind.wrap .i64 (s1 + (1 : Int)))) (fun (a5 : Int) => (again0 a5)))))))))) (some true)))) (0 : Int))

noncomputable def c_I_areDifferent : Con0 := ⟨pk_I_areDifferent, rk_I_areDifferent, M_I_areDifferent⟩

set_option maxRecDepth 100000 in
theorem eq_I_areDifferent (x : In pk_I_areDifferent) : semF (mkE [(111, c_slices_Contains_sint_int)]) h_I_areDifferent (info Try.f214) pk_I_areDifferent rk_I_areDifferent x = M_I_areDifferent x := by kernel_rfl

set_option maxRecDepth 100000 in
theorem m_I_areDifferent : ConOK Try.prog 214 c_I_areDifferent := fn_ok (tyOK _) (E := mkE [(111, c_slices_Contains_sint_int)]) (consOK_cons m_slices_Contains_sint_int (consOK_nil rfl)) Try.func214 (h := h_I_areDifferent) (by kernel_rfl) eq_I_areDifferent

/-- I_Contest_isVote_1 -/
def pk_I_Contest_isVote_1 : List PK := [.data (.int .i64), .rp (.cons (.int .i64) (.cons (.int .i64) (.cons (.int .i64) (.cons (.int .i64) (.one (.int .i64))))))]
def rk_I_Contest_isVote_1 : List (Ty × Bool) := [(.bool, false)]
def h_I_Contest_isVote_1 : Hints := { loops := [] }
noncomputable def M_I_Contest_isVote_1 (x : (Int × (Int × (Int × (Int × (Int × Int)))))) : (Option Bool) :=
  (bindO (M_I_within (x.1, ((0 : Int), x.2.2.2.2.2))) (fun (a0 : Bool) => (some a0)))

noncomputable def c_I_Contest_isVote_1 : Con0 := ⟨pk_I_Contest_isVote_1, rk_I_Contest_isVote_1, M_I_Contest_isVote_1⟩

set_option maxRecDepth 100000 in
theorem eq_I_Contest_isVote_1 (x : In pk_I_Contest_isVote_1) : semF (mkE [(160, c_I_within)]) h_I_Contest_isVote_1 (info Try.f211) pk_I_Contest_isVote_1 rk_I_Contest_isVote_1 x = M_I_Contest_isVote_1 x := by kernel_rfl

set_option maxRecDepth 100000 in
theorem m_I_Contest_isVote_1 : ConOK Try.prog 211 c_I_Contest_isVote_1 := fn_ok (tyOK _) (E := mkE [(160, c_I_within)]) (consOK_cons m_I_within (consOK_nil rfl)) Try.func211 (h := h_I_Contest_isVote_1) (by kernel_rfl) eq_I_Contest_isVote_1

/-- I_Contest_isVote_2 -/
def pk_I_Contest_isVote_2 : List PK := [.data (.int .i64), .rp (.int .i64), .rp (.int .i64)]
def rk_I_Contest_isVote_2 : List (Ty × Bool) := [(.bool, false)]
def h_I_Contest_isVote_2 : Hints := { loops := [] }
noncomputable def M_I_Contest_isVote_2 (x : (Int × (Int × Int))) : (Option Bool) :=
  (bindO (M_I_within (x.1, (x.2.1, x.2.2))) (fun (a0 : Bool) => (some a0)))

noncomputable def c_I_Contest_isVote_2 : Con0 := ⟨pk_I_Contest_isVote_2, rk_I_Contest_isVote_2, M_I_Contest_isVote_2⟩

set_option maxRecDepth 100000 in
theorem eq_I_Contest_isVote_2 (x : In pk_I_Contest_isVote_2) : semF (mkE [(160, c_I_within)]) h_I_Contest_isVote_2 (info Try.f212) pk_I_Contest_isVote_2 rk_I_Contest_isVote_2 x = M_I_Contest_isVote_2 x := by kernel_rfl

set_option maxRecDepth 100000 in
theorem m_I_Contest_isVote_2 : ConOK Try.prog 212 c_I_Contest_isVote_2 := fn_ok (tyOK _) (E := mkE [(160, c_I_within)]) (consOK_cons m_I_within (consOK_nil rfl)) Try.func212 (h := h_I_Contest_isVote_2) (by kernel_rfl) eq_I_Contest_isVote_2

/-- I_Contest_isVote -/
def pk_I_Contest_isVote : List PK := [.data (.cons (.int .i64) (.cons (.int .i64) (.cons (.int .i64) (.cons (.int .i64) (.one (.int .i64)))))), .data (.sl (.int .i64))]
def rk_I_Contest_isVote : List (Ty × Bool) := [(.bool, false)]
def h_I_Contest_isVote : Hints := { loops := [(1, { items := [.slot 5 (.data (.int .i64) []), .slot 34 (.data (.int .i64) [])], kill := [0, 3, 4, 8, 9, 10, 11, 12, 13, 14, 15, 16, 17, 18, 19, 20, 21, 22, 23, 24, 25, 26, 27, 28, 29, 30, 31, 35, 36, 37, 38, 39, 40, 41, 42, 43, 44, 45, 46, 47, 48, 49, 50, 51, 52, 53, 54, 55, 56, 57, 58, 59, 60, 61, 62, 63, 64, 65, 66, 67, 68, 69, 70] })] }
noncomputable def M_I_Contest_isVote (x : ((Int × (Int × (Int × (Int × Int)))) × (List Int))) : (Option Bool) :=
  (bindO (some (IntKind.wrap .i64 (x.1.2.1 - (1 : Int)))) (fun (a0 : Int) => (cond (x.1.1 == (2 : Int)) (cond ((((List.length x.2) : Nat) : Int) != x.1.2.1) (some false) (bindO (M_I_areAll (x.2, (fun (a1 : Int) => (bindO (M_I_Contest_isVote_1 (a1, (x.1.1, (x.1.2.1, (x.1.2.2.1, (x.1.2.2.2.1, x.1.2.2.2.2)))))) (fun (a2 : Bool) => (some a2)))))) (fun (a3 : Bool) => (cond (not a3) (some false) (loopO (fun (again4 : ((Int × Int) → (Option Bool))) => (fun (s5 : (Int × Int)) => (cond (decide (s5.2 < (((List.length x.2) : Nat) : Int))) (bindO (getI x.2 s5.2) (fun (a6 : Int) => (bindO (some (IntKind.wrap .i64 (s5.1 + a6))) (fun (a7 : Int) => (bindO (some (IntKind.wrap .i64 (s5.2 + (1 : Int)))) (fun (a8 : Int) => (again4 (a7, a8)))))))) (bindO (M_I_within (s5.1, (x.1.2.2.1, x.1.2.2.2.1))) (fun (a9 : Bool) => (cond (not a9) (some false) (bindO (M_I_areAll (x.2, (fun (a10 : Int) => (bindO (M_I_Contest_isVote_2 (a10, ((0 : Int), x.1.2.2.2.2))) (fun (a11 : Bool) => (some a11)))))) (fun (a12 : Bool) => (cond (not a12) (some false) (cond (x.1.1 == (1 : Int)) (bindO (M_slices_IsSorted_sint_int x.2) (fun (a13 : Bool) => (cond a13 (bindO (M_I_areDifferent x.2) (fun (a14 : Bool) => (some a14))) (some false)))) (cond (x.1.1 == (3 : Int)) (bindO (M_I_areDifferent x.2) (fun (a15 : Bool) => (some a15))) (some true)))))))))))) ((0 : Int), (0 : Int))))))) (cond (x.1.1 == (4 : Int)) (bindO (M_I_within ((((List.length x.2) : Nat) : Int), (x.1.2.2.1, x.1.2.2.2.1))) (fun (a16 : Bool) => (cond (not a16) (some false) (bindO (M_I_areAll (x.2, (fun (a17 : Int) => (bindO (M_I_Contest_isVote_2 (a17, ((1 : Int), (26 : Int)))) (fun (a18 : Bool) => (some a18)))))) (fun (a19 : Bool) => (cond (not a19) (some false) (cond (x.1.1 == (1 : Int)) (bindO (M_slices_IsSorted_sint_int x.2) (fun (a20 : Bool) => (cond a20 (bindO (M_I_areDifferent x.2) (fun (a21 : Bool) => (some a21))) (some false)))) (cond (x.1.1 == (3 : Int)) (bindO (M_I_areDifferent x.2) (fun (a22 : Bool) => (some a22))) (some true))))))))) (bindO (M_I_within ((((List.length x.2) : Nat) : Int), (x.1.2.2.1, x.1.2.2.2.1))) (fun (a23 : Bool) => (cond (not a23) (some false) (bindO (M_I_areAll (x.2, (fun (a24 : Int) => (bindO (M_I_Contest_isVote_2 (a24, ((0 : Int), a0))) (fun (a25 : Bool) => (some a25)))))) (fun (a26 : Bool) => (cond (not a26) (some false) (cond (x.1.1 == (1 : Int)) (bindO (M_slices_IsSorted_sint_int x.2) (fun (a27 : Bool) => (cond a27 (bindO (M_I_areDifferent x.2) (fun (a28 : Bool) => (some a28))) (some false)))) (cond (x.1.1 == (3 : Int)) (bindO (M_I_areDifferent x.2) (fun (a29 : Bool) => (some a29))) (some true)))))))))))))

noncomputable def c_I_Contest_isVote : Con0 := ⟨pk_I_Contest_isVote, rk_I_Contest_isVote, M_I_Contest_isVote⟩

set_option maxRecDepth 100000 in
theorem eq_I_Contest_isVote (x : In pk_I_Contest_isVote) : semF (mkE [(210, c_I_areAll), (160, c_I_within), (213, c_slices_IsSorted_sint_int), (214, c_I_areDifferent), (211, c_I_Contest_isVote_1), (212, c_I_Contest_isVote_2)]) h_I_Contest_isVote (info Try.f107) pk_I_Contest_isVote rk_I_Contest_isVote x = M_I_Contest_isVote x := by kernel_rfl

set_option maxRecDepth 100000 in
theorem m_I_Contest_isVote : ConOK Try.prog 107 c_I_Contest_isVote := fn_ok (tyOK _) (E := mkE [(210, c_I_areAll), (160, c_I_within), (213, c_slices_IsSorted_sint_int), (214, c_I_areDifferent), (211, c_I_Contest_isVote_1), (212, c_I_Contest_isVote_2)]) (consOK_cons m_I_areAll (consOK_cons m_I_within (consOK_cons m_slices_IsSorted_sint_int (consOK_cons m_I_areDifferent (consOK_cons m_I_Contest_isVote_1 (consOK_cons m_I_Contest_isVote_2 (consOK_nil rfl))))))) Try.func107 (h := h_I_Contest_isVote) (by kernel_rfl) eq_I_Contest_isVote

/-- I_Contest_choices -/
def pk_I_Contest_choices : List PK := [.data (.cons (.int .i64) (.cons (.int .i64) (.cons (.int .i64) (.cons (.int .i64) (.one (.int .i64)))))), .data (.sl (.int .i64))]
def rk_I_Contest_choices : List (Ty × Bool) := [((.sl (.int .i64)), true)]
def h_I_Contest_choices : Hints := { loops := [(0, { items := [.slot 13 (.data (.int .i64) []), .arr 5 (.int .i64) true], kill := [0, 1, 2, 3, 4, 6, 7, 8, 9, 10, 14, 15, 16, 17, 18, 19, 20, 21] })] }
noncomputable def M_I_Contest_choices (x : ((Int × (Int × (Int × (Int × Int)))) × (List Int))) : (Option (List Int)) :=
  (bindO (guardO (((decide ((0 : Int) ≤ x.1.2.1)) && (decide (x.1.2.1 ≤ x.1.2.1))) && (decide (x.1.2.1 ≤ ((lim : Nat) : Int))))) (fun (a0 : Unit) => (loopO (fun (again1 : ((Int × (List Int)) → (Option (List Int)))) => (fun (s2 : (Int × (List Int))) => (cond (decide (s2.1 < (((List.length x.2) : Nat) : Int))) (bindO (getI x.2 s2.1) (fun (a3 : Int) => (bindO (getI s2.2 a3) (fun (a4 : Int) => (bindO (some (List.set s2.2 (Int.toNat a3) (1 : Int))) (fun (a5 : (List Int)) => (bindO (some (IntKind.wrap .i64 (s2.1 + (1 : Int)))) (fun (a6 : Int) => (again1 (a6, a5)))))))))) (some s2.2)))) ((0 : Int), (List.replicate (Int.toNat x.1.2.1) (0 : Int))))))

noncomputable def c_I_Contest_choices : Con0 := ⟨pk_I_Contest_choices, rk_I_Contest_choices, M_I_Contest_choices⟩

set_option maxRecDepth 100000 in
theorem eq_I_Contest_choices (x : In pk_I_Contest_choices) : semF (mkE []) h_I_Contest_choices (info Try.f292) pk_I_Contest_choices rk_I_Contest_choices x = M_I_Contest_choices x := by kernel_rfl

set_option maxRecDepth 100000 in
theorem m_I_Contest_choices : ConOK Try.prog 292 c_I_Contest_choices := fn_ok (tyOK _) (E := mkE []) (consOK_nil rfl) Try.func292 (h := h_I_Contest_choices) (by kernel_rfl) eq_I_Contest_choices

/-- slices_Clone_sint_int -/
def pk_slices_Clone_sint_int : List PK := [.data (.sl (.int .i64))]
def rk_slices_Clone_sint_int : List (Ty × Bool) := [((.sl (.int .i64)), true)]
def h_slices_Clone_sint_int : Hints := { loops := [] }
noncomputable def M_slices_Clone_sint_int (x : (List Int)) : (Option (List Int)) :=
  (cond (List.isEmpty x) (ambO (some ([] : List Int)) (cond (not true) (some ([] : List Int)) (bindO (guardO (lenOk ((List.length ([] : List Int)) + (List.length x)))) (fun (a0 : Unit) => (bindO (some (([] : List Int) ++ x)) (fun (a1 : (List Int)) => (some a1))))))) (cond (not true) (some ([] : List Int)) (bindO (guardO (lenOk ((List.length ([] : List Int)) + (List.length x)))) (fun (a2 : Unit) => (bindO (some (([] : List Int) ++ x)) (fun (a3 : (List Int)) => (some a3)))))))

noncomputable def c_slices_Clone_sint_int : Con0 := ⟨pk_slices_Clone_sint_int, rk_slices_Clone_sint_int, M_slices_Clone_sint_int⟩

set_option maxRecDepth 100000 in
theorem eq_slices_Clone_sint_int (x : In pk_slices_Clone_sint_int) : semF (mkE []) h_slices_Clone_sint_int (info Try.f242) pk_slices_Clone_sint_int rk_slices_Clone_sint_int x = M_slices_Clone_sint_int x := by kernel_rfl

set_option maxRecDepth 100000 in
theorem m_slices_Clone_sint_int : ConOK Try.prog 242 c_slices_Clone_sint_int := fn_ok (tyOK _) (E := mkE []) (consOK_nil rfl) Try.func242 (h := h_slices_Clone_sint_int) (by kernel_rfl) eq_slices_Clone_sint_int

/-- I_Contest_digits -/
def pk_I_Contest_digits : List PK := [.data (.cons (.int .i64) (.cons (.int .i64) (.cons (.int .i64) (.cons (.int .i64) (.one (.int .i64)))))), .data (.sl (.int .i64))]
def rk_I_Contest_digits : List (Ty × Bool) := [((.sl (.int .i64)), true)]
def h_I_Contest_digits : Hints := { loops := [(1, { items := [.slot 5 (.own (.int .i64) true), .slot 20 (.data (.int .i64) [])], kill := [0, 1, 2, 3, 4, 6, 7, 8, 9, 10, 11, 12, 13, 14, 15, 16, 17, 21, 22, 23, 24, 25, 26, 27, 28, 29, 30, 31, 32] })] }
noncomputable def M_I_Contest_digits (x : ((Int × (Int × (Int × (Int × Int)))) × (List Int))) : (Option (List Int)) :=
  (cond (x.1.1 == (1 : Int)) (bindO (M_I_Contest_choices ((x.1.1, (x.1.2.1, (x.1.2.2.1, (x.1.2.2.2.1, x.1.2.2.2.2)))), x.2)) (fun (a0 : (List Int)) => (some a0))) (cond (x.1.1 == (3 : Int)) (loopO (fun (again1 : (((List Int) × Int) → (Option (List Int)))) => (fun (s2 : ((List Int) × Int)) => (cond (decide (s2.2 < (((List.length x.2) : Nat) : Int))) (bindO (getI x.2 s2.2) (fun (a3 : Int) => (bindO (some (IntKind.wrap .i64 (a3 + (1 : Int)))) (fun (a4 : Int) => (bindO (guardO (lenOk ((List.length s2.1) + (List.length (a4 :: ([] : List Int)))))) (fun (a5 : Unit) => (bindO (some (s2.1 ++ (a4 :: ([] : List Int)))) (fun (a6 : (List Int)) => (bindO (some (IntKind.wrap .i64 (s2.2 + (1 : Int)))) (fun (a7 : Int) => (again1 (a6, a7)))))))))))) (some s2.1)))) (([] : List Int), (0 : Int))) (bindO (M_slices_Clone_sint_int x.2) (fun (a8 : (List Int)) => (some a8)))))

noncomputable def c_I_Contest_digits : Con0 := ⟨pk_I_Contest_digits, rk_I_Contest_digits, M_I_Contest_digits⟩

set_option maxRecDepth 100000 in
theorem eq_I_Contest_digits (x : In pk_I_Contest_digits) : semF (mkE [(292, c_I_Contest_choices), (242, c_slices_Clone_sint_int)]) h_I_Contest_digits (info Try.f215) pk_I_Contest_digits rk_I_Contest_digits x = M_I_Contest_digits x := by kernel_rfl

set_option maxRecDepth 100000 in
theorem m_I_Contest_digits : ConOK Try.prog 215 c_I_Contest_digits := fn_ok (tyOK _) (E := mkE [(292, c_I_Contest_choices), (242, c_slices_Clone_sint_int)]) (consOK_cons m_I_Contest_choices (consOK_cons m_slices_Clone_sint_int (consOK_nil rfl))) Try.func215 (h := h_I_Contest_digits) (by kernel_rfl) eq_I_Contest_digits

/-- I_Contest_base -/
def pk_I_Contest_base : List PK := [.data (.cons (.int .i64) (.cons (.int .i64) (.cons (.int .i64) (.cons (.int .i64) (.one (.int .i64))))))]
def rk_I_Contest_base : List (Ty × Bool) := [((.int .i64), false)]
def h_I_Contest_base : Hints := { loops := [] }
noncomputable def M_I_Contest_base (x : (Int × (Int × (Int × (Int × Int))))) : (Option Int) :=
  (cond (x.1 == (2 : Int)) (bindO (some (IntKind.wrap .i64 (x.2.2.2.2 + (1 : Int)))) (fun (a0 : Int) => (some a0))) (cond (x.1 == (3 : Int)) (bindO (some (IntKind.wrap .i64 (x.2.1 + (1 : Int)))) (fun (a1 : Int) => (some a1))) (cond (x.1 == (4 : Int)) (some (27 : Int)) (some (2 : Int)))))

noncomputable def c_I_Contest_base : Con0 := ⟨pk_I_Contest_base, rk_I_Contest_base, M_I_Contest_base⟩

set_option maxRecDepth 100000 in
theorem eq_I_Contest_base (x : In pk_I_Contest_base) : semF (mkE []) h_I_Contest_base (info Try.f294) pk_I_Contest_base rk_I_Contest_base x = M_I_Contest_base x := by kernel_rfl

set_option maxRecDepth 100000 in
theorem m_I_Contest_base : ConOK Try.prog 294 c_I_Contest_base := fn_ok (tyOK _) (E := mkE []) (consOK_nil rfl) Try.func294 (h := h_I_Contest_base) (by kernel_rfl) eq_I_Contest_base

/-- I_codeOf -/
def pk_I_codeOf : List PK := [.data (.sl (.int .i64)), .data (.int .i64)]
def rk_I_codeOf : List (Ty × Bool) := [((.int .i64), false)]
def h_I_codeOf : Hints := { loops := [(0, { items := [.slot 5 (.data (.int .i64) []), .slot 6 (.data (.int .i64) [])], kill := [2, 3, 4, 7, 8, 9, 10, 11, 12, 13, 14, 15, 16, 17, 18, 19, 20, 21, 22] })] }
noncomputable def M_I_codeOf (x : ((List Int) × Int)) : (Option Int) :=
  (bindO (some (IntKind.wrap .i64 ((((List.length x.1) : Nat) : Int) - (1 : Int)))) (fun (a0 : Int) => (loopO (fun (again1 : ((Int × Int) → (Option Int))) => (fun (s2 : (Int × Int)) => (cond (decide (s2.2 ≥ (0 : Int))) (bindO (some (IntKind.wrap .i64 (s2.1 * x.2))) (fun (a3 : Int) => (bindO (getI x.1 s2.2) (fun (a4 : Int) => (bindO (some (IntKind.wrap .i64 (a3 + a4))) (fun (a5 : Int) => (bindO (some (IntKind.wrap .i64 (s2.2 - (1 : Int)))) (fun (a6 : Int) => (again1 (a5, a6)))))))))) (some s2.1)))) ((0 : Int), a0))))

noncomputable def c_I_codeOf : Con0 := ⟨pk_I_codeOf, rk_I_codeOf, M_I_codeOf⟩

set_option maxRecDepth 100000 in
theorem eq_I_codeOf (x : In pk_I_codeOf) : semF (mkE []) h_I_codeOf (info Try.f293) pk_I_codeOf rk_I_codeOf x = M_I_codeOf x := by kernel_rfl

set_option maxRecDepth 100000 in
theorem m_I_codeOf : ConOK Try.prog 293 c_I_codeOf := fn_ok (tyOK _) (E := mkE []) (consOK_nil rfl) Try.func293 (h := h_I_codeOf) (by kernel_rfl) eq_I_codeOf

/-- I_Contest_code -/
def pk_I_Contest_code : List PK := [.data (.cons (.int .i64) (.cons (.int .i64) (.cons (.int .i64) (.cons (.int .i64) (.one (.int .i64)))))), .data (.sl (.int .i64))]
def rk_I_Contest_code : List (Ty × Bool) := [((.int .i64), false)]
def h_I_Contest_code : Hints := { loops := [] }
noncomputable def M_I_Contest_code (x : ((Int × (Int × (Int × (Int × Int)))) × (List Int))) : (Option Int) :=
  (bindO (M_I_Contest_digits ((x.1.1, (x.1.2.1, (x.1.2.2.1, (x.1.2.2.2.1, x.1.2.2.2.2)))), x.2)) (fun (a0 : (List Int)) => (bindO (M_I_Contest_base (x.1.1, (x.1.2.1, (x.1.2.2.1, (x.1.2.2.2.1, x.1.2.2.2.2))))) (fun (a1 : Int) => (bindO (M_I_codeOf (a0, a1)) (fun (a2 : Int) => (some a2)))))))

noncomputable def c_I_Contest_code : Con0 := ⟨pk_I_Contest_code, rk_I_Contest_code, M_I_Contest_code⟩

set_option maxRecDepth 100000 in
theorem eq_I_Contest_code (x : In pk_I_Contest_code) : semF (mkE [(215, c_I_Contest_digits), (294, c_I_Contest_base), (293, c_I_codeOf)]) h_I_Contest_code (info Try.f216) pk_I_Contest_code rk_I_Contest_code x = M_I_Contest_code x := by kernel_rfl

set_option maxRecDepth 100000 in
theorem m_I_Contest_code : ConOK Try.prog 216 c_I_Contest_code := fn_ok (tyOK _) (E := mkE [(215, c_I_Contest_digits), (294, c_I_Contest_base), (293, c_I_codeOf)]) (consOK_cons m_I_Contest_digits (consOK_cons m_I_Contest_base (consOK_cons m_I_codeOf (consOK_nil rfl)))) Try.func216 (h := h_I_Contest_code) (by kernel_rfl) eq_I_Contest_code

/-- I_Contest_exponents -/
def pk_I_Contest_exponents : List PK := [.data (.cons (.int .i64) (.cons (.int .i64) (.cons (.int .i64) (.cons (.int .i64) (.one (.int .i64)))))), .data (.sl (.int .i64))]
def rk_I_Contest_exponents : List (Ty × Bool) := [((.sl (.int .i64)), true)]
def h_I_Contest_exponents : Hints := { loops := [] }
noncomputable def M_I_Contest_exponents (x : ((Int × (Int × (Int × (Int × Int)))) × (List Int))) : (Option (List Int)) :=
  (cond (x.1.1 == (1 : Int)) (bindO (M_I_Contest_digits ((x.1.1, (x.1.2.1, (x.1.2.2.1, (x.1.2.2.2.1, x.1.2.2.2.2)))), x.2)) (fun (a0 : (List Int)) => (some a0))) (cond (x.1.1 == (2 : Int)) (bindO (M_I_Contest_digits ((x.1.1, (x.1.2.1, (x.1.2.2.1, (x.1.2.2.2.1, x.1.2.2.2.2)))), x.2)) (fun (a1 : (List Int)) => (some a1))) (bindO (M_I_Contest_code ((x.1.1, (x.1.2.1, (x.1.2.2.1, (x.1.2.2.2.1, x.1.2.2.2.2)))), x.2)) (fun (a2 : Int) => (some (a2 :: ([] : List Int)))))))

noncomputable def c_I_Contest_exponents : Con0 := ⟨pk_I_Contest_exponents, rk_I_Contest_exponents, M_I_Contest_exponents⟩

set_option maxRecDepth 100000 in
theorem eq_I_Contest_exponents (x : In pk_I_Contest_exponents) : semF (mkE [(215, c_I_Contest_digits), (216, c_I_Contest_code)]) h_I_Contest_exponents (info Try.f108) pk_I_Contest_exponents rk_I_Contest_exponents x = M_I_Contest_exponents x := by kernel_rfl

set_option maxRecDepth 100000 in
theorem m_I_Contest_exponents : ConOK Try.prog 108 c_I_Contest_exponents := fn_ok (tyOK _) (E := mkE [(215, c_I_Contest_digits), (216, c_I_Contest_code)]) (consOK_cons m_I_Contest_digits (consOK_cons m_I_Contest_code (consOK_nil rfl))) Try.func108 (h := h_I_Contest_exponents) (by kernel_rfl) eq_I_Contest_exponents

/-- I_TallyVotes -/
def pk_I_TallyVotes : List PK := [.data (.cons (.int .i64) (.cons (.int .i64) (.cons (.int .i64) (.cons (.int .i64) (.one (.int .i64)))))), .data (.sl (.sl (.int .i64)))]
def rk_I_TallyVotes : List (Ty × Bool) := [((.sl (.int .i64)), true), (.bool, false)]
def h_I_TallyVotes : Hints := { loops := [(0, { items := [.slot 29 (.data (.int .i64) []), .arr 6 (.int .i64) true], kill := [0, 1, 3, 4, 5, 7, 8, 9, 10, 11, 12, 13, 14, 15, 16, 17, 18, 19, 20, 21, 22, 23, 24, 25, 26, 30, 31, 32, 33, 34, 35, 36, 37, 38, 39, 40, 41, 42, 43, 44, 45, 46, 47, 48, 49, 50, 51, 52, 53, 54, 55] }), (2, { items := [.slot 41 (.data (.int .i64) []), .arr 6 (.int .i64) true], kill := [0, 1, 3, 4, 5, 7, 8, 9, 10, 11, 12, 13, 14, 15, 16, 17, 18, 19, 20, 21, 22, 23, 24, 25, 26, 30, 31, 32, 33, 34, 35, 36, 37, 38, 42, 43, 44, 45, 46, 47, 48, 49, 50, 51, 52, 53, 54, 55] })] }
noncomputable def M_I_TallyVotes (x : ((Int × (Int × (Int × (Int × Int)))) × (List (List Int)))) : (Option ((List Int) × Bool)) :=
  (bindO (M_I_IsValidContest (x.1.1, (x.1.2.1, (x.1.2.2.1, (x.1.2.2.2.1, x.1.2.2.2.2))))) (fun (a0 : Bool) => (cond (not a0) (some (([] : List Int), false)) (bindO (M_I_Contest_isForm (x.1.1, (x.1.2.1, (x.1.2.2.1, (x.1.2.2.2.1, x.1.2.2.2.2))))) (fun (a1 : Bool) => (cond (not a1) (some (([] : List Int), false)) (cond (decide ((((List.length x.2) : Nat) : Int) > (24 : Int))) (some (([] : List Int), false)) (bindO (guardO (((decide ((0 : Int) ≤ x.1.2.1)) && (decide (x.1.2.1 ≤ x.1.2.1))) && (decide (x.1.2.1 ≤ ((lim : Nat) : Int))))) (fun (a2 : Unit) => (loopO (fun (again3 : ((Int × (List Int)) → (Option ((List Int) × Bool)))) => (fun (s4 : (Int × (List Int))) => (cond (decide (s4.1 < (((List.length x.2) : Nat) : Int))) (bindO (getI x.2 s4.1) (fun (a5 : (List Int)) => (bindO (M_I_Contest_isVote ((x.1.1, (x.1.2.1, (x.1.2.2.1, (x.1.2.2.2.1, x.1.2.2.2.2)))), a5)) (fun (a6 : Bool) => (cond (not a6) (some (([] : List Int), false)) (bindO (M_I_Contest_exponents ((x.1.1, (x.1.2.1, (x.1.2.2.1, (x.1.2.2.2.1, x.1.2.2.2.2)))), a5)) (fun (a7 : (List Int)) => (loopO (fun (again8 : ((Int × (List Int)) → (Option ((List Int) × Bool)))) => (fun (s9 : (Int × (List Int))) => (cond (decide (s9.1 < (((List.length a7) : Nat) : Int))) (bindO (getI a7 s9.1) (fun (a10 : Int) => (bindO (getI s9.2 s9.1) (fun (a11 : Int) => (bindO (some (IntKind.wrap .i64 (a11 + a10))) (fun (a12 : Int) => (bindO (getI s9.2 s9.1) (fun (a13 : Int) => (bindO (some (List.set s9.2 (Int.toNat s9.1) a12)) (fun (a14 : (List Int)) => (bindO (some (IntKind.wrap .i64 (s9.1 + (1 : Int)))) (fun (a15 : Int) => (again8 (a15, a14)))))))))))))) (bindO (some (IntKind.wrap .i64 (s4.1 + (1 : Int)))) (fun (a16 : Int) => (again3 (a16, s9.2))))))) ((0 : Int), s4.2))))))))) (some (s4.2, true))))) ((0 : Int), (List.replicate (Int.toNat x.1.2.1) (0 : Int)))))))))))))

noncomputable def c_I_TallyVotes : Con0 := ⟨pk_I_TallyVotes, rk_I_TallyVotes, M_I_TallyVotes⟩

set_option maxRecDepth 100000 in
theorem eq_I_TallyVotes (x : In pk_I_TallyVotes) : semF (mkE [(105, c_I_IsValidContest), (106, c_I_Contest_isForm), (107, c_I_Contest_isVote), (108, c_I_Contest_exponents)]) h_I_TallyVotes (info Try.f19) pk_I_TallyVotes rk_I_TallyVotes x = M_I_TallyVotes x := by kernel_rfl

set_option maxRecDepth 100000 in
theorem m_I_TallyVotes : ConOK Try.prog 19 c_I_TallyVotes := fn_ok (tyOK _) (E := mkE [(105, c_I_IsValidContest), (106, c_I_Contest_isForm), (107, c_I_Contest_isVote), (108, c_I_Contest_exponents)]) (consOK_cons m_I_IsValidContest (consOK_cons m_I_Contest_isForm (consOK_cons m_I_Contest_isVote (consOK_cons m_I_Contest_exponents (consOK_nil rfl))))) Try.func19 (h := h_I_TallyVotes) (by kernel_rfl) eq_I_TallyVotes

/-- L_eqIntS -/
def pk_L_eqIntS : List PK := [.data (.sl (.int .i64)), .data (.sl (.int .i64))]
def rk_L_eqIntS : List (Ty × Bool) := [(.bool, false)]
def h_L_eqIntS : Hints := { loops := [(0, { items := [.slot 5 (.data (.int .i64) [])], kill := [2, 3, 4, 6, 7, 8, 9, 10, 11, 12, 13, 14, 15, 16, 17, 18, 19, 20, 21, 22, 23, 24, 25] })] }
noncomputable def M_L_eqIntS (x : ((List Int) × (List Int))) : (Option Bool) :=
  (cond ((((List.length x.1) : Nat) : Int) != (((List.length x.2) : Nat) : Int)) (some false) (loopO (fun (again0 : (Int → (Option Bool))) => (fun (s1 : Int) => (cond (decide (s1 < (((List.length x.1) : Nat) : Int))) (bindO (getI x.1 s1) (fun (a2 : Int) => (bindO (getI x.2 s1) (fun (a3 : Int) => (cond (a2 != a3) (some false) (bindO (some (IntKind.wrap .i64 (s1 + (1 : Int)))) (fun (a4 : Int) => (again0 a4)))))))) (some true)))) (0 : Int)))

noncomputable def c_L_eqIntS : Con0 := ⟨pk_L_eqIntS, rk_L_eqIntS, M_L_eqIntS⟩

set_option maxRecDepth 100000 in
theorem eq_L_eqIntS (x : In pk_L_eqIntS) : semF (mkE []) h_L_eqIntS (info Try.f20) pk_L_eqIntS rk_L_eqIntS x = M_L_eqIntS x := by kernel_rfl

set_option maxRecDepth 100000 in
theorem m_L_eqIntS : ConOK Try.prog 20 c_L_eqIntS := fn_ok (tyOK _) (E := mkE []) (consOK_nil rfl) Try.func20 (h := h_L_eqIntS) (by kernel_rfl) eq_L_eqIntS

/-- L_eqIntSS -/
def pk_L_eqIntSS : List PK := [.data (.sl (.sl (.int .i64))), .data (.sl (.sl (.int .i64)))]
def rk_L_eqIntSS : List (Ty × Bool) := [(.bool, false)]
def h_L_eqIntSS : Hints := { loops := [(0, { items := [.slot 5 (.data (.int .i64) [])], kill := [2, 3, 4, 6, 7, 8, 9, 10, 11, 12, 13, 14, 15, 16, 17, 18, 19, 20, 21, 22, 23, 24, 25, 26] })] }
noncomputable def M_L_eqIntSS (x : ((List (List Int)) × (List (List Int)))) : (Option Bool) :=
  (cond ((((List.length x.1) : Nat) : Int) != (((List.length x.2) : Nat) : Int)) (some false) (loopO (fun (again0 : (Int → (Option Bool))) => (fun (s1 : Int) => (cond (decide (s1 < (((List.length x.1) : Nat) : Int))) (bindO (getI x.1 s1) (fun (a2 : (List Int)) => (bindO (getI x.2 s1) (fun (a3 : (List Int)) => (bindO (M_L_eqIntS (a2, a3)) (fun (a4 : Bool) => (cond (not a4) (some false) (bindO (some (IntKind.wrap .i64 (s1 + (1 : Int)))) (fun (a5 : Int) => (again0 a5)))))))))) (some true)))) (0 : Int)))

noncomputable def c_L_eqIntSS : Con0 := ⟨pk_L_eqIntSS, rk_L_eqIntSS, M_L_eqIntSS⟩

set_option maxRecDepth 100000 in
theorem eq_L_eqIntSS (x : In pk_L_eqIntSS) : semF (mkE [(20, c_L_eqIntS)]) h_L_eqIntSS (info Try.f21) pk_L_eqIntSS rk_L_eqIntSS x = M_L_eqIntSS x := by kernel_rfl

set_option maxRecDepth 100000 in
theorem m_L_eqIntSS : ConOK Try.prog 21 c_L_eqIntSS := fn_ok (tyOK _) (E := mkE [(20, c_L_eqIntS)]) (consOK_cons m_L_eqIntS (consOK_nil rfl)) Try.func21 (h := h_L_eqIntSS) (by kernel_rfl) eq_L_eqIntSS

/-- L_markIntS -/
def pk_L_markIntS : List PK := [.mv (.sl (.int .i64)), .data (.int .i64)]
def rk_L_markIntS : List (Ty × Bool) := [((.int .i64), false)]
def h_L_markIntS : Hints := { loops := [(0, { items := [.slot 1 (.data (.int .i64) []), .slot 5 (.data (.int .i64) []), .arr 0 (.int .i64) true], kill := [2, 3, 4, 6, 7, 8, 9, 10, 11, 12, 13, 14, 15, 16, 17, 18] })] }
noncomputable def M_L_markIntS (x : ((List Int) × Int)) : (Option (Int × (List Int))) :=
  (loopO (fun (again0 : ((Int × (Int × (List Int))) → (Option (Int × (List Int))))) => (fun (s1 : (Int × (Int × (List Int)))) => (cond (decide (s1.2.1 < (((List.length s1.2.2) : Nat) : Int))) (bindO (getI s1.2.2 s1.2.1) (fun (a2 : Int) => (bindO (some (List.set s1.2.2 (Int.toNat s1.2.1) s1.1)) (fun (a3 : (List Int)) => (bindO (some (IntKind.wrap .i64 (s1.1 + (1 : Int)))) (fun (a4 : Int) => (bindO (some (IntKind.wrap .i64 (s1.2.1 + (1 : Int)))) (fun (a5 : Int) => (again0 (a4, (a5, a3))))))))))) (some (s1.1, s1.2.2))))) (x.2, ((0 : Int), x.1)))

noncomputable def c_L_markIntS : Con0 := ⟨pk_L_markIntS, rk_L_markIntS, M_L_markIntS⟩

set_option maxRecDepth 100000 in
theorem eq_L_markIntS (x : In pk_L_markIntS) : semF (mkE []) h_L_markIntS (info Try.f23) pk_L_markIntS rk_L_markIntS x = M_L_markIntS x := by kernel_rfl

set_option maxRecDepth 100000 in
theorem m_L_markIntS : ConOK Try.prog 23 c_L_markIntS := fn_ok (tyOK _) (E := mkE []) (consOK_nil rfl) Try.func23 (h := h_L_markIntS) (by kernel_rfl) eq_L_markIntS

/-- L_markIntSS -/
def pk_L_markIntSS : List PK := [.mv (.sl (.sl (.int .i64))), .data (.int .i64)]
def rk_L_markIntSS : List (Ty × Bool) := [((.int .i64), false)]
def h_L_markIntSS : Hints := { loops := [(0, { items := [.slot 1 (.data (.int .i64) []), .slot 5 (.data (.int .i64) []), .arr 0 (.sl (.int .i64)) true], kill := [2, 3, 4, 6, 7, 8, 9, 10, 11, 12, 13, 14, 15, 16, 17, 18] })] }
noncomputable def M_L_markIntSS (x : ((List (List Int)) × Int)) : (Option (Int × (List (List Int)))) :=
  (loopO (fun (again0 : ((Int × (Int × (List (List Int)))) → (Option (Int × (List (List Int)))))) => (fun (s1 : (Int × (Int × (List (List Int))))) => (cond (decide (s1.2.1 < (((List.length s1.2.2) : Nat) : Int))) (bindO (getI s1.2.2 s1.2.1) (fun (a2 : (List Int)) => (bindO (M_L_markIntS (a2, s1.1)) (fun (a3 : (Int × (List Int))) => (bindO (some (IntKind.wrap .i64 (s1.2.1 + (1 : Int)))) (fun (a4 : Int) => (again0 (a3.1, (a4, (List.modify s1.2.2 (Int.toNat s1.2.1) (fun (a5 : (List Int)) => a3.2))))))))))) (some (s1.1, s1.2.2))))) (x.2, ((0 : Int), x.1)))

noncomputable def c_L_markIntSS : Con0 := ⟨pk_L_markIntSS, rk_L_markIntSS, M_L_markIntSS⟩

set_option maxRecDepth 100000 in
theorem eq_L_markIntSS (x : In pk_L_markIntSS) : semF (mkE [(23, c_L_markIntS)]) h_L_markIntSS (info Try.f22) pk_L_markIntSS rk_L_markIntSS x = M_L_markIntSS x := by kernel_rfl

set_option maxRecDepth 100000 in
theorem m_L_markIntSS : ConOK Try.prog 22 c_L_markIntSS := fn_ok (tyOK _) (E := mkE [(23, c_L_markIntS)]) (consOK_cons m_L_markIntS (consOK_nil rfl)) Try.func22 (h := h_L_markIntSS) (by kernel_rfl) eq_L_markIntSS

/-- L_heldIntS -/
def pk_L_heldIntS : List PK := [.data (.sl (.int .i64)), .data (.int .i64)]
def rk_L_heldIntS : List (Ty × Bool) := [((.int .i64), false)]
def h_L_heldIntS : Hints := { loops := [(0, { items := [.slot 1 (.data (.int .i64) []), .slot 5 (.data (.int .i64) [])], kill := [2, 3, 4, 6, 7, 8, 9, 10, 11, 12, 13, 14, 15, 16, 17, 18, 19, 20] })] }
noncomputable def M_L_heldIntS (x : ((List Int) × Int)) : (Option Int) :=
  (loopO (fun (again0 : ((Int × Int) → (Option Int))) => (fun (s1 : (Int × Int)) => (cond (decide (s1.2 < (((List.length x.1) : Nat) : Int))) (bindO (getI x.1 s1.2) (fun (a2 : Int) => (cond (a2 != s1.1) (some (- (1 : Int))) (bindO (some (IntKind.wrap .i64 (s1.1 + (1 : Int)))) (fun (a3 : Int) => (bindO (some (IntKind.wrap .i64 (s1.2 + (1 : Int)))) (fun (a4 : Int) => (again0 (a3, a4))))))))) (some s1.1)))) (x.2, (0 : Int)))

noncomputable def c_L_heldIntS : Con0 := ⟨pk_L_heldIntS, rk_L_heldIntS, M_L_heldIntS⟩

set_option maxRecDepth 100000 in
theorem eq_L_heldIntS (x : In pk_L_heldIntS) : semF (mkE []) h_L_heldIntS (info Try.f24) pk_L_heldIntS rk_L_heldIntS x = M_L_heldIntS x := by kernel_rfl

set_option maxRecDepth 100000 in
theorem m_L_heldIntS : ConOK Try.prog 24 c_L_heldIntS := fn_ok (tyOK _) (E := mkE []) (consOK_nil rfl) Try.func24 (h := h_L_heldIntS) (by kernel_rfl) eq_L_heldIntS

/-- L_FnExactTallyVotes -/
def pk_L_FnExactTallyVotes : List PK := [.data (.cons (.int .i64) (.cons (.int .i64) (.cons (.int .i64) (.cons (.int .i64) (.one (.int .i64)))))), .data (.sl (.sl (.int .i64)))]
def rk_L_FnExactTallyVotes : List (Ty × Bool) := [(.bool, false)]
def h_L_FnExactTallyVotes : Hints := { loops := [] }
noncomputable def M_L_FnExactTallyVotes (x : ((Int × (Int × (Int × (Int × Int)))) × (List (List Int)))) : (Option Bool) :=
  (bindO (M_L_szIntSS (x.2, (1048576 : Int))) (fun (a0 : Int) => (cond (decide (a0 < (0 : Int))) (some true) (bindO (M_L_toContest (x.1.1, (x.1.2.1, (x.1.2.2.1, (x.1.2.2.2.1, x.1.2.2.2.2))))) (fun (a1 : (Int × (Int × (Int × (Int × Int))))) => (bindO (M_L_toIntSS x.2) (fun (a2 : (List (List Int))) => (bindO (M_S_TallyVotes ((a1.1, (a1.2.1, (a1.2.2.1, (a1.2.2.2.1, a1.2.2.2.2)))), a2)) (fun (a3 : ((List Int) × Bool)) => (bindO (M_L_toIntSS x.2) (fun (a4 : (List (List Int))) => (bindO (M_L_toContest (x.1.1, (x.1.2.1, (x.1.2.2.1, (x.1.2.2.2.1, x.1.2.2.2.2))))) (fun (a5 : (Int × (Int × (Int × (Int × Int))))) => (bindO (M_I_TallyVotes ((a5.1, (a5.2.1, (a5.2.2.1, (a5.2.2.2.1, a5.2.2.2.2)))), a4)) (fun (a6 : ((List Int) × Bool)) => (bindO (M_L_eqIntS (a6.1, a3.1)) (fun (a7 : Bool) => (cond (not a7) (some false) (cond (not (a6.2 == a3.2)) (some false) (bindO (M_L_toIntSS x.2) (fun (a8 : (List (List Int))) => (bindO (M_L_eqIntSS (a4, a8)) (fun (a9 : Bool) => (cond (not a9) (some false) (bindO (M_L_markIntSS (a4, (1 : Int))) (fun (a10 : (Int × (List (List Int)))) => (cond (decide (a10.1 < (0 : Int))) (some false) (bindO (M_L_eqIntS (a6.1, a3.1)) (fun (a11 : Bool) => (cond (not a11) (some false) (cond (not (a6.2 == a3.2)) (some false) (bindO (M_L_markIntS (a6.1, (1 : Int))) (fun (a12 : (Int × (List Int))) => (bindO (M_L_heldIntS (a12.2, (1 : Int))) (fun (a13 : Int) => (cond (decide (a13 < (0 : Int))) (some false) (cond (a13 != a12.1) (some false) (bindO (M_L_toContest (x.1.1, (x.1.2.1, (x.1.2.2.1, (x.1.2.2.2.1, x.1.2.2.2.2))))) (fun (a14 : (Int × (Int × (Int × (Int × Int))))) => (bindO (M_L_toIntSS x.2) (fun (a15 : (List (List Int))) => (bindO (M_I_TallyVotes ((a14.1, (a14.2.1, (a14.2.2.1, (a14.2.2.2.1, a14.2.2.2.2)))), a15)) (fun (a16 : ((List Int) × Bool)) => (bindO (M_L_eqIntS (a16.1, a3.1)) (fun (a17 : Bool) => (cond (not a17) (some false) (cond (not (a16.2 == a3.2)) (some false) (bindO (M_L_heldIntS (a12.2, (1 : Int))) (fun (a18 : Int) => (cond (decide (a18 < (0 : Int))) (some false) (cond (a18 != a12.1) (some false) (some true))))))))))))))))))))))))))))))))))))))))))))))))))))

noncomputable def c_L_FnExactTallyVotes : Con0 := ⟨pk_L_FnExactTallyVotes, rk_L_FnExactTallyVotes, M_L_FnExactTallyVotes⟩

set_option maxRecDepth 100000 in
theorem eq_L_FnExactTallyVotes (x : In pk_L_FnExactTallyVotes) : semF (mkE [(15, c_L_szIntSS), (17, c_L_toContest), (18, c_L_toIntSS), (16, c_S_TallyVotes), (19, c_I_TallyVotes), (20, c_L_eqIntS), (21, c_L_eqIntSS), (22, c_L_markIntSS), (23, c_L_markIntS), (24, c_L_heldIntS)]) h_L_FnExactTallyVotes (info Try.f3) pk_L_FnExactTallyVotes rk_L_FnExactTallyVotes x = M_L_FnExactTallyVotes x := by kernel_rfl

set_option maxRecDepth 100000 in
theorem m_L_FnExactTallyVotes : ConOK Try.prog 3 c_L_FnExactTallyVotes := fn_ok (tyOK _) (E := mkE [(15, c_L_szIntSS), (17, c_L_toContest), (18, c_L_toIntSS), (16, c_S_TallyVotes), (19, c_I_TallyVotes), (20, c_L_eqIntS), (21, c_L_eqIntSS), (22, c_L_markIntSS), (23, c_L_markIntS), (24, c_L_heldIntS)]) (consOK_cons m_L_szIntSS (consOK_cons m_L_toContest (consOK_cons m_L_toIntSS (consOK_cons m_S_TallyVotes (consOK_cons m_I_TallyVotes (consOK_cons m_L_eqIntS (consOK_cons m_L_eqIntSS (consOK_cons m_L_markIntSS (consOK_cons m_L_markIntS (consOK_cons m_L_heldIntS (consOK_nil rfl))))))))))) Try.func3 (h := h_L_FnExactTallyVotes) (by kernel_rfl) eq_L_FnExactTallyVotes

end Go.Proofs.Ytfbemdohiikhhaa.Vd
