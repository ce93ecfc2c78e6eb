/- The functions of the law as plain functions on data, and that the program's functions are these. No conditions. -/
import Derived.Test.YtgjneigkkgaaiaaVd3
import Derived.Test.YtgjneigkkgaaiaaChecked
import Derived.KernelRfl
set_option linter.unusedVariables false
namespace Go.Proofs.Ytgjneigkkgaaiaa.Vd
def tys : List (Option Ty) := [none, none, some (.int .i64), some (.int .i64), some .bool, some (.int .u8), some (.int .u8), some (.cons (.int .i64) (.cons (.int .i64) (.cons .bool (.one (.int .u8))))), some (.cons (.int .i64) (.cons (.int .i64) (.cons .bool (.one (.int .u8))))), some .str, some .str, some .str, some (.int .u64), some (.cons .str (.one (.int .u64))), some (.cons .str (.one (.int .u64))), none, none, none, none, none, none, some (.int .i32), some (.sl (.int .i64)), none, none, none, none, none, none, some (.cons (.int .i64) (.cons (.int .i64) (.one (.int .i64)))), some (.cons (.int .i64) (.cons (.int .i64) (.one (.int .i64)))), some (.sl (.sl (.cons (.int .i64) (.one (.int .i64))))), none, some (.sl (.cons (.int .i64) (.one (.int .i64)))), none, none, some (.cons (.int .i64) (.cons (.int .i64) (.one (.int .i64)))), none, some (.sl (.sl (.cons (.int .i64) (.one (.int .i64))))), none, none, none, none, none, none, some (.sl (.int .u8)), none, none, none, none, none, none, none, none, none, none, none, none, none, none, none, some (.sl (.sl (.int .i64))), none, none, none, none, none, none, none, none, none, none, none, none, none, none, none, none, some (.sl (.cons (.int .i64) (.one (.int .i64)))), none, none, none, none, none, some (.cons (.int .i64) (.one (.int .i64))), some (.cons (.int .i64) (.one (.int .i64))), none, none, none, none, some (.int .u64), some (.cons (.sl (.int .u8)) (.cons (.int .i64) (.one (.int .u64)))), some (.cons (.sl (.int .u8)) (.cons (.int .i64) (.one (.int .u64)))), none, none, none, none, none, none, none, none, none, none, none, none, none, none, none, none, none, none, some (.int .u64), none, none, none, none, none, none, none, none, none, none, some (.cons (.int .i64) (.one (.int .i64))), none, none, none, none, none, none, none, none, none, none, some (.sl .bool), none, none, none, some (.int .u32), none, none, none, none, none, none, none, none, none, none, none, none, none, none, none, none, none, some (.int .u8), some (.int .u8), none, none, some (.int .i32), some (.int .i32), none, none, none]
def others : List Nat := [1, 15, 16, 17, 24, 25, 26, 27, 28, 32, 35, 37, 39, 40, 41, 42, 43, 44, 47, 48, 50, 51, 53, 54, 55, 56, 57, 58, 60, 63, 65, 66, 67, 68, 69, 70, 71, 72, 73, 74, 75, 76, 77, 79, 80, 81, 82, 83, 86, 87, 88, 89, 93, 95, 96, 97, 98, 99, 100, 101, 102, 103, 104, 105, 106, 107, 108, 109, 110, 112, 113, 114, 115, 116, 117, 118, 119, 120, 121, 124, 125, 126, 127, 128, 129, 130, 131, 132, 134, 135, 136, 138, 139, 140, 141, 143, 145, 146, 147, 148, 149, 157, 158]
def pairs : List Nat := [84, 85, 122]
noncomputable def mkE (con : List (Nat × Con0)) : Env := ⟨[], tys, others, pairs, con⟩

set_option maxRecDepth 100000 in
theorem tyOK (con : List (Nat × Con0)) : TyOK Try.prog (mkE con) := tyOK_of (E := mkE con) (by kernel_rfl) (by kernel_rfl) (by kernel_rfl)

/-- L_toIntS -/
def pk_L_toIntS : List PK := [.data (.sl (.int .i64))]
def rk_L_toIntS : List (Ty × Bool) := [((.sl (.int .i64)), true)]
def h_L_toIntS : Hints := { loops := [(0, { items := [.slot 4 (.data (.int .i64) []), .arr 3 (.int .i64) true], kill := [1, 2, 5, 6, 7, 8, 9, 10, 11, 12, 13, 14, 15, 16, 17, 18, 19, 20, 21] })] }
noncomputable def M_L_toIntS (x : (List Int)) : (Option (List Int)) :=
  (bindO (guardO (((decide ((0 : Int) ≤ (((List.length x) : Nat) : Int))) && (decide ((((List.length x) : Nat) : Int) ≤ (((List.length x) : Nat) : Int)))) && (decide ((((List.length x) : Nat) : Int) ≤ ((lim : Nat) : Int))))) (fun (a0 : Unit) => (loopO (fun (again1 : ((Int × (List Int)) → (Option (List Int)))) => (fun (s2 : (Int × (List Int))) => (cond (decide (s2.1 < (((List.length x) : Nat) : Int))) (bindO (getI x s2.1) (fun (a3 : Int) => (bindO (getI s2.2 s2.1) (fun (a4 : Int) => (bindO (some (List.set s2.2 (Int.toNat s2.1) a3)) (fun (a5 : (List Int)) => (bindO (some (IntKind.wrap .i64 (s2.1 + (1 : Int)))) (fun (a6 : Int) => (again1 (a6, a5)))))))))) (some s2.2)))) ((0 : Int), (List.replicate (Int.toNat (((List.length x) : Nat) : Int)) (0 : Int))))))

noncomputable def c_L_toIntS : Con0 := ⟨pk_L_toIntS, rk_L_toIntS, M_L_toIntS⟩

set_option maxRecDepth 100000 in
theorem eq_L_toIntS (x : In pk_L_toIntS) : semF (mkE []) h_L_toIntS (info Try.f10) pk_L_toIntS rk_L_toIntS x = M_L_toIntS x := (semFF_eq _ _ _ _ _ _).symm.trans (by kernel_rfl)

set_option maxRecDepth 100000 in
theorem m_L_toIntS : ConOK Try.prog 10 c_L_toIntS := fn_ok (tyOK _) (E := mkE []) (consOK_nil rfl) Try.func10 (h := h_L_toIntS) (by kernel_rfl) eq_L_toIntS

/-- S_l1In -/
def pk_S_l1In : List PK := [.data (.int .i64), .data (.int .i64), .data (.int .i64)]
def rk_S_l1In : List (Ty × Bool) := [(.bool, false)]
def h_S_l1In : Hints := { loops := [] }
noncomputable def M_S_l1In (x : (Int × (Int × Int))) : (Option Bool) :=
  (cond (decide (x.1 ≥ x.2.1)) (some (decide (x.1 ≤ x.2.2))) (some false))

noncomputable def c_S_l1In : Con0 := ⟨pk_S_l1In, rk_S_l1In, M_S_l1In⟩

set_option maxRecDepth 100000 in
theorem eq_S_l1In (x : In pk_S_l1In) : semF (mkE []) h_S_l1In (info Try.f61) pk_S_l1In rk_S_l1In x = M_S_l1In x := (semFF_eq _ _ _ _ _ _).symm.trans (by kernel_rfl)

set_option maxRecDepth 100000 in
theorem m_S_l1In : ConOK Try.prog 61 c_S_l1In := fn_ok (tyOK _) (E := mkE []) (consOK_nil rfl) Try.func61 (h := h_S_l1In) (by kernel_rfl) eq_S_l1In

/-- S_l1All -/
def pk_S_l1All : List PK := [.data (.sl (.int .i64)), .data (.int .i64), .data (.int .i64)]
def rk_S_l1All : List (Ty × Bool) := [(.bool, false)]
def h_S_l1All : Hints := { loops := [(0, { items := [.slot 11 (.data (.int .i64) [])], kill := [0, 3, 4, 5, 6, 7, 8, 12, 13, 14, 15, 16, 17, 18, 19, 20] })] }
noncomputable def M_S_l1All (x : ((List Int) × (Int × Int))) : (Option Bool) :=
  (loopO (fun (again0 : (Int → (Option Bool))) => (fun (s1 : Int) => (cond (decide (s1 < (((List.length x.1) : Nat) : Int))) (bindO (getI x.1 s1) (fun (a2 : Int) => (bindO (M_S_l1In (a2, (x.2.1, x.2.2))) (fun (a3 : Bool) => (cond (not a3) (some false) (bindO (some (IntKind.wrap .i64 (s1 + (1 : Int)))) (fun (a4 : Int) => (again0 a4)))))))) (some true)))) (0 : Int))

noncomputable def c_S_l1All : Con0 := ⟨pk_S_l1All, rk_S_l1All, M_S_l1All⟩

set_option maxRecDepth 100000 in
theorem eq_S_l1All (x : In pk_S_l1All) : semF (mkE [(61, c_S_l1In)]) h_S_l1All (info Try.f114) pk_S_l1All rk_S_l1All x = M_S_l1All x := (semFF_eq _ _ _ _ _ _).symm.trans (by kernel_rfl)

set_option maxRecDepth 100000 in
theorem m_S_l1All : ConOK Try.prog 114 c_S_l1All := fn_ok (tyOK _) (E := mkE [(61, c_S_l1In)]) (consOK_cons m_S_l1In (consOK_nil rfl)) Try.func114 (h := h_S_l1All) (by kernel_rfl) eq_S_l1All

/-- S_tCounts -/
def pk_S_tCounts : List PK := [.data (.sl (.int .i64))]
def rk_S_tCounts : List (Ty × Bool) := [(.bool, false)]
def h_S_tCounts : Hints := { loops := [] }
noncomputable def M_S_tCounts (x : (List Int)) : (Option Bool) :=
  (bindO (M_S_l1In ((((List.length x) : Nat) : Int), ((1 : Int), (8 : Int)))) (fun (a0 : Bool) => (cond a0 (bindO (M_S_l1All (x, ((0 : Int), (1000000 : Int)))) (fun (a1 : Bool) => (some a1))) (some false))))

noncomputable def c_S_tCounts : Con0 := ⟨pk_S_tCounts, rk_S_tCounts, M_S_tCounts⟩

set_option maxRecDepth 100000 in
theorem eq_S_tCounts (x : In pk_S_tCounts) : semF (mkE [(61, c_S_l1In), (114, c_S_l1All)]) h_S_tCounts (info Try.f60) pk_S_tCounts rk_S_tCounts x = M_S_tCounts x := (semFF_eq _ _ _ _ _ _).symm.trans (by kernel_rfl)

set_option maxRecDepth 100000 in
theorem m_S_tCounts : ConOK Try.prog 60 c_S_tCounts := fn_ok (tyOK _) (E := mkE [(61, c_S_l1In), (114, c_S_l1All)]) (consOK_cons m_S_l1In (consOK_cons m_S_l1All (consOK_nil rfl))) Try.func60 (h := h_S_tCounts) (by kernel_rfl) eq_S_tCounts

/-- S_l1Has -/
def pk_S_l1Has : List PK := [.data (.sl (.int .i64)), .data (.int .i64)]
def rk_S_l1Has : List (Ty × Bool) := [(.bool, false)]
def h_S_l1Has : Hints := { loops := [(0, { items := [.slot 9 (.data (.int .i64) [])], kill := [0, 2, 3, 4, 5, 6, 10, 11, 12, 13, 14, 15, 16] })] }
noncomputable def M_S_l1Has (x : ((List Int) × Int)) : (Option Bool) :=
  (loopO (fun (again0 : (Int → (Option Bool))) => (fun (s1 : Int) => (cond (decide (s1 < (((List.length x.1) : Nat) : Int))) (bindO (getI x.1 s1) (fun (a2 : Int) => (cond (a2 == x.2) (some true) (bindO (some (IntKind.wrap .i64 (s1 + (1 : Int)))) (fun (a3 : Int) => (again0 a3)))))) (some false)))) (0 : Int))

noncomputable def c_S_l1Has : Con0 := ⟨pk_S_l1Has, rk_S_l1Has, M_S_l1Has⟩

set_option maxRecDepth 100000 in
theorem eq_S_l1Has (x : In pk_S_l1Has) : semF (mkE []) h_S_l1Has (info Try.f115) pk_S_l1Has rk_S_l1Has x = M_S_l1Has x := (semFF_eq _ _ _ _ _ _).symm.trans (by kernel_rfl)

set_option maxRecDepth 100000 in
theorem m_S_l1Has : ConOK Try.prog 115 c_S_l1Has := fn_ok (tyOK _) (E := mkE []) (consOK_nil rfl) Try.func115 (h := h_S_l1Has) (by kernel_rfl) eq_S_l1Has

/-- S_tTop -/
def pk_S_tTop : List PK := [.data (.sl (.int .i64)), .data (.int .i64)]
def rk_S_tTop : List (Ty × Bool) := [((.sl (.int .i64)), true)]
def h_S_tTop : Hints := { loops := [(0, { items := [.slot 5 (.own (.int .i64) true)], kill := [2, 3, 4, 6, 7, 8, 9, 10, 11, 12, 13, 14, 15, 16, 17, 18, 19, 20, 21, 22, 23, 24, 25, 26, 27, 28, 29, 30, 31, 32, 33, 34, 35, 36, 37, 38, 39, 40, 41, 42] }), (2, { items := [.slot 6 (.data (.int .i64) []), .slot 15 (.data (.int .i64) [])], kill := [2, 3, 4, 7, 8, 9, 10, 11, 12, 16, 17, 18, 19, 20, 21, 22, 23, 24, 25, 26, 27, 28, 29, 30, 31, 32, 33, 34, 35, 36, 37, 38, 39, 40, 41, 42] })] }
noncomputable def M_S_tTop (x : ((List Int) × Int)) : (Option (List Int)) :=
  (loopO (fun (again0 : ((List Int) → (Option (List Int)))) => (fun (s1 : (List Int)) => (cond (decide ((((List.length s1) : Nat) : Int) < x.2)) (loopO (fun (again2 : ((Int × Int) → (Option (List Int)))) => (fun (s3 : (Int × Int)) => (cond (decide (s3.2 < (((List.length x.1) : Nat) : Int))) (bindO (getI x.1 s3.2) (fun (a4 : Int) => (bindO (M_S_l1Has (s1, s3.2)) (fun (a5 : Bool) => (cond (not a5) (cond (decide (s3.1 < (0 : Int))) (bindO (some (IntKind.wrap .i64 (s3.2 + (1 : Int)))) (fun (a6 : Int) => (again2 (s3.2, a6)))) (bindO (getI x.1 s3.1) (fun (a7 : Int) => (cond (decide (a4 > a7)) (bindO (some (IntKind.wrap .i64 (s3.2 + (1 : Int)))) (fun (a8 : Int) => (again2 (s3.2, a8)))) (bindO (some (IntKind.wrap .i64 (s3.2 + (1 : Int)))) (fun (a9 : Int) => (again2 (s3.1, a9)))))))) (bindO (some (IntKind.wrap .i64 (s3.2 + (1 : Int)))) (fun (a10 : Int) => (again2 (s3.1, a10))))))))) (bindO (guardO (lenOk ((List.length s1) + (List.length (s3.1 :: ([] : List Int)))))) (fun (a11 : Unit) => (bindO (some (s1 ++ (s3.1 :: ([] : List Int)))) (fun (a12 : (List Int)) => (again0 a12)))))))) ((- (1 : Int)), (0 : Int))) (some s1)))) ([] : List Int))

noncomputable def c_S_tTop : Con0 := ⟨pk_S_tTop, rk_S_tTop, M_S_tTop⟩

set_option maxRecDepth 100000 in
theorem eq_S_tTop (x : In pk_S_tTop) : semF (mkE [(115, c_S_l1Has)]) h_S_tTop (info Try.f62) pk_S_tTop rk_S_tTop x = M_S_tTop x := (semFF_eq _ _ _ _ _ _).symm.trans (by kernel_rfl)

set_option maxRecDepth 100000 in
theorem m_S_tTop : ConOK Try.prog 62 c_S_tTop := fn_ok (tyOK _) (E := mkE [(115, c_S_l1Has)]) (consOK_cons m_S_l1Has (consOK_nil rfl)) Try.func62 (h := h_S_tTop) (by kernel_rfl) eq_S_tTop

/-- S_TopOptions -/
def pk_S_TopOptions : List PK := [.data (.sl (.int .i64)), .data (.int .i64)]
def rk_S_TopOptions : List (Ty × Bool) := [((.sl (.int .i64)), true), (.bool, false)]
def h_S_TopOptions : Hints := { loops := [] }
noncomputable def M_S_TopOptions (x : ((List Int) × Int)) : (Option ((List Int) × Bool)) :=
  (bindO (M_S_tCounts x.1) (fun (a0 : Bool) => (cond (not a0) (some (([] : List Int), false)) (bindO (M_S_l1In (x.2, ((1 : Int), (((List.length x.1) : Nat) : Int)))) (fun (a1 : Bool) => (cond (not a1) (some (([] : List Int), false)) (bindO (M_S_tTop (x.1, x.2)) (fun (a2 : (List Int)) => (some (a2, true))))))))))

noncomputable def c_S_TopOptions : Con0 := ⟨pk_S_TopOptions, rk_S_TopOptions, M_S_TopOptions⟩

set_option maxRecDepth 100000 in
theorem eq_S_TopOptions (x : In pk_S_TopOptions) : semF (mkE [(60, c_S_tCounts), (61, c_S_l1In), (62, c_S_tTop)]) h_S_TopOptions (info Try.f9) pk_S_TopOptions rk_S_TopOptions x = M_S_TopOptions x := (semFF_eq _ _ _ _ _ _).symm.trans (by kernel_rfl)

set_option maxRecDepth 100000 in
theorem m_S_TopOptions : ConOK Try.prog 9 c_S_TopOptions := fn_ok (tyOK _) (E := mkE [(60, c_S_tCounts), (61, c_S_l1In), (62, c_S_tTop)]) (consOK_cons m_S_tCounts (consOK_cons m_S_l1In (consOK_cons m_S_tTop (consOK_nil rfl)))) Try.func9 (h := h_S_TopOptions) (by kernel_rfl) eq_S_TopOptions

/-- I_within -/
def pk_I_within : List PK := [.data (.int .i64), .data (.int .i64), .data (.int .i64)]
def rk_I_within : List (Ty × Bool) := [(.bool, false)]
def h_I_within : Hints := { loops := [] }
noncomputable def M_I_within (x : (Int × (Int × Int))) : (Option Bool) :=
  (cond (decide (x.1 ≥ x.2.1)) (some (decide (x.1 ≤ x.2.2))) (some false))

noncomputable def c_I_within : Con0 := ⟨pk_I_within, rk_I_within, M_I_within⟩

set_option maxRecDepth 100000 in
theorem eq_I_within (x : In pk_I_within) : semF (mkE []) h_I_within (info Try.f64) pk_I_within rk_I_within x = M_I_within x := (semFF_eq _ _ _ _ _ _).symm.trans (by kernel_rfl)

set_option maxRecDepth 100000 in
theorem m_I_within : ConOK Try.prog 64 c_I_within := fn_ok (tyOK _) (E := mkE []) (consOK_nil rfl) Try.func64 (h := h_I_within) (by kernel_rfl) eq_I_within

/-- slices_IndexFunc_sint_int -/
def pk_slices_IndexFunc_sint_int : List PK := [.data (.sl (.int .i64)), .fn [(.int .i64)] .bool]
def rk_slices_IndexFunc_sint_int : List (Ty × Bool) := [((.int .i64), false)]
def h_slices_IndexFunc_sint_int : Hints := { loops := [(0, { items := [.slot 8 (.data (.int .i64) [])], kill := [2, 3, 4, 5, 6, 9, 10, 11, 12, 13, 14, 15, 16, 17, 18] })] }
noncomputable def M_slices_IndexFunc_sint_int (x : ((List Int) × (Int → (Option Bool)))) : (Option Int) :=
  (loopO (fun (again0 : (Int → (Option Int))) => (fun (s1 : Int) => (cond (decide (s1 < (((List.length x.1) : Nat) : Int))) (bindO (getI x.1 s1) (fun (a2 : Int) => (bindO (x.2 a2) (fun (a3 : Bool) => (cond a3 (some s1) (bindO (some (IntKind.wrap .i64 (s1 + (1 : Int)))) (fun (a4 : Int) => (again0 a4)))))))) (some (- (1 : Int)))))) (0 : Int))

noncomputable def c_slices_IndexFunc_sint_int : Con0 := ⟨pk_slices_IndexFunc_sint_int, rk_slices_IndexFunc_sint_int, M_slices_IndexFunc_sint_int⟩

set_option maxRecDepth 100000 in
theorem eq_slices_IndexFunc_sint_int (x : In pk_slices_IndexFunc_sint_int) : semF (mkE []) h_slices_IndexFunc_sint_int (info Try.f175) pk_slices_IndexFunc_sint_int rk_slices_IndexFunc_sint_int x = M_slices_IndexFunc_sint_int x := (semFF_eq _ _ _ _ _ _).symm.trans (by kernel_rfl)

set_option maxRecDepth 100000 in
theorem m_slices_IndexFunc_sint_int : ConOK Try.prog 175 c_slices_IndexFunc_sint_int := fn_ok (tyOK _) (E := mkE []) (consOK_nil rfl) Try.func175 (h := h_slices_IndexFunc_sint_int) (by kernel_rfl) eq_slices_IndexFunc_sint_int

/-- slices_ContainsFunc_sint_int -/
def pk_slices_ContainsFunc_sint_int : List PK := [.data (.sl (.int .i64)), .fn [(.int .i64)] .bool]
def rk_slices_ContainsFunc_sint_int : List (Ty × Bool) := [(.bool, false)]
def h_slices_ContainsFunc_sint_int : Hints := { loops := [] }
noncomputable def M_slices_ContainsFunc_sint_int (x : ((List Int) × (Int → (Option Bool)))) : (Option Bool) :=
  (bindO (M_slices_IndexFunc_sint_int (x.1, x.2)) (fun (a0 : Int) => (some (decide (a0 ≥ (0 : Int))))))

noncomputable def c_slices_ContainsFunc_sint_int : Con0 := ⟨pk_slices_ContainsFunc_sint_int, rk_slices_ContainsFunc_sint_int, M_slices_ContainsFunc_sint_int⟩

set_option maxRecDepth 100000 in
theorem eq_slices_ContainsFunc_sint_int (x : In pk_slices_ContainsFunc_sint_int) : semF (mkE [(175, c_slices_IndexFunc_sint_int)]) h_slices_ContainsFunc_sint_int (info Try.f162) pk_slices_ContainsFunc_sint_int rk_slices_ContainsFunc_sint_int x = M_slices_ContainsFunc_sint_int x := (semFF_eq _ _ _ _ _ _).symm.trans (by kernel_rfl)

set_option maxRecDepth 100000 in
theorem m_slices_ContainsFunc_sint_int : ConOK Try.prog 162 c_slices_ContainsFunc_sint_int := fn_ok (tyOK _) (E := mkE [(175, c_slices_IndexFunc_sint_int)]) (consOK_cons m_slices_IndexFunc_sint_int (consOK_nil rfl)) Try.func162 (h := h_slices_ContainsFunc_sint_int) (by kernel_rfl) eq_slices_ContainsFunc_sint_int

/-- I_areAll_1 -/
def pk_I_areAll_1 : List PK := [.data (.int .i64), .rfn [(.int .i64)] .bool]
def rk_I_areAll_1 : List (Ty × Bool) := [(.bool, false)]
def h_I_areAll_1 : Hints := { loops := [] }
noncomputable def M_I_areAll_1 (x : (Int × (Int → (Option Bool)))) : (Option Bool) :=
  (bindO (x.2 x.1) (fun (a0 : Bool) => (some (not a0))))

noncomputable def c_I_areAll_1 : Con0 := ⟨pk_I_areAll_1, rk_I_areAll_1, M_I_areAll_1⟩

set_option maxRecDepth 100000 in
theorem eq_I_areAll_1 (x : In pk_I_areAll_1) : semF (mkE []) h_I_areAll_1 (info Try.f163) pk_I_areAll_1 rk_I_areAll_1 x = M_I_areAll_1 x := (semFF_eq _ _ _ _ _ _).symm.trans (by kernel_rfl)

set_option maxRecDepth 100000 in
theorem m_I_areAll_1 : ConOK Try.prog 163 c_I_areAll_1 := fn_ok (tyOK _) (E := mkE []) (consOK_nil rfl) Try.func163 (h := h_I_areAll_1) (by kernel_rfl) eq_I_areAll_1

/-- I_areAll -/
def pk_I_areAll : List PK := [.data (.sl (.int .i64)), .fn [(.int .i64)] .bool]
def rk_I_areAll : List (Ty × Bool) := [(.bool, false)]
def h_I_areAll : Hints := { loops := [] }
noncomputable def M_I_areAll (x : ((List Int) × (Int → (Option Bool)))) : (Option Bool) :=
  (bindO (M_slices_ContainsFunc_sint_int (x.1, (fun (a0 : Int) => (bindO (M_I_areAll_1 (a0, x.2)) (fun (a1 : Bool) => (some a1)))))) (fun (a2 : Bool) => (some (not a2))))

noncomputable def c_I_areAll : Con0 := ⟨pk_I_areAll, rk_I_areAll, M_I_areAll⟩

set_option maxRecDepth 100000 in
theorem eq_I_areAll (x : In pk_I_areAll) : semF (mkE [(162, c_slices_ContainsFunc_sint_int), (163, c_I_areAll_1)]) h_I_areAll (info Try.f116) pk_I_areAll rk_I_areAll x = M_I_areAll x := (semFF_eq _ _ _ _ _ _).symm.trans (by kernel_rfl)

set_option maxRecDepth 100000 in
theorem m_I_areAll : ConOK Try.prog 116 c_I_areAll := fn_ok (tyOK _) (E := mkE [(162, c_slices_ContainsFunc_sint_int), (163, c_I_areAll_1)]) (consOK_cons m_slices_ContainsFunc_sint_int (consOK_cons m_I_areAll_1 (consOK_nil rfl))) Try.func116 (h := h_I_areAll) (by kernel_rfl) eq_I_areAll

/-- I_areCounts_1 -/
def pk_I_areCounts_1 : List PK := [.data (.int .i64)]
def rk_I_areCounts_1 : List (Ty × Bool) := [(.bool, false)]
def h_I_areCounts_1 : Hints := { loops := [] }
noncomputable def M_I_areCounts_1 (x : Int) : (Option Bool) :=
  (bindO (M_I_within (x, ((0 : Int), (1000000 : Int)))) (fun (a0 : Bool) => (some a0)))

noncomputable def c_I_areCounts_1 : Con0 := ⟨pk_I_areCounts_1, rk_I_areCounts_1, M_I_areCounts_1⟩

set_option maxRecDepth 100000 in
theorem eq_I_areCounts_1 (x : In pk_I_areCounts_1) : semF (mkE [(64, c_I_within)]) h_I_areCounts_1 (info Try.f117) pk_I_areCounts_1 rk_I_areCounts_1 x = M_I_areCounts_1 x := (semFF_eq _ _ _ _ _ _).symm.trans (by kernel_rfl)

set_option maxRecDepth 100000 in
theorem m_I_areCounts_1 : ConOK Try.prog 117 c_I_areCounts_1 := fn_ok (tyOK _) (E := mkE [(64, c_I_within)]) (consOK_cons m_I_within (consOK_nil rfl)) Try.func117 (h := h_I_areCounts_1) (by kernel_rfl) eq_I_areCounts_1

/-- I_areCounts -/
def pk_I_areCounts : List PK := [.data (.sl (.int .i64))]
def rk_I_areCounts : List (Ty × Bool) := [(.bool, false)]
def h_I_areCounts : Hints := { loops := [] }
noncomputable def M_I_areCounts (x : (List Int)) : (Option Bool) :=
  (bindO (M_I_within ((((List.length x) : Nat) : Int), ((1 : Int), (8 : Int)))) (fun (a0 : Bool) => (cond a0 (bindO (M_I_areAll (x, (fun (a1 : Int) => (bindO (M_I_areCounts_1 a1) (fun (a2 : Bool) => (some a2)))))) (fun (a3 : Bool) => (some a3))) (some false))))

noncomputable def c_I_areCounts : Con0 := ⟨pk_I_areCounts, rk_I_areCounts, M_I_areCounts⟩

set_option maxRecDepth 100000 in
theorem eq_I_areCounts (x : In pk_I_areCounts) : semF (mkE [(64, c_I_within), (116, c_I_areAll), (117, c_I_areCounts_1)]) h_I_areCounts (info Try.f63) pk_I_areCounts rk_I_areCounts x = M_I_areCounts x := (semFF_eq _ _ _ _ _ _).symm.trans (by kernel_rfl)

set_option maxRecDepth 100000 in
theorem m_I_areCounts : ConOK Try.prog 63 c_I_areCounts := fn_ok (tyOK _) (E := mkE [(64, c_I_within), (116, c_I_areAll), (117, c_I_areCounts_1)]) (consOK_cons m_I_within (consOK_cons m_I_areAll (consOK_cons m_I_areCounts_1 (consOK_nil rfl)))) Try.func63 (h := h_I_areCounts) (by kernel_rfl) eq_I_areCounts

/-- slices_insertionSortCmpFunc_int -/
def pk_slices_insertionSortCmpFunc_int : List PK := [.mv (.sl (.int .i64)), .data (.int .i64), .data (.int .i64), .fn [(.int .i64), (.int .i64)] (.int .i64)]
def rk_slices_insertionSortCmpFunc_int : List (Ty × Bool) := []
def h_slices_insertionSortCmpFunc_int : Hints := { loops := [(0, { items := [.slot 8 (.data (.int .i64) []), .arr 0 (.int .i64) true], kill := [4, 5, 6, 7, 9, 10, 11, 12, 13, 14, 15, 16, 17, 18, 19, 20, 21, 22, 23, 24, 25, 26, 27, 28, 29, 30, 31, 32, 33, 34, 35, 36, 37, 38, 39, 40, 41, 42, 43, 44, 45, 46, 47, 48, 49, 50, 51, 52] }), (2, { items := [.slot 9 (.data (.int .i64) []), .arr 0 (.int .i64) true], kill := [4, 5, 6, 7, 10, 11, 12, 13, 14, 15, 16, 17, 18, 19, 20, 21, 22, 23, 24, 25, 26, 27, 28, 29, 30, 31, 32, 33, 34, 35, 36, 37, 38, 39, 40, 41, 42, 43, 44, 45, 46, 47, 48, 49, 50, 51, 52] })] }
noncomputable def M_slices_insertionSortCmpFunc_int (x : ((List Int) × (Int × (Int × ((Int × Int) → (Option Int)))))) : (Option (List Int)) :=
  (bindO (some (IntKind.wrap .i64 (x.2.1 + (1 : Int)))) (fun (a0 : Int) => (loopO (fun (again1 : ((Int × (List Int)) → (Option (List Int)))) => (fun (s2 : (Int × (List Int))) => (cond (decide (s2.1 < x.2.2.1)) (loopO (fun (again3 : ((Int × (List Int)) → (Option (List Int)))) => (fun (s4 : (Int × (List Int))) => (cond (decide (s4.1 > x.2.1)) (bindO (getI s4.2 s4.1) (fun (a5 : Int) => (bindO (some (IntKind.wrap .i64 (s4.1 - (1 : Int)))) (fun (a6 : Int) => (bindO (getI s4.2 a6) (fun (a7 : Int) => (bindO (x.2.2.2 (a5, a7)) (fun (a8 : Int) => (cond (decide (a8 < (0 : Int))) (bindO (some (IntKind.wrap .i64 (s4.1 - (1 : Int)))) (fun (a9 : Int) => (bindO (some (IntKind.wrap .i64 (s4.1 - (1 : Int)))) (fun (a10 : Int) => (bindO (getI s4.2 a10) (fun (a11 : Int) => (bindO (getI s4.2 s4.1) (fun (a12 : Int) => (bindO (getI s4.2 s4.1) (fun (a13 : Int) => (bindO (some (List.set s4.2 (Int.toNat s4.1) a11)) (fun (a14 : (List Int)) => (bindO (getI a14 a9) (fun (a15 : Int) => (bindO (some (List.set a14 (Int.toNat a9) a12)) (fun (a16 : (List Int)) => (bindO (some (IntKind.wrap .i64 (s4.1 - (1 : Int)))) (fun (a17 : Int) => (again3 (a17, a16)))))))))))))))))))) (bindO (some (IntKind.wrap .i64 (s2.1 + (1 : Int)))) (fun (a18 : Int) => (again1 (a18, s4.2))))))))))))) (bindO (some (IntKind.wrap .i64 (s2.1 + (1 : Int)))) (fun (a19 : Int) => (again1 (a19, s4.2))))))) (s2.1, s2.2)) (some s2.2)))) (a0, x.1))))

noncomputable def c_slices_insertionSortCmpFunc_int : Con0 := ⟨pk_slices_insertionSortCmpFunc_int, rk_slices_insertionSortCmpFunc_int, M_slices_insertionSortCmpFunc_int⟩

set_option maxRecDepth 100000 in
theorem eq_slices_insertionSortCmpFunc_int (x : In pk_slices_insertionSortCmpFunc_int) : semF (mkE []) h_slices_insertionSortCmpFunc_int (info Try.f164) pk_slices_insertionSortCmpFunc_int rk_slices_insertionSortCmpFunc_int x = M_slices_insertionSortCmpFunc_int x := (semFF_eq _ _ _ _ _ _).symm.trans (by kernel_rfl)

set_option maxRecDepth 100000 in
theorem m_slices_insertionSortCmpFunc_int : ConOK Try.prog 164 c_slices_insertionSortCmpFunc_int := fn_ok (tyOK _) (E := mkE []) (consOK_nil rfl) Try.func164 (h := h_slices_insertionSortCmpFunc_int) (by kernel_rfl) eq_slices_insertionSortCmpFunc_int

/-- slices_swapRangeCmpFunc_int -/
def pk_slices_swapRangeCmpFunc_int : List PK := [.mv (.sl (.int .i64)), .data (.int .i64), .data (.int .i64), .data (.int .i64), .fn [(.int .i64), (.int .i64)] (.int .i64)]
def rk_slices_swapRangeCmpFunc_int : List (Ty × Bool) := []
def h_slices_swapRangeCmpFunc_int : Hints := { loops := [(0, { items := [.slot 10 (.data (.int .i64) []), .arr 0 (.int .i64) true], kill := [4, 5, 6, 7, 8, 9, 11, 12, 13, 14, 15, 16, 17, 18, 19, 20, 21, 22, 23, 24, 25, 26, 27, 28, 29, 30, 31, 32, 33, 34, 35, 36, 37] })] }
noncomputable def M_slices_swapRangeCmpFunc_int (x : ((List Int) × (Int × (Int × (Int × ((Int × Int) → (Option Int))))))) : (Option (List Int)) :=
  (loopO (fun (again0 : ((Int × (List Int)) → (Option (List Int)))) => (fun (s1 : (Int × (List Int))) => (cond (decide (s1.1 < x.2.2.2.1)) (bindO (some (IntKind.wrap .i64 (x.2.1 + s1.1))) (fun (a2 : Int) => (bindO (some (IntKind.wrap .i64 (x.2.2.1 + s1.1))) (fun (a3 : Int) => (bindO (some (IntKind.wrap .i64 (x.2.2.1 + s1.1))) (fun (a4 : Int) => (bindO (getI s1.2 a4) (fun (a5 : Int) => (bindO (some (IntKind.wrap .i64 (x.2.1 + s1.1))) (fun (a6 : Int) => (bindO (getI s1.2 a6) (fun (a7 : Int) => (bindO (getI s1.2 a2) (fun (a8 : Int) => (bindO (some (List.set s1.2 (Int.toNat a2) a5)) (fun (a9 : (List Int)) => (bindO (getI a9 a3) (fun (a10 : Int) => (bindO (some (List.set a9 (Int.toNat a3) a7)) (fun (a11 : (List Int)) => (bindO (some (IntKind.wrap .i64 (s1.1 + (1 : Int)))) (fun (a12 : Int) => (again0 (a12, a11)))))))))))))))))))))))) (some s1.2)))) ((0 : Int), x.1))

noncomputable def c_slices_swapRangeCmpFunc_int : Con0 := ⟨pk_slices_swapRangeCmpFunc_int, rk_slices_swapRangeCmpFunc_int, M_slices_swapRangeCmpFunc_int⟩

set_option maxRecDepth 100000 in
theorem eq_slices_swapRangeCmpFunc_int (x : In pk_slices_swapRangeCmpFunc_int) : semF (mkE []) h_slices_swapRangeCmpFunc_int (info Try.f178) pk_slices_swapRangeCmpFunc_int rk_slices_swapRangeCmpFunc_int x = M_slices_swapRangeCmpFunc_int x := (semFF_eq _ _ _ _ _ _).symm.trans (by kernel_rfl)

set_option maxRecDepth 100000 in
theorem m_slices_swapRangeCmpFunc_int : ConOK Try.prog 178 c_slices_swapRangeCmpFunc_int := fn_ok (tyOK _) (E := mkE []) (consOK_nil rfl) Try.func178 (h := h_slices_swapRangeCmpFunc_int) (by kernel_rfl) eq_slices_swapRangeCmpFunc_int

/-- slices_rotateCmpFunc_int -/
def pk_slices_rotateCmpFunc_int : List PK := [.mv (.sl (.int .i64)), .data (.int .i64), .data (.int .i64), .data (.int .i64), .fn [(.int .i64), (.int .i64)] (.int .i64)]
def rk_slices_rotateCmpFunc_int : List (Ty × Bool) := []
def h_slices_rotateCmpFunc_int : Hints := { loops := [(0, { items := [.slot 10 (.data (.int .i64) []), .slot 11 (.data (.int .i64) []), .arr 0 (.int .i64) true], kill := [1, 3, 5, 6, 7, 8, 9, 12, 13, 14, 15, 16, 17, 18, 19, 20, 21, 22, 23, 24, 25, 26, 27, 28, 29, 30, 31, 32, 33, 34, 35, 36, 37, 38, 39, 40, 41, 42, 43, 44, 45, 46, 47, 48, 49, 50, 51, 52, 53, 54, 55, 56, 57] })] }
noncomputable def M_slices_rotateCmpFunc_int (x : ((List Int) × (Int × (Int × (Int × ((Int × Int) → (Option Int))))))) : (Option (List Int)) :=
  (bindO (some (IntKind.wrap .i64 (x.2.2.1 - x.2.1))) (fun (a0 : Int) => (bindO (some (IntKind.wrap .i64 (x.2.2.2.1 - x.2.2.1))) (fun (a1 : Int) => (loopO (fun (again2 : ((Int × (Int × (List Int))) → (Option (List Int)))) => (fun (s3 : (Int × (Int × (List Int)))) => (cond (s3.1 != s3.2.1) (cond (decide (s3.1 > s3.2.1)) (bindO (some (IntKind.wrap .i64 (x.2.2.1 - s3.1))) (fun (a4 : Int) => (bindO (M_slices_swapRangeCmpFunc_int (s3.2.2, (a4, (x.2.2.1, (s3.2.1, x.2.2.2.2))))) (fun (a5 : (List Int)) => (bindO (some (IntKind.wrap .i64 (s3.1 - s3.2.1))) (fun (a6 : Int) => (again2 (a6, (s3.2.1, a5))))))))) (bindO (some (IntKind.wrap .i64 (x.2.2.1 - s3.1))) (fun (a7 : Int) => (bindO (some (IntKind.wrap .i64 (x.2.2.1 + s3.2.1))) (fun (a8 : Int) => (bindO (some (IntKind.wrap .i64 (a8 - s3.1))) (fun (a9 : Int) => (bindO (M_slices_swapRangeCmpFunc_int (s3.2.2, (a7, (a9, (s3.1, x.2.2.2.2))))) (fun (a10 : (List Int)) => (bindO (some (IntKind.wrap .i64 (s3.2.1 - s3.1))) (fun (a11 : Int) => (again2 (s3.1, (a11, a10)))))))))))))) (bindO (some (IntKind.wrap .i64 (x.2.2.1 - s3.1))) (fun (a12 : Int) => (bindO (M_slices_swapRangeCmpFunc_int (s3.2.2, (a12, (x.2.2.1, (s3.1, x.2.2.2.2))))) (fun (a13 : (List Int)) => (some a13)))))))) (a0, (a1, x.1)))))))

noncomputable def c_slices_rotateCmpFunc_int : Con0 := ⟨pk_slices_rotateCmpFunc_int, rk_slices_rotateCmpFunc_int, M_slices_rotateCmpFunc_int⟩

set_option maxRecDepth 100000 in
theorem eq_slices_rotateCmpFunc_int (x : In pk_slices_rotateCmpFunc_int) : semF (mkE [(178, c_slices_swapRangeCmpFunc_int)]) h_slices_rotateCmpFunc_int (info Try.f177) pk_slices_rotateCmpFunc_int rk_slices_rotateCmpFunc_int x = M_slices_rotateCmpFunc_int x := (semFF_eq _ _ _ _ _ _).symm.trans (by kernel_rfl)

set_option maxRecDepth 100000 in
theorem m_slices_rotateCmpFunc_int : ConOK Try.prog 177 c_slices_rotateCmpFunc_int := fn_ok (tyOK _) (E := mkE [(178, c_slices_swapRangeCmpFunc_int)]) (consOK_cons m_slices_swapRangeCmpFunc_int (consOK_nil rfl)) Try.func177 (h := h_slices_rotateCmpFunc_int) (by kernel_rfl) eq_slices_rotateCmpFunc_int

/-- slices_symMergeCmpFunc_int -/
def pk_slices_symMergeCmpFunc_int : List PK := [.mv (.sl (.int .i64)), .data (.int .i64), .data (.int .i64), .data (.int .i64), .fn [(.int .i64), (.int .i64)] (.int .i64)]
def rk_slices_symMergeCmpFunc_int : List (Ty × Bool) := []
def h_slices_symMergeCmpFunc_int : Hints := { loops := [(0, { items := [.slot 10 (.data (.int .i64) []), .slot 11 (.data (.int .i64) [])], kill := [2, 3, 5, 6, 7, 8, 9, 12, 13, 14, 15, 16, 17, 18, 19, 20, 21, 22, 23, 24, 25, 26, 27, 28, 29, 30, 31, 32, 33, 34, 35, 36, 37, 38, 39, 40, 41, 42, 43, 44, 45, 46, 47, 48, 49, 50, 51, 52, 53, 54, 55, 56, 57, 58, 59, 60, 61, 62, 63, 64, 65, 66, 67, 68, 69, 70, 71, 72, 73, 74, 75, 76, 77, 78, 79, 80, 81, 82, 83, 84, 85, 86, 87, 88, 89, 90, 91, 92, 93, 94, 95, 96, 97, 98, 99, 100, 101, 102, 103, 104, 105, 106, 107, 108, 109, 110, 111, 112, 113, 114, 115, 116, 117, 118, 119, 120, 121, 122, 123, 124, 125, 126, 127, 128, 129, 130, 131, 132, 133, 134, 135, 136, 137, 138, 139, 140, 141, 142, 143, 144, 145, 146, 147, 148, 149, 150, 151, 152, 153, 154, 155, 156, 157, 158, 159, 160, 161, 162, 163, 164, 165, 166, 167, 168, 169, 170, 171, 172, 173, 174, 175, 176, 177, 178, 179, 180, 181, 182, 183, 184, 185, 186, 187, 188, 189, 190, 191, 192, 193, 194, 195, 196, 197, 198, 199, 200, 201, 202, 203, 204, 205, 206, 207, 208, 209, 210, 211, 212, 213, 214, 215, 216, 217, 218, 219] }), (2, { items := [.slot 13 (.data (.int .i64) []), .arr 0 (.int .i64) true], kill := [1, 2, 3, 4, 5, 6, 7, 8, 9, 11, 12, 14, 15, 16, 17, 18, 19, 20, 21, 22, 23, 24, 25, 26, 27, 28, 29, 30, 31, 32, 33, 34, 35, 36, 37, 38, 39, 40, 41, 42, 43, 44, 45, 46, 47, 48, 49, 50, 51, 52, 53, 54, 55, 56, 57, 58, 59, 60, 61, 62, 63, 64, 65, 66, 67, 68, 69, 70, 71, 72, 73, 74, 75, 76, 77, 78, 79, 80, 81, 82, 83, 84, 85, 86, 87, 88, 89, 90, 91, 92, 93, 94, 95, 96, 97, 98, 99, 100, 101, 102, 103, 104, 105, 106, 107, 108, 109, 110, 111, 112, 113, 114, 115, 116, 117, 118, 119, 120, 121, 122, 123, 124, 125, 126, 127, 128, 129, 130, 131, 132, 133, 134, 135, 136, 137, 138, 139, 140, 141, 142, 143, 144, 145, 146, 147, 148, 149, 150, 151, 152, 153, 154, 155, 156, 157, 158, 159, 160, 161, 162, 163, 164, 165, 166, 167, 168, 169, 170, 171, 172, 173, 174, 175, 176, 177, 178, 179, 180, 181, 182, 183, 184, 185, 186, 187, 188, 189, 190, 191, 192, 193, 194, 195, 196, 197, 198, 199, 200, 201, 202, 203, 204, 205, 206, 207, 208, 209, 210, 211, 212, 213, 214, 215, 216, 217, 218, 219] }), (4, { items := [.slot 14 (.data (.int .i64) []), .slot 15 (.data (.int .i64) [])], kill := [1, 3, 5, 6, 7, 8, 9, 10, 11, 12, 13, 16, 17, 18, 19, 20, 21, 22, 23, 24, 25, 26, 27, 28, 29, 30, 31, 32, 33, 34, 35, 36, 37, 38, 39, 40, 41, 42, 43, 44, 45, 46, 47, 48, 49, 50, 51, 52, 53, 54, 55, 56, 57, 58, 59, 60, 61, 62, 63, 64, 65, 66, 67, 68, 69, 70, 71, 72, 73, 74, 75, 76, 77, 78, 79, 80, 81, 82, 83, 84, 85, 86, 87, 88, 89, 90, 91, 92, 93, 94, 95, 96, 97, 98, 99, 100, 101, 102, 103, 104, 105, 106, 107, 108, 109, 110, 111, 112, 113, 114, 115, 116, 117, 118, 119, 120, 121, 122, 123, 124, 125, 126, 127, 128, 129, 130, 131, 132, 133, 134, 135, 136, 137, 138, 139, 140, 141, 142, 143, 144, 145, 146, 147, 148, 149, 150, 151, 152, 153, 154, 155, 156, 157, 158, 159, 160, 161, 162, 163, 164, 165, 166, 167, 168, 169, 170, 171, 172, 173, 174, 175, 176, 177, 178, 179, 180, 181, 182, 183, 184, 185, 186, 187, 188, 189, 190, 191, 192, 193, 194, 195, 196, 197, 198, 199, 200, 201, 202, 203, 204, 205, 206, 207, 208, 209, 210, 211, 212, 213, 214, 215, 216, 217, 218, 219] }), (6, { items := [.slot 17 (.data (.int .i64) []), .arr 0 (.int .i64) true], kill := [1, 2, 3, 4, 5, 6, 7, 8, 9, 10, 11, 12, 13, 15, 16, 18, 19, 20, 21, 22, 23, 24, 25, 26, 27, 28, 29, 30, 31, 32, 33, 34, 35, 36, 37, 38, 39, 40, 41, 42, 43, 44, 45, 46, 47, 48, 49, 50, 51, 52, 53, 54, 55, 56, 57, 58, 59, 60, 61, 62, 63, 64, 65, 66, 67, 68, 69, 70, 71, 72, 73, 74, 75, 76, 77, 78, 79, 80, 81, 82, 83, 84, 85, 86, 87, 88, 89, 90, 91, 92, 93, 94, 95, 96, 97, 98, 99, 100, 101, 102, 103, 104, 105, 106, 107, 108, 109, 110, 111, 112, 113, 114, 115, 116, 117, 118, 119, 120, 121, 122, 123, 124, 125, 126, 127, 128, 129, 130, 131, 132, 133, 134, 135, 136, 137, 138, 139, 140, 141, 142, 143, 144, 145, 146, 147, 148, 149, 150, 151, 152, 153, 154, 155, 156, 157, 158, 159, 160, 161, 162, 163, 164, 165, 166, 167, 168, 169, 170, 171, 172, 173, 174, 175, 176, 177, 178, 179, 180, 181, 182, 183, 184, 185, 186, 187, 188, 189, 190, 191, 192, 193, 194, 195, 196, 197, 198, 199, 200, 201, 202, 203, 204, 205, 206, 207, 208, 209, 210, 211, 212, 213, 214, 215, 216, 217, 218, 219] }), (8, { items := [.slot 20 (.data (.int .i64) []), .slot 21 (.data (.int .i64) [])], kill := [5, 6, 7, 8, 9, 10, 11, 12, 13, 14, 15, 16, 17, 23, 24, 25, 26, 27, 28, 29, 30, 31, 32, 33, 34, 35, 36, 37, 38, 39, 40, 41, 42, 43, 44, 45, 46, 47, 48, 49, 50, 51, 52, 53, 54, 55, 56, 57, 58, 59, 60, 61, 62, 63, 64, 65, 66, 67, 68, 69, 70, 71, 72, 73, 74, 75, 76, 77, 78, 79, 80, 81, 82, 83, 84, 85, 86, 87, 88, 89, 90, 91, 92, 93, 94, 95, 96, 97, 98, 99, 100, 101, 102, 103, 104, 105, 106, 107, 108, 109, 110, 111, 112, 113, 114, 115, 116, 117, 118, 119, 120, 121, 122, 123, 124, 125, 126, 127, 128, 129, 130, 131, 132, 133, 134, 135, 136, 137, 138, 139, 140, 141, 142, 143, 144, 145, 146, 147, 148, 149, 150, 151, 152, 153, 154, 155, 156, 157, 158, 159, 160, 161, 162, 163, 164, 165, 166, 167, 168, 169, 170, 171, 172, 173, 174, 175, 176, 177, 178, 179, 180, 181, 182, 183, 184, 185, 186, 187, 188, 189, 190, 191, 192, 193, 194, 195, 196, 197, 198, 199, 200, 201, 202, 203, 204, 205, 206, 207, 208, 209, 210, 211, 212, 213, 214, 215, 216, 217, 218, 219] })] }
noncomputable def R_slices_symMergeCmpFunc_int : Nat → ((List Int) × (Int × (Int × (Int × ((Int × Int) → (Option Int)))))) → (Option (List Int))
  | 0, _ => none
  | n + 1, x => (bindO (some (IntKind.wrap .i64 (x.2.2.1 - x.2.1))) (fun (a0 : Int) => (cond (a0 == (1 : Int)) (loopO (fun (again1 : ((Int × Int) → (Option (List Int)))) => (fun (s2 : (Int × Int)) => (cond (decide (s2.1 < s2.2)) (bindO (some (IntKind.wrap .i64 (s2.1 + s2.2))) (fun (a3 : Int) => (bindO (guardO (decide ((0 : Int) ≤ (1 : Int)))) (fun (a4 : Unit) => (bindO (some (shr .u64 (IntKind.wrap .u64 a3) (1 : Int))) (fun (a5 : Int) => (bindO (getI x.1 (IntKind.wrap .i64 a5)) (fun (a6 : Int) => (bindO (getI x.1 x.2.1) (fun (a7 : Int) => (bindO (x.2.2.2.2 (a6, a7)) (fun (a8 : Int) => (cond (decide (a8 < (0 : Int))) (bindO (some (IntKind.wrap .i64 ((IntKind.wrap .i64 a5) + (1 : Int)))) (fun (a9 : Int) => (again1 (a9, s2.2)))) (again1 (s2.1, (IntKind.wrap .i64 a5)))))))))))))))) (loopO (fun (again10 : ((Int × (List Int)) → (Option (List Int)))) => (fun (s11 : (Int × (List Int))) => (bindO (some (IntKind.wrap .i64 (s2.1 - (1 : Int)))) (fun (a12 : Int) => (cond (decide (s11.1 < a12)) (bindO (some (IntKind.wrap .i64 (s11.1 + (1 : Int)))) (fun (a13 : Int) => (bindO (some (IntKind.wrap .i64 (s11.1 + (1 : Int)))) (fun (a14 : Int) => (bindO (getI s11.2 a14) (fun (a15 : Int) => (bindO (getI s11.2 s11.1) (fun (a16 : Int) => (bindO (getI s11.2 s11.1) (fun (a17 : Int) => (bindO (some (List.set s11.2 (Int.toNat s11.1) a15)) (fun (a18 : (List Int)) => (bindO (getI a18 a13) (fun (a19 : Int) => (bindO (some (List.set a18 (Int.toNat a13) a16)) (fun (a20 : (List Int)) => (bindO (some (IntKind.wrap .i64 (s11.1 + (1 : Int)))) (fun (a21 : Int) => (again10 (a21, a20)))))))))))))))))))) (some s11.2)))))) (x.2.1, x.1))))) (x.2.2.1, x.2.2.2.1)) (bindO (some (IntKind.wrap .i64 (x.2.2.2.1 - x.2.2.1))) (fun (a22 : Int) => (cond (a22 == (1 : Int)) (loopO (fun (again23 : ((Int × Int) → (Option (List Int)))) => (fun (s24 : (Int × Int)) => (cond (decide (s24.1 < s24.2)) (bindO (some (IntKind.wrap .i64 (s24.1 + s24.2))) (fun (a25 : Int) => (bindO (guardO (decide ((0 : Int) ≤ (1 : Int)))) (fun (a26 : Unit) => (bindO (some (shr .u64 (IntKind.wrap .u64 a25) (1 : Int))) (fun (a27 : Int) => (bindO (getI x.1 x.2.2.1) (fun (a28 : Int) => (bindO (getI x.1 (IntKind.wrap .i64 a27)) (fun (a29 : Int) => (bindO (x.2.2.2.2 (a28, a29)) (fun (a30 : Int) => (cond (not (decide (a30 < (0 : Int)))) (bindO (some (IntKind.wrap .i64 ((IntKind.wrap .i64 a27) + (1 : Int)))) (fun (a31 : Int) => (again23 (a31, s24.2)))) (again23 (s24.1, (IntKind.wrap .i64 a27)))))))))))))))) (loopO (fun (again32 : ((Int × (List Int)) → (Option (List Int)))) => (fun (s33 : (Int × (List Int))) => (cond (decide (s33.1 > s24.1)) (bindO (some (IntKind.wrap .i64 (s33.1 - (1 : Int)))) (fun (a34 : Int) => (bindO (some (IntKind.wrap .i64 (s33.1 - (1 : Int)))) (fun (a35 : Int) => (bindO (getI s33.2 a35) (fun (a36 : Int) => (bindO (getI s33.2 s33.1) (fun (a37 : Int) => (bindO (getI s33.2 s33.1) (fun (a38 : Int) => (bindO (some (List.set s33.2 (Int.toNat s33.1) a36)) (fun (a39 : (List Int)) => (bindO (getI a39 a34) (fun (a40 : Int) => (bindO (some (List.set a39 (Int.toNat a34) a37)) (fun (a41 : (List Int)) => (bindO (some (IntKind.wrap .i64 (s33.1 - (1 : Int)))) (fun (a42 : Int) => (again32 (a42, a41)))))))))))))))))))) (some s33.2)))) (x.2.2.1, x.1))))) (x.2.1, x.2.2.1)) (bindO (some (IntKind.wrap .i64 (x.2.1 + x.2.2.2.1))) (fun (a43 : Int) => (bindO (guardO (decide ((0 : Int) ≤ (1 : Int)))) (fun (a44 : Unit) => (bindO (some (shr .u64 (IntKind.wrap .u64 a43) (1 : Int))) (fun (a45 : Int) => (bindO (some (IntKind.wrap .i64 ((IntKind.wrap .i64 a45) + x.2.2.1))) (fun (a46 : Int) => (cond (decide (x.2.2.1 > (IntKind.wrap .i64 a45))) (bindO (some (IntKind.wrap .i64 (a46 - x.2.2.2.1))) (fun (a47 : Int) => (bindO (some (IntKind.wrap .i64 (a46 - (1 : Int)))) (fun (a48 : Int) => (loopO (fun (again49 : ((Int × Int) → (Option (List Int)))) => (fun (s50 : (Int × Int)) => (cond (decide (s50.1 < s50.2)) (bindO (some (IntKind.wrap .i64 (s50.1 + s50.2))) (fun (a51 : Int) => (bindO (guardO (decide ((0 : Int) ≤ (1 : Int)))) (fun (a52 : Unit) => (bindO (some (shr .u64 (IntKind.wrap .u64 a51) (1 : Int))) (fun (a53 : Int) => (bindO (some (IntKind.wrap .i64 (a48 - (IntKind.wrap .i64 a53)))) (fun (a54 : Int) => (bindO (getI x.1 a54) (fun (a55 : Int) => (bindO (getI x.1 (IntKind.wrap .i64 a53)) (fun (a56 : Int) => (bindO (x.2.2.2.2 (a55, a56)) (fun (a57 : Int) => (cond (not (decide (a57 < (0 : Int)))) (bindO (some (IntKind.wrap .i64 ((IntKind.wrap .i64 a53) + (1 : Int)))) (fun (a58 : Int) => (again49 (a58, s50.2)))) (again49 (s50.1, (IntKind.wrap .i64 a53)))))))))))))))))) (bindO (some (IntKind.wrap .i64 (a46 - s50.1))) (fun (a59 : Int) => (cond (decide (s50.1 < x.2.2.1)) (cond (decide (x.2.2.1 < a59)) (bindO (M_slices_rotateCmpFunc_int (x.1, (s50.1, (x.2.2.1, (a59, x.2.2.2.2))))) (fun (a60 : (List Int)) => (cond (decide (x.2.1 < s50.1)) (cond (decide (s50.1 < (IntKind.wrap .i64 a45))) (bindO (R_slices_symMergeCmpFunc_int n (a60, (x.2.1, (s50.1, ((IntKind.wrap .i64 a45), x.2.2.2.2))))) (fun (a61 : (List Int)) => (cond (decide ((IntKind.wrap .i64 a45) < a59)) (cond (decide (a59 < x.2.2.2.1)) (bindO (R_slices_symMergeCmpFunc_int n (a61, ((IntKind.wrap .i64 a45), (a59, (x.2.2.2.1, x.2.2.2.2))))) (fun (a62 : (List Int)) => (some a62))) (some a61)) (some a61)))) (cond (decide ((IntKind.wrap .i64 a45) < a59)) (cond (decide (a59 < x.2.2.2.1)) (bindO (R_slices_symMergeCmpFunc_int n (a60, ((IntKind.wrap .i64 a45), (a59, (x.2.2.2.1, x.2.2.2.2))))) (fun (a63 : (List Int)) => (some a63))) (some a60)) (some a60))) (cond (decide ((IntKind.wrap .i64 a45) < a59)) (cond (decide (a59 < x.2.2.2.1)) (bindO (R_slices_symMergeCmpFunc_int n (a60, ((IntKind.wrap .i64 a45), (a59, (x.2.2.2.1, x.2.2.2.2))))) (fun (a64 : (List Int)) => (some a64))) (some a60)) (some a60))))) (cond (decide (x.2.1 < s50.1)) (cond (decide (s50.1 < (IntKind.wrap .i64 a45))) (bindO (R_slices_symMergeCmpFunc_int n (x.1, (x.2.1, (s50.1, ((IntKind.wrap .i64 a45), x.2.2.2.2))))) (fun (a65 : (List Int)) => (cond (decide ((IntKind.wrap .i64 a45) < a59)) (cond (decide (a59 < x.2.2.2.1)) (bindO (R_slices_symMergeCmpFunc_int n (a65, ((IntKind.wrap .i64 a45), (a59, (x.2.2.2.1, x.2.2.2.2))))) (fun (a66 : (List Int)) => (some a66))) (some a65)) (some a65)))) (cond (decide ((IntKind.wrap .i64 a45) < a59)) (cond (decide (a59 < x.2.2.2.1)) (bindO (R_slices_symMergeCmpFunc_int n (x.1, ((IntKind.wrap .i64 a45), (a59, (x.2.2.2.1, x.2.2.2.2))))) (fun (a67 : (List Int)) => (some a67))) (some x.1)) (some x.1))) (cond (decide ((IntKind.wrap .i64 a45) < a59)) (cond (decide (a59 < x.2.2.2.1)) (bindO (R_slices_symMergeCmpFunc_int n (x.1, ((IntKind.wrap .i64 a45), (a59, (x.2.2.2.1, x.2.2.2.2))))) (fun (a68 : (List Int)) => (some a68))) (some x.1)) (some x.1)))) (cond (decide (x.2.1 < s50.1)) (cond (decide (s50.1 < (IntKind.wrap .i64 a45))) (bindO (R_slices_symMergeCmpFunc_int n (x.1, (x.2.1, (s50.1, ((IntKind.wrap .i64 a45), x.2.2.2.2))))) (fun (a69 : (List Int)) => (cond (decide ((IntKind.wrap .i64 a45) < a59)) (cond (decide (a59 < x.2.2.2.1)) (bindO (R_slices_symMergeCmpFunc_int n (a69, ((IntKind.wrap .i64 a45), (a59, (x.2.2.2.1, x.2.2.2.2))))) (fun (a70 : (List Int)) => (some a70))) (some a69)) (some a69)))) (cond (decide ((IntKind.wrap .i64 a45) < a59)) (cond (decide (a59 < x.2.2.2.1)) (bindO (R_slices_symMergeCmpFunc_int n (x.1, ((IntKind.wrap .i64 a45), (a59, (x.2.2.2.1, x.2.2.2.2))))) (fun (a71 : (List Int)) => (some a71))) (some x.1)) (some x.1))) (cond (decide ((IntKind.wrap .i64 a45) < a59)) (cond (decide (a59 < x.2.2.2.1)) (bindO (R_slices_symMergeCmpFunc_int n (x.1, ((IntKind.wrap .i64 a45), (a59, (x.2.2.2.1, x.2.2.2.2))))) (fun (a72 : (List Int)) => (some a72))) (some x.1)) (some x.1))))))))) (a47, (IntKind.wrap .i64 a45))))))) (bindO (some (IntKind.wrap .i64 (a46 - (1 : Int)))) (fun (a73 : Int) => (loopO (fun (again74 : ((Int × Int) → (Option (List Int)))) => (fun (s75 : (Int × Int)) => (cond (decide (s75.1 < s75.2)) (bindO (some (IntKind.wrap .i64 (s75.1 + s75.2))) (fun (a76 : Int) => (bindO (guardO (decide ((0 : Int) ≤ (1 : Int)))) (fun (a77 : Unit) => (bindO (some (shr .u64 (IntKind.wrap .u64 a76) (1 : Int))) (fun (a78 : Int) => (bindO (some (IntKind.wrap .i64 (a73 - (IntKind.wrap .i64 a78)))) (fun (a79 : Int) => (bindO (getI x.1 a79) (fun (a80 : Int) => (bindO (getI x.1 (IntKind.wrap .i64 a78)) (fun (a81 : Int) => (bindO (x.2.2.2.2 (a80, a81)) (fun (a82 : Int) => (cond (not (decide (a82 < (0 : Int)))) (bindO (some (IntKind.wrap .i64 ((IntKind.wrap .i64 a78) + (1 : Int)))) (fun (a83 : Int) => (again74 (a83, s75.2)))) (again74 (s75.1, (IntKind.wrap .i64 a78)))))))))))))))))) (bindO (some (IntKind.wrap .i64 (a46 - s75.1))) (fun (a84 : Int) => (cond (decide (s75.1 < x.2.2.1)) (cond (decide (x.2.2.1 < a84)) (bindO (M_slices_rotateCmpFunc_int (x.1, (s75.1, (x.2.2.1, (a84, x.2.2.2.2))))) (fun (a85 : (List Int)) => (cond (decide (x.2.1 < s75.1)) (cond (decide (s75.1 < (IntKind.wrap .i64 a45))) (bindO (R_slices_symMergeCmpFunc_int n (a85, (x.2.1, (s75.1, ((IntKind.wrap .i64 a45), x.2.2.2.2))))) (fun (a86 : (List Int)) => (cond (decide ((IntKind.wrap .i64 a45) < a84)) (cond (decide (a84 < x.2.2.2.1)) (bindO (R_slices_symMergeCmpFunc_int n (a86, ((IntKind.wrap .i64 a45), (a84, (x.2.2.2.1, x.2.2.2.2))))) (fun (a87 : (List Int)) => (some a87))) (some a86)) (some a86)))) (cond (decide ((IntKind.wrap .i64 a45) < a84)) (cond (decide (a84 < x.2.2.2.1)) (bindO (R_slices_symMergeCmpFunc_int n (a85, ((IntKind.wrap .i64 a45), (a84, (x.2.2.2.1, x.2.2.2.2))))) (fun (a88 : (List Int)) => (some a88))) (some a85)) (some a85))) (cond (decide ((IntKind.wrap .i64 a45) < a84)) (cond (decide (a84 < x.2.2.2.1)) (bindO (R_slices_symMergeCmpFunc_int n (a85, ((IntKind.wrap .i64 a45), (a84, (x.2.2.2.1, x.2.2.2.2))))) (fun (a89 : (List Int)) => (some a89))) (some a85)) (some a85))))) (cond (decide (x.2.1 < s75.1)) (cond (decide (s75.1 < (IntKind.wrap .i64 a45))) (bindO (R_slices_symMergeCmpFunc_int n (x.1, (x.2.1, (s75.1, ((IntKind.wrap .i64 a45), x.2.2.2.2))))) (fun (a90 : (List Int)) => (cond (decide ((IntKind.wrap .i64 a45) < a84)) (cond (decide (a84 < x.2.2.2.1)) (bindO (R_slices_symMergeCmpFunc_int n (a90, ((IntKind.wrap .i64 a45), (a84, (x.2.2.2.1, x.2.2.2.2))))) (fun (a91 : (List Int)) => (some a91))) (some a90)) (some a90)))) (cond (decide ((IntKind.wrap .i64 a45) < a84)) (cond (decide (a84 < x.2.2.2.1)) (bindO (R_slices_symMergeCmpFunc_int n (x.1, ((IntKind.wrap .i64 a45), (a84, (x.2.2.2.1, x.2.2.2.2))))) (fun (a92 : (List Int)) => (some a92))) (some x.1)) (some x.1))) (cond (decide ((IntKind.wrap .i64 a45) < a84)) (cond (decide (a84 < x.2.2.2.1)) (bindO (R_slices_symMergeCmpFunc_int n (x.1, ((IntKind.wrap .i64 a45), (a84, (x.2.2.2.1, x.2.2.2.2))))) (fun (a93 : (List Int)) => (some a93))) (some x.1)) (some x.1)))) (cond (decide (x.2.1 < s75.1)) (cond (decide (s75.1 < (IntKind.wrap .i64 a45))) (bindO (R_slices_symMergeCmpFunc_int n (x.1, (x.2.1, (s75.1, ((IntKind.wrap .i64 a45), x.2.2.2.2))))) (fun (a94 : (List Int)) => (cond (decide ((IntKind.wrap .i64 a45) < a84)) (cond (decide (a84 < x.2.2.2.1)) (bindO (R_slices_symMergeCmpFunc_int n (a94, ((IntKind.wrap .i64 a45), (a84, (x.2.2.2.1, x.2.2.2.2))))) (fun (a95 : (List Int)) => (some a95))) (some a94)) (some a94)))) (cond (decide ((IntKind.wrap .i64 a45) < a84)) (cond (decide (a84 < x.2.2.2.1)) (bindO (R_slices_symMergeCmpFunc_int n (x.1, ((IntKind.wrap .i64 a45), (a84, (x.2.2.2.1, x.2.2.2.2))))) (fun (a96 : (List Int)) => (some a96))) (some x.1)) (some x.1))) (cond (decide ((IntKind.wrap .i64 a45) < a84)) (cond (decide (a84 < x.2.2.2.1)) (bindO (R_slices_symMergeCmpFunc_int n (x.1, ((IntKind.wrap .i64 a45), (a84, (x.2.2.2.1, x.2.2.2.2))))) (fun (a97 : (List Int)) => (some a97))) (some x.1)) (some x.1))))))))) (x.2.1, x.2.2.1)))))))))))))))))))

noncomputable def M_slices_symMergeCmpFunc_int (x : ((List Int) × (Int × (Int × (Int × ((Int × Int) → (Option Int))))))) : (Option (List Int)) := limO R_slices_symMergeCmpFunc_int x

noncomputable def c_slices_symMergeCmpFunc_int : Con0 := ⟨pk_slices_symMergeCmpFunc_int, rk_slices_symMergeCmpFunc_int, M_slices_symMergeCmpFunc_int⟩

set_option maxRecDepth 100000 in
theorem eq_slices_symMergeCmpFunc_int (n : Nat) (x : In pk_slices_symMergeCmpFunc_int) : semF (mkE ((165, ⟨pk_slices_symMergeCmpFunc_int, rk_slices_symMergeCmpFunc_int, R_slices_symMergeCmpFunc_int n⟩) :: [(177, c_slices_rotateCmpFunc_int)])) h_slices_symMergeCmpFunc_int (info Try.f165) pk_slices_symMergeCmpFunc_int rk_slices_symMergeCmpFunc_int x = R_slices_symMergeCmpFunc_int (n + 1) x := (semFF_eq _ _ _ _ _ _).symm.trans (by kernel_rfl)

set_option maxRecDepth 100000 in
theorem mR_slices_symMergeCmpFunc_int : ∀ n, ConOK Try.prog 165 ⟨pk_slices_symMergeCmpFunc_int, rk_slices_symMergeCmpFunc_int, R_slices_symMergeCmpFunc_int n⟩
  | 0 => conOK_none Try.func165 (h := h_slices_symMergeCmpFunc_int) (by kernel_rfl)
  | n + 1 => fn_ok (tyOK _) (E := mkE ((165, ⟨pk_slices_symMergeCmpFunc_int, rk_slices_symMergeCmpFunc_int, R_slices_symMergeCmpFunc_int n⟩) :: [(177, c_slices_rotateCmpFunc_int)])) (consOK_cons (mR_slices_symMergeCmpFunc_int n) (consOK_cons m_slices_rotateCmpFunc_int (consOK_nil rfl))) Try.func165 (h := h_slices_symMergeCmpFunc_int) (by kernel_rfl) (eq_slices_symMergeCmpFunc_int n)

theorem m_slices_symMergeCmpFunc_int : ConOK Try.prog 165 c_slices_symMergeCmpFunc_int := conOK_lim mR_slices_symMergeCmpFunc_int

/-- slices_stableCmpFunc_int -/
def pk_slices_stableCmpFunc_int : List PK := [.mv (.sl (.int .i64)), .data (.int .i64), .fn [(.int .i64), (.int .i64)] (.int .i64)]
def rk_slices_stableCmpFunc_int : List (Ty × Bool) := []
def h_slices_stableCmpFunc_int : Hints := { loops := [(0, { items := [.slot 7 (.data (.int .i64) []), .slot 8 (.data (.int .i64) []), .arr 0 (.int .i64) true], kill := [3, 4, 5, 9, 10, 11, 12, 13, 14, 15, 16, 17, 18, 19, 20, 21, 22, 23, 24, 25, 26, 27, 28, 29, 30, 31, 32, 33, 34, 35, 36, 37, 38, 39, 40, 41, 42, 43, 44, 45, 46, 47, 48, 49, 50, 51, 52, 53, 54, 55, 56, 57, 58, 59, 60, 61, 62] }), (2, { items := [.slot 6 (.data (.int .i64) []), .arr 0 (.int .i64) true], kill := [3, 4, 5, 7, 8, 9, 10, 11, 12, 13, 14, 15, 16, 17, 18, 19, 20, 21, 22, 23, 24, 25, 26, 27, 28, 29, 30, 31, 32, 33, 34, 35, 36, 37, 38, 39, 40, 41, 42, 43, 44, 45, 46, 47, 48, 49, 50, 51, 52, 53, 54, 55, 56, 57, 58, 59, 60, 61, 62] }), (4, { items := [.slot 7 (.data (.int .i64) []), .slot 8 (.data (.int .i64) []), .arr 0 (.int .i64) true], kill := [3, 4, 5, 9, 10, 11, 12, 13, 14, 15, 16, 17, 18, 19, 20, 21, 22, 23, 24, 25, 26, 27, 28, 29, 30, 31, 32, 33, 34, 35, 36, 37, 38, 39, 40, 41, 42, 43, 44, 45, 46, 47, 48, 49, 50, 51, 52, 53, 54, 55, 56, 57, 58, 59, 60, 61, 62] })] }
noncomputable def M_slices_stableCmpFunc_int (x : ((List Int) × (Int × ((Int × Int) → (Option Int))))) : (Option (List Int)) :=
  (loopO (fun (again0 : ((Int × (Int × (List Int))) → (Option (List Int)))) => (fun (s1 : (Int × (Int × (List Int)))) => (cond (decide (s1.2.1 ≤ x.2.1)) (bindO (M_slices_insertionSortCmpFunc_int (s1.2.2, (s1.1, (s1.2.1, x.2.2)))) (fun (a2 : (List Int)) => (bindO (some (IntKind.wrap .i64 (s1.2.1 + (20 : Int)))) (fun (a3 : Int) => (again0 (s1.2.1, (a3, a2))))))) (bindO (M_slices_insertionSortCmpFunc_int (s1.2.2, (s1.1, (x.2.1, x.2.2)))) (fun (a4 : (List Int)) => (loopO (fun (again5 : ((Int × (List Int)) → (Option (List Int)))) => (fun (s6 : (Int × (List Int))) => (cond (decide (s6.1 < x.2.1)) (bindO (some (IntKind.wrap .i64 ((2 : Int) * s6.1))) (fun (a7 : Int) => (loopO (fun (again8 : ((Int × (Int × (List Int))) → (Option (List Int)))) => (fun (s9 : (Int × (Int × (List Int)))) => (cond (decide (s9.2.1 ≤ x.2.1)) (bindO (some (IntKind.wrap .i64 (s9.1 + s6.1))) (fun (a10 : Int) => (bindO (M_slices_symMergeCmpFunc_int (s9.2.2, (s9.1, (a10, (s9.2.1, x.2.2))))) (fun (a11 : (List Int)) => (bindO (some (IntKind.wrap .i64 ((2 : Int) * s6.1))) (fun (a12 : Int) => (bindO (some (IntKind.wrap .i64 (s9.2.1 + a12))) (fun (a13 : Int) => (again8 (s9.2.1, (a13, a11))))))))))) (bindO (some (IntKind.wrap .i64 (s9.1 + s6.1))) (fun (a14 : Int) => (cond (decide (a14 < x.2.1)) (bindO (M_slices_symMergeCmpFunc_int (s9.2.2, (s9.1, (a14, (x.2.1, x.2.2))))) (fun (a15 : (List Int)) => (bindO (some (IntKind.wrap .i64 (s6.1 * (2 : Int)))) (fun (a16 : Int) => (again5 (a16, a15)))))) (bindO (some (IntKind.wrap .i64 (s6.1 * (2 : Int)))) (fun (a17 : Int) => (again5 (a17, s9.2.2)))))))))) ((0 : Int), (a7, s6.2))))) (some s6.2)))) ((20 : Int), a4))))))) ((0 : Int), ((20 : Int), x.1)))

noncomputable def c_slices_stableCmpFunc_int : Con0 := ⟨pk_slices_stableCmpFunc_int, rk_slices_stableCmpFunc_int, M_slices_stableCmpFunc_int⟩

set_option maxRecDepth 100000 in
theorem eq_slices_stableCmpFunc_int (x : In pk_slices_stableCmpFunc_int) : semF (mkE [(164, c_slices_insertionSortCmpFunc_int), (165, c_slices_symMergeCmpFunc_int)]) h_slices_stableCmpFunc_int (info Try.f118) pk_slices_stableCmpFunc_int rk_slices_stableCmpFunc_int x = M_slices_stableCmpFunc_int x := (semFF_eq _ _ _ _ _ _).symm.trans (by kernel_rfl)

set_option maxRecDepth 100000 in
theorem m_slices_stableCmpFunc_int : ConOK Try.prog 118 c_slices_stableCmpFunc_int := fn_ok (tyOK _) (E := mkE [(164, c_slices_insertionSortCmpFunc_int), (165, c_slices_symMergeCmpFunc_int)]) (consOK_cons m_slices_insertionSortCmpFunc_int (consOK_cons m_slices_symMergeCmpFunc_int (consOK_nil rfl))) Try.func118 (h := h_slices_stableCmpFunc_int) (by kernel_rfl) eq_slices_stableCmpFunc_int

/-- slices_SortStableFunc_sint_int -/
def pk_slices_SortStableFunc_sint_int : List PK := [.mv (.sl (.int .i64)), .fn [(.int .i64), (.int .i64)] (.int .i64)]
def rk_slices_SortStableFunc_sint_int : List (Ty × Bool) := []
def h_slices_SortStableFunc_sint_int : Hints := { loops := [] }
noncomputable def M_slices_SortStableFunc_sint_int (x : ((List Int) × ((Int × Int) → (Option Int)))) : (Option (List Int)) :=
  (bindO (M_slices_stableCmpFunc_int (x.1, ((((List.length x.1) : Nat) : Int), x.2))) (fun (a0 : (List Int)) => (some a0)))

noncomputable def c_slices_SortStableFunc_sint_int : Con0 := ⟨pk_slices_SortStableFunc_sint_int, rk_slices_SortStableFunc_sint_int, M_slices_SortStableFunc_sint_int⟩

set_option maxRecDepth 100000 in
theorem eq_slices_SortStableFunc_sint_int (x : In pk_slices_SortStableFunc_sint_int) : semF (mkE [(118, c_slices_stableCmpFunc_int)]) h_slices_SortStableFunc_sint_int (info Try.f65) pk_slices_SortStableFunc_sint_int rk_slices_SortStableFunc_sint_int x = M_slices_SortStableFunc_sint_int x := (semFF_eq _ _ _ _ _ _).symm.trans (by kernel_rfl)

set_option maxRecDepth 100000 in
theorem m_slices_SortStableFunc_sint_int : ConOK Try.prog 65 c_slices_SortStableFunc_sint_int := fn_ok (tyOK _) (E := mkE [(118, c_slices_stableCmpFunc_int)]) (consOK_cons m_slices_stableCmpFunc_int (consOK_nil rfl)) Try.func65 (h := h_slices_SortStableFunc_sint_int) (by kernel_rfl) eq_slices_SortStableFunc_sint_int

/-- slices_Clone_sint_int -/
def pk_slices_Clone_sint_int : List PK := [.data (.sl (.int .i64))]
def rk_slices_Clone_sint_int : List (Ty × Bool) := [((.sl (.int .i64)), true)]
def h_slices_Clone_sint_int : Hints := { loops := [] }
noncomputable def M_slices_Clone_sint_int (x : (List Int)) : (Option (List Int)) :=
  (cond (List.isEmpty x) (ambO (some ([] : List Int)) (cond (not true) (some ([] : List Int)) (bindO (guardO (lenOk ((List.length ([] : List Int)) + (List.length x)))) (fun (a0 : Unit) => (bindO (some (([] : List Int) ++ x)) (fun (a1 : (List Int)) => (some a1))))))) (cond (not true) (some ([] : List Int)) (bindO (guardO (lenOk ((List.length ([] : List Int)) + (List.length x)))) (fun (a2 : Unit) => (bindO (some (([] : List Int) ++ x)) (fun (a3 : (List Int)) => (some a3)))))))

noncomputable def c_slices_Clone_sint_int : Con0 := ⟨pk_slices_Clone_sint_int, rk_slices_Clone_sint_int, M_slices_Clone_sint_int⟩

set_option maxRecDepth 100000 in
theorem eq_slices_Clone_sint_int (x : In pk_slices_Clone_sint_int) : semF (mkE []) h_slices_Clone_sint_int (info Try.f68) pk_slices_Clone_sint_int rk_slices_Clone_sint_int x = M_slices_Clone_sint_int x := (semFF_eq _ _ _ _ _ _).symm.trans (by kernel_rfl)

set_option maxRecDepth 100000 in
theorem m_slices_Clone_sint_int : ConOK Try.prog 68 c_slices_Clone_sint_int := fn_ok (tyOK _) (E := mkE []) (consOK_nil rfl) Try.func68 (h := h_slices_Clone_sint_int) (by kernel_rfl) eq_slices_Clone_sint_int

/-- cmp_isNaN_int -/
def pk_cmp_isNaN_int : List PK := [.data (.int .i64)]
def rk_cmp_isNaN_int : List (Ty × Bool) := [(.bool, false)]
def h_cmp_isNaN_int : Hints := { loops := [] }
noncomputable def M_cmp_isNaN_int (x : Int) : (Option Bool) :=
  (some (x != x))

noncomputable def c_cmp_isNaN_int : Con0 := ⟨pk_cmp_isNaN_int, rk_cmp_isNaN_int, M_cmp_isNaN_int⟩

set_option maxRecDepth 100000 in
theorem eq_cmp_isNaN_int (x : In pk_cmp_isNaN_int) : semF (mkE []) h_cmp_isNaN_int (info Try.f119) pk_cmp_isNaN_int rk_cmp_isNaN_int x = M_cmp_isNaN_int x := (semFF_eq _ _ _ _ _ _).symm.trans (by kernel_rfl)

set_option maxRecDepth 100000 in
theorem m_cmp_isNaN_int : ConOK Try.prog 119 c_cmp_isNaN_int := fn_ok (tyOK _) (E := mkE []) (consOK_nil rfl) Try.func119 (h := h_cmp_isNaN_int) (by kernel_rfl) eq_cmp_isNaN_int

/-- cmp_Compare_int -/
def pk_cmp_Compare_int : List PK := [.data (.int .i64), .data (.int .i64)]
def rk_cmp_Compare_int : List (Ty × Bool) := [((.int .i64), false)]
def h_cmp_Compare_int : Hints := { loops := [] }
noncomputable def M_cmp_Compare_int (x : (Int × Int)) : (Option Int) :=
  (bindO (M_cmp_isNaN_int x.1) (fun (a0 : Bool) => (bindO (M_cmp_isNaN_int x.2) (fun (a1 : Bool) => (cond a0 (cond a1 (some (0 : Int)) (some (- (1 : Int)))) (cond a1 (some (1 : Int)) (cond (decide (x.1 < x.2)) (some (- (1 : Int))) (cond (decide (x.1 > x.2)) (some (1 : Int)) (some (0 : Int))))))))))

noncomputable def c_cmp_Compare_int : Con0 := ⟨pk_cmp_Compare_int, rk_cmp_Compare_int, M_cmp_Compare_int⟩

set_option maxRecDepth 100000 in
theorem eq_cmp_Compare_int (x : In pk_cmp_Compare_int) : semF (mkE [(119, c_cmp_isNaN_int)]) h_cmp_Compare_int (info Try.f67) pk_cmp_Compare_int rk_cmp_Compare_int x = M_cmp_Compare_int x := (semFF_eq _ _ _ _ _ _).symm.trans (by kernel_rfl)

set_option maxRecDepth 100000 in
theorem m_cmp_Compare_int : ConOK Try.prog 67 c_cmp_Compare_int := fn_ok (tyOK _) (E := mkE [(119, c_cmp_isNaN_int)]) (consOK_cons m_cmp_isNaN_int (consOK_nil rfl)) Try.func67 (h := h_cmp_Compare_int) (by kernel_rfl) eq_cmp_Compare_int

/-- I_TopOptions_1 -/
def pk_I_TopOptions_1 : List PK := [.data (.int .i64), .data (.int .i64), .rp (.sl (.int .i64))]
def rk_I_TopOptions_1 : List (Ty × Bool) := [((.int .i64), false)]
def h_I_TopOptions_1 : Hints := { loops := [] }
noncomputable def M_I_TopOptions_1 (x : (Int × (Int × (List Int)))) : (Option Int) :=
  (bindO (getI x.2.2 x.2.1) (fun (a0 : Int) => (bindO (getI x.2.2 x.1) (fun (a1 : Int) => (bindO (M_cmp_Compare_int (a0, a1)) (fun (a2 : Int) => (some a2)))))))

noncomputable def c_I_TopOptions_1 : Con0 := ⟨pk_I_TopOptions_1, rk_I_TopOptions_1, M_I_TopOptions_1⟩

set_option maxRecDepth 100000 in
theorem eq_I_TopOptions_1 (x : In pk_I_TopOptions_1) : semF (mkE [(67, c_cmp_Compare_int)]) h_I_TopOptions_1 (info Try.f66) pk_I_TopOptions_1 rk_I_TopOptions_1 x = M_I_TopOptions_1 x := (semFF_eq _ _ _ _ _ _).symm.trans (by kernel_rfl)

set_option maxRecDepth 100000 in
theorem m_I_TopOptions_1 : ConOK Try.prog 66 c_I_TopOptions_1 := fn_ok (tyOK _) (E := mkE [(67, c_cmp_Compare_int)]) (consOK_cons m_cmp_Compare_int (consOK_nil rfl)) Try.func66 (h := h_I_TopOptions_1) (by kernel_rfl) eq_I_TopOptions_1

/-- I_TopOptions -/
def pk_I_TopOptions : List PK := [.data (.sl (.int .i64)), .data (.int .i64)]
def rk_I_TopOptions : List (Ty × Bool) := [((.sl (.int .i64)), true), (.bool, false)]
def h_I_TopOptions : Hints := { loops := [(0, { items := [.slot 6 (.own (.int .i64) true), .slot 21 (.data (.int .i64) [])], kill := [0, 3, 4, 5, 7, 8, 9, 10, 11, 12, 13, 14, 15, 16, 17, 18, 19, 22, 23, 24, 25, 26, 27, 28, 29, 30, 31, 32, 33, 34, 35] })] }
noncomputable def M_I_TopOptions (x : ((List Int) × Int)) : (Option ((List Int) × Bool)) :=
  (bindO (M_I_areCounts x.1) (fun (a0 : Bool) => (cond (not a0) (some (([] : List Int), false)) (bindO (M_I_within (x.2, ((1 : Int), (((List.length x.1) : Nat) : Int)))) (fun (a1 : Bool) => (cond (not a1) (some (([] : List Int), false)) (loopO (fun (again2 : (((List Int) × Int) → (Option ((List Int) × Bool)))) => (fun (s3 : ((List Int) × Int)) => (cond (decide (s3.2 < (((List.length x.1) : Nat) : Int))) (bindO (guardO (lenOk ((List.length s3.1) + (List.length (s3.2 :: ([] : List Int)))))) (fun (a4 : Unit) => (bindO (some (s3.1 ++ (s3.2 :: ([] : List Int)))) (fun (a5 : (List Int)) => (bindO (some (IntKind.wrap .i64 (s3.2 + (1 : Int)))) (fun (a6 : Int) => (again2 (a5, a6)))))))) (bindO (M_slices_SortStableFunc_sint_int (s3.1, (fun (a7 : (Int × Int)) => (bindO (M_I_TopOptions_1 (a7.1, (a7.2, x.1))) (fun (a8 : Int) => (some a8)))))) (fun (a9 : (List Int)) => (bindO (sliceNH x.2 (List.length a9)) (fun (a10 : (Nat × Nat)) => (bindO (M_slices_Clone_sint_int (List.take a10.2 a9)) (fun (a11 : (List Int)) => (some (a11, true))))))))))) (([] : List Int), (0 : Int)))))))))

noncomputable def c_I_TopOptions : Con0 := ⟨pk_I_TopOptions, rk_I_TopOptions, M_I_TopOptions⟩

set_option maxRecDepth 100000 in
theorem eq_I_TopOptions (x : In pk_I_TopOptions) : semF (mkE [(63, c_I_areCounts), (64, c_I_within), (65, c_slices_SortStableFunc_sint_int), (68, c_slices_Clone_sint_int), (66, c_I_TopOptions_1)]) h_I_TopOptions (info Try.f11) pk_I_TopOptions rk_I_TopOptions x = M_I_TopOptions x := (semFF_eq _ _ _ _ _ _).symm.trans (by kernel_rfl)

set_option maxRecDepth 100000 in
theorem m_I_TopOptions : ConOK Try.prog 11 c_I_TopOptions := fn_ok (tyOK _) (E := mkE [(63, c_I_areCounts), (64, c_I_within), (65, c_slices_SortStableFunc_sint_int), (68, c_slices_Clone_sint_int), (66, c_I_TopOptions_1)]) (consOK_cons m_I_areCounts (consOK_cons m_I_within (consOK_cons m_slices_SortStableFunc_sint_int (consOK_cons m_slices_Clone_sint_int (consOK_cons m_I_TopOptions_1 (consOK_nil rfl)))))) Try.func11 (h := h_I_TopOptions) (by kernel_rfl) eq_I_TopOptions

/-- L_eqIntS -/
def pk_L_eqIntS : List PK := [.data (.sl (.int .i64)), .data (.sl (.int .i64))]
def rk_L_eqIntS : List (Ty × Bool) := [(.bool, false)]
def h_L_eqIntS : Hints := { loops := [(0, { items := [.slot 5 (.data (.int .i64) [])], kill := [2, 3, 4, 6, 7, 8, 9, 10, 11, 12, 13, 14, 15, 16, 17, 18, 19, 20, 21, 22, 23, 24, 25] })] }
noncomputable def M_L_eqIntS (x : ((List Int) × (List Int))) : (Option Bool) :=
  (cond ((((List.length x.1) : Nat) : Int) != (((List.length x.2) : Nat) : Int)) (some false) (loopO (fun (again0 : (Int → (Option Bool))) => (fun (s1 : Int) => (cond (decide (s1 < (((List.length x.1) : Nat) : Int))) (bindO (getI x.1 s1) (fun (a2 : Int) => (bindO (getI x.2 s1) (fun (a3 : Int) => (cond (a2 != a3) (some false) (bindO (some (IntKind.wrap .i64 (s1 + (1 : Int)))) (fun (a4 : Int) => (again0 a4)))))))) (some true)))) (0 : Int)))

noncomputable def c_L_eqIntS : Con0 := ⟨pk_L_eqIntS, rk_L_eqIntS, M_L_eqIntS⟩

set_option maxRecDepth 100000 in
theorem eq_L_eqIntS (x : In pk_L_eqIntS) : semF (mkE []) h_L_eqIntS (info Try.f12) pk_L_eqIntS rk_L_eqIntS x = M_L_eqIntS x := (semFF_eq _ _ _ _ _ _).symm.trans (by kernel_rfl)

set_option maxRecDepth 100000 in
theorem m_L_eqIntS : ConOK Try.prog 12 c_L_eqIntS := fn_ok (tyOK _) (E := mkE []) (consOK_nil rfl) Try.func12 (h := h_L_eqIntS) (by kernel_rfl) eq_L_eqIntS

/-- L_markIntS -/
def pk_L_markIntS : List PK := [.mv (.sl (.int .i64)), .data (.int .i64)]
def rk_L_markIntS : List (Ty × Bool) := [((.int .i64), false)]
def h_L_markIntS : Hints := { loops := [(0, { items := [.slot 1 (.data (.int .i64) []), .slot 5 (.data (.int .i64) []), .arr 0 (.int .i64) true], kill := [2, 3, 4, 6, 7, 8, 9, 10, 11, 12, 13, 14, 15, 16, 17, 18] })] }
noncomputable def M_L_markIntS (x : ((List Int) × Int)) : (Option (Int × (List Int))) :=
  (loopO (fun (again0 : ((Int × (Int × (List Int))) → (Option (Int × (List Int))))) => (fun (s1 : (Int × (Int × (List Int)))) => (cond (decide (s1.2.1 < (((List.length s1.2.2) : Nat) : Int))) (bindO (getI s1.2.2 s1.2.1) (fun (a2 : Int) => (bindO (some (List.set s1.2.2 (Int.toNat s1.2.1) s1.1)) (fun (a3 : (List Int)) => (bindO (some (IntKind.wrap .i64 (s1.1 + (1 : Int)))) (fun (a4 : Int) => (bindO (some (IntKind.wrap .i64 (s1.2.1 + (1 : Int)))) (fun (a5 : Int) => (again0 (a4, (a5, a3))))))))))) (some (s1.1, s1.2.2))))) (x.2, ((0 : Int), x.1)))

noncomputable def c_L_markIntS : Con0 := ⟨pk_L_markIntS, rk_L_markIntS, M_L_markIntS⟩

set_option maxRecDepth 100000 in
theorem eq_L_markIntS (x : In pk_L_markIntS) : semF (mkE []) h_L_markIntS (info Try.f13) pk_L_markIntS rk_L_markIntS x = M_L_markIntS x := (semFF_eq _ _ _ _ _ _).symm.trans (by kernel_rfl)

set_option maxRecDepth 100000 in
theorem m_L_markIntS : ConOK Try.prog 13 c_L_markIntS := fn_ok (tyOK _) (E := mkE []) (consOK_nil rfl) Try.func13 (h := h_L_markIntS) (by kernel_rfl) eq_L_markIntS

/-- L_heldIntS -/
def pk_L_heldIntS : List PK := [.data (.sl (.int .i64)), .data (.int .i64)]
def rk_L_heldIntS : List (Ty × Bool) := [((.int .i64), false)]
def h_L_heldIntS : Hints := { loops := [(0, { items := [.slot 1 (.data (.int .i64) []), .slot 5 (.data (.int .i64) [])], kill := [2, 3, 4, 6, 7, 8, 9, 10, 11, 12, 13, 14, 15, 16, 17, 18, 19, 20] })] }
noncomputable def M_L_heldIntS (x : ((List Int) × Int)) : (Option Int) :=
  (loopO (fun (again0 : ((Int × Int) → (Option Int))) => (fun (s1 : (Int × Int)) => (cond (decide (s1.2 < (((List.length x.1) : Nat) : Int))) (bindO (getI x.1 s1.2) (fun (a2 : Int) => (cond (a2 != s1.1) (some (- (1 : Int))) (bindO (some (IntKind.wrap .i64 (s1.1 + (1 : Int)))) (fun (a3 : Int) => (bindO (some (IntKind.wrap .i64 (s1.2 + (1 : Int)))) (fun (a4 : Int) => (again0 (a3, a4))))))))) (some s1.1)))) (x.2, (0 : Int)))

noncomputable def c_L_heldIntS : Con0 := ⟨pk_L_heldIntS, rk_L_heldIntS, M_L_heldIntS⟩

set_option maxRecDepth 100000 in
theorem eq_L_heldIntS (x : In pk_L_heldIntS) : semF (mkE []) h_L_heldIntS (info Try.f14) pk_L_heldIntS rk_L_heldIntS x = M_L_heldIntS x := (semFF_eq _ _ _ _ _ _).symm.trans (by kernel_rfl)

set_option maxRecDepth 100000 in
theorem m_L_heldIntS : ConOK Try.prog 14 c_L_heldIntS := fn_ok (tyOK _) (E := mkE []) (consOK_nil rfl) Try.func14 (h := h_L_heldIntS) (by kernel_rfl) eq_L_heldIntS

/-- L_FnExactTopOptions -/
def pk_L_FnExactTopOptions : List PK := [.data (.sl (.int .i64)), .data (.int .i64)]
def rk_L_FnExactTopOptions : List (Ty × Bool) := [(.bool, false)]
def h_L_FnExactTopOptions : Hints := { loops := [] }
noncomputable def M_L_FnExactTopOptions (x : ((List Int) × Int)) : (Option Bool) :=
  (cond (decide ((((List.length x.1) : Nat) : Int) > (1048576 : Int))) (some true) (bindO (M_L_toIntS x.1) (fun (a0 : (List Int)) => (bindO (M_S_TopOptions (a0, x.2)) (fun (a1 : ((List Int) × Bool)) => (bindO (M_L_toIntS x.1) (fun (a2 : (List Int)) => (bindO (M_I_TopOptions (a2, x.2)) (fun (a3 : ((List Int) × Bool)) => (bindO (M_L_eqIntS (a3.1, a1.1)) (fun (a4 : Bool) => (cond (not a4) (some false) (cond (not (a3.2 == a1.2)) (some false) (bindO (M_L_toIntS x.1) (fun (a5 : (List Int)) => (bindO (M_L_eqIntS (a2, a5)) (fun (a6 : Bool) => (cond (not a6) (some false) (bindO (M_L_markIntS (a2, (1 : Int))) (fun (a7 : (Int × (List Int))) => (cond (decide (a7.1 < (0 : Int))) (some false) (bindO (M_L_eqIntS (a3.1, a1.1)) (fun (a8 : Bool) => (cond (not a8) (some false) (cond (not (a3.2 == a1.2)) (some false) (bindO (M_L_markIntS (a3.1, (1 : Int))) (fun (a9 : (Int × (List Int))) => (bindO (M_L_heldIntS (a9.2, (1 : Int))) (fun (a10 : Int) => (cond (decide (a10 < (0 : Int))) (some false) (cond (a10 != a9.1) (some false) (bindO (M_L_toIntS x.1) (fun (a11 : (List Int)) => (bindO (M_I_TopOptions (a11, x.2)) (fun (a12 : ((List Int) × Bool)) => (bindO (M_L_eqIntS (a12.1, a1.1)) (fun (a13 : Bool) => (cond (not a13) (some false) (cond (not (a12.2 == a1.2)) (some false) (bindO (M_L_heldIntS (a9.2, (1 : Int))) (fun (a14 : Int) => (cond (decide (a14 < (0 : Int))) (some false) (cond (a14 != a9.1) (some false) (some true))))))))))))))))))))))))))))))))))))))))))))

noncomputable def c_L_FnExactTopOptions : Con0 := ⟨pk_L_FnExactTopOptions, rk_L_FnExactTopOptions, M_L_FnExactTopOptions⟩

set_option maxRecDepth 100000 in
theorem eq_L_FnExactTopOptions (x : In pk_L_FnExactTopOptions) : semF (mkE [(10, c_L_toIntS), (9, c_S_TopOptions), (11, c_I_TopOptions), (12, c_L_eqIntS), (13, c_L_markIntS), (14, c_L_heldIntS)]) h_L_FnExactTopOptions (info Try.f3) pk_L_FnExactTopOptions rk_L_FnExactTopOptions x = M_L_FnExactTopOptions x := (semFF_eq _ _ _ _ _ _).symm.trans (by kernel_rfl)

set_option maxRecDepth 100000 in
theorem m_L_FnExactTopOptions : ConOK Try.prog 3 c_L_FnExactTopOptions := fn_ok (tyOK _) (E := mkE [(10, c_L_toIntS), (9, c_S_TopOptions), (11, c_I_TopOptions), (12, c_L_eqIntS), (13, c_L_markIntS), (14, c_L_heldIntS)]) (consOK_cons m_L_toIntS (consOK_cons m_S_TopOptions (consOK_cons m_I_TopOptions (consOK_cons m_L_eqIntS (consOK_cons m_L_markIntS (consOK_cons m_L_heldIntS (consOK_nil rfl))))))) Try.func3 (h := h_L_FnExactTopOptions) (by kernel_rfl) eq_L_FnExactTopOptions

end Go.Proofs.Ytgjneigkkgaaiaa.Vd
