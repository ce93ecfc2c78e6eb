/- The functions of the law as plain functions on data, and that the program's functions are these. No conditions. -/
import Derived.Test.YtlacogoljcpijaaVd3
import Derived.Test.YtlacogoljcpijaaChecked
import Derived.KernelRfl
set_option linter.unusedVariables false
namespace Go.Proofs.Ytlacogoljcpijaa.Vd
def tys : List (Option Ty) := [none, none, some (.int .i64), some (.int .i64), some .bool, some (.int .u8), some (.int .u8), some (.cons (.int .i64) (.cons (.int .i64) (.cons .bool (.one (.int .u8))))), some (.cons (.int .i64) (.cons (.int .i64) (.cons .bool (.one (.int .u8))))), some .str, some .str, some .str, some (.int .u64), some (.cons .str (.one (.int .u64))), some (.cons .str (.one (.int .u64))), none, none, none, none, none, none, some (.int .i32), none, none, none, some (.sl (.int .i64)), none, none, none, none, none, none, some (.cons (.int .i64) (.cons (.int .i64) (.one (.int .i64)))), some (.cons (.int .i64) (.cons (.int .i64) (.one (.int .i64)))), none, some (.cons (.int .i64) (.cons (.int .i64) (.one (.int .i64)))), none, none, none, none, none, none, none, none, none, none, none, some (.cons (.int .i64) (.one (.int .i64))), some (.cons (.int .i64) (.one (.int .i64))), some (.cons (.int .i64) (.one (.int .i64))), none, none, none, none, none, none, none, none, none, none, none, none, none, none, none, none, none, none, none, none, none, none, none, none, none, none, none, none, none, none, none, none, some (.sl (.cons (.int .i64) (.one (.int .i64)))), none, some (.int .u64), none, none, none, some (.cons (.int .i64) (.one (.int .i64))), some (.cons (.int .i64) (.one (.int .i64))), none, none, none, none, none, none, none, none, some (.int .u32), some (.int .u8), some (.int .u8), none, none, some (.int .i32), some (.int .i32), none, none, none]
def others : List Nat := [1, 15, 16, 17, 23, 24, 27, 28, 29, 30, 31, 34, 36, 37, 38, 39, 40, 41, 42, 43, 44, 45, 46, 51, 52, 53, 54, 56, 57, 58, 59, 60, 61, 62, 63, 64, 65, 66, 68, 69, 70, 71, 72, 73, 74, 75, 76, 77, 78, 79, 80, 81, 83, 85, 86, 87, 90, 91, 97, 101, 102]
def pairs : List Nat := [47, 48, 49, 88, 89]
noncomputable def mkE (con : List (Nat × Con0)) : Env := ⟨[], tys, others, pairs, con⟩

set_option maxRecDepth 100000 in
theorem tyOK (con : List (Nat × Con0)) : TyOK Try.prog (mkE con) := tyOK_of (E := mkE con) (by kernel_rfl) (by kernel_rfl) (by kernel_rfl)

/-- L_toIntS -/
def pk_L_toIntS : List PK := [.data (.sl (.int .i64))]
def rk_L_toIntS : List (Ty × Bool) := [((.sl (.int .i64)), true)]
def h_L_toIntS : Hints := { loops := [(0, { items := [.slot 4 (.data (.int .i64) []), .arr 3 (.int .i64) true], kill := [1, 2, 5, 6, 7, 8, 9, 10, 11, 12, 13, 14, 15, 16, 17, 18, 19, 20, 21] })] }
noncomputable def M_L_toIntS (x : (List Int)) : (Option (List Int)) :=
  (bindO (guardO (((decide ((0 : Int) ≤ (((List.length x) : Nat) : Int))) && (decide ((((List.length x) : Nat) : Int) ≤ (((List.length x) : Nat) : Int)))) && (decide ((((List.length x) : Nat) : Int) ≤ ((lim : Nat) : Int))))) (fun (a0 : Unit) => (loopO (fun (again1 : ((Int × (List Int)) → (Option (List Int)))) => (fun (s2 : (Int × (List Int))) => (cond (decide (s2.1 < (((List.length x) : Nat) : Int))) (bindO (getI x s2.1) (fun (a3 : Int) => (bindO (getI s2.2 s2.1) (fun (a4 : Int) => (bindO (some (List.set s2.2 (Int.toNat s2.1) a3)) (fun (a5 : (List Int)) => (bindO (some (IntKind.wrap .i64 (s2.1 + (1 : Int)))) (fun (a6 : Int) => (again1 (a6, a5)))))))))) (some s2.2)))) ((0 : Int), (List.replicate (Int.toNat (((List.length x) : Nat) : Int)) (0 : Int))))))

noncomputable def c_L_toIntS : Con0 := ⟨pk_L_toIntS, rk_L_toIntS, M_L_toIntS⟩

set_option maxRecDepth 100000 in
theorem eq_L_toIntS (x : In pk_L_toIntS) : semF (mkE []) h_L_toIntS (info Try.f17) pk_L_toIntS rk_L_toIntS x = M_L_toIntS x := by kernel_rfl

set_option maxRecDepth 100000 in
theorem m_L_toIntS : ConOK Try.prog 17 c_L_toIntS := fn_ok (tyOK _) (E := mkE []) (consOK_nil rfl) Try.func17 (h := h_L_toIntS) (by kernel_rfl) eq_L_toIntS

/-- S_l1Has -/
def pk_S_l1Has : List PK := [.data (.sl (.int .i64)), .data (.int .i64)]
def rk_S_l1Has : List (Ty × Bool) := [(.bool, false)]
def h_S_l1Has : Hints := { loops := [(0, { items := [.slot 9 (.data (.int .i64) [])], kill := [0, 2, 3, 4, 5, 6, 10, 11, 12, 13, 14, 15, 16] })] }
noncomputable def M_S_l1Has (x : ((List Int) × Int)) : (Option Bool) :=
  (loopO (fun (again0 : (Int → (Option Bool))) => (fun (s1 : Int) => (cond (decide (s1 < (((List.length x.1) : Nat) : Int))) (bindO (getI x.1 s1) (fun (a2 : Int) => (cond (a2 == x.2) (some true) (bindO (some (IntKind.wrap .i64 (s1 + (1 : Int)))) (fun (a3 : Int) => (again0 a3)))))) (some false)))) (0 : Int))

noncomputable def c_S_l1Has : Con0 := ⟨pk_S_l1Has, rk_S_l1Has, M_S_l1Has⟩

set_option maxRecDepth 100000 in
theorem eq_S_l1Has (x : In pk_S_l1Has) : semF (mkE []) h_S_l1Has (info Try.f47) pk_S_l1Has rk_S_l1Has x = M_S_l1Has x := by kernel_rfl

set_option maxRecDepth 100000 in
theorem m_S_l1Has : ConOK Try.prog 47 c_S_l1Has := fn_ok (tyOK _) (E := mkE []) (consOK_nil rfl) Try.func47 (h := h_S_l1Has) (by kernel_rfl) eq_S_l1Has

/-- S_LastOfEach -/
def pk_S_LastOfEach : List PK := [.data (.sl (.int .i64))]
def rk_S_LastOfEach : List (Ty × Bool) := [((.sl (.int .i64)), true), (.bool, false)]
def h_S_LastOfEach : Hints := { loops := [(0, { items := [.slot 4 (.own (.int .i64) true), .slot 12 (.data (.int .i64) [])], kill := [1, 2, 3, 5, 6, 7, 8, 9, 13, 14, 15, 16, 17, 18, 19, 20, 21, 22, 23, 24, 25, 26, 27, 28, 29] })] }
noncomputable def M_S_LastOfEach (x : (List Int)) : (Option ((List Int) × Bool)) :=
  (cond (decide ((((List.length x) : Nat) : Int) > (24 : Int))) (some (([] : List Int), false)) (loopO (fun (again0 : (((List Int) × Int) → (Option ((List Int) × Bool)))) => (fun (s1 : ((List Int) × Int)) => (cond (decide (s1.2 < (((List.length x) : Nat) : Int))) (bindO (getI x s1.2) (fun (a2 : Int) => (bindO (some (IntKind.wrap .i64 (s1.2 + (1 : Int)))) (fun (a3 : Int) => (bindO (sliceLN a3 (List.length x)) (fun (a4 : (Nat × Nat)) => (bindO (M_S_l1Has ((List.drop a4.1 (List.take a4.2 x)), a2)) (fun (a5 : Bool) => (cond (not a5) (bindO (guardO (lenOk ((List.length s1.1) + (List.length (s1.2 :: ([] : List Int)))))) (fun (a6 : Unit) => (bindO (some (s1.1 ++ (s1.2 :: ([] : List Int)))) (fun (a7 : (List Int)) => (bindO (some (IntKind.wrap .i64 (s1.2 + (1 : Int)))) (fun (a8 : Int) => (again0 (a7, a8)))))))) (bindO (some (IntKind.wrap .i64 (s1.2 + (1 : Int)))) (fun (a9 : Int) => (again0 (s1.1, a9))))))))))))) (some (s1.1, true))))) (([] : List Int), (0 : Int))))

noncomputable def c_S_LastOfEach : Con0 := ⟨pk_S_LastOfEach, rk_S_LastOfEach, M_S_LastOfEach⟩

set_option maxRecDepth 100000 in
theorem eq_S_LastOfEach (x : In pk_S_LastOfEach) : semF (mkE [(47, c_S_l1Has)]) h_S_LastOfEach (info Try.f16) pk_S_LastOfEach rk_S_LastOfEach x = M_S_LastOfEach x := by kernel_rfl

set_option maxRecDepth 100000 in
theorem m_S_LastOfEach : ConOK Try.prog 16 c_S_LastOfEach := fn_ok (tyOK _) (E := mkE [(47, c_S_l1Has)]) (consOK_cons m_S_l1Has (consOK_nil rfl)) Try.func16 (h := h_S_LastOfEach) (by kernel_rfl) eq_S_LastOfEach

/-- slices_Index_sint_int -/
def pk_slices_Index_sint_int : List PK := [.data (.sl (.int .i64)), .data (.int .i64)]
def rk_slices_Index_sint_int : List (Ty × Bool) := [((.int .i64), false)]
def h_slices_Index_sint_int : Hints := { loops := [(0, { items := [.slot 8 (.data (.int .i64) [])], kill := [2, 3, 4, 5, 6, 9, 10, 11, 12, 13, 14, 15, 16, 17, 18] })] }
noncomputable def M_slices_Index_sint_int (x : ((List Int) × Int)) : (Option Int) :=
  (loopO (fun (again0 : (Int → (Option Int))) => (fun (s1 : Int) => (cond (decide (s1 < (((List.length x.1) : Nat) : Int))) (bindO (getI x.1 s1) (fun (a2 : Int) => (cond (x.2 == a2) (some s1) (bindO (some (IntKind.wrap .i64 (s1 + (1 : Int)))) (fun (a3 : Int) => (again0 a3)))))) (some (- (1 : Int)))))) (0 : Int))

noncomputable def c_slices_Index_sint_int : Con0 := ⟨pk_slices_Index_sint_int, rk_slices_Index_sint_int, M_slices_Index_sint_int⟩

set_option maxRecDepth 100000 in
theorem eq_slices_Index_sint_int (x : In pk_slices_Index_sint_int) : semF (mkE []) h_slices_Index_sint_int (info Try.f81) pk_slices_Index_sint_int rk_slices_Index_sint_int x = M_slices_Index_sint_int x := by kernel_rfl

set_option maxRecDepth 100000 in
theorem m_slices_Index_sint_int : ConOK Try.prog 81 c_slices_Index_sint_int := fn_ok (tyOK _) (E := mkE []) (consOK_nil rfl) Try.func81 (h := h_slices_Index_sint_int) (by kernel_rfl) eq_slices_Index_sint_int

/-- slices_Contains_sint_int -/
def pk_slices_Contains_sint_int : List PK := [.data (.sl (.int .i64)), .data (.int .i64)]
def rk_slices_Contains_sint_int : List (Ty × Bool) := [(.bool, false)]
def h_slices_Contains_sint_int : Hints := { loops := [] }
noncomputable def M_slices_Contains_sint_int (x : ((List Int) × Int)) : (Option Bool) :=
  (bindO (M_slices_Index_sint_int (x.1, x.2)) (fun (a0 : Int) => (some (decide (a0 ≥ (0 : Int))))))

noncomputable def c_slices_Contains_sint_int : Con0 := ⟨pk_slices_Contains_sint_int, rk_slices_Contains_sint_int, M_slices_Contains_sint_int⟩

set_option maxRecDepth 100000 in
theorem eq_slices_Contains_sint_int (x : In pk_slices_Contains_sint_int) : semF (mkE [(81, c_slices_Index_sint_int)]) h_slices_Contains_sint_int (info Try.f48) pk_slices_Contains_sint_int rk_slices_Contains_sint_int x = M_slices_Contains_sint_int x := by kernel_rfl

set_option maxRecDepth 100000 in
theorem m_slices_Contains_sint_int : ConOK Try.prog 48 c_slices_Contains_sint_int := fn_ok (tyOK _) (E := mkE [(81, c_slices_Index_sint_int)]) (consOK_cons m_slices_Index_sint_int (consOK_nil rfl)) Try.func48 (h := h_slices_Contains_sint_int) (by kernel_rfl) eq_slices_Contains_sint_int

/-- I_LastOfEach -/
def pk_I_LastOfEach : List PK := [.data (.sl (.int .i64))]
def rk_I_LastOfEach : List (Ty × Bool) := [((.sl (.int .i64)), true), (.bool, false)]
def h_I_LastOfEach : Hints := { loops := [(0, { items := [.slot 4 (.own (.int .i64) true), .slot 13 (.data (.int .i64) [])], kill := [1, 2, 3, 5, 6, 7, 8, 9, 10, 14, 15, 16, 17, 18, 19, 20, 21, 22, 23, 24, 25, 26, 27, 28, 29, 30] })] }
noncomputable def M_I_LastOfEach (x : (List Int)) : (Option ((List Int) × Bool)) :=
  (cond (decide ((((List.length x) : Nat) : Int) > (24 : Int))) (some (([] : List Int), false)) (loopO (fun (again0 : (((List Int) × Int) → (Option ((List Int) × Bool)))) => (fun (s1 : ((List Int) × Int)) => (cond (decide (s1.2 < (((List.length x) : Nat) : Int))) (bindO (getI x s1.2) (fun (a2 : Int) => (bindO (some (IntKind.wrap .i64 (s1.2 + (1 : Int)))) (fun (a3 : Int) => (bindO (sliceLN a3 (List.length x)) (fun (a4 : (Nat × Nat)) => (bindO (M_slices_Contains_sint_int ((List.drop a4.1 (List.take a4.2 x)), a2)) (fun (a5 : Bool) => (cond (not a5) (bindO (guardO (lenOk ((List.length s1.1) + (List.length (s1.2 :: ([] : List Int)))))) (fun (a6 : Unit) => (bindO (some (s1.1 ++ (s1.2 :: ([] : List Int)))) (fun (a7 : (List Int)) => (bindO (some (IntKind.wrap .i64 (s1.2 + (1 : Int)))) (fun (a8 : Int) => (again0 (a7, a8)))))))) (bindO (some (IntKind.wrap .i64 (s1.2 + (1 : Int)))) (fun (a9 : Int) => (again0 (s1.1, a9))))))))))))) (some (s1.1, true))))) (([] : List Int), (0 : Int))))

noncomputable def c_I_LastOfEach : Con0 := ⟨pk_I_LastOfEach, rk_I_LastOfEach, M_I_LastOfEach⟩

set_option maxRecDepth 100000 in
theorem eq_I_LastOfEach (x : In pk_I_LastOfEach) : semF (mkE [(48, c_slices_Contains_sint_int)]) h_I_LastOfEach (info Try.f18) pk_I_LastOfEach rk_I_LastOfEach x = M_I_LastOfEach x := by kernel_rfl

set_option maxRecDepth 100000 in
theorem m_I_LastOfEach : ConOK Try.prog 18 c_I_LastOfEach := fn_ok (tyOK _) (E := mkE [(48, c_slices_Contains_sint_int)]) (consOK_cons m_slices_Contains_sint_int (consOK_nil rfl)) Try.func18 (h := h_I_LastOfEach) (by kernel_rfl) eq_I_LastOfEach

/-- L_eqIntS -/
def pk_L_eqIntS : List PK := [.data (.sl (.int .i64)), .data (.sl (.int .i64))]
def rk_L_eqIntS : List (Ty × Bool) := [(.bool, false)]
def h_L_eqIntS : Hints := { loops := [(0, { items := [.slot 5 (.data (.int .i64) [])], kill := [2, 3, 4, 6, 7, 8, 9, 10, 11, 12, 13, 14, 15, 16, 17, 18, 19, 20, 21, 22, 23, 24, 25] })] }
noncomputable def M_L_eqIntS (x : ((List Int) × (List Int))) : (Option Bool) :=
  (cond ((((List.length x.1) : Nat) : Int) != (((List.length x.2) : Nat) : Int)) (some false) (loopO (fun (again0 : (Int → (Option Bool))) => (fun (s1 : Int) => (cond (decide (s1 < (((List.length x.1) : Nat) : Int))) (bindO (getI x.1 s1) (fun (a2 : Int) => (bindO (getI x.2 s1) (fun (a3 : Int) => (cond (a2 != a3) (some false) (bindO (some (IntKind.wrap .i64 (s1 + (1 : Int)))) (fun (a4 : Int) => (again0 a4)))))))) (some true)))) (0 : Int)))

noncomputable def c_L_eqIntS : Con0 := ⟨pk_L_eqIntS, rk_L_eqIntS, M_L_eqIntS⟩

set_option maxRecDepth 100000 in
theorem eq_L_eqIntS (x : In pk_L_eqIntS) : semF (mkE []) h_L_eqIntS (info Try.f19) pk_L_eqIntS rk_L_eqIntS x = M_L_eqIntS x := by kernel_rfl

set_option maxRecDepth 100000 in
theorem m_L_eqIntS : ConOK Try.prog 19 c_L_eqIntS := fn_ok (tyOK _) (E := mkE []) (consOK_nil rfl) Try.func19 (h := h_L_eqIntS) (by kernel_rfl) eq_L_eqIntS

/-- L_markIntS -/
def pk_L_markIntS : List PK := [.mv (.sl (.int .i64)), .data (.int .i64)]
def rk_L_markIntS : List (Ty × Bool) := [((.int .i64), false)]
def h_L_markIntS : Hints := { loops := [(0, { items := [.slot 1 (.data (.int .i64) []), .slot 5 (.data (.int .i64) []), .arr 0 (.int .i64) true], kill := [2, 3, 4, 6, 7, 8, 9, 10, 11, 12, 13, 14, 15, 16, 17, 18] })] }
noncomputable def M_L_markIntS (x : ((List Int) × Int)) : (Option (Int × (List Int))) :=
  (loopO (fun (again0 : ((Int × (Int × (List Int))) → (Option (Int × (List Int))))) => (fun (s1 : (Int × (Int × (List Int)))) => (cond (decide (s1.2.1 < (((List.length s1.2.2) : Nat) : Int))) (bindO (getI s1.2.2 s1.2.1) (fun (a2 : Int) => (bindO (some (List.set s1.2.2 (Int.toNat s1.2.1) s1.1)) (fun (a3 : (List Int)) => (bindO (some (IntKind.wrap .i64 (s1.1 + (1 : Int)))) (fun (a4 : Int) => (bindO (some (IntKind.wrap .i64 (s1.2.1 + (1 : Int)))) (fun (a5 : Int) => (again0 (a4, (a5, a3))))))))))) (some (s1.1, s1.2.2))))) (x.2, ((0 : Int), x.1)))

noncomputable def c_L_markIntS : Con0 := ⟨pk_L_markIntS, rk_L_markIntS, M_L_markIntS⟩

set_option maxRecDepth 100000 in
theorem eq_L_markIntS (x : In pk_L_markIntS) : semF (mkE []) h_L_markIntS (info Try.f20) pk_L_markIntS rk_L_markIntS x = M_L_markIntS x := by kernel_rfl

set_option maxRecDepth 100000 in
theorem m_L_markIntS : ConOK Try.prog 20 c_L_markIntS := fn_ok (tyOK _) (E := mkE []) (consOK_nil rfl) Try.func20 (h := h_L_markIntS) (by kernel_rfl) eq_L_markIntS

/-- L_heldIntS -/
def pk_L_heldIntS : List PK := [.data (.sl (.int .i64)), .data (.int .i64)]
def rk_L_heldIntS : List (Ty × Bool) := [((.int .i64), false)]
def h_L_heldIntS : Hints := { loops := [(0, { items := [.slot 1 (.data (.int .i64) []), .slot 5 (.data (.int .i64) [])], kill := [2, 3, 4, 6, 7, 8, 9, 10, 11, 12, 13, 14, 15, 16, 17, 18, 19, 20] })] }
noncomputable def M_L_heldIntS (x : ((List Int) × Int)) : (Option Int) :=
  (loopO (fun (again0 : ((Int × Int) → (Option Int))) => (fun (s1 : (Int × Int)) => (cond (decide (s1.2 < (((List.length x.1) : Nat) : Int))) (bindO (getI x.1 s1.2) (fun (a2 : Int) => (cond (a2 != s1.1) (some (- (1 : Int))) (bindO (some (IntKind.wrap .i64 (s1.1 + (1 : Int)))) (fun (a3 : Int) => (bindO (some (IntKind.wrap .i64 (s1.2 + (1 : Int)))) (fun (a4 : Int) => (again0 (a3, a4))))))))) (some s1.1)))) (x.2, (0 : Int)))

noncomputable def c_L_heldIntS : Con0 := ⟨pk_L_heldIntS, rk_L_heldIntS, M_L_heldIntS⟩

set_option maxRecDepth 100000 in
theorem eq_L_heldIntS (x : In pk_L_heldIntS) : semF (mkE []) h_L_heldIntS (info Try.f21) pk_L_heldIntS rk_L_heldIntS x = M_L_heldIntS x := by kernel_rfl

set_option maxRecDepth 100000 in
theorem m_L_heldIntS : ConOK Try.prog 21 c_L_heldIntS := fn_ok (tyOK _) (E := mkE []) (consOK_nil rfl) Try.func21 (h := h_L_heldIntS) (by kernel_rfl) eq_L_heldIntS

/-- L_FnExactLastOfEach -/
def pk_L_FnExactLastOfEach : List PK := [.data (.sl (.int .i64))]
def rk_L_FnExactLastOfEach : List (Ty × Bool) := [(.bool, false)]
def h_L_FnExactLastOfEach : Hints := { loops := [] }
noncomputable def M_L_FnExactLastOfEach (x : (List Int)) : (Option Bool) :=
  (cond (decide ((((List.length x) : Nat) : Int) > (1048576 : Int))) (some true) (bindO (M_L_toIntS x) (fun (a0 : (List Int)) => (bindO (M_S_LastOfEach a0) (fun (a1 : ((List Int) × Bool)) => (bindO (M_L_toIntS x) (fun (a2 : (List Int)) => (bindO (M_I_LastOfEach a2) (fun (a3 : ((List Int) × Bool)) => (bindO (M_L_eqIntS (a3.1, a1.1)) (fun (a4 : Bool) => (cond (not a4) (some false) (cond (not (a3.2 == a1.2)) (some false) (bindO (M_L_toIntS x) (fun (a5 : (List Int)) => (bindO (M_L_eqIntS (a2, a5)) (fun (a6 : Bool) => (cond (not a6) (some false) (bindO (M_L_markIntS (a2, (1 : Int))) (fun (a7 : (Int × (List Int))) => (cond (decide (a7.1 < (0 : Int))) (some false) (bindO (M_L_eqIntS (a3.1, a1.1)) (fun (a8 : Bool) => (cond (not a8) (some false) (cond (not (a3.2 == a1.2)) (some false) (bindO (M_L_markIntS (a3.1, (1 : Int))) (fun (a9 : (Int × (List Int))) => (bindO (M_L_heldIntS (a9.2, (1 : Int))) (fun (a10 : Int) => (cond (decide (a10 < (0 : Int))) (some false) (cond (a10 != a9.1) (some false) (bindO (M_L_toIntS x) (fun (a11 : (List Int)) => (bindO (M_I_LastOfEach a11) (fun (a12 : ((List Int) × Bool)) => (bindO (M_L_eqIntS (a12.1, a1.1)) (fun (a13 : Bool) => (cond (not a13) (some false) (cond (not (a12.2 == a1.2)) (some false) (bindO (M_L_heldIntS (a9.2, (1 : Int))) (fun (a14 : Int) => (cond (decide (a14 < (0 : Int))) (some false) (cond (a14 != a9.1) (some false) (some true))))))))))))))))))))))))))))))))))))))))))))

noncomputable def c_L_FnExactLastOfEach : Con0 := ⟨pk_L_FnExactLastOfEach, rk_L_FnExactLastOfEach, M_L_FnExactLastOfEach⟩

set_option maxRecDepth 100000 in
theorem eq_L_FnExactLastOfEach (x : In pk_L_FnExactLastOfEach) : semF (mkE [(17, c_L_toIntS), (16, c_S_LastOfEach), (18, c_I_LastOfEach), (19, c_L_eqIntS), (20, c_L_markIntS), (21, c_L_heldIntS)]) h_L_FnExactLastOfEach (info Try.f4) pk_L_FnExactLastOfEach rk_L_FnExactLastOfEach x = M_L_FnExactLastOfEach x := by kernel_rfl

set_option maxRecDepth 100000 in
theorem m_L_FnExactLastOfEach : ConOK Try.prog 4 c_L_FnExactLastOfEach := fn_ok (tyOK _) (E := mkE [(17, c_L_toIntS), (16, c_S_LastOfEach), (18, c_I_LastOfEach), (19, c_L_eqIntS), (20, c_L_markIntS), (21, c_L_heldIntS)]) (consOK_cons m_L_toIntS (consOK_cons m_S_LastOfEach (consOK_cons m_I_LastOfEach (consOK_cons m_L_eqIntS (consOK_cons m_L_markIntS (consOK_cons m_L_heldIntS (consOK_nil rfl))))))) Try.func4 (h := h_L_FnExactLastOfEach) (by kernel_rfl) eq_L_FnExactLastOfEach

end Go.Proofs.Ytlacogoljcpijaa.Vd
