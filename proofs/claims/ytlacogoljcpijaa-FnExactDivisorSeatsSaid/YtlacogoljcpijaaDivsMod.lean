/- The functions of the law as plain functions on data, and that the program's functions are these. No conditions. -/
import Derived.Test.YtlacogoljcpijaaVd3
import Derived.Test.YtlacogoljcpijaaChecked
import Derived.KernelRfl
set_option linter.unusedVariables false
namespace Go.Proofs.Ytlacogoljcpijaa.Vd
def tys : List (Option Ty) := [none, none, some (.int .i64), some (.int .i64), some .bool, some (.int .u8), some (.int .u8), some (.cons (.int .i64) (.cons (.int .i64) (.cons .bool (.one (.int .u8))))), some (.cons (.int .i64) (.cons (.int .i64) (.cons .bool (.one (.int .u8))))), some .str, some .str, some .str, some (.int .u64), some (.cons .str (.one (.int .u64))), some (.cons .str (.one (.int .u64))), none, none, none, none, none, none, some (.int .i32), none, none, none, some (.sl (.int .i64)), none, none, none, none, none, none, some (.cons (.int .i64) (.cons (.int .i64) (.one (.int .i64)))), some (.cons (.int .i64) (.cons (.int .i64) (.one (.int .i64)))), none, some (.cons (.int .i64) (.cons (.int .i64) (.one (.int .i64)))), none, none, none, none, none, none, none, none, none, none, none, some (.cons (.int .i64) (.one (.int .i64))), some (.cons (.int .i64) (.one (.int .i64))), some (.cons (.int .i64) (.one (.int .i64))), none, none, none, none, none, none, none, none, none, none, none, none, none, none, none, none, none, none, none, none, none, none, none, none, none, none, none, none, none, none, none, none, some (.sl (.cons (.int .i64) (.one (.int .i64)))), none, some (.int .u64), none, none, none, some (.cons (.int .i64) (.one (.int .i64))), some (.cons (.int .i64) (.one (.int .i64))), none, none, none, none, none, none, none, none, some (.int .u32), some (.int .u8), some (.int .u8), none, none, some (.int .i32), some (.int .i32), none, none, none]
def others : List Nat := [1, 15, 16, 17, 23, 24, 27, 28, 29, 30, 31, 34, 36, 37, 38, 39, 40, 41, 42, 43, 44, 45, 46, 51, 52, 53, 54, 56, 57, 58, 59, 60, 61, 62, 63, 64, 65, 66, 68, 69, 70, 71, 72, 73, 74, 75, 76, 77, 78, 79, 80, 81, 83, 85, 86, 87, 90, 91, 97, 101, 102]
def pairs : List Nat := [47, 48, 49, 88, 89]
noncomputable def mkE (con : List (Nat × Con0)) : Env := ⟨[], tys, others, pairs, con⟩

set_option maxRecDepth 100000 in
theorem tyOK (con : List (Nat × Con0)) : TyOK Try.prog (mkE con) := tyOK_of (E := mkE con) (by kernel_rfl) (by kernel_rfl) (by kernel_rfl)

/-- L_toIntS -/
def pk_L_toIntS : List PK := [.data (.sl (.int .i64))]
def rk_L_toIntS : List (Ty × Bool) := [((.sl (.int .i64)), true)]
def h_L_toIntS : Hints := { loops := [(0, { items := [.slot 4 (.data (.int .i64) []), .arr 3 (.int .i64) true], kill := [1, 2, 5, 6, 7, 8, 9, 10, 11, 12, 13, 14, 15, 16, 17, 18, 19, 20, 21] })] }
noncomputable def M_L_toIntS (x : (List Int)) : (Option (List Int)) :=
  (bindO (guardO (((decide ((0 : Int) ≤ (((List.length x) : Nat) : Int))) && (decide ((((List.length x) : Nat) : Int) ≤ (((List.length x) : Nat) : Int)))) && (decide ((((List.length x) : Nat) : Int) ≤ ((lim : Nat) : Int))))) (fun (a0 : Unit) => (loopO (fun (again1 : ((Int × (List Int)) → (Option (List Int)))) => (fun (s2 : (Int × (List Int))) => (cond (decide (s2.1 < (((List.length x) : Nat) : Int))) (bindO (getI x s2.1) (fun (a3 : Int) => (bindO (getI s2.2 s2.1) (fun (a4 : Int) => (bindO (some (List.set s2.2 (Int.toNat s2.1) a3)) (fun (a5 : (List Int)) => (bindO (some (IntKind.wrap .i64 (s2.1 + (1 : Int)))) (fun (a6 : Int) => (again1 (a6, a5)))))))))) (some s2.2)))) ((0 : Int), (List.replicate (Int.toNat (((List.length x) : Nat) : Int)) (0 : Int))))))

noncomputable def c_L_toIntS : Con0 := ⟨pk_L_toIntS, rk_L_toIntS, M_L_toIntS⟩

set_option maxRecDepth 100000 in
theorem eq_L_toIntS (x : In pk_L_toIntS) : semF (mkE []) h_L_toIntS (info Try.f17) pk_L_toIntS rk_L_toIntS x = M_L_toIntS x := by kernel_rfl

set_option maxRecDepth 100000 in
theorem m_L_toIntS : ConOK Try.prog 17 c_L_toIntS := fn_ok (tyOK _) (E := mkE []) (consOK_nil rfl) Try.func17 (h := h_L_toIntS) (by kernel_rfl) eq_L_toIntS

/-- S_l1In -/
def pk_S_l1In : List PK := [.data (.int .i64), .data (.int .i64), .data (.int .i64)]
def rk_S_l1In : List (Ty × Bool) := [(.bool, false)]
def h_S_l1In : Hints := { loops := [] }
noncomputable def M_S_l1In (x : (Int × (Int × Int))) : (Option Bool) :=
  (cond (decide (x.1 ≥ x.2.1)) (some (decide (x.1 ≤ x.2.2))) (some false))

noncomputable def c_S_l1In : Con0 := ⟨pk_S_l1In, rk_S_l1In, M_S_l1In⟩

set_option maxRecDepth 100000 in
theorem eq_S_l1In (x : In pk_S_l1In) : semF (mkE []) h_S_l1In (info Try.f43) pk_S_l1In rk_S_l1In x = M_S_l1In x := by kernel_rfl

set_option maxRecDepth 100000 in
theorem m_S_l1In : ConOK Try.prog 43 c_S_l1In := fn_ok (tyOK _) (E := mkE []) (consOK_nil rfl) Try.func43 (h := h_S_l1In) (by kernel_rfl) eq_S_l1In

/-- S_l1All -/
def pk_S_l1All : List PK := [.data (.sl (.int .i64)), .data (.int .i64), .data (.int .i64)]
def rk_S_l1All : List (Ty × Bool) := [(.bool, false)]
def h_S_l1All : Hints := { loops := [(0, { items := [.slot 11 (.data (.int .i64) [])], kill := [0, 3, 4, 5, 6, 7, 8, 12, 13, 14, 15, 16, 17, 18, 19, 20] })] }
noncomputable def M_S_l1All (x : ((List Int) × (Int × Int))) : (Option Bool) :=
  (loopO (fun (again0 : (Int → (Option Bool))) => (fun (s1 : Int) => (cond (decide (s1 < (((List.length x.1) : Nat) : Int))) (bindO (getI x.1 s1) (fun (a2 : Int) => (bindO (M_S_l1In (a2, (x.2.1, x.2.2))) (fun (a3 : Bool) => (cond (not a3) (some false) (bindO (some (IntKind.wrap .i64 (s1 + (1 : Int)))) (fun (a4 : Int) => (again0 a4)))))))) (some true)))) (0 : Int))

noncomputable def c_S_l1All : Con0 := ⟨pk_S_l1All, rk_S_l1All, M_S_l1All⟩

set_option maxRecDepth 100000 in
theorem eq_S_l1All (x : In pk_S_l1All) : semF (mkE [(43, c_S_l1In)]) h_S_l1All (info Try.f83) pk_S_l1All rk_S_l1All x = M_S_l1All x := by kernel_rfl

set_option maxRecDepth 100000 in
theorem m_S_l1All : ConOK Try.prog 83 c_S_l1All := fn_ok (tyOK _) (E := mkE [(43, c_S_l1In)]) (consOK_cons m_S_l1In (consOK_nil rfl)) Try.func83 (h := h_S_l1All) (by kernel_rfl) eq_S_l1All

/-- S_tCounts -/
def pk_S_tCounts : List PK := [.data (.sl (.int .i64))]
def rk_S_tCounts : List (Ty × Bool) := [(.bool, false)]
def h_S_tCounts : Hints := { loops := [] }
noncomputable def M_S_tCounts (x : (List Int)) : (Option Bool) :=
  (bindO (M_S_l1In ((((List.length x) : Nat) : Int), ((1 : Int), (8 : Int)))) (fun (a0 : Bool) => (cond a0 (bindO (M_S_l1All (x, ((0 : Int), (1000000 : Int)))) (fun (a1 : Bool) => (some a1))) (some false))))

noncomputable def c_S_tCounts : Con0 := ⟨pk_S_tCounts, rk_S_tCounts, M_S_tCounts⟩

set_option maxRecDepth 100000 in
theorem eq_S_tCounts (x : In pk_S_tCounts) : semF (mkE [(43, c_S_l1In), (83, c_S_l1All)]) h_S_tCounts (info Try.f55) pk_S_tCounts rk_S_tCounts x = M_S_tCounts x := by kernel_rfl

set_option maxRecDepth 100000 in
theorem m_S_tCounts : ConOK Try.prog 55 c_S_tCounts := fn_ok (tyOK _) (E := mkE [(43, c_S_l1In), (83, c_S_l1All)]) (consOK_cons m_S_l1In (consOK_cons m_S_l1All (consOK_nil rfl))) Try.func55 (h := h_S_tCounts) (by kernel_rfl) eq_S_tCounts

/-- S_DivisorSeats -/
def pk_S_DivisorSeats : List PK := [.data (.sl (.int .i64)), .data (.int .i64)]
def rk_S_DivisorSeats : List (Ty × Bool) := [((.sl (.int .i64)), true), (.bool, false)]
def h_S_DivisorSeats : Hints := { loops := [(0, { items := [.slot 1 (.data (.int .i64) []), .arr 6 (.int .i64) true], kill := [2, 3, 4, 5, 7, 8, 9, 10, 11, 12, 13, 14, 15, 16, 17, 18, 19, 20, 21, 22, 23, 24, 25, 26, 27, 28, 29, 30, 31, 32, 33, 34, 35, 36, 37, 38, 39, 40, 41, 42, 43, 44, 45, 46, 47, 48, 49, 50, 51, 52, 53, 54, 55, 56, 57, 58] }), (2, { items := [.slot 7 (.data (.int .i64) []), .slot 27 (.data (.int .i64) [])], kill := [2, 3, 4, 5, 8, 9, 10, 11, 12, 13, 14, 15, 16, 17, 18, 19, 20, 21, 22, 23, 24, 28, 29, 30, 31, 32, 33, 34, 35, 36, 37, 38, 39, 40, 41, 42, 43, 44, 45, 46, 47, 48, 49, 50, 51, 52, 53, 54, 55, 56, 57, 58] })] }
noncomputable def M_S_DivisorSeats (x : ((List Int) × Int)) : (Option ((List Int) × Bool)) :=
  (bindO (M_S_tCounts x.1) (fun (a0 : Bool) => (cond (not a0) (some (([] : List Int), false)) (bindO (M_S_l1In (x.2, ((1 : Int), (20 : Int)))) (fun (a1 : Bool) => (cond (not a1) (some (([] : List Int), false)) (bindO (guardO (((decide ((0 : Int) ≤ (((List.length x.1) : Nat) : Int))) && (decide ((((List.length x.1) : Nat) : Int) ≤ (((List.length x.1) : Nat) : Int)))) && (decide ((((List.length x.1) : Nat) : Int) ≤ ((lim : Nat) : Int))))) (fun (a2 : Unit) => (loopO (fun (again3 : ((Int × (List Int)) → (Option ((List Int) × Bool)))) => (fun (s4 : (Int × (List Int))) => (cond (decide (s4.1 > (0 : Int))) (loopO (fun (again5 : ((Int × Int) → (Option ((List Int) × Bool)))) => (fun (s6 : (Int × Int)) => (cond (decide (s6.2 < (((List.length x.1) : Nat) : Int))) (bindO (getI x.1 s6.2) (fun (a7 : Int) => (bindO (getI s4.2 s6.1) (fun (a8 : Int) => (bindO (some (IntKind.wrap .i64 (a8 + (1 : Int)))) (fun (a9 : Int) => (bindO (some (IntKind.wrap .i64 (a7 * a9))) (fun (a10 : Int) => (bindO (getI x.1 s6.1) (fun (a11 : Int) => (bindO (getI s4.2 s6.2) (fun (a12 : Int) => (bindO (some (IntKind.wrap .i64 (a12 + (1 : Int)))) (fun (a13 : Int) => (bindO (some (IntKind.wrap .i64 (a11 * a13))) (fun (a14 : Int) => (cond (decide (a10 > a14)) (bindO (some (IntKind.wrap .i64 (s6.2 + (1 : Int)))) (fun (a15 : Int) => (again5 (s6.2, a15)))) (bindO (some (IntKind.wrap .i64 (s6.2 + (1 : Int)))) (fun (a16 : Int) => (again5 (s6.1, a16))))))))))))))))))))) (bindO (getI s4.2 s6.1) (fun (a17 : Int) => (bindO (some (IntKind.wrap .i64 (a17 + (1 : Int)))) (fun (a18 : Int) => (bindO (getI s4.2 s6.1) (fun (a19 : Int) => (bindO (some (List.set s4.2 (Int.toNat s6.1) a18)) (fun (a20 : (List Int)) => (bindO (some (IntKind.wrap .i64 (s4.1 - (1 : Int)))) (fun (a21 : Int) => (again3 (a21, a20))))))))))))))) ((0 : Int), (0 : Int))) (some (s4.2, true))))) (x.2, (List.replicate (Int.toNat (((List.length x.1) : Nat) : Int)) (0 : Int))))))))))))

noncomputable def c_S_DivisorSeats : Con0 := ⟨pk_S_DivisorSeats, rk_S_DivisorSeats, M_S_DivisorSeats⟩

set_option maxRecDepth 100000 in
theorem eq_S_DivisorSeats (x : In pk_S_DivisorSeats) : semF (mkE [(55, c_S_tCounts), (43, c_S_l1In)]) h_S_DivisorSeats (info Try.f25) pk_S_DivisorSeats rk_S_DivisorSeats x = M_S_DivisorSeats x := by kernel_rfl

set_option maxRecDepth 100000 in
theorem m_S_DivisorSeats : ConOK Try.prog 25 c_S_DivisorSeats := fn_ok (tyOK _) (E := mkE [(55, c_S_tCounts), (43, c_S_l1In)]) (consOK_cons m_S_tCounts (consOK_cons m_S_l1In (consOK_nil rfl))) Try.func25 (h := h_S_DivisorSeats) (by kernel_rfl) eq_S_DivisorSeats

/-- I_within -/
def pk_I_within : List PK := [.data (.int .i64), .data (.int .i64), .data (.int .i64)]
def rk_I_within : List (Ty × Bool) := [(.bool, false)]
def h_I_within : Hints := { loops := [] }
noncomputable def M_I_within (x : (Int × (Int × Int))) : (Option Bool) :=
  (cond (decide (x.1 ≥ x.2.1)) (some (decide (x.1 ≤ x.2.2))) (some false))

noncomputable def c_I_within : Con0 := ⟨pk_I_within, rk_I_within, M_I_within⟩

set_option maxRecDepth 100000 in
theorem eq_I_within (x : In pk_I_within) : semF (mkE []) h_I_within (info Try.f46) pk_I_within rk_I_within x = M_I_within x := by kernel_rfl

set_option maxRecDepth 100000 in
theorem m_I_within : ConOK Try.prog 46 c_I_within := fn_ok (tyOK _) (E := mkE []) (consOK_nil rfl) Try.func46 (h := h_I_within) (by kernel_rfl) eq_I_within

/-- slices_IndexFunc_sint_int -/
def pk_slices_IndexFunc_sint_int : List PK := [.data (.sl (.int .i64)), .fn [(.int .i64)] .bool]
def rk_slices_IndexFunc_sint_int : List (Ty × Bool) := [((.int .i64), false)]
def h_slices_IndexFunc_sint_int : Hints := { loops := [(0, { items := [.slot 8 (.data (.int .i64) [])], kill := [2, 3, 4, 5, 6, 9, 10, 11, 12, 13, 14, 15, 16, 17, 18] })] }
noncomputable def M_slices_IndexFunc_sint_int (x : ((List Int) × (Int → (Option Bool)))) : (Option Int) :=
  (loopO (fun (again0 : (Int → (Option Int))) => (fun (s1 : Int) => (cond (decide (s1 < (((List.length x.1) : Nat) : Int))) (bindO (getI x.1 s1) (fun (a2 : Int) => (bindO (x.2 a2) (fun (a3 : Bool) => (cond a3 (some s1) (bindO (some (IntKind.wrap .i64 (s1 + (1 : Int)))) (fun (a4 : Int) => (again0 a4)))))))) (some (- (1 : Int)))))) (0 : Int))

noncomputable def c_slices_IndexFunc_sint_int : Con0 := ⟨pk_slices_IndexFunc_sint_int, rk_slices_IndexFunc_sint_int, M_slices_IndexFunc_sint_int⟩

set_option maxRecDepth 100000 in
theorem eq_slices_IndexFunc_sint_int (x : In pk_slices_IndexFunc_sint_int) : semF (mkE []) h_slices_IndexFunc_sint_int (info Try.f107) pk_slices_IndexFunc_sint_int rk_slices_IndexFunc_sint_int x = M_slices_IndexFunc_sint_int x := by kernel_rfl

set_option maxRecDepth 100000 in
theorem m_slices_IndexFunc_sint_int : ConOK Try.prog 107 c_slices_IndexFunc_sint_int := fn_ok (tyOK _) (E := mkE []) (consOK_nil rfl) Try.func107 (h := h_slices_IndexFunc_sint_int) (by kernel_rfl) eq_slices_IndexFunc_sint_int

/-- slices_ContainsFunc_sint_int -/
def pk_slices_ContainsFunc_sint_int : List PK := [.data (.sl (.int .i64)), .fn [(.int .i64)] .bool]
def rk_slices_ContainsFunc_sint_int : List (Ty × Bool) := [(.bool, false)]
def h_slices_ContainsFunc_sint_int : Hints := { loops := [] }
noncomputable def M_slices_ContainsFunc_sint_int (x : ((List Int) × (Int → (Option Bool)))) : (Option Bool) :=
  (bindO (M_slices_IndexFunc_sint_int (x.1, x.2)) (fun (a0 : Int) => (some (decide (a0 ≥ (0 : Int))))))

noncomputable def c_slices_ContainsFunc_sint_int : Con0 := ⟨pk_slices_ContainsFunc_sint_int, rk_slices_ContainsFunc_sint_int, M_slices_ContainsFunc_sint_int⟩

set_option maxRecDepth 100000 in
theorem eq_slices_ContainsFunc_sint_int (x : In pk_slices_ContainsFunc_sint_int) : semF (mkE [(107, c_slices_IndexFunc_sint_int)]) h_slices_ContainsFunc_sint_int (info Try.f99) pk_slices_ContainsFunc_sint_int rk_slices_ContainsFunc_sint_int x = M_slices_ContainsFunc_sint_int x := by kernel_rfl

set_option maxRecDepth 100000 in
theorem m_slices_ContainsFunc_sint_int : ConOK Try.prog 99 c_slices_ContainsFunc_sint_int := fn_ok (tyOK _) (E := mkE [(107, c_slices_IndexFunc_sint_int)]) (consOK_cons m_slices_IndexFunc_sint_int (consOK_nil rfl)) Try.func99 (h := h_slices_ContainsFunc_sint_int) (by kernel_rfl) eq_slices_ContainsFunc_sint_int

/-- I_areAll_1 -/
def pk_I_areAll_1 : List PK := [.data (.int .i64), .rfn [(.int .i64)] .bool]
def rk_I_areAll_1 : List (Ty × Bool) := [(.bool, false)]
def h_I_areAll_1 : Hints := { loops := [] }
noncomputable def M_I_areAll_1 (x : (Int × (Int → (Option Bool)))) : (Option Bool) :=
  (bindO (x.2 x.1) (fun (a0 : Bool) => (some (not a0))))

noncomputable def c_I_areAll_1 : Con0 := ⟨pk_I_areAll_1, rk_I_areAll_1, M_I_areAll_1⟩

set_option maxRecDepth 100000 in
theorem eq_I_areAll_1 (x : In pk_I_areAll_1) : semF (mkE []) h_I_areAll_1 (info Try.f100) pk_I_areAll_1 rk_I_areAll_1 x = M_I_areAll_1 x := by kernel_rfl

set_option maxRecDepth 100000 in
theorem m_I_areAll_1 : ConOK Try.prog 100 c_I_areAll_1 := fn_ok (tyOK _) (E := mkE []) (consOK_nil rfl) Try.func100 (h := h_I_areAll_1) (by kernel_rfl) eq_I_areAll_1

/-- I_areAll -/
def pk_I_areAll : List PK := [.data (.sl (.int .i64)), .fn [(.int .i64)] .bool]
def rk_I_areAll : List (Ty × Bool) := [(.bool, false)]
def h_I_areAll : Hints := { loops := [] }
noncomputable def M_I_areAll (x : ((List Int) × (Int → (Option Bool)))) : (Option Bool) :=
  (bindO (M_slices_ContainsFunc_sint_int (x.1, (fun (a0 : Int) => (bindO (M_I_areAll_1 (a0, x.2)) (fun (a1 : Bool) => (some a1)))))) (fun (a2 : Bool) => (some (not a2))))

noncomputable def c_I_areAll : Con0 := ⟨pk_I_areAll, rk_I_areAll, M_I_areAll⟩

set_option maxRecDepth 100000 in
theorem eq_I_areAll (x : In pk_I_areAll) : semF (mkE [(99, c_slices_ContainsFunc_sint_int), (100, c_I_areAll_1)]) h_I_areAll (info Try.f87) pk_I_areAll rk_I_areAll x = M_I_areAll x := by kernel_rfl

set_option maxRecDepth 100000 in
theorem m_I_areAll : ConOK Try.prog 87 c_I_areAll := fn_ok (tyOK _) (E := mkE [(99, c_slices_ContainsFunc_sint_int), (100, c_I_areAll_1)]) (consOK_cons m_slices_ContainsFunc_sint_int (consOK_cons m_I_areAll_1 (consOK_nil rfl))) Try.func87 (h := h_I_areAll) (by kernel_rfl) eq_I_areAll

/-- I_areCounts_1 -/
def pk_I_areCounts_1 : List PK := [.data (.int .i64)]
def rk_I_areCounts_1 : List (Ty × Bool) := [(.bool, false)]
def h_I_areCounts_1 : Hints := { loops := [] }
noncomputable def M_I_areCounts_1 (x : Int) : (Option Bool) :=
  (bindO (M_I_within (x, ((0 : Int), (1000000 : Int)))) (fun (a0 : Bool) => (some a0)))

noncomputable def c_I_areCounts_1 : Con0 := ⟨pk_I_areCounts_1, rk_I_areCounts_1, M_I_areCounts_1⟩

set_option maxRecDepth 100000 in
theorem eq_I_areCounts_1 (x : In pk_I_areCounts_1) : semF (mkE [(46, c_I_within)]) h_I_areCounts_1 (info Try.f88) pk_I_areCounts_1 rk_I_areCounts_1 x = M_I_areCounts_1 x := by kernel_rfl

set_option maxRecDepth 100000 in
theorem m_I_areCounts_1 : ConOK Try.prog 88 c_I_areCounts_1 := fn_ok (tyOK _) (E := mkE [(46, c_I_within)]) (consOK_cons m_I_within (consOK_nil rfl)) Try.func88 (h := h_I_areCounts_1) (by kernel_rfl) eq_I_areCounts_1

/-- I_areCounts -/
def pk_I_areCounts : List PK := [.data (.sl (.int .i64))]
def rk_I_areCounts : List (Ty × Bool) := [(.bool, false)]
def h_I_areCounts : Hints := { loops := [] }
noncomputable def M_I_areCounts (x : (List Int)) : (Option Bool) :=
  (bindO (M_I_within ((((List.length x) : Nat) : Int), ((1 : Int), (8 : Int)))) (fun (a0 : Bool) => (cond a0 (bindO (M_I_areAll (x, (fun (a1 : Int) => (bindO (M_I_areCounts_1 a1) (fun (a2 : Bool) => (some a2)))))) (fun (a3 : Bool) => (some a3))) (some false))))

noncomputable def c_I_areCounts : Con0 := ⟨pk_I_areCounts, rk_I_areCounts, M_I_areCounts⟩

set_option maxRecDepth 100000 in
theorem eq_I_areCounts (x : In pk_I_areCounts) : semF (mkE [(46, c_I_within), (87, c_I_areAll), (88, c_I_areCounts_1)]) h_I_areCounts (info Try.f56) pk_I_areCounts rk_I_areCounts x = M_I_areCounts x := by kernel_rfl

set_option maxRecDepth 100000 in
theorem m_I_areCounts : ConOK Try.prog 56 c_I_areCounts := fn_ok (tyOK _) (E := mkE [(46, c_I_within), (87, c_I_areAll), (88, c_I_areCounts_1)]) (consOK_cons m_I_within (consOK_cons m_I_areAll (consOK_cons m_I_areCounts_1 (consOK_nil rfl)))) Try.func56 (h := h_I_areCounts) (by kernel_rfl) eq_I_areCounts

/-- I_DivisorSeats -/
def pk_I_DivisorSeats : List PK := [.data (.sl (.int .i64)), .data (.int .i64)]
def rk_I_DivisorSeats : List (Ty × Bool) := [((.sl (.int .i64)), true), (.bool, false)]
def h_I_DivisorSeats : Hints := { loops := [(0, { items := [.slot 22 (.data (.int .i64) []), .arr 6 (.int .i64) true], kill := [1, 2, 3, 4, 5, 7, 8, 9, 10, 11, 12, 13, 14, 15, 16, 17, 18, 19, 20, 23, 24, 25, 26, 27, 28, 29, 30, 31, 32, 33, 34, 35, 36, 37, 38, 39, 40, 41, 42, 43, 44, 45, 46, 47, 48, 49, 50, 51, 52, 53, 54, 55, 56, 57, 58] }), (2, { items := [.slot 7 (.data (.int .i64) []), .slot 26 (.data (.int .i64) [])], kill := [1, 2, 3, 4, 5, 8, 9, 10, 11, 12, 13, 14, 15, 16, 17, 18, 19, 20, 23, 27, 28, 29, 30, 31, 32, 33, 34, 35, 36, 37, 38, 39, 40, 41, 42, 43, 44, 45, 46, 47, 48, 49, 50, 51, 52, 53, 54, 55, 56, 57, 58] })] }
noncomputable def M_I_DivisorSeats (x : ((List Int) × Int)) : (Option ((List Int) × Bool)) :=
  (bindO (M_I_areCounts x.1) (fun (a0 : Bool) => (cond (not a0) (some (([] : List Int), false)) (bindO (M_I_within (x.2, ((1 : Int), (20 : Int)))) (fun (a1 : Bool) => (cond (not a1) (some (([] : List Int), false)) (bindO (guardO (((decide ((0 : Int) ≤ (((List.length x.1) : Nat) : Int))) && (decide ((((List.length x.1) : Nat) : Int) ≤ (((List.length x.1) : Nat) : Int)))) && (decide ((((List.length x.1) : Nat) : Int) ≤ ((lim : Nat) : Int))))) (fun (a2 : Unit) => (loopO (fun (again3 : ((Int × (List Int)) → (Option ((List Int) × Bool)))) => (fun (s4 : (Int × (List Int))) => (cond (decide (s4.1 < x.2)) (loopO (fun (again5 : ((Int × Int) → (Option ((List Int) × Bool)))) => (fun (s6 : (Int × Int)) => (cond (decide (s6.2 < (((List.length x.1) : Nat) : Int))) (bindO (getI x.1 s6.2) (fun (a7 : Int) => (bindO (getI s4.2 s6.1) (fun (a8 : Int) => (bindO (some (IntKind.wrap .i64 ((1 : Int) + a8))) (fun (a9 : Int) => (bindO (some (IntKind.wrap .i64 (a7 * a9))) (fun (a10 : Int) => (bindO (getI x.1 s6.1) (fun (a11 : Int) => (bindO (getI s4.2 s6.2) (fun (a12 : Int) => (bindO (some (IntKind.wrap .i64 ((1 : Int) + a12))) (fun (a13 : Int) => (bindO (some (IntKind.wrap .i64 (a11 * a13))) (fun (a14 : Int) => (cond (decide (a10 > a14)) (bindO (some (IntKind.wrap .i64 (s6.2 + (1 : Int)))) (fun (a15 : Int) => (again5 (s6.2, a15)))) (bindO (some (IntKind.wrap .i64 (s6.2 + (1 : Int)))) (fun (a16 : Int) => (again5 (s6.1, a16))))))))))))))))))))) (bindO (getI s4.2 s6.1) (fun (a17 : Int) => (bindO (some (IntKind.wrap .i64 (a17 + (1 : Int)))) (fun (a18 : Int) => (bindO (getI s4.2 s6.1) (fun (a19 : Int) => (bindO (some (List.set s4.2 (Int.toNat s6.1) a18)) (fun (a20 : (List Int)) => (bindO (some (IntKind.wrap .i64 (s4.1 + (1 : Int)))) (fun (a21 : Int) => (again3 (a21, a20))))))))))))))) ((0 : Int), (0 : Int))) (some (s4.2, true))))) ((0 : Int), (List.replicate (Int.toNat (((List.length x.1) : Nat) : Int)) (0 : Int))))))))))))

noncomputable def c_I_DivisorSeats : Con0 := ⟨pk_I_DivisorSeats, rk_I_DivisorSeats, M_I_DivisorSeats⟩

set_option maxRecDepth 100000 in
theorem eq_I_DivisorSeats (x : In pk_I_DivisorSeats) : semF (mkE [(56, c_I_areCounts), (46, c_I_within)]) h_I_DivisorSeats (info Try.f26) pk_I_DivisorSeats rk_I_DivisorSeats x = M_I_DivisorSeats x := by kernel_rfl

set_option maxRecDepth 100000 in
theorem m_I_DivisorSeats : ConOK Try.prog 26 c_I_DivisorSeats := fn_ok (tyOK _) (E := mkE [(56, c_I_areCounts), (46, c_I_within)]) (consOK_cons m_I_areCounts (consOK_cons m_I_within (consOK_nil rfl))) Try.func26 (h := h_I_DivisorSeats) (by kernel_rfl) eq_I_DivisorSeats

/-- L_eqIntS -/
def pk_L_eqIntS : List PK := [.data (.sl (.int .i64)), .data (.sl (.int .i64))]
def rk_L_eqIntS : List (Ty × Bool) := [(.bool, false)]
def h_L_eqIntS : Hints := { loops := [(0, { items := [.slot 5 (.data (.int .i64) [])], kill := [2, 3, 4, 6, 7, 8, 9, 10, 11, 12, 13, 14, 15, 16, 17, 18, 19, 20, 21, 22, 23, 24, 25] })] }
noncomputable def M_L_eqIntS (x : ((List Int) × (List Int))) : (Option Bool) :=
  (cond ((((List.length x.1) : Nat) : Int) != (((List.length x.2) : Nat) : Int)) (some false) (loopO (fun (again0 : (Int → (Option Bool))) => (fun (s1 : Int) => (cond (decide (s1 < (((List.length x.1) : Nat) : Int))) (bindO (getI x.1 s1) (fun (a2 : Int) => (bindO (getI x.2 s1) (fun (a3 : Int) => (cond (a2 != a3) (some false) (bindO (some (IntKind.wrap .i64 (s1 + (1 : Int)))) (fun (a4 : Int) => (again0 a4)))))))) (some true)))) (0 : Int)))

noncomputable def c_L_eqIntS : Con0 := ⟨pk_L_eqIntS, rk_L_eqIntS, M_L_eqIntS⟩

set_option maxRecDepth 100000 in
theorem eq_L_eqIntS (x : In pk_L_eqIntS) : semF (mkE []) h_L_eqIntS (info Try.f19) pk_L_eqIntS rk_L_eqIntS x = M_L_eqIntS x := by kernel_rfl

set_option maxRecDepth 100000 in
theorem m_L_eqIntS : ConOK Try.prog 19 c_L_eqIntS := fn_ok (tyOK _) (E := mkE []) (consOK_nil rfl) Try.func19 (h := h_L_eqIntS) (by kernel_rfl) eq_L_eqIntS

/-- L_markIntS -/
def pk_L_markIntS : List PK := [.mv (.sl (.int .i64)), .data (.int .i64)]
def rk_L_markIntS : List (Ty × Bool) := [((.int .i64), false)]
def h_L_markIntS : Hints := { loops := [(0, { items := [.slot 1 (.data (.int .i64) []), .slot 5 (.data (.int .i64) []), .arr 0 (.int .i64) true], kill := [2, 3, 4, 6, 7, 8, 9, 10, 11, 12, 13, 14, 15, 16, 17, 18] })] }
noncomputable def M_L_markIntS (x : ((List Int) × Int)) : (Option (Int × (List Int))) :=
  (loopO (fun (again0 : ((Int × (Int × (List Int))) → (Option (Int × (List Int))))) => (fun (s1 : (Int × (Int × (List Int)))) => (cond (decide (s1.2.1 < (((List.length s1.2.2) : Nat) : Int))) (bindO (getI s1.2.2 s1.2.1) (fun (a2 : Int) => (bindO (some (List.set s1.2.2 (Int.toNat s1.2.1) s1.1)) (fun (a3 : (List Int)) => (bindO (some (IntKind.wrap .i64 (s1.1 + (1 : Int)))) (fun (a4 : Int) => (bindO (some (IntKind.wrap .i64 (s1.2.1 + (1 : Int)))) (fun (a5 : Int) => (again0 (a4, (a5, a3))))))))))) (some (s1.1, s1.2.2))))) (x.2, ((0 : Int), x.1)))

noncomputable def c_L_markIntS : Con0 := ⟨pk_L_markIntS, rk_L_markIntS, M_L_markIntS⟩

set_option maxRecDepth 100000 in
theorem eq_L_markIntS (x : In pk_L_markIntS) : semF (mkE []) h_L_markIntS (info Try.f20) pk_L_markIntS rk_L_markIntS x = M_L_markIntS x := by kernel_rfl

set_option maxRecDepth 100000 in
theorem m_L_markIntS : ConOK Try.prog 20 c_L_markIntS := fn_ok (tyOK _) (E := mkE []) (consOK_nil rfl) Try.func20 (h := h_L_markIntS) (by kernel_rfl) eq_L_markIntS

/-- L_heldIntS -/
def pk_L_heldIntS : List PK := [.data (.sl (.int .i64)), .data (.int .i64)]
def rk_L_heldIntS : List (Ty × Bool) := [((.int .i64), false)]
def h_L_heldIntS : Hints := { loops := [(0, { items := [.slot 1 (.data (.int .i64) []), .slot 5 (.data (.int .i64) [])], kill := [2, 3, 4, 6, 7, 8, 9, 10, 11, 12, 13, 14, 15, 16, 17, 18, 19, 20] })] }
noncomputable def M_L_heldIntS (x : ((List Int) × Int)) : (Option Int) :=
  (loopO (fun (again0 : ((Int × Int) → (Option Int))) => (fun (s1 : (Int × Int)) => (cond (decide (s1.2 < (((List.length x.1) : Nat) : Int))) (bindO (getI x.1 s1.2) (fun (a2 : Int) => (cond (a2 != s1.1) (some (- (1 : Int))) (bindO (some (IntKind.wrap .i64 (s1.1 + (1 : Int)))) (fun (a3 : Int) => (bindO (some (IntKind.wrap .i64 (s1.2 + (1 : Int)))) (fun (a4 : Int) => (again0 (a3, a4))))))))) (some s1.1)))) (x.2, (0 : Int)))

noncomputable def c_L_heldIntS : Con0 := ⟨pk_L_heldIntS, rk_L_heldIntS, M_L_heldIntS⟩

set_option maxRecDepth 100000 in
theorem eq_L_heldIntS (x : In pk_L_heldIntS) : semF (mkE []) h_L_heldIntS (info Try.f21) pk_L_heldIntS rk_L_heldIntS x = M_L_heldIntS x := by kernel_rfl

set_option maxRecDepth 100000 in
theorem m_L_heldIntS : ConOK Try.prog 21 c_L_heldIntS := fn_ok (tyOK _) (E := mkE []) (consOK_nil rfl) Try.func21 (h := h_L_heldIntS) (by kernel_rfl) eq_L_heldIntS

/-- L_FnExactDivisorSeats -/
def pk_L_FnExactDivisorSeats : List PK := [.data (.sl (.int .i64)), .data (.int .i64)]
def rk_L_FnExactDivisorSeats : List (Ty × Bool) := [(.bool, false)]
def h_L_FnExactDivisorSeats : Hints := { loops := [] }
noncomputable def M_L_FnExactDivisorSeats (x : ((List Int) × Int)) : (Option Bool) :=
  (cond (decide ((((List.length x.1) : Nat) : Int) > (1048576 : Int))) (some true) (bindO (M_L_toIntS x.1) (fun (a0 : (List Int)) => (bindO (M_S_DivisorSeats (a0, x.2)) (fun (a1 : ((List Int) × Bool)) => (bindO (M_L_toIntS x.1) (fun (a2 : (List Int)) => (bindO (M_I_DivisorSeats (a2, x.2)) (fun (a3 : ((List Int) × Bool)) => (bindO (M_L_eqIntS (a3.1, a1.1)) (fun (a4 : Bool) => (cond (not a4) (some false) (cond (not (a3.2 == a1.2)) (some false) (bindO (M_L_toIntS x.1) (fun (a5 : (List Int)) => (bindO (M_L_eqIntS (a2, a5)) (fun (a6 : Bool) => (cond (not a6) (some false) (bindO (M_L_markIntS (a2, (1 : Int))) (fun (a7 : (Int × (List Int))) => (cond (decide (a7.1 < (0 : Int))) (some false) (bindO (M_L_eqIntS (a3.1, a1.1)) (fun (a8 : Bool) => (cond (not a8) (some false) (cond (not (a3.2 == a1.2)) (some false) (bindO (M_L_markIntS (a3.1, (1 : Int))) (fun (a9 : (Int × (List Int))) => (bindO (M_L_heldIntS (a9.2, (1 : Int))) (fun (a10 : Int) => (cond (decide (a10 < (0 : Int))) (some false) (cond (a10 != a9.1) (some false) (bindO (M_L_toIntS x.1) (fun (a11 : (List Int)) => (bindO (M_I_DivisorSeats (a11, x.2)) (fun (a12 : ((List Int) × Bool)) => (bindO (M_L_eqIntS (a12.1, a1.1)) (fun (a13 : Bool) => (cond (not a13) (some false) (cond (not (a12.2 == a1.2)) (some false) (bindO (M_L_heldIntS (a9.2, (1 : Int))) (fun (a14 : Int) => (cond (decide (a14 < (0 : Int))) (some false) (cond (a14 != a9.1) (some false) (some true))))))))))))))))))))))))))))))))))))))))))))

noncomputable def c_L_FnExactDivisorSeats : Con0 := ⟨pk_L_FnExactDivisorSeats, rk_L_FnExactDivisorSeats, M_L_FnExactDivisorSeats⟩

set_option maxRecDepth 100000 in
theorem eq_L_FnExactDivisorSeats (x : In pk_L_FnExactDivisorSeats) : semF (mkE [(17, c_L_toIntS), (25, c_S_DivisorSeats), (26, c_I_DivisorSeats), (19, c_L_eqIntS), (20, c_L_markIntS), (21, c_L_heldIntS)]) h_L_FnExactDivisorSeats (info Try.f6) pk_L_FnExactDivisorSeats rk_L_FnExactDivisorSeats x = M_L_FnExactDivisorSeats x := by kernel_rfl

set_option maxRecDepth 100000 in
theorem m_L_FnExactDivisorSeats : ConOK Try.prog 6 c_L_FnExactDivisorSeats := fn_ok (tyOK _) (E := mkE [(17, c_L_toIntS), (25, c_S_DivisorSeats), (26, c_I_DivisorSeats), (19, c_L_eqIntS), (20, c_L_markIntS), (21, c_L_heldIntS)]) (consOK_cons m_L_toIntS (consOK_cons m_S_DivisorSeats (consOK_cons m_I_DivisorSeats (consOK_cons m_L_eqIntS (consOK_cons m_L_markIntS (consOK_cons m_L_heldIntS (consOK_nil rfl))))))) Try.func6 (h := h_L_FnExactDivisorSeats) (by kernel_rfl) eq_L_FnExactDivisorSeats

end Go.Proofs.Ytlacogoljcpijaa.Vd
