/- The functions of the law as plain functions on data, and that the program's functions are these. No conditions. -/
import Derived.Test.YtlacogoljcpijaaVd3
import Derived.Test.YtlacogoljcpijaaChecked
import Derived.KernelRfl
set_option linter.unusedVariables false
namespace Go.Proofs.Ytlacogoljcpijaa.Vd
def tys : List (Option Ty) := [none, none, some (.int .i64), some (.int .i64), some .bool, some (.int .u8), some (.int .u8), some (.cons (.int .i64) (.cons (.int .i64) (.cons .bool (.one (.int .u8))))), some (.cons (.int .i64) (.cons (.int .i64) (.cons .bool (.one (.int .u8))))), some .str, some .str, some .str, some (.int .u64), some (.cons .str (.one (.int .u64))), some (.cons .str (.one (.int .u64))), none, none, none, none, none, none, some (.int .i32), none, none, none, some (.sl (.int .i64)), none, none, none, none, none, none, some (.cons (.int .i64) (.cons (.int .i64) (.one (.int .i64)))), some (.cons (.int .i64) (.cons (.int .i64) (.one (.int .i64)))), none, some (.cons (.int .i64) (.cons (.int .i64) (.one (.int .i64)))), none, none, none, none, none, none, none, none, none, none, none, some (.cons (.int .i64) (.one (.int .i64))), some (.cons (.int .i64) (.one (.int .i64))), some (.cons (.int .i64) (.one (.int .i64))), none, none, none, none, none, none, none, none, none, none, none, none, none, none, none, none, none, none, none, none, none, none, none, none, none, none, none, none, none, none, none, none, some (.sl (.cons (.int .i64) (.one (.int .i64)))), none, some (.int .u64), none, none, none, some (.cons (.int .i64) (.one (.int .i64))), some (.cons (.int .i64) (.one (.int .i64))), none, none, none, none, none, none, none, none, some (.int .u32), some (.int .u8), some (.int .u8), none, none, some (.int .i32), some (.int .i32), none, none, none]
def others : List Nat := [1, 15, 16, 17, 23, 24, 27, 28, 29, 30, 31, 34, 36, 37, 38, 39, 40, 41, 42, 43, 44, 45, 46, 51, 52, 53, 54, 56, 57, 58, 59, 60, 61, 62, 63, 64, 65, 66, 68, 69, 70, 71, 72, 73, 74, 75, 76, 77, 78, 79, 80, 81, 83, 85, 86, 87, 90, 91, 97, 101, 102]
def pairs : List Nat := [47, 48, 49, 88, 89]
noncomputable def mkE (con : List (Nat × Con0)) : Env := ⟨[], tys, others, pairs, con⟩

set_option maxRecDepth 100000 in
theorem tyOK (con : List (Nat × Con0)) : TyOK Try.prog (mkE con) := tyOK_of (E := mkE con) (by kernel_rfl) (by kernel_rfl) (by kernel_rfl)

/-- L_toIntS -/
def pk_L_toIntS : List PK := [.data (.sl (.int .i64))]
def rk_L_toIntS : List (Ty × Bool) := [((.sl (.int .i64)), true)]
def h_L_toIntS : Hints := { loops := [(0, { items := [.slot 4 (.data (.int .i64) []), .arr 3 (.int .i64) true], kill := [1, 2, 5, 6, 7, 8, 9, 10, 11, 12, 13, 14, 15, 16, 17, 18, 19, 20, 21] })] }
noncomputable def M_L_toIntS (x : (List Int)) : (Option (List Int)) :=
  (bindO (guardO (((decide ((0 : Int) ≤ (((List.length x) : Nat) : Int))) && (decide ((((List.length x) : Nat) : Int) ≤ (((List.length x) : Nat) : Int)))) && (decide ((((List.length x) : Nat) : Int) ≤ ((lim : Nat) : Int))))) (fun (a0 : Unit) => (loopO (fun (again1 : ((Int × (List Int)) → (Option (List Int)))) => (fun (s2 : (Int × (List Int))) => (cond (decide (s2.1 < (((List.length x) : Nat) : Int))) (bindO (getI x s2.1) (fun (a3 : Int) => (bindO (getI s2.2 s2.1) (fun (a4 : Int) => (bindO (some (List.set s2.2 (Int.toNat s2.1) a3)) (fun (a5 : (List Int)) => (bindO (some (IntKind.wrap .i64 (s2.1 + (1 : Int)))) (fun (a6 : Int) => (again1 (a6, a5)))))))))) (some s2.2)))) ((0 : Int), (List.replicate (Int.toNat (((List.length x) : Nat) : Int)) (0 : Int))))))

noncomputable def c_L_toIntS : Con0 := ⟨pk_L_toIntS, rk_L_toIntS, M_L_toIntS⟩

set_option maxRecDepth 100000 in
theorem eq_L_toIntS (x : In pk_L_toIntS) : semF (mkE []) h_L_toIntS (info Try.f17) pk_L_toIntS rk_L_toIntS x = M_L_toIntS x := by kernel_rfl

set_option maxRecDepth 100000 in
theorem m_L_toIntS : ConOK Try.prog 17 c_L_toIntS := fn_ok (tyOK _) (E := mkE []) (consOK_nil rfl) Try.func17 (h := h_L_toIntS) (by kernel_rfl) eq_L_toIntS

/-- S_l1In -/
def pk_S_l1In : List PK := [.data (.int .i64), .data (.int .i64), .data (.int .i64)]
def rk_S_l1In : List (Ty × Bool) := [(.bool, false)]
def h_S_l1In : Hints := { loops := [] }
noncomputable def M_S_l1In (x : (Int × (Int × Int))) : (Option Bool) :=
  (cond (decide (x.1 ≥ x.2.1)) (some (decide (x.1 ≤ x.2.2))) (some false))

noncomputable def c_S_l1In : Con0 := ⟨pk_S_l1In, rk_S_l1In, M_S_l1In⟩

set_option maxRecDepth 100000 in
theorem eq_S_l1In (x : In pk_S_l1In) : semF (mkE []) h_S_l1In (info Try.f43) pk_S_l1In rk_S_l1In x = M_S_l1In x := by kernel_rfl

set_option maxRecDepth 100000 in
theorem m_S_l1In : ConOK Try.prog 43 c_S_l1In := fn_ok (tyOK _) (E := mkE []) (consOK_nil rfl) Try.func43 (h := h_S_l1In) (by kernel_rfl) eq_S_l1In

/-- S_l1Rising -/
def pk_S_l1Rising : List PK := [.data (.sl (.int .i64)), .data (.int .i64), .data (.int .i64)]
def rk_S_l1Rising : List (Ty × Bool) := [(.bool, false)]
def h_S_l1Rising : Hints := { loops := [(0, { items := [.slot 11 (.data (.int .i64) [])], kill := [3, 4, 5, 6, 7, 8, 12, 13, 14, 15, 16, 17, 18, 19, 20, 21, 22, 23, 24, 25, 26, 27, 28, 29, 30, 31, 32, 33, 34] })] }
noncomputable def M_S_l1Rising (x : ((List Int) × (Int × Int))) : (Option Bool) :=
  (loopO (fun (again0 : (Int → (Option Bool))) => (fun (s1 : Int) => (cond (decide (s1 < (((List.length x.1) : Nat) : Int))) (bindO (getI x.1 s1) (fun (a2 : Int) => (bindO (M_S_l1In (a2, (x.2.1, x.2.2))) (fun (a3 : Bool) => (cond (not a3) (some false) (cond (decide (s1 > (0 : Int))) (bindO (some (IntKind.wrap .i64 (s1 - (1 : Int)))) (fun (a4 : Int) => (bindO (getI x.1 a4) (fun (a5 : Int) => (cond (decide (a5 ≥ a2)) (some false) (bindO (some (IntKind.wrap .i64 (s1 + (1 : Int)))) (fun (a6 : Int) => (again0 a6)))))))) (bindO (some (IntKind.wrap .i64 (s1 + (1 : Int)))) (fun (a7 : Int) => (again0 a7))))))))) (some true)))) (0 : Int))

noncomputable def c_S_l1Rising : Con0 := ⟨pk_S_l1Rising, rk_S_l1Rising, M_S_l1Rising⟩

set_option maxRecDepth 100000 in
theorem eq_S_l1Rising (x : In pk_S_l1Rising) : semF (mkE [(43, c_S_l1In)]) h_S_l1Rising (info Try.f60) pk_S_l1Rising rk_S_l1Rising x = M_S_l1Rising x := by kernel_rfl

set_option maxRecDepth 100000 in
theorem m_S_l1Rising : ConOK Try.prog 60 c_S_l1Rising := fn_ok (tyOK _) (E := mkE [(43, c_S_l1In)]) (consOK_cons m_S_l1In (consOK_nil rfl)) Try.func60 (h := h_S_l1Rising) (by kernel_rfl) eq_S_l1Rising

/-- S_PossibleLinks -/
def pk_S_PossibleLinks : List PK := [.data (.int .i64), .data (.int .i64), .data (.sl (.int .i64))]
def rk_S_PossibleLinks : List (Ty × Bool) := [((.int .i64), false), (.bool, false)]
def h_S_PossibleLinks : Hints := { loops := [(0, { items := [.slot 8 (.data (.int .i64) []), .slot 9 (.data (.int .i64) [])], kill := [1, 2, 3, 4, 5, 6, 7, 10, 11, 12, 13, 14, 15, 16, 17, 18, 19, 20, 21, 22, 23, 24, 25, 26, 27, 28, 29, 30, 31, 32, 33, 34, 35, 36, 37] })] }
noncomputable def M_S_PossibleLinks (x : (Int × (Int × (List Int)))) : (Option (Int × Bool)) :=
  (bindO (M_S_l1In (x.1, ((0 : Int), (12 : Int)))) (fun (a0 : Bool) => (cond (not a0) (some ((0 : Int), false)) (bindO (M_S_l1In (x.2.1, ((1 : Int), (6 : Int)))) (fun (a1 : Bool) => (cond (not a1) (some ((0 : Int), false)) (bindO (some (IntKind.wrap .i64 (x.2.1 - (1 : Int)))) (fun (a2 : Int) => (bindO (M_S_l1Rising (x.2.2, ((0 : Int), a2))) (fun (a3 : Bool) => (cond (not a3) (some ((0 : Int), false)) (cond ((((List.length x.2.2) : Nat) : Int) == x.2.1) (some ((1 : Int), true)) (loopO (fun (again4 : ((Int × Int) → (Option (Int × Bool)))) => (fun (s5 : (Int × Int)) => (cond (decide (s5.2 ≤ x.1)) (bindO (some (IntKind.wrap .i64 (s5.1 * s5.2))) (fun (a6 : Int) => (bindO (some (IntKind.wrap .i64 (s5.2 + (1 : Int)))) (fun (a7 : Int) => (again4 (a6, a7)))))) (some (s5.1, true))))) ((1 : Int), (2 : Int)))))))))))))))

noncomputable def c_S_PossibleLinks : Con0 := ⟨pk_S_PossibleLinks, rk_S_PossibleLinks, M_S_PossibleLinks⟩

set_option maxRecDepth 100000 in
theorem eq_S_PossibleLinks (x : In pk_S_PossibleLinks) : semF (mkE [(43, c_S_l1In), (60, c_S_l1Rising)]) h_S_PossibleLinks (info Try.f29) pk_S_PossibleLinks rk_S_PossibleLinks x = M_S_PossibleLinks x := by kernel_rfl

set_option maxRecDepth 100000 in
theorem m_S_PossibleLinks : ConOK Try.prog 29 c_S_PossibleLinks := fn_ok (tyOK _) (E := mkE [(43, c_S_l1In), (60, c_S_l1Rising)]) (consOK_cons m_S_l1In (consOK_cons m_S_l1Rising (consOK_nil rfl))) Try.func29 (h := h_S_PossibleLinks) (by kernel_rfl) eq_S_PossibleLinks

/-- I_within -/
def pk_I_within : List PK := [.data (.int .i64), .data (.int .i64), .data (.int .i64)]
def rk_I_within : List (Ty × Bool) := [(.bool, false)]
def h_I_within : Hints := { loops := [] }
noncomputable def M_I_within (x : (Int × (Int × Int))) : (Option Bool) :=
  (cond (decide (x.1 ≥ x.2.1)) (some (decide (x.1 ≤ x.2.2))) (some false))

noncomputable def c_I_within : Con0 := ⟨pk_I_within, rk_I_within, M_I_within⟩

set_option maxRecDepth 100000 in
theorem eq_I_within (x : In pk_I_within) : semF (mkE []) h_I_within (info Try.f46) pk_I_within rk_I_within x = M_I_within x := by kernel_rfl

set_option maxRecDepth 100000 in
theorem m_I_within : ConOK Try.prog 46 c_I_within := fn_ok (tyOK _) (E := mkE []) (consOK_nil rfl) Try.func46 (h := h_I_within) (by kernel_rfl) eq_I_within

/-- slices_IndexFunc_sint_int -/
def pk_slices_IndexFunc_sint_int : List PK := [.data (.sl (.int .i64)), .fn [(.int .i64)] .bool]
def rk_slices_IndexFunc_sint_int : List (Ty × Bool) := [((.int .i64), false)]
def h_slices_IndexFunc_sint_int : Hints := { loops := [(0, { items := [.slot 8 (.data (.int .i64) [])], kill := [2, 3, 4, 5, 6, 9, 10, 11, 12, 13, 14, 15, 16, 17, 18] })] }
noncomputable def M_slices_IndexFunc_sint_int (x : ((List Int) × (Int → (Option Bool)))) : (Option Int) :=
  (loopO (fun (again0 : (Int → (Option Int))) => (fun (s1 : Int) => (cond (decide (s1 < (((List.length x.1) : Nat) : Int))) (bindO (getI x.1 s1) (fun (a2 : Int) => (bindO (x.2 a2) (fun (a3 : Bool) => (cond a3 (some s1) (bindO (some (IntKind.wrap .i64 (s1 + (1 : Int)))) (fun (a4 : Int) => (again0 a4)))))))) (some (- (1 : Int)))))) (0 : Int))

noncomputable def c_slices_IndexFunc_sint_int : Con0 := ⟨pk_slices_IndexFunc_sint_int, rk_slices_IndexFunc_sint_int, M_slices_IndexFunc_sint_int⟩

set_option maxRecDepth 100000 in
theorem eq_slices_IndexFunc_sint_int (x : In pk_slices_IndexFunc_sint_int) : semF (mkE []) h_slices_IndexFunc_sint_int (info Try.f107) pk_slices_IndexFunc_sint_int rk_slices_IndexFunc_sint_int x = M_slices_IndexFunc_sint_int x := by kernel_rfl

set_option maxRecDepth 100000 in
theorem m_slices_IndexFunc_sint_int : ConOK Try.prog 107 c_slices_IndexFunc_sint_int := fn_ok (tyOK _) (E := mkE []) (consOK_nil rfl) Try.func107 (h := h_slices_IndexFunc_sint_int) (by kernel_rfl) eq_slices_IndexFunc_sint_int

/-- slices_ContainsFunc_sint_int -/
def pk_slices_ContainsFunc_sint_int : List PK := [.data (.sl (.int .i64)), .fn [(.int .i64)] .bool]
def rk_slices_ContainsFunc_sint_int : List (Ty × Bool) := [(.bool, false)]
def h_slices_ContainsFunc_sint_int : Hints := { loops := [] }
noncomputable def M_slices_ContainsFunc_sint_int (x : ((List Int) × (Int → (Option Bool)))) : (Option Bool) :=
  (bindO (M_slices_IndexFunc_sint_int (x.1, x.2)) (fun (a0 : Int) => (some (decide (a0 ≥ (0 : Int))))))

noncomputable def c_slices_ContainsFunc_sint_int : Con0 := ⟨pk_slices_ContainsFunc_sint_int, rk_slices_ContainsFunc_sint_int, M_slices_ContainsFunc_sint_int⟩

set_option maxRecDepth 100000 in
theorem eq_slices_ContainsFunc_sint_int (x : In pk_slices_ContainsFunc_sint_int) : semF (mkE [(107, c_slices_IndexFunc_sint_int)]) h_slices_ContainsFunc_sint_int (info Try.f99) pk_slices_ContainsFunc_sint_int rk_slices_ContainsFunc_sint_int x = M_slices_ContainsFunc_sint_int x := by kernel_rfl

set_option maxRecDepth 100000 in
theorem m_slices_ContainsFunc_sint_int : ConOK Try.prog 99 c_slices_ContainsFunc_sint_int := fn_ok (tyOK _) (E := mkE [(107, c_slices_IndexFunc_sint_int)]) (consOK_cons m_slices_IndexFunc_sint_int (consOK_nil rfl)) Try.func99 (h := h_slices_ContainsFunc_sint_int) (by kernel_rfl) eq_slices_ContainsFunc_sint_int

/-- I_areAll_1 -/
def pk_I_areAll_1 : List PK := [.data (.int .i64), .rfn [(.int .i64)] .bool]
def rk_I_areAll_1 : List (Ty × Bool) := [(.bool, false)]
def h_I_areAll_1 : Hints := { loops := [] }
noncomputable def M_I_areAll_1 (x : (Int × (Int → (Option Bool)))) : (Option Bool) :=
  (bindO (x.2 x.1) (fun (a0 : Bool) => (some (not a0))))

noncomputable def c_I_areAll_1 : Con0 := ⟨pk_I_areAll_1, rk_I_areAll_1, M_I_areAll_1⟩

set_option maxRecDepth 100000 in
theorem eq_I_areAll_1 (x : In pk_I_areAll_1) : semF (mkE []) h_I_areAll_1 (info Try.f100) pk_I_areAll_1 rk_I_areAll_1 x = M_I_areAll_1 x := by kernel_rfl

set_option maxRecDepth 100000 in
theorem m_I_areAll_1 : ConOK Try.prog 100 c_I_areAll_1 := fn_ok (tyOK _) (E := mkE []) (consOK_nil rfl) Try.func100 (h := h_I_areAll_1) (by kernel_rfl) eq_I_areAll_1

/-- I_areAll -/
def pk_I_areAll : List PK := [.data (.sl (.int .i64)), .fn [(.int .i64)] .bool]
def rk_I_areAll : List (Ty × Bool) := [(.bool, false)]
def h_I_areAll : Hints := { loops := [] }
noncomputable def M_I_areAll (x : ((List Int) × (Int → (Option Bool)))) : (Option Bool) :=
  (bindO (M_slices_ContainsFunc_sint_int (x.1, (fun (a0 : Int) => (bindO (M_I_areAll_1 (a0, x.2)) (fun (a1 : Bool) => (some a1)))))) (fun (a2 : Bool) => (some (not a2))))

noncomputable def c_I_areAll : Con0 := ⟨pk_I_areAll, rk_I_areAll, M_I_areAll⟩

set_option maxRecDepth 100000 in
theorem eq_I_areAll (x : In pk_I_areAll) : semF (mkE [(99, c_slices_ContainsFunc_sint_int), (100, c_I_areAll_1)]) h_I_areAll (info Try.f87) pk_I_areAll rk_I_areAll x = M_I_areAll x := by kernel_rfl

set_option maxRecDepth 100000 in
theorem m_I_areAll : ConOK Try.prog 87 c_I_areAll := fn_ok (tyOK _) (E := mkE [(99, c_slices_ContainsFunc_sint_int), (100, c_I_areAll_1)]) (consOK_cons m_slices_ContainsFunc_sint_int (consOK_cons m_I_areAll_1 (consOK_nil rfl))) Try.func87 (h := h_I_areAll) (by kernel_rfl) eq_I_areAll

/-- I_areBelow_1 -/
def pk_I_areBelow_1 : List PK := [.data (.int .i64), .rp (.int .i64)]
def rk_I_areBelow_1 : List (Ty × Bool) := [(.bool, false)]
def h_I_areBelow_1 : Hints := { loops := [] }
noncomputable def M_I_areBelow_1 (x : (Int × Int)) : (Option Bool) :=
  (bindO (some (IntKind.wrap .i64 (x.2 - (1 : Int)))) (fun (a0 : Int) => (bindO (M_I_within (x.1, ((0 : Int), a0))) (fun (a1 : Bool) => (some a1)))))

noncomputable def c_I_areBelow_1 : Con0 := ⟨pk_I_areBelow_1, rk_I_areBelow_1, M_I_areBelow_1⟩

set_option maxRecDepth 100000 in
theorem eq_I_areBelow_1 (x : In pk_I_areBelow_1) : semF (mkE [(46, c_I_within)]) h_I_areBelow_1 (info Try.f91) pk_I_areBelow_1 rk_I_areBelow_1 x = M_I_areBelow_1 x := by kernel_rfl

set_option maxRecDepth 100000 in
theorem m_I_areBelow_1 : ConOK Try.prog 91 c_I_areBelow_1 := fn_ok (tyOK _) (E := mkE [(46, c_I_within)]) (consOK_cons m_I_within (consOK_nil rfl)) Try.func91 (h := h_I_areBelow_1) (by kernel_rfl) eq_I_areBelow_1

/-- I_areBelow -/
def pk_I_areBelow : List PK := [.data (.sl (.int .i64)), .data (.int .i64)]
def rk_I_areBelow : List (Ty × Bool) := [(.bool, false)]
def h_I_areBelow : Hints := { loops := [] }
noncomputable def M_I_areBelow (x : ((List Int) × Int)) : (Option Bool) :=
  (bindO (M_I_areAll (x.1, (fun (a0 : Int) => (bindO (M_I_areBelow_1 (a0, x.2)) (fun (a1 : Bool) => (some a1)))))) (fun (a2 : Bool) => (some a2)))

noncomputable def c_I_areBelow : Con0 := ⟨pk_I_areBelow, rk_I_areBelow, M_I_areBelow⟩

set_option maxRecDepth 100000 in
theorem eq_I_areBelow (x : In pk_I_areBelow) : semF (mkE [(87, c_I_areAll), (91, c_I_areBelow_1)]) h_I_areBelow (info Try.f61) pk_I_areBelow rk_I_areBelow x = M_I_areBelow x := by kernel_rfl

set_option maxRecDepth 100000 in
theorem m_I_areBelow : ConOK Try.prog 61 c_I_areBelow := fn_ok (tyOK _) (E := mkE [(87, c_I_areAll), (91, c_I_areBelow_1)]) (consOK_cons m_I_areAll (consOK_cons m_I_areBelow_1 (consOK_nil rfl))) Try.func61 (h := h_I_areBelow) (by kernel_rfl) eq_I_areBelow

/-- cmp_isNaN_int -/
def pk_cmp_isNaN_int : List PK := [.data (.int .i64)]
def rk_cmp_isNaN_int : List (Ty × Bool) := [(.bool, false)]
def h_cmp_isNaN_int : Hints := { loops := [] }
noncomputable def M_cmp_isNaN_int (x : Int) : (Option Bool) :=
  (some (x != x))

noncomputable def c_cmp_isNaN_int : Con0 := ⟨pk_cmp_isNaN_int, rk_cmp_isNaN_int, M_cmp_isNaN_int⟩

set_option maxRecDepth 100000 in
theorem eq_cmp_isNaN_int (x : In pk_cmp_isNaN_int) : semF (mkE []) h_cmp_isNaN_int (info Try.f103) pk_cmp_isNaN_int rk_cmp_isNaN_int x = M_cmp_isNaN_int x := by kernel_rfl

set_option maxRecDepth 100000 in
theorem m_cmp_isNaN_int : ConOK Try.prog 103 c_cmp_isNaN_int := fn_ok (tyOK _) (E := mkE []) (consOK_nil rfl) Try.func103 (h := h_cmp_isNaN_int) (by kernel_rfl) eq_cmp_isNaN_int

/-- cmp_Less_int -/
def pk_cmp_Less_int : List PK := [.data (.int .i64), .data (.int .i64)]
def rk_cmp_Less_int : List (Ty × Bool) := [(.bool, false)]
def h_cmp_Less_int : Hints := { loops := [] }
noncomputable def M_cmp_Less_int (x : (Int × Int)) : (Option Bool) :=
  (bindO (M_cmp_isNaN_int x.1) (fun (a0 : Bool) => (cond a0 (bindO (M_cmp_isNaN_int x.2) (fun (a1 : Bool) => (cond (not a1) (some true) (some (decide (x.1 < x.2)))))) (some (decide (x.1 < x.2))))))

noncomputable def c_cmp_Less_int : Con0 := ⟨pk_cmp_Less_int, rk_cmp_Less_int, M_cmp_Less_int⟩

set_option maxRecDepth 100000 in
theorem eq_cmp_Less_int (x : In pk_cmp_Less_int) : semF (mkE [(103, c_cmp_isNaN_int)]) h_cmp_Less_int (info Try.f92) pk_cmp_Less_int rk_cmp_Less_int x = M_cmp_Less_int x := by kernel_rfl

set_option maxRecDepth 100000 in
theorem m_cmp_Less_int : ConOK Try.prog 92 c_cmp_Less_int := fn_ok (tyOK _) (E := mkE [(103, c_cmp_isNaN_int)]) (consOK_cons m_cmp_isNaN_int (consOK_nil rfl)) Try.func92 (h := h_cmp_Less_int) (by kernel_rfl) eq_cmp_Less_int

/-- slices_IsSorted_sint_int -/
def pk_slices_IsSorted_sint_int : List PK := [.data (.sl (.int .i64))]
def rk_slices_IsSorted_sint_int : List (Ty × Bool) := [(.bool, false)]
def h_slices_IsSorted_sint_int : Hints := { loops := [(0, { items := [.slot 3 (.data (.int .i64) [])], kill := [1, 2, 4, 5, 6, 7, 8, 9, 10, 11, 12, 13, 14, 15, 16, 17, 18, 19, 20] })] }
noncomputable def M_slices_IsSorted_sint_int (x : (List Int)) : (Option Bool) :=
  (bindO (some (IntKind.wrap .i64 ((((List.length x) : Nat) : Int) - (1 : Int)))) (fun (a0 : Int) => (loopO (fun (again1 : (Int → (Option Bool))) => (fun (s2 : Int) => (cond (decide (s2 > (0 : Int))) (bindO (getI x s2) (fun (a3 : Int) => (bindO (some (IntKind.wrap .i64 (s2 - (1 : Int)))) (fun (a4 : Int) => (bindO (getI x a4) (fun (a5 : Int) => (bindO (M_cmp_Less_int (a3, a5)) (fun (a6 : Bool) => (cond a6 (some false) (bindO (some (IntKind.wrap .i64 (s2 - (1 : Int)))) (fun (a7 : Int) => (again1 a7)))))))))))) (some true)))) a0)))

noncomputable def c_slices_IsSorted_sint_int : Con0 := ⟨pk_slices_IsSorted_sint_int, rk_slices_IsSorted_sint_int, M_slices_IsSorted_sint_int⟩

set_option maxRecDepth 100000 in
theorem eq_slices_IsSorted_sint_int (x : In pk_slices_IsSorted_sint_int) : semF (mkE [(92, c_cmp_Less_int)]) h_slices_IsSorted_sint_int (info Try.f62) pk_slices_IsSorted_sint_int rk_slices_IsSorted_sint_int x = M_slices_IsSorted_sint_int x := by kernel_rfl

set_option maxRecDepth 100000 in
theorem m_slices_IsSorted_sint_int : ConOK Try.prog 62 c_slices_IsSorted_sint_int := fn_ok (tyOK _) (E := mkE [(92, c_cmp_Less_int)]) (consOK_cons m_cmp_Less_int (consOK_nil rfl)) Try.func62 (h := h_slices_IsSorted_sint_int) (by kernel_rfl) eq_slices_IsSorted_sint_int

/-- slices_Index_sint_int -/
def pk_slices_Index_sint_int : List PK := [.data (.sl (.int .i64)), .data (.int .i64)]
def rk_slices_Index_sint_int : List (Ty × Bool) := [((.int .i64), false)]
def h_slices_Index_sint_int : Hints := { loops := [(0, { items := [.slot 8 (.data (.int .i64) [])], kill := [2, 3, 4, 5, 6, 9, 10, 11, 12, 13, 14, 15, 16, 17, 18] })] }
noncomputable def M_slices_Index_sint_int (x : ((List Int) × Int)) : (Option Int) :=
  (loopO (fun (again0 : (Int → (Option Int))) => (fun (s1 : Int) => (cond (decide (s1 < (((List.length x.1) : Nat) : Int))) (bindO (getI x.1 s1) (fun (a2 : Int) => (cond (x.2 == a2) (some s1) (bindO (some (IntKind.wrap .i64 (s1 + (1 : Int)))) (fun (a3 : Int) => (again0 a3)))))) (some (- (1 : Int)))))) (0 : Int))

noncomputable def c_slices_Index_sint_int : Con0 := ⟨pk_slices_Index_sint_int, rk_slices_Index_sint_int, M_slices_Index_sint_int⟩

set_option maxRecDepth 100000 in
theorem eq_slices_Index_sint_int (x : In pk_slices_Index_sint_int) : semF (mkE []) h_slices_Index_sint_int (info Try.f81) pk_slices_Index_sint_int rk_slices_Index_sint_int x = M_slices_Index_sint_int x := by kernel_rfl

set_option maxRecDepth 100000 in
theorem m_slices_Index_sint_int : ConOK Try.prog 81 c_slices_Index_sint_int := fn_ok (tyOK _) (E := mkE []) (consOK_nil rfl) Try.func81 (h := h_slices_Index_sint_int) (by kernel_rfl) eq_slices_Index_sint_int

/-- slices_Contains_sint_int -/
def pk_slices_Contains_sint_int : List PK := [.data (.sl (.int .i64)), .data (.int .i64)]
def rk_slices_Contains_sint_int : List (Ty × Bool) := [(.bool, false)]
def h_slices_Contains_sint_int : Hints := { loops := [] }
noncomputable def M_slices_Contains_sint_int (x : ((List Int) × Int)) : (Option Bool) :=
  (bindO (M_slices_Index_sint_int (x.1, x.2)) (fun (a0 : Int) => (some (decide (a0 ≥ (0 : Int))))))

noncomputable def c_slices_Contains_sint_int : Con0 := ⟨pk_slices_Contains_sint_int, rk_slices_Contains_sint_int, M_slices_Contains_sint_int⟩

set_option maxRecDepth 100000 in
theorem eq_slices_Contains_sint_int (x : In pk_slices_Contains_sint_int) : semF (mkE [(81, c_slices_Index_sint_int)]) h_slices_Contains_sint_int (info Try.f48) pk_slices_Contains_sint_int rk_slices_Contains_sint_int x = M_slices_Contains_sint_int x := by kernel_rfl

set_option maxRecDepth 100000 in
theorem m_slices_Contains_sint_int : ConOK Try.prog 48 c_slices_Contains_sint_int := fn_ok (tyOK _) (E := mkE [(81, c_slices_Index_sint_int)]) (consOK_cons m_slices_Index_sint_int (consOK_nil rfl)) Try.func48 (h := h_slices_Contains_sint_int) (by kernel_rfl) eq_slices_Contains_sint_int

/-- I_areDifferent -/
def pk_I_areDifferent : List PK := [.data (.sl (.int .i64))]
def rk_I_areDifferent : List (Ty × Bool) := [(.bool, false)]
def h_I_areDifferent : Hints := { loops := [(0, { items := [.slot 7 (.data (.int .i64) [])], kill := [1, 2, 3, 4, 8, 9, 10, 11, 12, 13, 14, 15, 16, 17] })] }
noncomputable def M_I_areDifferent (x : (List Int)) : (Option Bool) :=
  (loopO (fun (again0 : (Int → (Option Bool))) => (fun (s1 : Int) => (cond (decide (s1 < (((List.length x) : Nat) : Int))) (bindO (getI x s1) (fun (a2 : Int) => (bindO (sliceNH s1 (List.length x)) (fun (a3 : (Nat × Nat)) => (bindO (M_slices_Contains_sint_int ((List.drop a3.1 (List.take a3.2 x)), a2)) (fun (a4 : Bool) => (cond a4 (some false) (bindO (some (IntKind.wrap .i64 (s1 + (1 : Int)))) (fun (a5 : Int) => (again0 a5)))))))))) (some true)))) (0 : Int))

noncomputable def c_I_areDifferent : Con0 := ⟨pk_I_areDifferent, rk_I_areDifferent, M_I_areDifferent⟩

set_option maxRecDepth 100000 in
theorem eq_I_areDifferent (x : In pk_I_areDifferent) : semF (mkE [(48, c_slices_Contains_sint_int)]) h_I_areDifferent (info Try.f63) pk_I_areDifferent rk_I_areDifferent x = M_I_areDifferent x := by kernel_rfl

set_option maxRecDepth 100000 in
theorem m_I_areDifferent : ConOK Try.prog 63 c_I_areDifferent := fn_ok (tyOK _) (E := mkE [(48, c_slices_Contains_sint_int)]) (consOK_cons m_slices_Contains_sint_int (consOK_nil rfl)) Try.func63 (h := h_I_areDifferent) (by kernel_rfl) eq_I_areDifferent

/-- I_factorial -/
def pk_I_factorial : List PK := [.data (.int .i64)]
def rk_I_factorial : List (Ty × Bool) := [((.int .i64), false)]
def h_I_factorial : Hints := { loops := [(0, { items := [.slot 3 (.data (.int .i64) []), .slot 4 (.data (.int .i64) [])], kill := [1, 2, 5, 6, 7, 8, 9, 10, 11, 12, 13] })] }
noncomputable def M_I_factorial (x : Int) : (Option Int) :=
  (loopO (fun (again0 : ((Int × Int) → (Option Int))) => (fun (s1 : (Int × Int)) => (cond (decide (s1.2 ≤ x)) (bindO (some (IntKind.wrap .i64 (s1.1 * s1.2))) (fun (a2 : Int) => (bindO (some (IntKind.wrap .i64 (s1.2 + (1 : Int)))) (fun (a3 : Int) => (again0 (a2, a3)))))) (some s1.1)))) ((1 : Int), (2 : Int)))

noncomputable def c_I_factorial : Con0 := ⟨pk_I_factorial, rk_I_factorial, M_I_factorial⟩

set_option maxRecDepth 100000 in
theorem eq_I_factorial (x : In pk_I_factorial) : semF (mkE []) h_I_factorial (info Try.f64) pk_I_factorial rk_I_factorial x = M_I_factorial x := by kernel_rfl

set_option maxRecDepth 100000 in
theorem m_I_factorial : ConOK Try.prog 64 c_I_factorial := fn_ok (tyOK _) (E := mkE []) (consOK_nil rfl) Try.func64 (h := h_I_factorial) (by kernel_rfl) eq_I_factorial

/-- I_PossibleLinks -/
def pk_I_PossibleLinks : List PK := [.data (.int .i64), .data (.int .i64), .data (.sl (.int .i64))]
def rk_I_PossibleLinks : List (Ty × Bool) := [((.int .i64), false), (.bool, false)]
def h_I_PossibleLinks : Hints := { loops := [] }
noncomputable def M_I_PossibleLinks (x : (Int × (Int × (List Int)))) : (Option (Int × Bool)) :=
  (bindO (M_I_within (x.1, ((0 : Int), (12 : Int)))) (fun (a0 : Bool) => (cond (not a0) (some ((0 : Int), false)) (bindO (M_I_within (x.2.1, ((1 : Int), (6 : Int)))) (fun (a1 : Bool) => (cond (not a1) (some ((0 : Int), false)) (bindO (M_I_areBelow (x.2.2, x.2.1)) (fun (a2 : Bool) => (cond (not a2) (some ((0 : Int), false)) (bindO (M_slices_IsSorted_sint_int x.2.2) (fun (a3 : Bool) => (cond (not a3) (some ((0 : Int), false)) (bindO (M_I_areDifferent x.2.2) (fun (a4 : Bool) => (cond (not a4) (some ((0 : Int), false)) (cond ((((List.length x.2.2) : Nat) : Int) == x.2.1) (some ((1 : Int), true)) (bindO (M_I_factorial x.1) (fun (a5 : Int) => (some (a5, true))))))))))))))))))))

noncomputable def c_I_PossibleLinks : Con0 := ⟨pk_I_PossibleLinks, rk_I_PossibleLinks, M_I_PossibleLinks⟩

set_option maxRecDepth 100000 in
theorem eq_I_PossibleLinks (x : In pk_I_PossibleLinks) : semF (mkE [(46, c_I_within), (61, c_I_areBelow), (62, c_slices_IsSorted_sint_int), (63, c_I_areDifferent), (64, c_I_factorial)]) h_I_PossibleLinks (info Try.f30) pk_I_PossibleLinks rk_I_PossibleLinks x = M_I_PossibleLinks x := by kernel_rfl

set_option maxRecDepth 100000 in
theorem m_I_PossibleLinks : ConOK Try.prog 30 c_I_PossibleLinks := fn_ok (tyOK _) (E := mkE [(46, c_I_within), (61, c_I_areBelow), (62, c_slices_IsSorted_sint_int), (63, c_I_areDifferent), (64, c_I_factorial)]) (consOK_cons m_I_within (consOK_cons m_I_areBelow (consOK_cons m_slices_IsSorted_sint_int (consOK_cons m_I_areDifferent (consOK_cons m_I_factorial (consOK_nil rfl)))))) Try.func30 (h := h_I_PossibleLinks) (by kernel_rfl) eq_I_PossibleLinks

/-- L_eqIntS -/
def pk_L_eqIntS : List PK := [.data (.sl (.int .i64)), .data (.sl (.int .i64))]
def rk_L_eqIntS : List (Ty × Bool) := [(.bool, false)]
def h_L_eqIntS : Hints := { loops := [(0, { items := [.slot 5 (.data (.int .i64) [])], kill := [2, 3, 4, 6, 7, 8, 9, 10, 11, 12, 13, 14, 15, 16, 17, 18, 19, 20, 21, 22, 23, 24, 25] })] }
noncomputable def M_L_eqIntS (x : ((List Int) × (List Int))) : (Option Bool) :=
  (cond ((((List.length x.1) : Nat) : Int) != (((List.length x.2) : Nat) : Int)) (some false) (loopO (fun (again0 : (Int → (Option Bool))) => (fun (s1 : Int) => (cond (decide (s1 < (((List.length x.1) : Nat) : Int))) (bindO (getI x.1 s1) (fun (a2 : Int) => (bindO (getI x.2 s1) (fun (a3 : Int) => (cond (a2 != a3) (some false) (bindO (some (IntKind.wrap .i64 (s1 + (1 : Int)))) (fun (a4 : Int) => (again0 a4)))))))) (some true)))) (0 : Int)))

noncomputable def c_L_eqIntS : Con0 := ⟨pk_L_eqIntS, rk_L_eqIntS, M_L_eqIntS⟩

set_option maxRecDepth 100000 in
theorem eq_L_eqIntS (x : In pk_L_eqIntS) : semF (mkE []) h_L_eqIntS (info Try.f19) pk_L_eqIntS rk_L_eqIntS x = M_L_eqIntS x := by kernel_rfl

set_option maxRecDepth 100000 in
theorem m_L_eqIntS : ConOK Try.prog 19 c_L_eqIntS := fn_ok (tyOK _) (E := mkE []) (consOK_nil rfl) Try.func19 (h := h_L_eqIntS) (by kernel_rfl) eq_L_eqIntS

/-- L_FnExactPossibleLinks -/
def pk_L_FnExactPossibleLinks : List PK := [.data (.int .i64), .data (.int .i64), .data (.sl (.int .i64))]
def rk_L_FnExactPossibleLinks : List (Ty × Bool) := [(.bool, false)]
def h_L_FnExactPossibleLinks : Hints := { loops := [] }
noncomputable def M_L_FnExactPossibleLinks (x : (Int × (Int × (List Int)))) : (Option Bool) :=
  (cond (decide ((((List.length x.2.2) : Nat) : Int) > (1048576 : Int))) (some true) (bindO (M_L_toIntS x.2.2) (fun (a0 : (List Int)) => (bindO (M_S_PossibleLinks (x.1, (x.2.1, a0))) (fun (a1 : (Int × Bool)) => (bindO (M_L_toIntS x.2.2) (fun (a2 : (List Int)) => (bindO (M_I_PossibleLinks (x.1, (x.2.1, a2))) (fun (a3 : (Int × Bool)) => (cond (a3.1 != a1.1) (some false) (cond (not (a3.2 == a1.2)) (some false) (bindO (M_L_toIntS x.2.2) (fun (a4 : (List Int)) => (bindO (M_L_eqIntS (a2, a4)) (fun (a5 : Bool) => (cond (not a5) (some false) (some true)))))))))))))))))

noncomputable def c_L_FnExactPossibleLinks : Con0 := ⟨pk_L_FnExactPossibleLinks, rk_L_FnExactPossibleLinks, M_L_FnExactPossibleLinks⟩

set_option maxRecDepth 100000 in
theorem eq_L_FnExactPossibleLinks (x : In pk_L_FnExactPossibleLinks) : semF (mkE [(17, c_L_toIntS), (29, c_S_PossibleLinks), (30, c_I_PossibleLinks), (19, c_L_eqIntS)]) h_L_FnExactPossibleLinks (info Try.f8) pk_L_FnExactPossibleLinks rk_L_FnExactPossibleLinks x = M_L_FnExactPossibleLinks x := by kernel_rfl

set_option maxRecDepth 100000 in
theorem m_L_FnExactPossibleLinks : ConOK Try.prog 8 c_L_FnExactPossibleLinks := fn_ok (tyOK _) (E := mkE [(17, c_L_toIntS), (29, c_S_PossibleLinks), (30, c_I_PossibleLinks), (19, c_L_eqIntS)]) (consOK_cons m_L_toIntS (consOK_cons m_S_PossibleLinks (consOK_cons m_I_PossibleLinks (consOK_cons m_L_eqIntS (consOK_nil rfl))))) Try.func8 (h := h_L_FnExactPossibleLinks) (by kernel_rfl) eq_L_FnExactPossibleLinks

end Go.Proofs.Ytlacogoljcpijaa.Vd
