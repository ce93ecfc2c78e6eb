/- The functions of the law as plain functions on data, and that the program's functions are these. No conditions. -/
import Derived.Test.YtnnkhkljdjbioaaVd3
import Derived.Test.YtnnkhkljdjbioaaChecked
import Derived.KernelRfl
set_option linter.unusedVariables false
namespace Go.Proofs.Ytnnkhkljdjbioaa.Vd
def tys : List (Option Ty) := [none, none, some (.int .i64), some (.int .i64), some .bool, some (.int .u8), some (.int .u8), some (.cons (.int .i64) (.cons (.int .i64) (.cons .bool (.one (.int .u8))))), some (.cons (.int .i64) (.cons (.int .i64) (.cons .bool (.one (.int .u8))))), some .str, some .str, some .str, some (.int .u64), some (.cons .str (.one (.int .u64))), some (.cons .str (.one (.int .u64))), none, none, none, none, none, none, some (.int .i32), some (.sl (.sl (.int .i64))), none, none, none, none, none, none, none, none, some (.sl (.int .i64)), none, none, none, none, none, none, some (.sl (.int .u8)), none, none, none, none, none, none, none, none, none, none, none, none, none, none, none, none, none, none, some (.int .u64), some (.cons (.sl (.int .u8)) (.cons (.int .i64) (.one (.int .u64)))), some (.cons (.sl (.int .u8)) (.cons (.int .i64) (.one (.int .u64)))), none, none, none, none, some (.int .u64), none, none, none, none, some (.sl .bool), none, none, none, none, none, none, none, none, some (.int .u32), none, none, none, none, none, none, none, none, none, none, none, none, some (.int .u8), some (.int .u8), none, none, some (.int .i32), some (.int .i32), none, none, none]
def others : List Nat := [1, 15, 16, 17, 23, 25, 26, 27, 28, 30, 33, 34, 35, 36, 37, 39, 41, 42, 44, 45, 46, 47, 48, 49, 50, 51, 52, 53, 54, 55, 56, 60, 61, 62, 63, 65, 66, 67, 68, 70, 71, 72, 73, 74, 75, 76, 77, 79, 80, 81, 82, 83, 84, 85, 93, 94]
def pairs : List Nat := []
noncomputable def mkE (con : List (Nat × Con0)) : Env := ⟨[], tys, others, pairs, con⟩

set_option maxRecDepth 100000 in
theorem tyOK (con : List (Nat × Con0)) : TyOK Try.prog (mkE con) := tyOK_of (E := mkE con) (by kernel_rfl) (by kernel_rfl) (by kernel_rfl)

/-- L_szIntS -/
def pk_L_szIntS : List PK := [.data (.sl (.int .i64)), .data (.int .i64)]
def rk_L_szIntS : List (Ty × Bool) := [((.int .i64), false)]
def h_L_szIntS : Hints := { loops := [] }
noncomputable def M_L_szIntS (x : ((List Int) × Int)) : (Option Int) :=
  (bindO (some (IntKind.wrap .i64 (x.2 - (((List.length x.1) : Nat) : Int)))) (fun (a0 : Int) => (cond (decide (a0 < (0 : Int))) (some (- (1 : Int))) (some a0))))

noncomputable def c_L_szIntS : Con0 := ⟨pk_L_szIntS, rk_L_szIntS, M_L_szIntS⟩

set_option maxRecDepth 100000 in
theorem eq_L_szIntS (x : In pk_L_szIntS) : semF (mkE []) h_L_szIntS (info Try.f44) pk_L_szIntS rk_L_szIntS x = M_L_szIntS x := by kernel_rfl

set_option maxRecDepth 100000 in
theorem m_L_szIntS : ConOK Try.prog 44 c_L_szIntS := fn_ok (tyOK _) (E := mkE []) (consOK_nil rfl) Try.func44 (h := h_L_szIntS) (by kernel_rfl) eq_L_szIntS

/-- L_szIntSS -/
def pk_L_szIntSS : List PK := [.data (.sl (.sl (.int .i64))), .data (.int .i64)]
def rk_L_szIntSS : List (Ty × Bool) := [((.int .i64), false)]
def h_L_szIntSS : Hints := { loops := [(0, { items := [.slot 1 (.data (.int .i64) []), .slot 5 (.data (.int .i64) [])], kill := [2, 3, 4, 6, 7, 8, 9, 10, 11, 12, 13, 14, 15, 16, 17, 18, 19, 20, 21, 22, 23, 24, 25, 26] })] }
noncomputable def M_L_szIntSS (x : ((List (List Int)) × Int)) : (Option Int) :=
  (bindO (some (IntKind.wrap .i64 (x.2 - (((List.length x.1) : Nat) : Int)))) (fun (a0 : Int) => (cond (decide (a0 < (0 : Int))) (some (- (1 : Int))) (loopO (fun (again1 : ((Int × Int) → (Option Int))) => (fun (s2 : (Int × Int)) => (cond (decide (s2.2 < (((List.length x.1) : Nat) : Int))) (bindO (getI x.1 s2.2) (fun (a3 : (List Int)) => (bindO (M_L_szIntS (a3, s2.1)) (fun (a4 : Int) => (cond (decide (a4 < (0 : Int))) (some (- (1 : Int))) (bindO (some (IntKind.wrap .i64 (s2.2 + (1 : Int)))) (fun (a5 : Int) => (again1 (a4, a5))))))))) (some s2.1)))) (a0, (0 : Int))))))

noncomputable def c_L_szIntSS : Con0 := ⟨pk_L_szIntSS, rk_L_szIntSS, M_L_szIntSS⟩

set_option maxRecDepth 100000 in
theorem eq_L_szIntSS (x : In pk_L_szIntSS) : semF (mkE [(44, c_L_szIntS)]) h_L_szIntSS (info Try.f10) pk_L_szIntSS rk_L_szIntSS x = M_L_szIntSS x := by kernel_rfl

set_option maxRecDepth 100000 in
theorem m_L_szIntSS : ConOK Try.prog 10 c_L_szIntSS := fn_ok (tyOK _) (E := mkE [(44, c_L_szIntS)]) (consOK_cons m_L_szIntS (consOK_nil rfl)) Try.func10 (h := h_L_szIntSS) (by kernel_rfl) eq_L_szIntSS

/-- L_toIntS -/
def pk_L_toIntS : List PK := [.data (.sl (.int .i64))]
def rk_L_toIntS : List (Ty × Bool) := [((.sl (.int .i64)), true)]
def h_L_toIntS : Hints := { loops := [(0, { items := [.slot 4 (.data (.int .i64) []), .arr 3 (.int .i64) true], kill := [1, 2, 5, 6, 7, 8, 9, 10, 11, 12, 13, 14, 15, 16, 17, 18, 19, 20, 21] })] }
noncomputable def M_L_toIntS (x : (List Int)) : (Option (List Int)) :=
  (bindO (guardO (((decide ((0 : Int) ≤ (((List.length x) : Nat) : Int))) && (decide ((((List.length x) : Nat) : Int) ≤ (((List.length x) : Nat) : Int)))) && (decide ((((List.length x) : Nat) : Int) ≤ ((lim : Nat) : Int))))) (fun (a0 : Unit) => (loopO (fun (again1 : ((Int × (List Int)) → (Option (List Int)))) => (fun (s2 : (Int × (List Int))) => (cond (decide (s2.1 < (((List.length x) : Nat) : Int))) (bindO (getI x s2.1) (fun (a3 : Int) => (bindO (getI s2.2 s2.1) (fun (a4 : Int) => (bindO (some (List.set s2.2 (Int.toNat s2.1) a3)) (fun (a5 : (List Int)) => (bindO (some (IntKind.wrap .i64 (s2.1 + (1 : Int)))) (fun (a6 : Int) => (again1 (a6, a5)))))))))) (some s2.2)))) ((0 : Int), (List.replicate (Int.toNat (((List.length x) : Nat) : Int)) (0 : Int))))))

noncomputable def c_L_toIntS : Con0 := ⟨pk_L_toIntS, rk_L_toIntS, M_L_toIntS⟩

set_option maxRecDepth 100000 in
theorem eq_L_toIntS (x : In pk_L_toIntS) : semF (mkE []) h_L_toIntS (info Try.f22) pk_L_toIntS rk_L_toIntS x = M_L_toIntS x := by kernel_rfl

set_option maxRecDepth 100000 in
theorem m_L_toIntS : ConOK Try.prog 22 c_L_toIntS := fn_ok (tyOK _) (E := mkE []) (consOK_nil rfl) Try.func22 (h := h_L_toIntS) (by kernel_rfl) eq_L_toIntS

/-- L_toIntSS -/
def pk_L_toIntSS : List PK := [.data (.sl (.sl (.int .i64)))]
def rk_L_toIntSS : List (Ty × Bool) := [((.sl (.sl (.int .i64))), true)]
def h_L_toIntSS : Hints := { loops := [(0, { items := [.slot 4 (.data (.int .i64) []), .arr 3 (.sl (.int .i64)) true], kill := [1, 2, 5, 6, 7, 8, 9, 10, 11, 12, 13, 14, 15, 16, 17, 18, 19, 20, 21, 22] })] }
noncomputable def M_L_toIntSS (x : (List (List Int))) : (Option (List (List Int))) :=
  (bindO (guardO (((decide ((0 : Int) ≤ (((List.length x) : Nat) : Int))) && (decide ((((List.length x) : Nat) : Int) ≤ (((List.length x) : Nat) : Int)))) && (decide ((((List.length x) : Nat) : Int) ≤ ((lim : Nat) : Int))))) (fun (a0 : Unit) => (loopO (fun (again1 : ((Int × (List (List Int))) → (Option (List (List Int))))) => (fun (s2 : (Int × (List (List Int)))) => (cond (decide (s2.1 < (((List.length x) : Nat) : Int))) (bindO (getI x s2.1) (fun (a3 : (List Int)) => (bindO (M_L_toIntS a3) (fun (a4 : (List Int)) => (bindO (getI s2.2 s2.1) (fun (a5 : (List Int)) => (bindO (some (List.set s2.2 (Int.toNat s2.1) a4)) (fun (a6 : (List (List Int))) => (bindO (some (IntKind.wrap .i64 (s2.1 + (1 : Int)))) (fun (a7 : Int) => (again1 (a7, a6)))))))))))) (some s2.2)))) ((0 : Int), (List.replicate (Int.toNat (((List.length x) : Nat) : Int)) ([] : List Int))))))

noncomputable def c_L_toIntSS : Con0 := ⟨pk_L_toIntSS, rk_L_toIntSS, M_L_toIntSS⟩

set_option maxRecDepth 100000 in
theorem eq_L_toIntSS (x : In pk_L_toIntSS) : semF (mkE [(22, c_L_toIntS)]) h_L_toIntSS (info Try.f12) pk_L_toIntSS rk_L_toIntSS x = M_L_toIntSS x := by kernel_rfl

set_option maxRecDepth 100000 in
theorem m_L_toIntSS : ConOK Try.prog 12 c_L_toIntSS := fn_ok (tyOK _) (E := mkE [(22, c_L_toIntS)]) (consOK_cons m_L_toIntS (consOK_nil rfl)) Try.func12 (h := h_L_toIntSS) (by kernel_rfl) eq_L_toIntSS

/-- S_l1In -/
def pk_S_l1In : List PK := [.data (.int .i64), .data (.int .i64), .data (.int .i64)]
def rk_S_l1In : List (Ty × Bool) := [(.bool, false)]
def h_S_l1In : Hints := { loops := [] }
noncomputable def M_S_l1In (x : (Int × (Int × Int))) : (Option Bool) :=
  (cond (decide (x.1 ≥ x.2.1)) (some (decide (x.1 ≤ x.2.2))) (some false))

noncomputable def c_S_l1In : Con0 := ⟨pk_S_l1In, rk_S_l1In, M_S_l1In⟩

set_option maxRecDepth 100000 in
theorem eq_S_l1In (x : In pk_S_l1In) : semF (mkE []) h_S_l1In (info Try.f55) pk_S_l1In rk_S_l1In x = M_S_l1In x := by kernel_rfl

set_option maxRecDepth 100000 in
theorem m_S_l1In : ConOK Try.prog 55 c_S_l1In := fn_ok (tyOK _) (E := mkE []) (consOK_nil rfl) Try.func55 (h := h_S_l1In) (by kernel_rfl) eq_S_l1In

/-- S_l1All -/
def pk_S_l1All : List PK := [.data (.sl (.int .i64)), .data (.int .i64), .data (.int .i64)]
def rk_S_l1All : List (Ty × Bool) := [(.bool, false)]
def h_S_l1All : Hints := { loops := [(0, { items := [.slot 11 (.data (.int .i64) [])], kill := [0, 3, 4, 5, 6, 7, 8, 12, 13, 14, 15, 16, 17, 18, 19, 20] })] }
noncomputable def M_S_l1All (x : ((List Int) × (Int × Int))) : (Option Bool) :=
  (loopO (fun (again0 : (Int → (Option Bool))) => (fun (s1 : Int) => (cond (decide (s1 < (((List.length x.1) : Nat) : Int))) (bindO (getI x.1 s1) (fun (a2 : Int) => (bindO (M_S_l1In (a2, (x.2.1, x.2.2))) (fun (a3 : Bool) => (cond (not a3) (some false) (bindO (some (IntKind.wrap .i64 (s1 + (1 : Int)))) (fun (a4 : Int) => (again0 a4)))))))) (some true)))) (0 : Int))

noncomputable def c_S_l1All : Con0 := ⟨pk_S_l1All, rk_S_l1All, M_S_l1All⟩

set_option maxRecDepth 100000 in
theorem eq_S_l1All (x : In pk_S_l1All) : semF (mkE [(55, c_S_l1In)]) h_S_l1All (info Try.f74) pk_S_l1All rk_S_l1All x = M_S_l1All x := by kernel_rfl

set_option maxRecDepth 100000 in
theorem m_S_l1All : ConOK Try.prog 74 c_S_l1All := fn_ok (tyOK _) (E := mkE [(55, c_S_l1In)]) (consOK_cons m_S_l1In (consOK_nil rfl)) Try.func74 (h := h_S_l1All) (by kernel_rfl) eq_S_l1All

/-- S_l1Has -/
def pk_S_l1Has : List PK := [.data (.sl (.int .i64)), .data (.int .i64)]
def rk_S_l1Has : List (Ty × Bool) := [(.bool, false)]
def h_S_l1Has : Hints := { loops := [(0, { items := [.slot 9 (.data (.int .i64) [])], kill := [0, 2, 3, 4, 5, 6, 10, 11, 12, 13, 14, 15, 16] })] }
noncomputable def M_S_l1Has (x : ((List Int) × Int)) : (Option Bool) :=
  (loopO (fun (again0 : (Int → (Option Bool))) => (fun (s1 : Int) => (cond (decide (s1 < (((List.length x.1) : Nat) : Int))) (bindO (getI x.1 s1) (fun (a2 : Int) => (cond (a2 == x.2) (some true) (bindO (some (IntKind.wrap .i64 (s1 + (1 : Int)))) (fun (a3 : Int) => (again0 a3)))))) (some false)))) (0 : Int))

noncomputable def c_S_l1Has : Con0 := ⟨pk_S_l1Has, rk_S_l1Has, M_S_l1Has⟩

set_option maxRecDepth 100000 in
theorem eq_S_l1Has (x : In pk_S_l1Has) : semF (mkE []) h_S_l1Has (info Try.f83) pk_S_l1Has rk_S_l1Has x = M_S_l1Has x := by kernel_rfl

set_option maxRecDepth 100000 in
theorem m_S_l1Has : ConOK Try.prog 83 c_S_l1Has := fn_ok (tyOK _) (E := mkE []) (consOK_nil rfl) Try.func83 (h := h_S_l1Has) (by kernel_rfl) eq_S_l1Has

/-- S_vDifferent -/
def pk_S_vDifferent : List PK := [.data (.sl (.int .i64))]
def rk_S_vDifferent : List (Ty × Bool) := [(.bool, false)]
def h_S_vDifferent : Hints := { loops := [(0, { items := [.slot 7 (.data (.int .i64) [])], kill := [1, 2, 3, 4, 8, 9, 10, 11, 12, 13, 14, 15, 16, 17] })] }
noncomputable def M_S_vDifferent (x : (List Int)) : (Option Bool) :=
  (loopO (fun (again0 : (Int → (Option Bool))) => (fun (s1 : Int) => (cond (decide (s1 < (((List.length x) : Nat) : Int))) (bindO (getI x s1) (fun (a2 : Int) => (bindO (sliceNH s1 (List.length x)) (fun (a3 : (Nat × Nat)) => (bindO (M_S_l1Has ((List.drop a3.1 (List.take a3.2 x)), a2)) (fun (a4 : Bool) => (cond a4 (some false) (bindO (some (IntKind.wrap .i64 (s1 + (1 : Int)))) (fun (a5 : Int) => (again0 a5)))))))))) (some true)))) (0 : Int))

noncomputable def c_S_vDifferent : Con0 := ⟨pk_S_vDifferent, rk_S_vDifferent, M_S_vDifferent⟩

set_option maxRecDepth 100000 in
theorem eq_S_vDifferent (x : In pk_S_vDifferent) : semF (mkE [(83, c_S_l1Has)]) h_S_vDifferent (info Try.f75) pk_S_vDifferent rk_S_vDifferent x = M_S_vDifferent x := by kernel_rfl

set_option maxRecDepth 100000 in
theorem m_S_vDifferent : ConOK Try.prog 75 c_S_vDifferent := fn_ok (tyOK _) (E := mkE [(83, c_S_l1Has)]) (consOK_cons m_S_l1Has (consOK_nil rfl)) Try.func75 (h := h_S_vDifferent) (by kernel_rfl) eq_S_vDifferent

/-- S_tRanks -/
def pk_S_tRanks : List PK := [.data (.int .i64), .data (.sl (.sl (.int .i64)))]
def rk_S_tRanks : List (Ty × Bool) := [(.bool, false)]
def h_S_tRanks : Hints := { loops := [(0, { items := [.slot 17 (.data (.int .i64) [])], kill := [1, 2, 3, 4, 5, 6, 7, 8, 9, 10, 11, 12, 13, 14, 18, 19, 20, 21, 22, 23, 24, 25, 26, 27, 28, 29, 30, 31] })] }
noncomputable def M_S_tRanks (x : (Int × (List (List Int)))) : (Option Bool) :=
  (bindO (M_S_l1In (x.1, ((1 : Int), (8 : Int)))) (fun (a0 : Bool) => (cond (not a0) (some false) (cond (decide ((((List.length x.2) : Nat) : Int) > (24 : Int))) (some false) (loopO (fun (again1 : (Int → (Option Bool))) => (fun (s2 : Int) => (cond (decide (s2 < (((List.length x.2) : Nat) : Int))) (bindO (getI x.2 s2) (fun (a3 : (List Int)) => (bindO (some (IntKind.wrap .i64 (x.1 - (1 : Int)))) (fun (a4 : Int) => (bindO (M_S_l1All (a3, ((0 : Int), a4))) (fun (a5 : Bool) => (cond (not a5) (some false) (bindO (M_S_vDifferent a3) (fun (a6 : Bool) => (cond (not a6) (some false) (bindO (some (IntKind.wrap .i64 (s2 + (1 : Int)))) (fun (a7 : Int) => (again1 a7))))))))))))) (some true)))) (0 : Int))))))

noncomputable def c_S_tRanks : Con0 := ⟨pk_S_tRanks, rk_S_tRanks, M_S_tRanks⟩

set_option maxRecDepth 100000 in
theorem eq_S_tRanks (x : In pk_S_tRanks) : semF (mkE [(55, c_S_l1In), (74, c_S_l1All), (75, c_S_vDifferent)]) h_S_tRanks (info Try.f45) pk_S_tRanks rk_S_tRanks x = M_S_tRanks x := by kernel_rfl

set_option maxRecDepth 100000 in
theorem m_S_tRanks : ConOK Try.prog 45 c_S_tRanks := fn_ok (tyOK _) (E := mkE [(55, c_S_l1In), (74, c_S_l1All), (75, c_S_vDifferent)]) (consOK_cons m_S_l1In (consOK_cons m_S_l1All (consOK_cons m_S_vDifferent (consOK_nil rfl)))) Try.func45 (h := h_S_tRanks) (by kernel_rfl) eq_S_tRanks

/-- S_tFirst -/
def pk_S_tFirst : List PK := [.data (.int .i64), .data (.sl (.sl (.int .i64))), .data (.sl (.int .i64))]
def rk_S_tFirst : List (Ty × Bool) := [((.sl (.int .i64)), true)]
def h_S_tFirst : Hints := { loops := [(0, { items := [.slot 18 (.data (.int .i64) []), .arr 7 (.int .i64) true], kill := [0, 2, 3, 4, 5, 6, 8, 9, 10, 11, 12, 13, 14, 15, 19, 20, 21, 22, 23, 24, 25, 26, 27, 28, 29, 30, 31, 32, 33, 34, 35, 36, 37, 38, 39, 40, 41, 42, 43, 44, 45, 46, 47, 48, 49, 50, 51] }), (2, { items := [.slot 28 (.data (.int .i64) []), .arr 7 (.int .i64) true], kill := [0, 1, 2, 3, 4, 5, 6, 8, 9, 10, 11, 12, 13, 14, 15, 16, 17, 18, 19, 20, 21, 22, 23, 24, 25, 29, 30, 31, 32, 33, 34, 35, 36, 37, 38, 39, 40, 41, 42, 43, 44, 45, 46, 47, 48, 49, 50, 51] }), (4, { items := [.slot 34 (.data (.int .i64) []), .arr 7 (.int .i64) true], kill := [0, 1, 2, 3, 4, 5, 6, 8, 9, 10, 11, 12, 13, 14, 15, 16, 17, 18, 19, 20, 21, 22, 23, 24, 25, 29, 30, 31, 35, 36, 37, 38, 39, 40, 41, 42, 43, 44, 45, 46, 47, 48, 49, 50, 51] })] }
noncomputable def M_S_tFirst (x : (Int × ((List (List Int)) × (List Int)))) : (Option (List Int)) :=
  (bindO (guardO (((decide ((0 : Int) ≤ x.1)) && (decide (x.1 ≤ x.1))) && (decide (x.1 ≤ ((lim : Nat) : Int))))) (fun (a0 : Unit) => (loopO (fun (again1 : ((Int × (List Int)) → (Option (List Int)))) => (fun (s2 : (Int × (List Int))) => (cond (decide (s2.1 < (((List.length x.2.2) : Nat) : Int))) (bindO (getI x.2.2 s2.1) (fun (a3 : Int) => (bindO (getI s2.2 a3) (fun (a4 : Int) => (bindO (some (List.set s2.2 (Int.toNat a3) (- (1 : Int)))) (fun (a5 : (List Int)) => (bindO (some (IntKind.wrap .i64 (s2.1 + (1 : Int)))) (fun (a6 : Int) => (again1 (a6, a5)))))))))) (loopO (fun (again7 : ((Int × (List Int)) → (Option (List Int)))) => (fun (s8 : (Int × (List Int))) => (cond (decide (s8.1 < (((List.length x.2.1) : Nat) : Int))) (bindO (getI x.2.1 s8.1) (fun (a9 : (List Int)) => (loopO (fun (again10 : ((Int × (List Int)) → (Option (List Int)))) => (fun (s11 : (Int × (List Int))) => (cond (decide (s11.1 < (((List.length a9) : Nat) : Int))) (bindO (getI a9 s11.1) (fun (a12 : Int) => (bindO (getI s11.2 a12) (fun (a13 : Int) => (cond (decide (a13 ≥ (0 : Int))) (bindO (getI s11.2 a12) (fun (a14 : Int) => (bindO (some (IntKind.wrap .i64 (a14 + (1 : Int)))) (fun (a15 : Int) => (bindO (getI s11.2 a12) (fun (a16 : Int) => (bindO (some (List.set s11.2 (Int.toNat a12) a15)) (fun (a17 : (List Int)) => (bindO (some (IntKind.wrap .i64 (s8.1 + (1 : Int)))) (fun (a18 : Int) => (again7 (a18, a17)))))))))))) (bindO (some (IntKind.wrap .i64 (s11.1 + (1 : Int)))) (fun (a19 : Int) => (again10 (a19, s11.2))))))))) (bindO (some (IntKind.wrap .i64 (s8.1 + (1 : Int)))) (fun (a20 : Int) => (again7 (a20, s11.2))))))) ((0 : Int), s8.2)))) (some s8.2)))) ((0 : Int), s2.2))))) ((0 : Int), (List.replicate (Int.toNat x.1) (0 : Int))))))

noncomputable def c_S_tFirst : Con0 := ⟨pk_S_tFirst, rk_S_tFirst, M_S_tFirst⟩

set_option maxRecDepth 100000 in
theorem eq_S_tFirst (x : In pk_S_tFirst) : semF (mkE []) h_S_tFirst (info Try.f81) pk_S_tFirst rk_S_tFirst x = M_S_tFirst x := by kernel_rfl

set_option maxRecDepth 100000 in
theorem m_S_tFirst : ConOK Try.prog 81 c_S_tFirst := fn_ok (tyOK _) (E := mkE []) (consOK_nil rfl) Try.func81 (h := h_S_tFirst) (by kernel_rfl) eq_S_tFirst

/-- S_l1Most -/
def pk_S_l1Most : List PK := [.data (.int .i64), .data (.int .i64)]
def rk_S_l1Most : List (Ty × Bool) := [((.int .i64), false)]
def h_S_l1Most : Hints := { loops := [] }
noncomputable def M_S_l1Most (x : (Int × Int)) : (Option Int) :=
  (cond (decide (x.1 > x.2)) (some x.1) (some x.2))

noncomputable def c_S_l1Most : Con0 := ⟨pk_S_l1Most, rk_S_l1Most, M_S_l1Most⟩

set_option maxRecDepth 100000 in
theorem eq_S_l1Most (x : In pk_S_l1Most) : semF (mkE []) h_S_l1Most (info Try.f82) pk_S_l1Most rk_S_l1Most x = M_S_l1Most x := by kernel_rfl

set_option maxRecDepth 100000 in
theorem m_S_l1Most : ConOK Try.prog 82 c_S_l1Most := fn_ok (tyOK _) (E := mkE []) (consOK_nil rfl) Try.func82 (h := h_S_l1Most) (by kernel_rfl) eq_S_l1Most

/-- S_tRounds -/
def pk_S_tRounds : List PK := [.data (.int .i64), .data (.sl (.sl (.int .i64)))]
def rk_S_tRounds : List (Ty × Bool) := [((.sl (.sl (.int .i64))), true)]
def h_S_tRounds : Hints := { loops := [(0, { items := [.slot 5 (.own (.sl (.int .i64)) true), .slot 6 (.own (.int .i64) true)], kill := [2, 3, 4, 7, 8, 9, 10, 11, 12, 13, 14, 15, 16, 17, 18, 19, 20, 21, 22, 23, 24, 25, 26, 27, 28, 29, 30, 31, 32, 33, 34, 35, 36, 37, 38, 39, 40, 41, 42, 43, 44, 45, 46, 47, 48, 49, 50, 51, 52, 53, 54, 55, 56, 57, 58, 59, 60, 61, 62, 63] }), (2, { items := [.slot 8 (.data (.int .i64) []), .slot 9 (.data (.int .i64) []), .slot 10 (.data (.int .i64) []), .slot 23 (.data (.int .i64) [])], kill := [2, 3, 4, 11, 12, 13, 14, 15, 16, 17, 18, 19, 20, 24, 25, 26, 27, 28, 29, 30, 31, 32, 33, 34, 35, 36, 37, 38, 39, 40, 41, 42, 43, 44, 45, 46, 47, 48, 49, 50, 51, 52, 53, 54, 55, 56, 57, 58, 59, 60, 61, 62, 63] })] }
noncomputable def M_S_tRounds (x : (Int × (List (List Int)))) : (Option (List (List Int))) :=
  (loopO (fun (again0 : (((List (List Int)) × (List Int)) → (Option (List (List Int))))) => (fun (s1 : ((List (List Int)) × (List Int))) => (bindO (M_S_tFirst (x.1, (x.2, s1.2))) (fun (a2 : (List Int)) => (bindO (guardO (lenOk ((List.length s1.1) + (List.length (a2 :: ([] : List (List Int))))))) (fun (a3 : Unit) => (bindO (some (s1.1 ++ (a2 :: ([] : List (List Int))))) (fun (a4 : (List (List Int))) => (loopO (fun (again5 : ((Int × (Int × (Int × Int))) → (Option (List (List Int))))) => (fun (s6 : (Int × (Int × (Int × Int)))) => (cond (decide (s6.2.2.2 < (((List.length a2) : Nat) : Int))) (bindO (getI a2 s6.2.2.2) (fun (a7 : Int) => (cond (decide (a7 < (0 : Int))) (bindO (some (IntKind.wrap .i64 (s6.2.2.2 + (1 : Int)))) (fun (a8 : Int) => (again5 (s6.1, (s6.2.1, (s6.2.2.1, a8)))))) (bindO (some (IntKind.wrap .i64 (s6.1 + a7))) (fun (a9 : Int) => (bindO (M_S_l1Most (s6.2.1, a7)) (fun (a10 : Int) => (cond (decide (s6.2.2.1 < (0 : Int))) (bindO (some (IntKind.wrap .i64 (s6.2.2.2 + (1 : Int)))) (fun (a11 : Int) => (again5 (a9, (a10, (s6.2.2.2, a11)))))) (bindO (getI a2 s6.2.2.1) (fun (a12 : Int) => (cond (decide (a7 ≤ a12)) (bindO (some (IntKind.wrap .i64 (s6.2.2.2 + (1 : Int)))) (fun (a13 : Int) => (again5 (a9, (a10, (s6.2.2.2, a13)))))) (bindO (some (IntKind.wrap .i64 (s6.2.2.2 + (1 : Int)))) (fun (a14 : Int) => (again5 (a9, (a10, (s6.2.2.1, a14))))))))))))))))) (bindO (some (IntKind.wrap .i64 ((2 : Int) * s6.2.1))) (fun (a15 : Int) => (cond (decide (a15 > s6.1)) (some a4) (bindO (some (IntKind.wrap .i64 (x.1 - (1 : Int)))) (fun (a16 : Int) => (cond (decide ((((List.length s1.2) : Nat) : Int) ≥ a16)) (some a4) (bindO (guardO (lenOk ((List.length s1.2) + (List.length (s6.2.2.1 :: ([] : List Int)))))) (fun (a17 : Unit) => (bindO (some (s1.2 ++ (s6.2.2.1 :: ([] : List Int)))) (fun (a18 : (List Int)) => (again0 (a4, a18))))))))))))))) ((0 : Int), ((0 : Int), ((- (1 : Int)), (0 : Int))))))))))))) (([] : List (List Int)), ([] : List Int)))

noncomputable def c_S_tRounds : Con0 := ⟨pk_S_tRounds, rk_S_tRounds, M_S_tRounds⟩

set_option maxRecDepth 100000 in
theorem eq_S_tRounds (x : In pk_S_tRounds) : semF (mkE [(81, c_S_tFirst), (82, c_S_l1Most)]) h_S_tRounds (info Try.f53) pk_S_tRounds rk_S_tRounds x = M_S_tRounds x := by kernel_rfl

set_option maxRecDepth 100000 in
theorem m_S_tRounds : ConOK Try.prog 53 c_S_tRounds := fn_ok (tyOK _) (E := mkE [(81, c_S_tFirst), (82, c_S_l1Most)]) (consOK_cons m_S_tFirst (consOK_cons m_S_l1Most (consOK_nil rfl))) Try.func53 (h := h_S_tRounds) (by kernel_rfl) eq_S_tRounds

/-- S_tTop -/
def pk_S_tTop : List PK := [.data (.sl (.int .i64)), .data (.int .i64)]
def rk_S_tTop : List (Ty × Bool) := [((.sl (.int .i64)), true)]
def h_S_tTop : Hints := { loops := [(0, { items := [.slot 5 (.own (.int .i64) true)], kill := [2, 3, 4, 6, 7, 8, 9, 10, 11, 12, 13, 14, 15, 16, 17, 18, 19, 20, 21, 22, 23, 24, 25, 26, 27, 28, 29, 30, 31, 32, 33, 34, 35, 36, 37, 38, 39, 40, 41, 42] }), (2, { items := [.slot 6 (.data (.int .i64) []), .slot 15 (.data (.int .i64) [])], kill := [2, 3, 4, 7, 8, 9, 10, 11, 12, 16, 17, 18, 19, 20, 21, 22, 23, 24, 25, 26, 27, 28, 29, 30, 31, 32, 33, 34, 35, 36, 37, 38, 39, 40, 41, 42] })] }
noncomputable def M_S_tTop (x : ((List Int) × Int)) : (Option (List Int)) :=
  (loopO (fun (again0 : ((List Int) → (Option (List Int)))) => (fun (s1 : (List Int)) => (cond (decide ((((List.length s1) : Nat) : Int) < x.2)) (loopO (fun (again2 : ((Int × Int) → (Option (List Int)))) => (fun (s3 : (Int × Int)) => (cond (decide (s3.2 < (((List.length x.1) : Nat) : Int))) (bindO (getI x.1 s3.2) (fun (a4 : Int) => (bindO (M_S_l1Has (s1, s3.2)) (fun (a5 : Bool) => (cond (not a5) (cond (decide (s3.1 < (0 : Int))) (bindO (some (IntKind.wrap .i64 (s3.2 + (1 : Int)))) (fun (a6 : Int) => (again2 (s3.2, a6)))) (bindO (getI x.1 s3.1) (fun (a7 : Int) => (cond (decide (a4 > a7)) (bindO (some (IntKind.wrap .i64 (s3.2 + (1 : Int)))) (fun (a8 : Int) => (again2 (s3.2, a8)))) (bindO (some (IntKind.wrap .i64 (s3.2 + (1 : Int)))) (fun (a9 : Int) => (again2 (s3.1, a9)))))))) (bindO (some (IntKind.wrap .i64 (s3.2 + (1 : Int)))) (fun (a10 : Int) => (again2 (s3.1, a10))))))))) (bindO (guardO (lenOk ((List.length s1) + (List.length (s3.1 :: ([] : List Int)))))) (fun (a11 : Unit) => (bindO (some (s1 ++ (s3.1 :: ([] : List Int)))) (fun (a12 : (List Int)) => (again0 a12)))))))) ((- (1 : Int)), (0 : Int))) (some s1)))) ([] : List Int))

noncomputable def c_S_tTop : Con0 := ⟨pk_S_tTop, rk_S_tTop, M_S_tTop⟩

set_option maxRecDepth 100000 in
theorem eq_S_tTop (x : In pk_S_tTop) : semF (mkE [(83, c_S_l1Has)]) h_S_tTop (info Try.f56) pk_S_tTop rk_S_tTop x = M_S_tTop x := by kernel_rfl

set_option maxRecDepth 100000 in
theorem m_S_tTop : ConOK Try.prog 56 c_S_tTop := fn_ok (tyOK _) (E := mkE [(83, c_S_l1Has)]) (consOK_cons m_S_l1Has (consOK_nil rfl)) Try.func56 (h := h_S_tTop) (by kernel_rfl) eq_S_tTop

/-- S_tRunoff -/
def pk_S_tRunoff : List PK := [.data (.int .i64), .data (.sl (.sl (.int .i64)))]
def rk_S_tRunoff : List (Ty × Bool) := [((.int .i64), false)]
def h_S_tRunoff : Hints := { loops := [] }
noncomputable def M_S_tRunoff (x : (Int × (List (List Int)))) : (Option Int) :=
  (bindO (M_S_tRounds (x.1, x.2)) (fun (a0 : (List (List Int))) => (bindO (some (IntKind.wrap .i64 ((((List.length a0) : Nat) : Int) - (1 : Int)))) (fun (a1 : Int) => (bindO (getI a0 a1) (fun (a2 : (List Int)) => (bindO (M_S_tTop (a2, (1 : Int))) (fun (a3 : (List Int)) => (bindO (getI a3 (0 : Int)) (fun (a4 : Int) => (some a4)))))))))))

noncomputable def c_S_tRunoff : Con0 := ⟨pk_S_tRunoff, rk_S_tRunoff, M_S_tRunoff⟩

set_option maxRecDepth 100000 in
theorem eq_S_tRunoff (x : In pk_S_tRunoff) : semF (mkE [(53, c_S_tRounds), (56, c_S_tTop)]) h_S_tRunoff (info Try.f49) pk_S_tRunoff rk_S_tRunoff x = M_S_tRunoff x := by kernel_rfl

set_option maxRecDepth 100000 in
theorem m_S_tRunoff : ConOK Try.prog 49 c_S_tRunoff := fn_ok (tyOK _) (E := mkE [(53, c_S_tRounds), (56, c_S_tTop)]) (consOK_cons m_S_tRounds (consOK_cons m_S_tTop (consOK_nil rfl))) Try.func49 (h := h_S_tRunoff) (by kernel_rfl) eq_S_tRunoff

/-- S_RunoffWinner -/
def pk_S_RunoffWinner : List PK := [.data (.int .i64), .data (.sl (.sl (.int .i64)))]
def rk_S_RunoffWinner : List (Ty × Bool) := [((.int .i64), false), (.bool, false)]
def h_S_RunoffWinner : Hints := { loops := [] }
noncomputable def M_S_RunoffWinner (x : (Int × (List (List Int)))) : (Option (Int × Bool)) :=
  (bindO (M_S_tRanks (x.1, x.2)) (fun (a0 : Bool) => (cond (not a0) (some ((0 : Int), false)) (bindO (M_S_tRunoff (x.1, x.2)) (fun (a1 : Int) => (some (a1, true)))))))

noncomputable def c_S_RunoffWinner : Con0 := ⟨pk_S_RunoffWinner, rk_S_RunoffWinner, M_S_RunoffWinner⟩

set_option maxRecDepth 100000 in
theorem eq_S_RunoffWinner (x : In pk_S_RunoffWinner) : semF (mkE [(45, c_S_tRanks), (49, c_S_tRunoff)]) h_S_RunoffWinner (info Try.f17) pk_S_RunoffWinner rk_S_RunoffWinner x = M_S_RunoffWinner x := by kernel_rfl

set_option maxRecDepth 100000 in
theorem m_S_RunoffWinner : ConOK Try.prog 17 c_S_RunoffWinner := fn_ok (tyOK _) (E := mkE [(45, c_S_tRanks), (49, c_S_tRunoff)]) (consOK_cons m_S_tRanks (consOK_cons m_S_tRunoff (consOK_nil rfl))) Try.func17 (h := h_S_RunoffWinner) (by kernel_rfl) eq_S_RunoffWinner

/-- I_within -/
def pk_I_within : List PK := [.data (.int .i64), .data (.int .i64), .data (.int .i64)]
def rk_I_within : List (Ty × Bool) := [(.bool, false)]
def h_I_within : Hints := { loops := [] }
noncomputable def M_I_within (x : (Int × (Int × Int))) : (Option Bool) :=
  (cond (decide (x.1 ≥ x.2.1)) (some (decide (x.1 ≤ x.2.2))) (some false))

noncomputable def c_I_within : Con0 := ⟨pk_I_within, rk_I_within, M_I_within⟩

set_option maxRecDepth 100000 in
theorem eq_I_within (x : In pk_I_within) : semF (mkE []) h_I_within (info Try.f58) pk_I_within rk_I_within x = M_I_within x := by kernel_rfl

set_option maxRecDepth 100000 in
theorem m_I_within : ConOK Try.prog 58 c_I_within := fn_ok (tyOK _) (E := mkE []) (consOK_nil rfl) Try.func58 (h := h_I_within) (by kernel_rfl) eq_I_within

/-- slices_IndexFunc_ssint_sint -/
def pk_slices_IndexFunc_ssint_sint : List PK := [.data (.sl (.sl (.int .i64))), .fn [(.sl (.int .i64))] .bool]
def rk_slices_IndexFunc_ssint_sint : List (Ty × Bool) := [((.int .i64), false)]
def h_slices_IndexFunc_ssint_sint : Hints := { loops := [(0, { items := [.slot 8 (.data (.int .i64) [])], kill := [2, 3, 4, 5, 6, 9, 10, 11, 12, 13, 14, 15, 16, 17, 18] })] }
noncomputable def M_slices_IndexFunc_ssint_sint (x : ((List (List Int)) × ((List Int) → (Option Bool)))) : (Option Int) :=
  (loopO (fun (again0 : (Int → (Option Int))) => (fun (s1 : Int) => (cond (decide (s1 < (((List.length x.1) : Nat) : Int))) (bindO (getI x.1 s1) (fun (a2 : (List Int)) => (bindO (x.2 a2) (fun (a3 : Bool) => (cond a3 (some s1) (bindO (some (IntKind.wrap .i64 (s1 + (1 : Int)))) (fun (a4 : Int) => (again0 a4)))))))) (some (- (1 : Int)))))) (0 : Int))

noncomputable def c_slices_IndexFunc_ssint_sint : Con0 := ⟨pk_slices_IndexFunc_ssint_sint, rk_slices_IndexFunc_ssint_sint, M_slices_IndexFunc_ssint_sint⟩

set_option maxRecDepth 100000 in
theorem eq_slices_IndexFunc_ssint_sint (x : In pk_slices_IndexFunc_ssint_sint) : semF (mkE []) h_slices_IndexFunc_ssint_sint (info Try.f94) pk_slices_IndexFunc_ssint_sint rk_slices_IndexFunc_ssint_sint x = M_slices_IndexFunc_ssint_sint x := by kernel_rfl

set_option maxRecDepth 100000 in
theorem m_slices_IndexFunc_ssint_sint : ConOK Try.prog 94 c_slices_IndexFunc_ssint_sint := fn_ok (tyOK _) (E := mkE []) (consOK_nil rfl) Try.func94 (h := h_slices_IndexFunc_ssint_sint) (by kernel_rfl) eq_slices_IndexFunc_ssint_sint

/-- slices_ContainsFunc_ssint_sint -/
def pk_slices_ContainsFunc_ssint_sint : List PK := [.data (.sl (.sl (.int .i64))), .fn [(.sl (.int .i64))] .bool]
def rk_slices_ContainsFunc_ssint_sint : List (Ty × Bool) := [(.bool, false)]
def h_slices_ContainsFunc_ssint_sint : Hints := { loops := [] }
noncomputable def M_slices_ContainsFunc_ssint_sint (x : ((List (List Int)) × ((List Int) → (Option Bool)))) : (Option Bool) :=
  (bindO (M_slices_IndexFunc_ssint_sint (x.1, x.2)) (fun (a0 : Int) => (some (decide (a0 ≥ (0 : Int))))))

noncomputable def c_slices_ContainsFunc_ssint_sint : Con0 := ⟨pk_slices_ContainsFunc_ssint_sint, rk_slices_ContainsFunc_ssint_sint, M_slices_ContainsFunc_ssint_sint⟩

set_option maxRecDepth 100000 in
theorem eq_slices_ContainsFunc_ssint_sint (x : In pk_slices_ContainsFunc_ssint_sint) : semF (mkE [(94, c_slices_IndexFunc_ssint_sint)]) h_slices_ContainsFunc_ssint_sint (info Try.f76) pk_slices_ContainsFunc_ssint_sint rk_slices_ContainsFunc_ssint_sint x = M_slices_ContainsFunc_ssint_sint x := by kernel_rfl

set_option maxRecDepth 100000 in
theorem m_slices_ContainsFunc_ssint_sint : ConOK Try.prog 76 c_slices_ContainsFunc_ssint_sint := fn_ok (tyOK _) (E := mkE [(94, c_slices_IndexFunc_ssint_sint)]) (consOK_cons m_slices_IndexFunc_ssint_sint (consOK_nil rfl)) Try.func76 (h := h_slices_ContainsFunc_ssint_sint) (by kernel_rfl) eq_slices_ContainsFunc_ssint_sint

/-- slices_IndexFunc_sint_int -/
def pk_slices_IndexFunc_sint_int : List PK := [.data (.sl (.int .i64)), .fn [(.int .i64)] .bool]
def rk_slices_IndexFunc_sint_int : List (Ty × Bool) := [((.int .i64), false)]
def h_slices_IndexFunc_sint_int : Hints := { loops := [(0, { items := [.slot 8 (.data (.int .i64) [])], kill := [2, 3, 4, 5, 6, 9, 10, 11, 12, 13, 14, 15, 16, 17, 18] })] }
noncomputable def M_slices_IndexFunc_sint_int (x : ((List Int) × (Int → (Option Bool)))) : (Option Int) :=
  (loopO (fun (again0 : (Int → (Option Int))) => (fun (s1 : Int) => (cond (decide (s1 < (((List.length x.1) : Nat) : Int))) (bindO (getI x.1 s1) (fun (a2 : Int) => (bindO (x.2 a2) (fun (a3 : Bool) => (cond a3 (some s1) (bindO (some (IntKind.wrap .i64 (s1 + (1 : Int)))) (fun (a4 : Int) => (again0 a4)))))))) (some (- (1 : Int)))))) (0 : Int))

noncomputable def c_slices_IndexFunc_sint_int : Con0 := ⟨pk_slices_IndexFunc_sint_int, rk_slices_IndexFunc_sint_int, M_slices_IndexFunc_sint_int⟩

set_option maxRecDepth 100000 in
theorem eq_slices_IndexFunc_sint_int (x : In pk_slices_IndexFunc_sint_int) : semF (mkE []) h_slices_IndexFunc_sint_int (info Try.f96) pk_slices_IndexFunc_sint_int rk_slices_IndexFunc_sint_int x = M_slices_IndexFunc_sint_int x := by kernel_rfl

set_option maxRecDepth 100000 in
theorem m_slices_IndexFunc_sint_int : ConOK Try.prog 96 c_slices_IndexFunc_sint_int := fn_ok (tyOK _) (E := mkE []) (consOK_nil rfl) Try.func96 (h := h_slices_IndexFunc_sint_int) (by kernel_rfl) eq_slices_IndexFunc_sint_int

/-- slices_ContainsFunc_sint_int -/
def pk_slices_ContainsFunc_sint_int : List PK := [.data (.sl (.int .i64)), .fn [(.int .i64)] .bool]
def rk_slices_ContainsFunc_sint_int : List (Ty × Bool) := [(.bool, false)]
def h_slices_ContainsFunc_sint_int : Hints := { loops := [] }
noncomputable def M_slices_ContainsFunc_sint_int (x : ((List Int) × (Int → (Option Bool)))) : (Option Bool) :=
  (bindO (M_slices_IndexFunc_sint_int (x.1, x.2)) (fun (a0 : Int) => (some (decide (a0 ≥ (0 : Int))))))

noncomputable def c_slices_ContainsFunc_sint_int : Con0 := ⟨pk_slices_ContainsFunc_sint_int, rk_slices_ContainsFunc_sint_int, M_slices_ContainsFunc_sint_int⟩

set_option maxRecDepth 100000 in
theorem eq_slices_ContainsFunc_sint_int (x : In pk_slices_ContainsFunc_sint_int) : semF (mkE [(96, c_slices_IndexFunc_sint_int)]) h_slices_ContainsFunc_sint_int (info Try.f98) pk_slices_ContainsFunc_sint_int rk_slices_ContainsFunc_sint_int x = M_slices_ContainsFunc_sint_int x := by kernel_rfl

set_option maxRecDepth 100000 in
theorem m_slices_ContainsFunc_sint_int : ConOK Try.prog 98 c_slices_ContainsFunc_sint_int := fn_ok (tyOK _) (E := mkE [(96, c_slices_IndexFunc_sint_int)]) (consOK_cons m_slices_IndexFunc_sint_int (consOK_nil rfl)) Try.func98 (h := h_slices_ContainsFunc_sint_int) (by kernel_rfl) eq_slices_ContainsFunc_sint_int

/-- I_areAll_1 -/
def pk_I_areAll_1 : List PK := [.data (.int .i64), .rfn [(.int .i64)] .bool]
def rk_I_areAll_1 : List (Ty × Bool) := [(.bool, false)]
def h_I_areAll_1 : Hints := { loops := [] }
noncomputable def M_I_areAll_1 (x : (Int × (Int → (Option Bool)))) : (Option Bool) :=
  (bindO (x.2 x.1) (fun (a0 : Bool) => (some (not a0))))

noncomputable def c_I_areAll_1 : Con0 := ⟨pk_I_areAll_1, rk_I_areAll_1, M_I_areAll_1⟩

set_option maxRecDepth 100000 in
theorem eq_I_areAll_1 (x : In pk_I_areAll_1) : semF (mkE []) h_I_areAll_1 (info Try.f99) pk_I_areAll_1 rk_I_areAll_1 x = M_I_areAll_1 x := by kernel_rfl

set_option maxRecDepth 100000 in
theorem m_I_areAll_1 : ConOK Try.prog 99 c_I_areAll_1 := fn_ok (tyOK _) (E := mkE []) (consOK_nil rfl) Try.func99 (h := h_I_areAll_1) (by kernel_rfl) eq_I_areAll_1

/-- I_areAll -/
def pk_I_areAll : List PK := [.data (.sl (.int .i64)), .fn [(.int .i64)] .bool]
def rk_I_areAll : List (Ty × Bool) := [(.bool, false)]
def h_I_areAll : Hints := { loops := [] }
noncomputable def M_I_areAll (x : ((List Int) × (Int → (Option Bool)))) : (Option Bool) :=
  (bindO (M_slices_ContainsFunc_sint_int (x.1, (fun (a0 : Int) => (bindO (M_I_areAll_1 (a0, x.2)) (fun (a1 : Bool) => (some a1)))))) (fun (a2 : Bool) => (some (not a2))))

noncomputable def c_I_areAll : Con0 := ⟨pk_I_areAll, rk_I_areAll, M_I_areAll⟩

set_option maxRecDepth 100000 in
theorem eq_I_areAll (x : In pk_I_areAll) : semF (mkE [(98, c_slices_ContainsFunc_sint_int), (99, c_I_areAll_1)]) h_I_areAll (info Try.f84) pk_I_areAll rk_I_areAll x = M_I_areAll x := by kernel_rfl

set_option maxRecDepth 100000 in
theorem m_I_areAll : ConOK Try.prog 84 c_I_areAll := fn_ok (tyOK _) (E := mkE [(98, c_slices_ContainsFunc_sint_int), (99, c_I_areAll_1)]) (consOK_cons m_slices_ContainsFunc_sint_int (consOK_cons m_I_areAll_1 (consOK_nil rfl))) Try.func84 (h := h_I_areAll) (by kernel_rfl) eq_I_areAll

/-- I_areBelow_1 -/
def pk_I_areBelow_1 : List PK := [.data (.int .i64), .rp (.int .i64)]
def rk_I_areBelow_1 : List (Ty × Bool) := [(.bool, false)]
def h_I_areBelow_1 : Hints := { loops := [] }
noncomputable def M_I_areBelow_1 (x : (Int × Int)) : (Option Bool) :=
  (bindO (some (IntKind.wrap .i64 (x.2 - (1 : Int)))) (fun (a0 : Int) => (bindO (M_I_within (x.1, ((0 : Int), a0))) (fun (a1 : Bool) => (some a1)))))

noncomputable def c_I_areBelow_1 : Con0 := ⟨pk_I_areBelow_1, rk_I_areBelow_1, M_I_areBelow_1⟩

set_option maxRecDepth 100000 in
theorem eq_I_areBelow_1 (x : In pk_I_areBelow_1) : semF (mkE [(58, c_I_within)]) h_I_areBelow_1 (info Try.f95) pk_I_areBelow_1 rk_I_areBelow_1 x = M_I_areBelow_1 x := by kernel_rfl

set_option maxRecDepth 100000 in
theorem m_I_areBelow_1 : ConOK Try.prog 95 c_I_areBelow_1 := fn_ok (tyOK _) (E := mkE [(58, c_I_within)]) (consOK_cons m_I_within (consOK_nil rfl)) Try.func95 (h := h_I_areBelow_1) (by kernel_rfl) eq_I_areBelow_1

/-- I_areBelow -/
def pk_I_areBelow : List PK := [.data (.sl (.int .i64)), .data (.int .i64)]
def rk_I_areBelow : List (Ty × Bool) := [(.bool, false)]
def h_I_areBelow : Hints := { loops := [] }
noncomputable def M_I_areBelow (x : ((List Int) × Int)) : (Option Bool) :=
  (bindO (M_I_areAll (x.1, (fun (a0 : Int) => (bindO (M_I_areBelow_1 (a0, x.2)) (fun (a1 : Bool) => (some a1)))))) (fun (a2 : Bool) => (some a2)))

noncomputable def c_I_areBelow : Con0 := ⟨pk_I_areBelow, rk_I_areBelow, M_I_areBelow⟩

set_option maxRecDepth 100000 in
theorem eq_I_areBelow (x : In pk_I_areBelow) : semF (mkE [(84, c_I_areAll), (95, c_I_areBelow_1)]) h_I_areBelow (info Try.f78) pk_I_areBelow rk_I_areBelow x = M_I_areBelow x := by kernel_rfl

set_option maxRecDepth 100000 in
theorem m_I_areBelow : ConOK Try.prog 78 c_I_areBelow := fn_ok (tyOK _) (E := mkE [(84, c_I_areAll), (95, c_I_areBelow_1)]) (consOK_cons m_I_areAll (consOK_cons m_I_areBelow_1 (consOK_nil rfl))) Try.func78 (h := h_I_areBelow) (by kernel_rfl) eq_I_areBelow

/-- slices_Index_sint_int -/
def pk_slices_Index_sint_int : List PK := [.data (.sl (.int .i64)), .data (.int .i64)]
def rk_slices_Index_sint_int : List (Ty × Bool) := [((.int .i64), false)]
def h_slices_Index_sint_int : Hints := { loops := [(0, { items := [.slot 8 (.data (.int .i64) [])], kill := [2, 3, 4, 5, 6, 9, 10, 11, 12, 13, 14, 15, 16, 17, 18] })] }
noncomputable def M_slices_Index_sint_int (x : ((List Int) × Int)) : (Option Int) :=
  (loopO (fun (again0 : (Int → (Option Int))) => (fun (s1 : Int) => (cond (decide (s1 < (((List.length x.1) : Nat) : Int))) (bindO (getI x.1 s1) (fun (a2 : Int) => (cond (x.2 == a2) (some s1) (bindO (some (IntKind.wrap .i64 (s1 + (1 : Int)))) (fun (a3 : Int) => (again0 a3)))))) (some (- (1 : Int)))))) (0 : Int))

noncomputable def c_slices_Index_sint_int : Con0 := ⟨pk_slices_Index_sint_int, rk_slices_Index_sint_int, M_slices_Index_sint_int⟩

set_option maxRecDepth 100000 in
theorem eq_slices_Index_sint_int (x : In pk_slices_Index_sint_int) : semF (mkE []) h_slices_Index_sint_int (info Try.f51) pk_slices_Index_sint_int rk_slices_Index_sint_int x = M_slices_Index_sint_int x := by kernel_rfl

set_option maxRecDepth 100000 in
theorem m_slices_Index_sint_int : ConOK Try.prog 51 c_slices_Index_sint_int := fn_ok (tyOK _) (E := mkE []) (consOK_nil rfl) Try.func51 (h := h_slices_Index_sint_int) (by kernel_rfl) eq_slices_Index_sint_int

/-- slices_Contains_sint_int -/
def pk_slices_Contains_sint_int : List PK := [.data (.sl (.int .i64)), .data (.int .i64)]
def rk_slices_Contains_sint_int : List (Ty × Bool) := [(.bool, false)]
def h_slices_Contains_sint_int : Hints := { loops := [] }
noncomputable def M_slices_Contains_sint_int (x : ((List Int) × Int)) : (Option Bool) :=
  (bindO (M_slices_Index_sint_int (x.1, x.2)) (fun (a0 : Int) => (some (decide (a0 ≥ (0 : Int))))))

noncomputable def c_slices_Contains_sint_int : Con0 := ⟨pk_slices_Contains_sint_int, rk_slices_Contains_sint_int, M_slices_Contains_sint_int⟩

set_option maxRecDepth 100000 in
theorem eq_slices_Contains_sint_int (x : In pk_slices_Contains_sint_int) : semF (mkE [(51, c_slices_Index_sint_int)]) h_slices_Contains_sint_int (info Try.f48) pk_slices_Contains_sint_int rk_slices_Contains_sint_int x = M_slices_Contains_sint_int x := by kernel_rfl

set_option maxRecDepth 100000 in
theorem m_slices_Contains_sint_int : ConOK Try.prog 48 c_slices_Contains_sint_int := fn_ok (tyOK _) (E := mkE [(51, c_slices_Index_sint_int)]) (consOK_cons m_slices_Index_sint_int (consOK_nil rfl)) Try.func48 (h := h_slices_Contains_sint_int) (by kernel_rfl) eq_slices_Contains_sint_int

/-- I_areDifferent -/
def pk_I_areDifferent : List PK := [.data (.sl (.int .i64))]
def rk_I_areDifferent : List (Ty × Bool) := [(.bool, false)]
def h_I_areDifferent : Hints := { loops := [(0, { items := [.slot 7 (.data (.int .i64) [])], kill := [1, 2, 3, 4, 8, 9, 10, 11, 12, 13, 14, 15, 16, 17] })] }
noncomputable def M_I_areDifferent (x : (List Int)) : (Option Bool) :=
  (loopO (fun (again0 : (Int → (Option Bool))) => (fun (s1 : Int) => (cond (decide (s1 < (((List.length x) : Nat) : Int))) (bindO (getI x s1) (fun (a2 : Int) => (bindO (sliceNH s1 (List.length x)) (fun (a3 : (Nat × Nat)) => (bindO (M_slices_Contains_sint_int ((List.drop a3.1 (List.take a3.2 x)), a2)) (fun (a4 : Bool) => (cond a4 (some false) (bindO (some (IntKind.wrap .i64 (s1 + (1 : Int)))) (fun (a5 : Int) => (again0 a5)))))))))) (some true)))) (0 : Int))

noncomputable def c_I_areDifferent : Con0 := ⟨pk_I_areDifferent, rk_I_areDifferent, M_I_areDifferent⟩

set_option maxRecDepth 100000 in
theorem eq_I_areDifferent (x : In pk_I_areDifferent) : semF (mkE [(48, c_slices_Contains_sint_int)]) h_I_areDifferent (info Try.f79) pk_I_areDifferent rk_I_areDifferent x = M_I_areDifferent x := by kernel_rfl

set_option maxRecDepth 100000 in
theorem m_I_areDifferent : ConOK Try.prog 79 c_I_areDifferent := fn_ok (tyOK _) (E := mkE [(48, c_slices_Contains_sint_int)]) (consOK_cons m_slices_Contains_sint_int (consOK_nil rfl)) Try.func79 (h := h_I_areDifferent) (by kernel_rfl) eq_I_areDifferent

/-- I_areRankings_1 -/
def pk_I_areRankings_1 : List PK := [.data (.sl (.int .i64)), .rp (.int .i64)]
def rk_I_areRankings_1 : List (Ty × Bool) := [(.bool, false)]
def h_I_areRankings_1 : Hints := { loops := [] }
noncomputable def M_I_areRankings_1 (x : ((List Int) × Int)) : (Option Bool) :=
  (bindO (M_I_areBelow (x.1, x.2)) (fun (a0 : Bool) => (cond (not a0) (some true) (bindO (M_I_areDifferent x.1) (fun (a1 : Bool) => (some (not a1)))))))

noncomputable def c_I_areRankings_1 : Con0 := ⟨pk_I_areRankings_1, rk_I_areRankings_1, M_I_areRankings_1⟩

set_option maxRecDepth 100000 in
theorem eq_I_areRankings_1 (x : In pk_I_areRankings_1) : semF (mkE [(78, c_I_areBelow), (79, c_I_areDifferent)]) h_I_areRankings_1 (info Try.f77) pk_I_areRankings_1 rk_I_areRankings_1 x = M_I_areRankings_1 x := by kernel_rfl

set_option maxRecDepth 100000 in
theorem m_I_areRankings_1 : ConOK Try.prog 77 c_I_areRankings_1 := fn_ok (tyOK _) (E := mkE [(78, c_I_areBelow), (79, c_I_areDifferent)]) (consOK_cons m_I_areBelow (consOK_cons m_I_areDifferent (consOK_nil rfl))) Try.func77 (h := h_I_areRankings_1) (by kernel_rfl) eq_I_areRankings_1

/-- I_areRankings -/
def pk_I_areRankings : List PK := [.data (.int .i64), .data (.sl (.sl (.int .i64)))]
def rk_I_areRankings : List (Ty × Bool) := [(.bool, false)]
def h_I_areRankings : Hints := { loops := [] }
noncomputable def M_I_areRankings (x : (Int × (List (List Int)))) : (Option Bool) :=
  (bindO (M_I_within (x.1, ((1 : Int), (8 : Int)))) (fun (a0 : Bool) => (cond a0 (cond (decide ((((List.length x.2) : Nat) : Int) ≤ (24 : Int))) (bindO (M_slices_ContainsFunc_ssint_sint (x.2, (fun (a1 : (List Int)) => (bindO (M_I_areRankings_1 (a1, x.1)) (fun (a2 : Bool) => (some a2)))))) (fun (a3 : Bool) => (some (not a3)))) (some false)) (some false))))

noncomputable def c_I_areRankings : Con0 := ⟨pk_I_areRankings, rk_I_areRankings, M_I_areRankings⟩

set_option maxRecDepth 100000 in
theorem eq_I_areRankings (x : In pk_I_areRankings) : semF (mkE [(58, c_I_within), (76, c_slices_ContainsFunc_ssint_sint), (77, c_I_areRankings_1)]) h_I_areRankings (info Try.f47) pk_I_areRankings rk_I_areRankings x = M_I_areRankings x := by kernel_rfl

set_option maxRecDepth 100000 in
theorem m_I_areRankings : ConOK Try.prog 47 c_I_areRankings := fn_ok (tyOK _) (E := mkE [(58, c_I_within), (76, c_slices_ContainsFunc_ssint_sint), (77, c_I_areRankings_1)]) (consOK_cons m_I_within (consOK_cons m_slices_ContainsFunc_ssint_sint (consOK_cons m_I_areRankings_1 (consOK_nil rfl)))) Try.func47 (h := h_I_areRankings) (by kernel_rfl) eq_I_areRankings

/-- I_round_1 -/
def pk_I_round_1 : List PK := [.data (.int .i64), .rp (.sl .bool)]
def rk_I_round_1 : List (Ty × Bool) := [(.bool, false)]
def h_I_round_1 : Hints := { loops := [] }
noncomputable def M_I_round_1 (x : (Int × (List Bool))) : (Option Bool) :=
  (bindO (getI x.2 x.1) (fun (a0 : Bool) => (some (not a0))))

noncomputable def c_I_round_1 : Con0 := ⟨pk_I_round_1, rk_I_round_1, M_I_round_1⟩

set_option maxRecDepth 100000 in
theorem eq_I_round_1 (x : In pk_I_round_1) : semF (mkE []) h_I_round_1 (info Try.f97) pk_I_round_1 rk_I_round_1 x = M_I_round_1 x := by kernel_rfl

set_option maxRecDepth 100000 in
theorem m_I_round_1 : ConOK Try.prog 97 c_I_round_1 := fn_ok (tyOK _) (E := mkE []) (consOK_nil rfl) Try.func97 (h := h_I_round_1) (by kernel_rfl) eq_I_round_1

/-- I_round -/
def pk_I_round : List PK := [.data (.sl (.sl (.int .i64))), .data (.sl .bool)]
def rk_I_round : List (Ty × Bool) := [((.sl (.int .i64)), true)]
def h_I_round : Hints := { loops := [(0, { items := [.slot 16 (.data (.int .i64) []), .arr 5 (.int .i64) true], kill := [1, 2, 4, 6, 7, 8, 9, 10, 11, 12, 13, 17, 18, 19, 20, 21, 22, 23, 24, 25, 26, 27, 28, 29, 30, 31, 32, 33, 34, 35, 36, 37, 38, 39, 40, 41, 42, 43, 44, 45, 46, 47] }), (2, { items := [.slot 28 (.data (.int .i64) []), .arr 5 (.int .i64) true], kill := [0, 1, 2, 4, 6, 7, 8, 9, 10, 11, 12, 13, 14, 15, 16, 17, 18, 19, 20, 21, 22, 23, 24, 25, 29, 30, 31, 32, 33, 34, 35, 36, 37, 38, 39, 40, 41, 42, 43, 44, 45, 46, 47] })] }
noncomputable def M_I_round (x : ((List (List Int)) × (List Bool))) : (Option (List Int)) :=
  (bindO (guardO (((decide ((0 : Int) ≤ (((List.length x.2) : Nat) : Int))) && (decide ((((List.length x.2) : Nat) : Int) ≤ (((List.length x.2) : Nat) : Int)))) && (decide ((((List.length x.2) : Nat) : Int) ≤ ((lim : Nat) : Int))))) (fun (a0 : Unit) => (loopO (fun (again1 : ((Int × (List Int)) → (Option (List Int)))) => (fun (s2 : (Int × (List Int))) => (cond (decide (s2.1 < (((List.length x.2) : Nat) : Int))) (bindO (getI x.2 s2.1) (fun (a3 : Bool) => (cond a3 (bindO (getI s2.2 s2.1) (fun (a4 : Int) => (bindO (some (List.set s2.2 (Int.toNat s2.1) (- (1 : Int)))) (fun (a5 : (List Int)) => (bindO (some (IntKind.wrap .i64 (s2.1 + (1 : Int)))) (fun (a6 : Int) => (again1 (a6, a5)))))))) (bindO (some (IntKind.wrap .i64 (s2.1 + (1 : Int)))) (fun (a7 : Int) => (again1 (a7, s2.2))))))) (loopO (fun (again8 : ((Int × (List Int)) → (Option (List Int)))) => (fun (s9 : (Int × (List Int))) => (cond (decide (s9.1 < (((List.length x.1) : Nat) : Int))) (bindO (getI x.1 s9.1) (fun (a10 : (List Int)) => (bindO (M_slices_IndexFunc_sint_int (a10, (fun (a11 : Int) => (bindO (M_I_round_1 (a11, x.2)) (fun (a12 : Bool) => (some a12)))))) (fun (a13 : Int) => (cond (decide (a13 ≥ (0 : Int))) (bindO (getI a10 a13) (fun (a14 : Int) => (bindO (getI s9.2 a14) (fun (a15 : Int) => (bindO (some (IntKind.wrap .i64 (a15 + (1 : Int)))) (fun (a16 : Int) => (bindO (getI s9.2 a14) (fun (a17 : Int) => (bindO (some (List.set s9.2 (Int.toNat a14) a16)) (fun (a18 : (List Int)) => (bindO (some (IntKind.wrap .i64 (s9.1 + (1 : Int)))) (fun (a19 : Int) => (again8 (a19, a18)))))))))))))) (bindO (some (IntKind.wrap .i64 (s9.1 + (1 : Int)))) (fun (a20 : Int) => (again8 (a20, s9.2))))))))) (some s9.2)))) ((0 : Int), s2.2))))) ((0 : Int), (List.replicate (Int.toNat (((List.length x.2) : Nat) : Int)) (0 : Int))))))

noncomputable def c_I_round : Con0 := ⟨pk_I_round, rk_I_round, M_I_round⟩

set_option maxRecDepth 100000 in
theorem eq_I_round (x : In pk_I_round) : semF (mkE [(96, c_slices_IndexFunc_sint_int), (97, c_I_round_1)]) h_I_round (info Try.f80) pk_I_round rk_I_round x = M_I_round x := by kernel_rfl

set_option maxRecDepth 100000 in
theorem m_I_round : ConOK Try.prog 80 c_I_round := fn_ok (tyOK _) (E := mkE [(96, c_slices_IndexFunc_sint_int), (97, c_I_round_1)]) (consOK_cons m_slices_IndexFunc_sint_int (consOK_cons m_I_round_1 (consOK_nil rfl))) Try.func80 (h := h_I_round) (by kernel_rfl) eq_I_round

/-- slices_Max_sint_int -/
def pk_slices_Max_sint_int : List PK := [.data (.sl (.int .i64))]
def rk_slices_Max_sint_int : List (Ty × Bool) := [((.int .i64), false)]
def h_slices_Max_sint_int : Hints := { loops := [(0, { items := [.slot 3 (.data (.int .i64) []), .slot 4 (.data (.int .i64) [])], kill := [1, 2, 5, 6, 7, 8, 9, 10, 11, 12, 13, 14, 15, 16, 17, 18, 19, 20, 21, 22, 23, 24] })] }
noncomputable def M_slices_Max_sint_int (x : (List Int)) : (Option Int) :=
  (cond (decide ((((List.length x) : Nat) : Int) < (1 : Int))) (none : Option Int) (bindO (getI x (0 : Int)) (fun (a0 : Int) => (loopO (fun (again1 : ((Int × Int) → (Option Int))) => (fun (s2 : (Int × Int)) => (cond (decide (s2.2 < (((List.length x) : Nat) : Int))) (bindO (getI x s2.2) (fun (a3 : Int) => (bindO (some (IntKind.wrap .i64 (s2.2 + (1 : Int)))) (fun (a4 : Int) => (again1 ((if (s2.1 < a3) then a3 else s2.1), a4)))))) (some s2.1)))) (a0, (1 : Int))))))

noncomputable def c_slices_Max_sint_int : Con0 := ⟨pk_slices_Max_sint_int, rk_slices_Max_sint_int, M_slices_Max_sint_int⟩

set_option maxRecDepth 100000 in
theorem eq_slices_Max_sint_int (x : In pk_slices_Max_sint_int) : semF (mkE []) h_slices_Max_sint_int (info Try.f52) pk_slices_Max_sint_int rk_slices_Max_sint_int x = M_slices_Max_sint_int x := by kernel_rfl

set_option maxRecDepth 100000 in
theorem m_slices_Max_sint_int : ConOK Try.prog 52 c_slices_Max_sint_int := fn_ok (tyOK _) (E := mkE []) (consOK_nil rfl) Try.func52 (h := h_slices_Max_sint_int) (by kernel_rfl) eq_slices_Max_sint_int

/-- I_rounds -/
def pk_I_rounds : List PK := [.data (.int .i64), .data (.sl (.sl (.int .i64)))]
def rk_I_rounds : List (Ty × Bool) := [((.sl (.sl (.int .i64))), true)]
def h_I_rounds : Hints := { loops := [(0, { items := [.slot 5 (.own (.sl (.int .i64)) true), .arr 6 .bool true], kill := [0, 2, 3, 4, 7, 8, 9, 10, 11, 12, 13, 14, 15, 16, 17, 18, 19, 20, 21, 22, 23, 24, 25, 26, 27, 28, 29, 30, 31, 32, 33, 34, 35, 36, 37, 38, 39, 40, 41, 42, 43, 44, 45, 46, 47, 48, 49, 50, 51, 52, 53, 54, 55, 56, 57, 58, 59, 60, 61] }), (2, { items := [.slot 8 (.data (.int .i64) []), .slot 9 (.data (.int .i64) []), .slot 10 (.data (.int .i64) []), .slot 25 (.data (.int .i64) [])], kill := [0, 2, 3, 4, 11, 12, 13, 14, 15, 16, 17, 18, 19, 20, 21, 22, 26, 27, 28, 29, 30, 31, 32, 33, 34, 35, 36, 37, 38, 39, 40, 41, 42, 43, 44, 45, 46, 47, 48, 49, 50, 51, 52, 53, 54, 55, 56, 57, 58, 59, 60, 61] })] }
noncomputable def M_I_rounds (x : (Int × (List (List Int)))) : (Option (List (List Int))) :=
  (bindO (guardO (((decide ((0 : Int) ≤ x.1)) && (decide (x.1 ≤ x.1))) && (decide (x.1 ≤ ((lim : Nat) : Int))))) (fun (a0 : Unit) => (loopO (fun (again1 : (((List (List Int)) × (List Bool)) → (Option (List (List Int))))) => (fun (s2 : ((List (List Int)) × (List Bool))) => (bindO (M_I_round (x.2, s2.2)) (fun (a3 : (List Int)) => (bindO (guardO (lenOk ((List.length s2.1) + (List.length (a3 :: ([] : List (List Int))))))) (fun (a4 : Unit) => (bindO (some (s2.1 ++ (a3 :: ([] : List (List Int))))) (fun (a5 : (List (List Int))) => (loopO (fun (again6 : ((Int × (Int × (Int × Int))) → (Option (List (List Int))))) => (fun (s7 : (Int × (Int × (Int × Int)))) => (cond (decide (s7.2.2.2 < (((List.length a3) : Nat) : Int))) (bindO (getI a3 s7.2.2.2) (fun (a8 : Int) => (cond (decide (a8 < (0 : Int))) (bindO (some (IntKind.wrap .i64 (s7.2.2.2 + (1 : Int)))) (fun (a9 : Int) => (again6 (s7.1, (s7.2.1, (s7.2.2.1, a9)))))) (bindO (some (IntKind.wrap .i64 (s7.1 + a8))) (fun (a10 : Int) => (bindO (some (IntKind.wrap .i64 (s7.2.1 + (1 : Int)))) (fun (a11 : Int) => (cond (decide (s7.2.2.1 < (0 : Int))) (bindO (some (IntKind.wrap .i64 (s7.2.2.2 + (1 : Int)))) (fun (a12 : Int) => (again6 (a10, (a11, (s7.2.2.2, a12)))))) (bindO (getI a3 s7.2.2.1) (fun (a13 : Int) => (cond (decide (a8 ≤ a13)) (bindO (some (IntKind.wrap .i64 (s7.2.2.2 + (1 : Int)))) (fun (a14 : Int) => (again6 (a10, (a11, (s7.2.2.2, a14)))))) (bindO (some (IntKind.wrap .i64 (s7.2.2.2 + (1 : Int)))) (fun (a15 : Int) => (again6 (a10, (a11, (s7.2.2.1, a15))))))))))))))))) (cond (decide (s7.2.1 ≤ (1 : Int))) (some a5) (bindO (M_slices_Max_sint_int a3) (fun (a16 : Int) => (bindO (some (IntKind.wrap .i64 ((2 : Int) * a16))) (fun (a17 : Int) => (cond (decide (a17 > s7.1)) (some a5) (bindO (getI s2.2 s7.2.2.1) (fun (a18 : Bool) => (bindO (some (List.set s2.2 (Int.toNat s7.2.2.1) true)) (fun (a19 : (List Bool)) => (again1 (a5, a19))))))))))))))) ((0 : Int), ((0 : Int), ((- (1 : Int)), (0 : Int))))))))))))) (([] : List (List Int)), (List.replicate (Int.toNat x.1) false)))))

noncomputable def c_I_rounds : Con0 := ⟨pk_I_rounds, rk_I_rounds, M_I_rounds⟩

set_option maxRecDepth 100000 in
theorem eq_I_rounds (x : In pk_I_rounds) : semF (mkE [(80, c_I_round), (52, c_slices_Max_sint_int)]) h_I_rounds (info Try.f50) pk_I_rounds rk_I_rounds x = M_I_rounds x := by kernel_rfl

set_option maxRecDepth 100000 in
theorem m_I_rounds : ConOK Try.prog 50 c_I_rounds := fn_ok (tyOK _) (E := mkE [(80, c_I_round), (52, c_slices_Max_sint_int)]) (consOK_cons m_I_round (consOK_cons m_slices_Max_sint_int (consOK_nil rfl))) Try.func50 (h := h_I_rounds) (by kernel_rfl) eq_I_rounds

/-- I_RunoffWinner -/
def pk_I_RunoffWinner : List PK := [.data (.int .i64), .data (.sl (.sl (.int .i64)))]
def rk_I_RunoffWinner : List (Ty × Bool) := [((.int .i64), false), (.bool, false)]
def h_I_RunoffWinner : Hints := { loops := [] }
noncomputable def M_I_RunoffWinner (x : (Int × (List (List Int)))) : (Option (Int × Bool)) :=
  (bindO (M_I_areRankings (x.1, x.2)) (fun (a0 : Bool) => (cond (not a0) (some ((0 : Int), false)) (bindO (M_I_rounds (x.1, x.2)) (fun (a1 : (List (List Int))) => (bindO (some (IntKind.wrap .i64 ((((List.length a1) : Nat) : Int) - (1 : Int)))) (fun (a2 : Int) => (bindO (getI a1 a2) (fun (a3 : (List Int)) => (bindO (M_slices_Max_sint_int a3) (fun (a4 : Int) => (bindO (M_slices_Index_sint_int (a3, a4)) (fun (a5 : Int) => (some (a5, true)))))))))))))))

noncomputable def c_I_RunoffWinner : Con0 := ⟨pk_I_RunoffWinner, rk_I_RunoffWinner, M_I_RunoffWinner⟩

set_option maxRecDepth 100000 in
theorem eq_I_RunoffWinner (x : In pk_I_RunoffWinner) : semF (mkE [(47, c_I_areRankings), (50, c_I_rounds), (52, c_slices_Max_sint_int), (51, c_slices_Index_sint_int)]) h_I_RunoffWinner (info Try.f18) pk_I_RunoffWinner rk_I_RunoffWinner x = M_I_RunoffWinner x := by kernel_rfl

set_option maxRecDepth 100000 in
theorem m_I_RunoffWinner : ConOK Try.prog 18 c_I_RunoffWinner := fn_ok (tyOK _) (E := mkE [(47, c_I_areRankings), (50, c_I_rounds), (52, c_slices_Max_sint_int), (51, c_slices_Index_sint_int)]) (consOK_cons m_I_areRankings (consOK_cons m_I_rounds (consOK_cons m_slices_Max_sint_int (consOK_cons m_slices_Index_sint_int (consOK_nil rfl))))) Try.func18 (h := h_I_RunoffWinner) (by kernel_rfl) eq_I_RunoffWinner

/-- L_eqIntS -/
def pk_L_eqIntS : List PK := [.data (.sl (.int .i64)), .data (.sl (.int .i64))]
def rk_L_eqIntS : List (Ty × Bool) := [(.bool, false)]
def h_L_eqIntS : Hints := { loops := [(0, { items := [.slot 5 (.data (.int .i64) [])], kill := [2, 3, 4, 6, 7, 8, 9, 10, 11, 12, 13, 14, 15, 16, 17, 18, 19, 20, 21, 22, 23, 24, 25] })] }
noncomputable def M_L_eqIntS (x : ((List Int) × (List Int))) : (Option Bool) :=
  (cond ((((List.length x.1) : Nat) : Int) != (((List.length x.2) : Nat) : Int)) (some false) (loopO (fun (again0 : (Int → (Option Bool))) => (fun (s1 : Int) => (cond (decide (s1 < (((List.length x.1) : Nat) : Int))) (bindO (getI x.1 s1) (fun (a2 : Int) => (bindO (getI x.2 s1) (fun (a3 : Int) => (cond (a2 != a3) (some false) (bindO (some (IntKind.wrap .i64 (s1 + (1 : Int)))) (fun (a4 : Int) => (again0 a4)))))))) (some true)))) (0 : Int)))

noncomputable def c_L_eqIntS : Con0 := ⟨pk_L_eqIntS, rk_L_eqIntS, M_L_eqIntS⟩

set_option maxRecDepth 100000 in
theorem eq_L_eqIntS (x : In pk_L_eqIntS) : semF (mkE []) h_L_eqIntS (info Try.f24) pk_L_eqIntS rk_L_eqIntS x = M_L_eqIntS x := by kernel_rfl

set_option maxRecDepth 100000 in
theorem m_L_eqIntS : ConOK Try.prog 24 c_L_eqIntS := fn_ok (tyOK _) (E := mkE []) (consOK_nil rfl) Try.func24 (h := h_L_eqIntS) (by kernel_rfl) eq_L_eqIntS

/-- L_eqIntSS -/
def pk_L_eqIntSS : List PK := [.data (.sl (.sl (.int .i64))), .data (.sl (.sl (.int .i64)))]
def rk_L_eqIntSS : List (Ty × Bool) := [(.bool, false)]
def h_L_eqIntSS : Hints := { loops := [(0, { items := [.slot 5 (.data (.int .i64) [])], kill := [2, 3, 4, 6, 7, 8, 9, 10, 11, 12, 13, 14, 15, 16, 17, 18, 19, 20, 21, 22, 23, 24, 25, 26] })] }
noncomputable def M_L_eqIntSS (x : ((List (List Int)) × (List (List Int)))) : (Option Bool) :=
  (cond ((((List.length x.1) : Nat) : Int) != (((List.length x.2) : Nat) : Int)) (some false) (loopO (fun (again0 : (Int → (Option Bool))) => (fun (s1 : Int) => (cond (decide (s1 < (((List.length x.1) : Nat) : Int))) (bindO (getI x.1 s1) (fun (a2 : (List Int)) => (bindO (getI x.2 s1) (fun (a3 : (List Int)) => (bindO (M_L_eqIntS (a2, a3)) (fun (a4 : Bool) => (cond (not a4) (some false) (bindO (some (IntKind.wrap .i64 (s1 + (1 : Int)))) (fun (a5 : Int) => (again0 a5)))))))))) (some true)))) (0 : Int)))

noncomputable def c_L_eqIntSS : Con0 := ⟨pk_L_eqIntSS, rk_L_eqIntSS, M_L_eqIntSS⟩

set_option maxRecDepth 100000 in
theorem eq_L_eqIntSS (x : In pk_L_eqIntSS) : semF (mkE [(24, c_L_eqIntS)]) h_L_eqIntSS (info Try.f14) pk_L_eqIntSS rk_L_eqIntSS x = M_L_eqIntSS x := by kernel_rfl

set_option maxRecDepth 100000 in
theorem m_L_eqIntSS : ConOK Try.prog 14 c_L_eqIntSS := fn_ok (tyOK _) (E := mkE [(24, c_L_eqIntS)]) (consOK_cons m_L_eqIntS (consOK_nil rfl)) Try.func14 (h := h_L_eqIntSS) (by kernel_rfl) eq_L_eqIntSS

/-- L_FnExactRunoffWinner -/
def pk_L_FnExactRunoffWinner : List PK := [.data (.int .i64), .data (.sl (.sl (.int .i64)))]
def rk_L_FnExactRunoffWinner : List (Ty × Bool) := [(.bool, false)]
def h_L_FnExactRunoffWinner : Hints := { loops := [] }
noncomputable def M_L_FnExactRunoffWinner (x : (Int × (List (List Int)))) : (Option Bool) :=
  (bindO (M_L_szIntSS (x.2, (1048576 : Int))) (fun (a0 : Int) => (cond (decide (a0 < (0 : Int))) (some true) (bindO (M_L_toIntSS x.2) (fun (a1 : (List (List Int))) => (bindO (M_S_RunoffWinner (x.1, a1)) (fun (a2 : (Int × Bool)) => (bindO (M_L_toIntSS x.2) (fun (a3 : (List (List Int))) => (bindO (M_I_RunoffWinner (x.1, a3)) (fun (a4 : (Int × Bool)) => (cond (a4.1 != a2.1) (some false) (cond (not (a4.2 == a2.2)) (some false) (bindO (M_L_toIntSS x.2) (fun (a5 : (List (List Int))) => (bindO (M_L_eqIntSS (a3, a5)) (fun (a6 : Bool) => (cond (not a6) (some false) (some true)))))))))))))))))))

noncomputable def c_L_FnExactRunoffWinner : Con0 := ⟨pk_L_FnExactRunoffWinner, rk_L_FnExactRunoffWinner, M_L_FnExactRunoffWinner⟩

set_option maxRecDepth 100000 in
theorem eq_L_FnExactRunoffWinner (x : In pk_L_FnExactRunoffWinner) : semF (mkE [(10, c_L_szIntSS), (12, c_L_toIntSS), (17, c_S_RunoffWinner), (18, c_I_RunoffWinner), (14, c_L_eqIntSS)]) h_L_FnExactRunoffWinner (info Try.f4) pk_L_FnExactRunoffWinner rk_L_FnExactRunoffWinner x = M_L_FnExactRunoffWinner x := by kernel_rfl

set_option maxRecDepth 100000 in
theorem m_L_FnExactRunoffWinner : ConOK Try.prog 4 c_L_FnExactRunoffWinner := fn_ok (tyOK _) (E := mkE [(10, c_L_szIntSS), (12, c_L_toIntSS), (17, c_S_RunoffWinner), (18, c_I_RunoffWinner), (14, c_L_eqIntSS)]) (consOK_cons m_L_szIntSS (consOK_cons m_L_toIntSS (consOK_cons m_S_RunoffWinner (consOK_cons m_I_RunoffWinner (consOK_cons m_L_eqIntSS (consOK_nil rfl)))))) Try.func4 (h := h_L_FnExactRunoffWinner) (by kernel_rfl) eq_L_FnExactRunoffWinner

end Go.Proofs.Ytnnkhkljdjbioaa.Vd
