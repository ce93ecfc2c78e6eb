/- The functions of the law as plain functions on data, and that the program's functions are these. No conditions. -/
import Derived.Test.YtlacogoljcpijaaVd3
import Derived.Test.YtlacogoljcpijaaChecked
import Derived.KernelRfl
set_option linter.unusedVariables false
namespace Go.Proofs.Ytlacogoljcpijaa.Vd
def tys : List (Option Ty) := [none, none, some (.int .i64), some (.int .i64), some .bool, some (.int .u8), some (.int .u8), some (.cons (.int .i64) (.cons (.int .i64) (.cons .bool (.one (.int .u8))))), some (.cons (.int .i64) (.cons (.int .i64) (.cons .bool (.one (.int .u8))))), some .str, some .str, some .str, some (.int .u64), some (.cons .str (.one (.int .u64))), some (.cons .str (.one (.int .u64))), none, none, none, none, none, none, some (.int .i32), none, none, none, some (.sl (.int .i64)), none, none, none, none, none, none, some (.cons (.int .i64) (.cons (.int .i64) (.one (.int .i64)))), some (.cons (.int .i64) (.cons (.int .i64) (.one (.int .i64)))), none, some (.cons (.int .i64) (.cons (.int .i64) (.one (.int .i64)))), none, none, none, none, none, none, none, none, none, none, none, some (.cons (.int .i64) (.one (.int .i64))), some (.cons (.int .i64) (.one (.int .i64))), some (.cons (.int .i64) (.one (.int .i64))), none, none, none, none, none, none, none, none, none, none, none, none, none, none, none, none, none, none, none, none, none, none, none, none, none, none, none, none, none, none, none, none, some (.sl (.cons (.int .i64) (.one (.int .i64)))), none, some (.int .u64), none, none, none, some (.cons (.int .i64) (.one (.int .i64))), some (.cons (.int .i64) (.one (.int .i64))), none, none, none, none, none, none, none, none, some (.int .u32), some (.int .u8), some (.int .u8), none, none, some (.int .i32), some (.int .i32), none, none, none]
def others : List Nat := [1, 15, 16, 17, 23, 24, 27, 28, 29, 30, 31, 34, 36, 37, 38, 39, 40, 41, 42, 43, 44, 45, 46, 51, 52, 53, 54, 56, 57, 58, 59, 60, 61, 62, 63, 64, 65, 66, 68, 69, 70, 71, 72, 73, 74, 75, 76, 77, 78, 79, 80, 81, 83, 85, 86, 87, 90, 91, 97, 101, 102]
def pairs : List Nat := [47, 48, 49, 88, 89]
noncomputable def mkE (con : List (Nat × Con0)) : Env := ⟨[], tys, others, pairs, con⟩

set_option maxRecDepth 100000 in
theorem tyOK (con : List (Nat × Con0)) : TyOK Try.prog (mkE con) := tyOK_of (E := mkE con) (by kernel_rfl) (by kernel_rfl) (by kernel_rfl)

/-- spec.l1In -/
def pk43 : List PK := [.data (.int .i64), .data (.int .i64), .data (.int .i64)]
def rk43 : List (Ty × Bool) := [(.bool, false)]
def h43 : Hints := { loops := [] }
noncomputable def M_43 (x : (Int × (Int × Int))) : (Option Bool) :=
  (cond (decide (x.1 ≥ x.2.1)) (some (decide (x.1 ≤ x.2.2))) (some false))

noncomputable def c43 : Con0 := ⟨pk43, rk43, M_43⟩

set_option maxRecDepth 100000 in
theorem eq43 (x : In pk43) : semF (mkE []) h43 (info Try.f43) pk43 rk43 x = M_43 x := by kernel_rfl

set_option maxRecDepth 100000 in
theorem m43 : ConOK Try.prog 43 c43 := fn_ok (tyOK _) (E := mkE []) (consOK_nil rfl) Try.func43 (h := h43) (by kernel_rfl) eq43

/-- spec.nPrime -/
def pk44 : List PK := [.data (.int .i64)]
def rk44 : List (Ty × Bool) := [(.bool, false)]
def h44 : Hints := { loops := [(0, { items := [.slot 3 (.data (.int .i64) [])], kill := [1, 2, 4, 5, 6, 7, 8, 9, 10, 11, 12, 13, 14, 15, 16] })] }
noncomputable def M_44 (x : Int) : (Option Bool) :=
  (cond (decide (x < (2 : Int))) (some false) (loopO (fun (again0 : (Int → (Option Bool))) => (fun (s1 : Int) => (bindO (some (IntKind.wrap .i64 (s1 * s1))) (fun (a2 : Int) => (cond (decide (a2 ≤ x)) (bindO (guardO (s1 != (0 : Int))) (fun (a3 : Unit) => (bindO (some (Int.tmod x s1)) (fun (a4 : Int) => (cond (a4 == (0 : Int)) (some false) (bindO (some (IntKind.wrap .i64 (s1 + (1 : Int)))) (fun (a5 : Int) => (again0 a5)))))))) (some true)))))) (2 : Int)))

noncomputable def c44 : Con0 := ⟨pk44, rk44, M_44⟩

set_option maxRecDepth 100000 in
theorem eq44 (x : In pk44) : semF (mkE []) h44 (info Try.f44) pk44 rk44 x = M_44 x := by kernel_rfl

set_option maxRecDepth 100000 in
theorem m44 : ConOK Try.prog 44 c44 := fn_ok (tyOK _) (E := mkE []) (consOK_nil rfl) Try.func44 (h := h44) (by kernel_rfl) eq44

/-- spec.FalseEqualCount -/
def pk14 : List PK := [.data (.int .i64), .data (.int .i64)]
def rk14 : List (Ty × Bool) := [((.int .i64), false), (.bool, false)]
def h14 : Hints := { loops := [(0, { items := [.slot 1 (.data (.int .i64) []), .slot 6 (.own (.int .i64) true)], kill := [2, 3, 4, 5, 7, 8, 9, 10, 11, 12, 13, 14, 15, 16, 17, 18, 19, 20, 21, 22, 23, 24, 25, 26, 27, 28, 29, 30, 31, 32, 33, 34, 35, 36, 37, 38, 39, 40, 41, 42, 43, 44, 45, 46, 47, 48, 49, 50, 51, 52, 53, 54, 55, 56, 57, 58, 59, 60, 61] }), (2, { items := [.slot 36 (.data (.int .i64) []), .arr 7 (.int .i64) true], kill := [2, 3, 4, 5, 6, 8, 9, 10, 11, 12, 13, 14, 15, 16, 17, 18, 19, 20, 21, 22, 23, 24, 25, 26, 27, 28, 29, 30, 31, 32, 33, 37, 38, 39, 40, 41, 42, 43, 44, 45, 46, 47, 48, 49, 50, 51, 52, 53, 54, 55, 56, 57, 58, 59, 60, 61] }), (4, { items := [.slot 10 (.data (.int .i64) []), .arr 7 (.int .i64) true], kill := [2, 3, 4, 5, 6, 11, 12, 13, 14, 15, 16, 17, 18, 19, 20, 21, 22, 23, 24, 25, 26, 27, 28, 29, 30, 31, 32, 33, 37, 38, 39, 40, 41, 42, 43, 44, 45, 46, 47, 48, 49, 50, 51, 52, 53, 54, 55, 56, 57, 58, 59, 60, 61] })] }
noncomputable def M_14 (x : (Int × Int)) : (Option (Int × Bool)) :=
  (bindO (M_43 (x.1, ((2 : Int), (23 : Int)))) (fun (a0 : Bool) => (cond (not a0) (some ((0 : Int), false)) (bindO (M_44 x.1) (fun (a1 : Bool) => (cond (not a1) (some ((0 : Int), false)) (bindO (M_43 (x.2, ((1 : Int), (5 : Int)))) (fun (a2 : Bool) => (cond (not a2) (some ((0 : Int), false)) (bindO (guardO (((decide ((0 : Int) ≤ x.1)) && (decide (x.1 ≤ x.1))) && (decide (x.1 ≤ ((lim : Nat) : Int))))) (fun (a3 : Unit) => (bindO (getI (List.replicate (Int.toNat x.1) (0 : Int)) (0 : Int)) (fun (a4 : Int) => (bindO (some (List.set (List.replicate (Int.toNat x.1) (0 : Int)) (Int.toNat (0 : Int)) ((1 : Nat) : Int))) (fun (a5 : (List Int)) => (loopO (fun (again6 : ((Int × (List Int)) → (Option (Int × Bool)))) => (fun (s7 : (Int × (List Int))) => (cond (decide (s7.1 > (0 : Int))) (bindO (guardO (((decide ((0 : Int) ≤ x.1)) && (decide (x.1 ≤ x.1))) && (decide (x.1 ≤ ((lim : Nat) : Int))))) (fun (a8 : Unit) => (loopO (fun (again9 : ((Int × (List Int)) → (Option (Int × Bool)))) => (fun (s10 : (Int × (List Int))) => (cond (decide (s10.1 < (((List.length s7.2) : Nat) : Int))) (bindO (getI s7.2 s10.1) (fun (a11 : Int) => (loopO (fun (again12 : ((Int × (List Int)) → (Option (Int × Bool)))) => (fun (s13 : (Int × (List Int))) => (cond (decide (s13.1 < x.1)) (bindO (some (IntKind.wrap .i64 (s10.1 + s13.1))) (fun (a14 : Int) => (bindO (guardO (x.1 != (0 : Int))) (fun (a15 : Unit) => (bindO (some (Int.tmod a14 x.1)) (fun (a16 : Int) => (bindO (getI s13.2 a16) (fun (a17 : Int) => (bindO (some (IntKind.wrap .i64 (a17 + a11))) (fun (a18 : Int) => (bindO (getI s13.2 a16) (fun (a19 : Int) => (bindO (some (List.set s13.2 (Int.toNat a16) a18)) (fun (a20 : (List Int)) => (bindO (some (IntKind.wrap .i64 (s13.1 + (1 : Int)))) (fun (a21 : Int) => (again12 (a21, a20)))))))))))))))))) (bindO (some (IntKind.wrap .i64 (s10.1 + (1 : Int)))) (fun (a22 : Int) => (again9 (a22, s13.2))))))) ((1 : Int), s10.2)))) (bindO (some (IntKind.wrap .i64 (s7.1 - (1 : Int)))) (fun (a23 : Int) => (again6 (a23, s10.2))))))) ((0 : Int), (List.replicate (Int.toNat x.1) (0 : Int)))))) (bindO (getI s7.2 (0 : Int)) (fun (a24 : Int) => (some (a24, true))))))) (x.2, a5)))))))))))))))))

noncomputable def c14 : Con0 := ⟨pk14, rk14, M_14⟩

set_option maxRecDepth 100000 in
theorem eq14 (x : In pk14) : semF (mkE [(43, c43), (44, c44)]) h14 (info Try.f14) pk14 rk14 x = M_14 x := by kernel_rfl

set_option maxRecDepth 100000 in
theorem m14 : ConOK Try.prog 14 c14 := fn_ok (tyOK _) (E := mkE [(43, c43), (44, c44)]) (consOK_cons m43 (consOK_cons m44 (consOK_nil rfl))) Try.func14 (h := h14) (by kernel_rfl) eq14

/-- impl.within -/
def pk46 : List PK := [.data (.int .i64), .data (.int .i64), .data (.int .i64)]
def rk46 : List (Ty × Bool) := [(.bool, false)]
def h46 : Hints := { loops := [] }
noncomputable def M_46 (x : (Int × (Int × Int))) : (Option Bool) :=
  (cond (decide (x.1 ≥ x.2.1)) (some (decide (x.1 ≤ x.2.2))) (some false))

noncomputable def c46 : Con0 := ⟨pk46, rk46, M_46⟩

set_option maxRecDepth 100000 in
theorem eq46 (x : In pk46) : semF (mkE []) h46 (info Try.f46) pk46 rk46 x = M_46 x := by kernel_rfl

set_option maxRecDepth 100000 in
theorem m46 : ConOK Try.prog 46 c46 := fn_ok (tyOK _) (E := mkE []) (consOK_nil rfl) Try.func46 (h := h46) (by kernel_rfl) eq46

/-- impl.isModulus -/
def pk80 : List PK := [.data (.int .i64)]
def rk80 : List (Ty × Bool) := [(.bool, false)]
def h80 : Hints := { loops := [] }
noncomputable def M_80 (x : Int) : (Option Bool) :=
  (bindO (M_46 (x, ((2 : Int), (2000000000 : Int)))) (fun (a0 : Bool) => (some a0)))

noncomputable def c80 : Con0 := ⟨pk80, rk80, M_80⟩

set_option maxRecDepth 100000 in
theorem eq80 (x : In pk80) : semF (mkE [(46, c46)]) h80 (info Try.f80) pk80 rk80 x = M_80 x := by kernel_rfl

set_option maxRecDepth 100000 in
theorem m80 : ConOK Try.prog 80 c80 := fn_ok (tyOK _) (E := mkE [(46, c46)]) (consOK_cons m46 (consOK_nil rfl)) Try.func80 (h := h80) (by kernel_rfl) eq80

/-- impl.isPrime -/
def pk45 : List PK := [.data (.int .i64)]
def rk45 : List (Ty × Bool) := [(.bool, false)]
def h45 : Hints := { loops := [(0, { items := [.slot 3 (.data (.int .i64) [])], kill := [1, 2, 4, 5, 6, 7, 8, 9, 10, 11, 12, 13, 14, 15, 16, 17, 18, 19, 20, 21, 22, 23, 24, 25, 26] })] }
noncomputable def M_45 (x : Int) : (Option Bool) :=
  (bindO (M_80 x) (fun (a0 : Bool) => (cond (not a0) (some false) (bindO (guardO ((2 : Int) != (0 : Int))) (fun (a1 : Unit) => (bindO (some (Int.tmod x (2 : Int))) (fun (a2 : Int) => (cond (a2 == (0 : Int)) (cond (x != (2 : Int)) (some false) (loopO (fun (again3 : (Int → (Option Bool))) => (fun (s4 : Int) => (bindO (some (IntKind.wrap .i64 (s4 * s4))) (fun (a5 : Int) => (cond (decide (a5 ≤ x)) (bindO (guardO (s4 != (0 : Int))) (fun (a6 : Unit) => (bindO (some (Int.tmod x s4)) (fun (a7 : Int) => (cond (a7 == (0 : Int)) (some false) (bindO (some (IntKind.wrap .i64 (s4 + (2 : Int)))) (fun (a8 : Int) => (again3 a8)))))))) (some true)))))) (3 : Int))) (loopO (fun (again9 : (Int → (Option Bool))) => (fun (s10 : Int) => (bindO (some (IntKind.wrap .i64 (s10 * s10))) (fun (a11 : Int) => (cond (decide (a11 ≤ x)) (bindO (guardO (s10 != (0 : Int))) (fun (a12 : Unit) => (bindO (some (Int.tmod x s10)) (fun (a13 : Int) => (cond (a13 == (0 : Int)) (some false) (bindO (some (IntKind.wrap .i64 (s10 + (2 : Int)))) (fun (a14 : Int) => (again9 a14)))))))) (some true)))))) (3 : Int))))))))))

noncomputable def c45 : Con0 := ⟨pk45, rk45, M_45⟩

set_option maxRecDepth 100000 in
theorem eq45 (x : In pk45) : semF (mkE [(80, c80)]) h45 (info Try.f45) pk45 rk45 x = M_45 x := by kernel_rfl

set_option maxRecDepth 100000 in
theorem m45 : ConOK Try.prog 45 c45 := fn_ok (tyOK _) (E := mkE [(80, c80)]) (consOK_cons m80 (consOK_nil rfl)) Try.func45 (h := h45) (by kernel_rfl) eq45

/-- impl.FalseEqualCount -/
def pk15 : List PK := [.data (.int .i64), .data (.int .i64)]
def rk15 : List (Ty × Bool) := [((.int .i64), false), (.bool, false)]
def h15 : Hints := { loops := [(0, { items := [.slot 6 (.data (.int .i64) []), .slot 7 (.data (.int .i64) []), .slot 22 (.data (.int .i64) [])], kill := [1, 2, 3, 4, 5, 8, 9, 10, 11, 12, 13, 14, 15, 16, 17, 18, 19, 20, 23, 24, 25, 26, 27, 28, 29, 30, 31, 32, 33, 34, 35] })] }
noncomputable def M_15 (x : (Int × Int)) : (Option (Int × Bool)) :=
  (cond (decide (x.1 > (23 : Int))) (some ((0 : Int), false)) (bindO (M_45 x.1) (fun (a0 : Bool) => (cond (not a0) (some ((0 : Int), false)) (bindO (M_46 (x.2, ((1 : Int), (5 : Int)))) (fun (a1 : Bool) => (cond (not a1) (some ((0 : Int), false)) (loopO (fun (again2 : ((Int × (Int × Int)) → (Option (Int × Bool)))) => (fun (s3 : (Int × (Int × Int))) => (cond (decide (s3.2.2 < x.2)) (cond (decide (s3.2.2 > (0 : Int))) (bindO (some (IntKind.wrap .i64 (s3.2.1 - s3.1))) (fun (a4 : Int) => (bindO (some (IntKind.wrap .i64 (x.1 - (1 : Int)))) (fun (a5 : Int) => (bindO (some (IntKind.wrap .i64 (s3.2.1 * a5))) (fun (a6 : Int) => (bindO (some (IntKind.wrap .i64 (s3.2.2 + (1 : Int)))) (fun (a7 : Int) => (again2 (a4, (a6, a7))))))))))) (bindO (some (IntKind.wrap .i64 (x.1 - (1 : Int)))) (fun (a8 : Int) => (bindO (some (IntKind.wrap .i64 (s3.2.1 * a8))) (fun (a9 : Int) => (bindO (some (IntKind.wrap .i64 (s3.2.2 + (1 : Int)))) (fun (a10 : Int) => (again2 (s3.1, (a9, a10)))))))))) (some (s3.1, true))))) ((0 : Int), ((1 : Int), (0 : Int)))))))))))

noncomputable def c15 : Con0 := ⟨pk15, rk15, M_15⟩

set_option maxRecDepth 100000 in
theorem eq15 (x : In pk15) : semF (mkE [(45, c45), (46, c46)]) h15 (info Try.f15) pk15 rk15 x = M_15 x := by kernel_rfl

set_option maxRecDepth 100000 in
theorem m15 : ConOK Try.prog 15 c15 := fn_ok (tyOK _) (E := mkE [(45, c45), (46, c46)]) (consOK_cons m45 (consOK_cons m46 (consOK_nil rfl))) Try.func15 (h := h15) (by kernel_rfl) eq15

/-- laws.FnExactFalseEqualCount -/
def pk3 : List PK := [.data (.int .i64), .data (.int .i64)]
def rk3 : List (Ty × Bool) := [(.bool, false)]
def h3 : Hints := { loops := [] }
noncomputable def M_3 (x : (Int × Int)) : (Option Bool) :=
  (bindO (M_14 (x.1, x.2)) (fun (a0 : (Int × Bool)) => (bindO (M_15 (x.1, x.2)) (fun (a1 : (Int × Bool)) => (cond (a1.1 != a0.1) (some false) (cond (not (a1.2 == a0.2)) (some false) (some true)))))))

noncomputable def c3 : Con0 := ⟨pk3, rk3, M_3⟩

set_option maxRecDepth 100000 in
theorem eq3 (x : In pk3) : semF (mkE [(14, c14), (15, c15)]) h3 (info Try.f3) pk3 rk3 x = M_3 x := by kernel_rfl

set_option maxRecDepth 100000 in
theorem m3 : ConOK Try.prog 3 c3 := fn_ok (tyOK _) (E := mkE [(14, c14), (15, c15)]) (consOK_cons m14 (consOK_cons m15 (consOK_nil rfl))) Try.func3 (h := h3) (by kernel_rfl) eq3

end Go.Proofs.Ytlacogoljcpijaa.Vd
