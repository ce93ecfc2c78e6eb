/- The functions of the law as plain functions on data, and that the program's functions are these. No conditions. -/
import Derived.Test.YtikmcaegilhfeaaVd3
import Derived.Test.YtikmcaegilhfeaaChecked
import Derived.KernelRfl
set_option linter.unusedVariables false
namespace Go.Proofs.Ytikmcaegilhfeaa.Vd
def tys : List (Option Ty) := [none, none, some (.int .i64), some (.int .i64), some .bool, some (.int .u8), some (.int .u8), some (.cons (.int .i64) (.cons (.int .i64) (.cons .bool (.one (.int .u8))))), some (.cons (.int .i64) (.cons (.int .i64) (.cons .bool (.one (.int .u8))))), some .str, some .str, some .str, some (.int .u64), some (.cons .str (.one (.int .u64))), some (.cons .str (.one (.int .u64))), none, none, none, none, none, none, some (.int .i32), some (.sl (.sl (.int .i64))), none, none, none, none, none, none, none, none, some (.sl (.int .i64)), none, none, none, none, none, none, some (.cons (.int .i64) (.cons (.int .i64) (.one (.int .i64)))), some (.cons (.int .i64) (.cons (.int .i64) (.one (.int .i64)))), some (.sl (.sl (.cons (.int .i64) (.one (.int .i64))))), none, some (.sl (.cons (.int .i64) (.one (.int .i64)))), none, none, some (.cons (.int .i64) (.cons (.int .i64) (.one (.int .i64)))), none, some (.sl (.sl (.cons (.int .i64) (.one (.int .i64))))), none, none, none, none, none, none, some (.sl (.int .u8)), none, none, none, none, some (.sl (.cons (.int .i64) (.one (.int .i64)))), none, none, none, none, none, none, none, some (.cons (.int .i64) (.one (.int .i64))), some (.cons (.int .i64) (.one (.int .i64))), some (.cons (.sl (.int .i64)) (.cons (.sl (.int .i64)) (.one (.sl (.int .i64))))), some (.cons (.sl (.int .i64)) (.cons (.sl (.int .i64)) (.one (.sl (.int .i64))))), some (.cons (.cons (.int .i64) (.one (.int .i64))) (.cons (.cons (.int .i64) (.one (.int .i64))) (.one (.cons (.sl (.int .i64)) (.cons (.sl (.int .i64)) (.one (.sl (.int .i64)))))))), some (.cons (.cons (.int .i64) (.one (.int .i64))) (.cons (.cons (.int .i64) (.one (.int .i64))) (.one (.cons (.sl (.int .i64)) (.cons (.sl (.int .i64)) (.one (.sl (.int .i64)))))))), none, none, none, none, none, none, none, none, none, none, some (.cons (.int .i64) (.one (.int .i64))), some (.cons (.sl (.int .i64)) (.cons (.sl (.int .i64)) (.one (.sl (.int .i64))))), some (.cons (.cons (.int .i64) (.one (.int .i64))) (.cons (.cons (.int .i64) (.one (.int .i64))) (.one (.cons (.sl (.int .i64)) (.cons (.sl (.int .i64)) (.one (.sl (.int .i64)))))))), some (.cons (.cons (.int .i64) (.one (.int .i64))) (.cons (.cons (.int .i64) (.one (.int .i64))) (.one (.cons (.sl (.int .i64)) (.cons (.sl (.int .i64)) (.one (.sl (.int .i64)))))))), none, none, none, none, none, none, none, none, none, none, none, none, none, none, none, none, none, none, none, none, none, none, some (.int .u64), some (.cons (.sl (.int .u8)) (.cons (.int .i64) (.one (.int .u64)))), some (.cons (.sl (.int .u8)) (.cons (.int .i64) (.one (.int .u64)))), none, none, none, none, none, none, none, none, none, none, none, none, none, none, none, none, none, none, none, none, none, none, none, none, none, none, none, none, none, none, none, none, none, none, none, none, some (.cons (.int .i64) (.one (.sl (.int .i64)))), some (.cons (.int .i64) (.one (.sl (.int .i64)))), none, none, none, none, none, some (.sl .bool), none, none, none, none, none, none, some (.int .u64), none, none, none, none, none, none, none, none, none, none, none, none, none, none, none, none, none, none, none, none, some (.int .u32), none, none, none, none, none, none, none, none, none, none, none, some (.cons (.int .i64) (.one (.int .i64))), some (.cons (.int .i64) (.one (.int .i64))), none, none, none, none, none, none, none, none, some (.int .u8), some (.int .u8), none, none, some (.int .i32), some (.int .i32), none, none, none, none]
def others : List Nat := [1, 15, 16, 17, 23, 25, 26, 27, 28, 30, 33, 34, 35, 36, 37, 41, 44, 46, 48, 49, 50, 51, 52, 53, 55, 57, 58, 60, 61, 62, 63, 65, 66, 74, 75, 76, 77, 79, 80, 82, 87, 88, 89, 90, 91, 92, 93, 94, 95, 96, 97, 98, 99, 100, 101, 102, 103, 104, 105, 106, 107, 108, 112, 113, 114, 115, 116, 117, 118, 119, 120, 121, 122, 123, 124, 125, 126, 127, 128, 129, 130, 131, 132, 133, 134, 135, 136, 138, 139, 140, 141, 142, 143, 144, 145, 146, 147, 151, 152, 153, 154, 156, 157, 158, 159, 160, 161, 164, 165, 166, 167, 168, 169, 170, 171, 172, 173, 174, 175, 176, 177, 178, 179, 180, 181, 182, 185, 187, 188, 189, 190, 191, 192, 193, 194, 197, 198, 199, 207, 208, 213]
def pairs : List Nat := [67, 68, 83, 195, 196]
noncomputable def mkE (con : List (Nat × Con0)) : Env := ⟨[], tys, others, pairs, con⟩

set_option maxRecDepth 100000 in
theorem tyOK (con : List (Nat × Con0)) : TyOK Try.prog (mkE con) := tyOK_of (E := mkE con) (by kernel_rfl) (by kernel_rfl) (by kernel_rfl)

/-- L_szIntS -/
def pk_L_szIntS : List PK := [.data (.sl (.int .i64)), .data (.int .i64)]
def rk_L_szIntS : List (Ty × Bool) := [((.int .i64), false)]
def h_L_szIntS : Hints := { loops := [] }
noncomputable def M_L_szIntS (x : ((List Int) × Int)) : (Option Int) :=
  (bindO (some (IntKind.wrap .i64 (x.2 - (((List.length x.1) : Nat) : Int)))) (fun (a0 : Int) => (cond (decide (a0 < (0 : Int))) (some (- (1 : Int))) (some a0))))

noncomputable def c_L_szIntS : Con0 := ⟨pk_L_szIntS, rk_L_szIntS, M_L_szIntS⟩

set_option maxRecDepth 100000 in
theorem eq_L_szIntS (x : In pk_L_szIntS) : semF (mkE []) h_L_szIntS (info Try.f70) pk_L_szIntS rk_L_szIntS x = M_L_szIntS x := by kernel_rfl

set_option maxRecDepth 100000 in
theorem m_L_szIntS : ConOK Try.prog 70 c_L_szIntS := fn_ok (tyOK _) (E := mkE []) (consOK_nil rfl) Try.func70 (h := h_L_szIntS) (by kernel_rfl) eq_L_szIntS

/-- L_szIntSS -/
def pk_L_szIntSS : List PK := [.data (.sl (.sl (.int .i64))), .data (.int .i64)]
def rk_L_szIntSS : List (Ty × Bool) := [((.int .i64), false)]
def h_L_szIntSS : Hints := { loops := [(0, { items := [.slot 1 (.data (.int .i64) []), .slot 5 (.data (.int .i64) [])], kill := [2, 3, 4, 6, 7, 8, 9, 10, 11, 12, 13, 14, 15, 16, 17, 18, 19, 20, 21, 22, 23, 24, 25, 26] })] }
noncomputable def M_L_szIntSS (x : ((List (List Int)) × Int)) : (Option Int) :=
  (bindO (some (IntKind.wrap .i64 (x.2 - (((List.length x.1) : Nat) : Int)))) (fun (a0 : Int) => (cond (decide (a0 < (0 : Int))) (some (- (1 : Int))) (loopO (fun (again1 : ((Int × Int) → (Option Int))) => (fun (s2 : (Int × Int)) => (cond (decide (s2.2 < (((List.length x.1) : Nat) : Int))) (bindO (getI x.1 s2.2) (fun (a3 : (List Int)) => (bindO (M_L_szIntS (a3, s2.1)) (fun (a4 : Int) => (cond (decide (a4 < (0 : Int))) (some (- (1 : Int))) (bindO (some (IntKind.wrap .i64 (s2.2 + (1 : Int)))) (fun (a5 : Int) => (again1 (a4, a5))))))))) (some s2.1)))) (a0, (0 : Int))))))

noncomputable def c_L_szIntSS : Con0 := ⟨pk_L_szIntSS, rk_L_szIntSS, M_L_szIntSS⟩

set_option maxRecDepth 100000 in
theorem eq_L_szIntSS (x : In pk_L_szIntSS) : semF (mkE [(70, c_L_szIntS)]) h_L_szIntSS (info Try.f15) pk_L_szIntSS rk_L_szIntSS x = M_L_szIntSS x := by kernel_rfl

set_option maxRecDepth 100000 in
theorem m_L_szIntSS : ConOK Try.prog 15 c_L_szIntSS := fn_ok (tyOK _) (E := mkE [(70, c_L_szIntS)]) (consOK_cons m_L_szIntS (consOK_nil rfl)) Try.func15 (h := h_L_szIntSS) (by kernel_rfl) eq_L_szIntSS

/-- L_toGroup -/
def pk_L_toGroup : List PK := [.data (.cons (.int .i64) (.cons (.int .i64) (.one (.int .i64))))]
def rk_L_toGroup : List (Ty × Bool) := [((.cons (.int .i64) (.cons (.int .i64) (.one (.int .i64)))), false)]
def h_L_toGroup : Hints := { loops := [] }
noncomputable def M_L_toGroup (x : (Int × (Int × Int))) : (Option (Int × (Int × Int))) :=
  (some (x.1, (x.2.1, x.2.2)))

noncomputable def c_L_toGroup : Con0 := ⟨pk_L_toGroup, rk_L_toGroup, M_L_toGroup⟩

set_option maxRecDepth 100000 in
theorem eq_L_toGroup (x : In pk_L_toGroup) : semF (mkE []) h_L_toGroup (info Try.f32) pk_L_toGroup rk_L_toGroup x = M_L_toGroup x := by kernel_rfl

set_option maxRecDepth 100000 in
theorem m_L_toGroup : ConOK Try.prog 32 c_L_toGroup := fn_ok (tyOK _) (E := mkE []) (consOK_nil rfl) Try.func32 (h := h_L_toGroup) (by kernel_rfl) eq_L_toGroup

/-- L_toIntS -/
def pk_L_toIntS : List PK := [.data (.sl (.int .i64))]
def rk_L_toIntS : List (Ty × Bool) := [((.sl (.int .i64)), true)]
def h_L_toIntS : Hints := { loops := [(0, { items := [.slot 4 (.data (.int .i64) []), .arr 3 (.int .i64) true], kill := [1, 2, 5, 6, 7, 8, 9, 10, 11, 12, 13, 14, 15, 16, 17, 18, 19, 20, 21] })] }
noncomputable def M_L_toIntS (x : (List Int)) : (Option (List Int)) :=
  (bindO (guardO (((decide ((0 : Int) ≤ (((List.length x) : Nat) : Int))) && (decide ((((List.length x) : Nat) : Int) ≤ (((List.length x) : Nat) : Int)))) && (decide ((((List.length x) : Nat) : Int) ≤ ((lim : Nat) : Int))))) (fun (a0 : Unit) => (loopO (fun (again1 : ((Int × (List Int)) → (Option (List Int)))) => (fun (s2 : (Int × (List Int))) => (cond (decide (s2.1 < (((List.length x) : Nat) : Int))) (bindO (getI x s2.1) (fun (a3 : Int) => (bindO (getI s2.2 s2.1) (fun (a4 : Int) => (bindO (some (List.set s2.2 (Int.toNat s2.1) a3)) (fun (a5 : (List Int)) => (bindO (some (IntKind.wrap .i64 (s2.1 + (1 : Int)))) (fun (a6 : Int) => (again1 (a6, a5)))))))))) (some s2.2)))) ((0 : Int), (List.replicate (Int.toNat (((List.length x) : Nat) : Int)) (0 : Int))))))

noncomputable def c_L_toIntS : Con0 := ⟨pk_L_toIntS, rk_L_toIntS, M_L_toIntS⟩

set_option maxRecDepth 100000 in
theorem eq_L_toIntS (x : In pk_L_toIntS) : semF (mkE []) h_L_toIntS (info Try.f25) pk_L_toIntS rk_L_toIntS x = M_L_toIntS x := by kernel_rfl

set_option maxRecDepth 100000 in
theorem m_L_toIntS : ConOK Try.prog 25 c_L_toIntS := fn_ok (tyOK _) (E := mkE []) (consOK_nil rfl) Try.func25 (h := h_L_toIntS) (by kernel_rfl) eq_L_toIntS

/-- L_toIntSS -/
def pk_L_toIntSS : List PK := [.data (.sl (.sl (.int .i64)))]
def rk_L_toIntSS : List (Ty × Bool) := [((.sl (.sl (.int .i64))), true)]
def h_L_toIntSS : Hints := { loops := [(0, { items := [.slot 4 (.data (.int .i64) []), .arr 3 (.sl (.int .i64)) true], kill := [1, 2, 5, 6, 7, 8, 9, 10, 11, 12, 13, 14, 15, 16, 17, 18, 19, 20, 21, 22] })] }
noncomputable def M_L_toIntSS (x : (List (List Int))) : (Option (List (List Int))) :=
  (bindO (guardO (((decide ((0 : Int) ≤ (((List.length x) : Nat) : Int))) && (decide ((((List.length x) : Nat) : Int) ≤ (((List.length x) : Nat) : Int)))) && (decide ((((List.length x) : Nat) : Int) ≤ ((lim : Nat) : Int))))) (fun (a0 : Unit) => (loopO (fun (again1 : ((Int × (List (List Int))) → (Option (List (List Int))))) => (fun (s2 : (Int × (List (List Int)))) => (cond (decide (s2.1 < (((List.length x) : Nat) : Int))) (bindO (getI x s2.1) (fun (a3 : (List Int)) => (bindO (M_L_toIntS a3) (fun (a4 : (List Int)) => (bindO (getI s2.2 s2.1) (fun (a5 : (List Int)) => (bindO (some (List.set s2.2 (Int.toNat s2.1) a4)) (fun (a6 : (List (List Int))) => (bindO (some (IntKind.wrap .i64 (s2.1 + (1 : Int)))) (fun (a7 : Int) => (again1 (a7, a6)))))))))))) (some s2.2)))) ((0 : Int), (List.replicate (Int.toNat (((List.length x) : Nat) : Int)) ([] : List Int))))))

noncomputable def c_L_toIntSS : Con0 := ⟨pk_L_toIntSS, rk_L_toIntSS, M_L_toIntSS⟩

set_option maxRecDepth 100000 in
theorem eq_L_toIntSS (x : In pk_L_toIntSS) : semF (mkE [(25, c_L_toIntS)]) h_L_toIntSS (info Try.f17) pk_L_toIntSS rk_L_toIntSS x = M_L_toIntSS x := by kernel_rfl

set_option maxRecDepth 100000 in
theorem m_L_toIntSS : ConOK Try.prog 17 c_L_toIntSS := fn_ok (tyOK _) (E := mkE [(25, c_L_toIntS)]) (consOK_cons m_L_toIntS (consOK_nil rfl)) Try.func17 (h := h_L_toIntSS) (by kernel_rfl) eq_L_toIntSS

/-- S_l1In -/
def pk_S_l1In : List PK := [.data (.int .i64), .data (.int .i64), .data (.int .i64)]
def rk_S_l1In : List (Ty × Bool) := [(.bool, false)]
def h_S_l1In : Hints := { loops := [] }
noncomputable def M_S_l1In (x : (Int × (Int × Int))) : (Option Bool) :=
  (cond (decide (x.1 ≥ x.2.1)) (some (decide (x.1 ≤ x.2.2))) (some false))

noncomputable def c_S_l1In : Con0 := ⟨pk_S_l1In, rk_S_l1In, M_S_l1In⟩

set_option maxRecDepth 100000 in
theorem eq_S_l1In (x : In pk_S_l1In) : semF (mkE []) h_S_l1In (info Try.f79) pk_S_l1In rk_S_l1In x = M_S_l1In x := by kernel_rfl

set_option maxRecDepth 100000 in
theorem m_S_l1In : ConOK Try.prog 79 c_S_l1In := fn_ok (tyOK _) (E := mkE []) (consOK_nil rfl) Try.func79 (h := h_S_l1In) (by kernel_rfl) eq_S_l1In

/-- S_nPower -/
def pk_S_nPower : List PK := [.data (.int .i64), .data (.int .i64), .data (.int .i64)]
def rk_S_nPower : List (Ty × Bool) := [((.int .i64), false)]
def h_S_nPower : Hints := { loops := [(0, { items := [.slot 0 (.data (.int .i64) []), .slot 1 (.data (.int .i64) []), .slot 7 (.data (.int .i64) [])], kill := [3, 4, 5, 6, 8, 9, 10, 11, 12, 13, 14, 15, 16, 17, 18, 19, 20, 21, 22, 23, 24, 25, 26, 27] })] }
noncomputable def M_S_nPower (x : (Int × (Int × Int))) : (Option Int) :=
  (bindO (guardO (x.2.2 != (0 : Int))) (fun (a0 : Unit) => (bindO (some (Int.tmod (1 : Int) x.2.2)) (fun (a1 : Int) => (loopO (fun (again2 : ((Int × (Int × Int)) → (Option Int))) => (fun (s3 : (Int × (Int × Int))) => (cond (decide (s3.2.1 > (0 : Int))) (bindO (guardO ((2 : Int) != (0 : Int))) (fun (a4 : Unit) => (bindO (some (Int.tmod s3.2.1 (2 : Int))) (fun (a5 : Int) => (cond (a5 == (1 : Int)) (bindO (some (IntKind.wrap .i64 (s3.2.2 * s3.1))) (fun (a6 : Int) => (bindO (guardO (x.2.2 != (0 : Int))) (fun (a7 : Unit) => (bindO (some (Int.tmod a6 x.2.2)) (fun (a8 : Int) => (bindO (some (IntKind.wrap .i64 (s3.1 * s3.1))) (fun (a9 : Int) => (bindO (guardO (x.2.2 != (0 : Int))) (fun (a10 : Unit) => (bindO (some (Int.tmod a9 x.2.2)) (fun (a11 : Int) => (bindO (guardO ((2 : Int) != (0 : Int))) (fun (a12 : Unit) => (bindO (some (IntKind.wrap .i64 (Int.tdiv s3.2.1 (2 : Int)))) (fun (a13 : Int) => (again2 (a11, (a13, a8))))))))))))))))))) (bindO (some (IntKind.wrap .i64 (s3.1 * s3.1))) (fun (a14 : Int) => (bindO (guardO (x.2.2 != (0 : Int))) (fun (a15 : Unit) => (bindO (some (Int.tmod a14 x.2.2)) (fun (a16 : Int) => (bindO (guardO ((2 : Int) != (0 : Int))) (fun (a17 : Unit) => (bindO (some (IntKind.wrap .i64 (Int.tdiv s3.2.1 (2 : Int)))) (fun (a18 : Int) => (again2 (a16, (a18, s3.2.2)))))))))))))))))) (some s3.2.2)))) (x.1, (x.2.1, a1)))))))

noncomputable def c_S_nPower : Con0 := ⟨pk_S_nPower, rk_S_nPower, M_S_nPower⟩

set_option maxRecDepth 100000 in
theorem eq_S_nPower (x : In pk_S_nPower) : semF (mkE []) h_S_nPower (info Try.f159) pk_S_nPower rk_S_nPower x = M_S_nPower x := by kernel_rfl

set_option maxRecDepth 100000 in
theorem m_S_nPower : ConOK Try.prog 159 c_S_nPower := fn_ok (tyOK _) (E := mkE []) (consOK_nil rfl) Try.func159 (h := h_S_nPower) (by kernel_rfl) eq_S_nPower

/-- S_nPrime -/
def pk_S_nPrime : List PK := [.data (.int .i64)]
def rk_S_nPrime : List (Ty × Bool) := [(.bool, false)]
def h_S_nPrime : Hints := { loops := [(0, { items := [.slot 3 (.data (.int .i64) [])], kill := [1, 2, 4, 5, 6, 7, 8, 9, 10, 11, 12, 13, 14, 15, 16] })] }
noncomputable def M_S_nPrime (x : Int) : (Option Bool) :=
  (cond (decide (x < (2 : Int))) (some false) (loopO (fun (again0 : (Int → (Option Bool))) => (fun (s1 : Int) => (bindO (some (IntKind.wrap .i64 (s1 * s1))) (fun (a2 : Int) => (cond (decide (a2 ≤ x)) (bindO (guardO (s1 != (0 : Int))) (fun (a3 : Unit) => (bindO (some (Int.tmod x s1)) (fun (a4 : Int) => (cond (a4 == (0 : Int)) (some false) (bindO (some (IntKind.wrap .i64 (s1 + (1 : Int)))) (fun (a5 : Int) => (again0 a5)))))))) (some true)))))) (2 : Int)))

noncomputable def c_S_nPrime : Con0 := ⟨pk_S_nPrime, rk_S_nPrime, M_S_nPrime⟩

set_option maxRecDepth 100000 in
theorem eq_S_nPrime (x : In pk_S_nPrime) : semF (mkE []) h_S_nPrime (info Try.f160) pk_S_nPrime rk_S_nPrime x = M_S_nPrime x := by kernel_rfl

set_option maxRecDepth 100000 in
theorem m_S_nPrime : ConOK Try.prog 160 c_S_nPrime := fn_ok (tyOK _) (E := mkE []) (consOK_nil rfl) Try.func160 (h := h_S_nPrime) (by kernel_rfl) eq_S_nPrime

/-- S_l2Good -/
def pk_S_l2Good : List PK := [.data (.cons (.int .i64) (.cons (.int .i64) (.one (.int .i64))))]
def rk_S_l2Good : List (Ty × Bool) := [(.bool, false)]
def h_S_l2Good : Hints := { loops := [] }
noncomputable def M_S_l2Good (x : (Int × (Int × Int))) : (Option Bool) :=
  (bindO (M_S_l1In (x.1, ((3 : Int), (2000000000 : Int)))) (fun (a0 : Bool) => (cond a0 (bindO (some (IntKind.wrap .i64 (x.1 - (1 : Int)))) (fun (a1 : Int) => (bindO (M_S_l1In (x.2.1, ((2 : Int), a1))) (fun (a2 : Bool) => (cond a2 (bindO (some (IntKind.wrap .i64 (x.1 - (1 : Int)))) (fun (a3 : Int) => (bindO (guardO (x.2.1 != (0 : Int))) (fun (a4 : Unit) => (bindO (some (Int.tmod a3 x.2.1)) (fun (a5 : Int) => (cond (a5 == (0 : Int)) (bindO (some (IntKind.wrap .i64 (x.1 - (1 : Int)))) (fun (a6 : Int) => (bindO (M_S_l1In (x.2.2, ((2 : Int), a6))) (fun (a7 : Bool) => (cond a7 (bindO (M_S_nPower (x.2.2, (x.2.1, x.1))) (fun (a8 : Int) => (cond (a8 == (1 : Int)) (bindO (M_S_nPrime x.2.1) (fun (a9 : Bool) => (cond a9 (bindO (M_S_nPrime x.1) (fun (a10 : Bool) => (some a10))) (some false)))) (some false)))) (some false)))))) (some false)))))))) (some false)))))) (some false))))

noncomputable def c_S_l2Good : Con0 := ⟨pk_S_l2Good, rk_S_l2Good, M_S_l2Good⟩

set_option maxRecDepth 100000 in
theorem eq_S_l2Good (x : In pk_S_l2Good) : semF (mkE [(79, c_S_l1In), (159, c_S_nPower), (160, c_S_nPrime)]) h_S_l2Good (info Try.f87) pk_S_l2Good rk_S_l2Good x = M_S_l2Good x := by kernel_rfl

set_option maxRecDepth 100000 in
theorem m_S_l2Good : ConOK Try.prog 87 c_S_l2Good := fn_ok (tyOK _) (E := mkE [(79, c_S_l1In), (159, c_S_nPower), (160, c_S_nPrime)]) (consOK_cons m_S_l1In (consOK_cons m_S_nPower (consOK_cons m_S_nPrime (consOK_nil rfl)))) Try.func87 (h := h_S_l2Good) (by kernel_rfl) eq_S_l2Good

/-- S_gIs -/
def pk_S_gIs : List PK := [.data (.cons (.int .i64) (.cons (.int .i64) (.one (.int .i64)))), .data (.sl (.int .i64))]
def rk_S_gIs : List (Ty × Bool) := [(.bool, false)]
def h_S_gIs : Hints := { loops := [(0, { items := [.slot 9 (.data (.int .i64) [])], kill := [0, 1, 3, 4, 5, 6, 10, 11, 12, 13, 14, 15, 16, 17, 18, 19, 20, 21, 22, 23, 24, 25, 26, 27, 28] })] }
noncomputable def M_S_gIs (x : ((Int × (Int × Int)) × (List Int))) : (Option Bool) :=
  (loopO (fun (again0 : (Int → (Option Bool))) => (fun (s1 : Int) => (cond (decide (s1 < (((List.length x.2) : Nat) : Int))) (bindO (getI x.2 s1) (fun (a2 : Int) => (bindO (some (IntKind.wrap .i64 (x.1.1 - (1 : Int)))) (fun (a3 : Int) => (bindO (M_S_l1In (a2, ((1 : Int), a3))) (fun (a4 : Bool) => (cond (not a4) (some false) (bindO (M_S_nPower (a2, (x.1.2.1, x.1.1))) (fun (a5 : Int) => (cond (a5 != (1 : Int)) (some false) (bindO (some (IntKind.wrap .i64 (s1 + (1 : Int)))) (fun (a6 : Int) => (again0 a6))))))))))))) (some true)))) (0 : Int))

noncomputable def c_S_gIs : Con0 := ⟨pk_S_gIs, rk_S_gIs, M_S_gIs⟩

set_option maxRecDepth 100000 in
theorem eq_S_gIs (x : In pk_S_gIs) : semF (mkE [(79, c_S_l1In), (159, c_S_nPower)]) h_S_gIs (info Try.f103) pk_S_gIs rk_S_gIs x = M_S_gIs x := by kernel_rfl

set_option maxRecDepth 100000 in
theorem m_S_gIs : ConOK Try.prog 103 c_S_gIs := fn_ok (tyOK _) (E := mkE [(79, c_S_l1In), (159, c_S_nPower)]) (consOK_cons m_S_l1In (consOK_cons m_S_nPower (consOK_nil rfl))) Try.func103 (h := h_S_gIs) (by kernel_rfl) eq_S_gIs

/-- S_l1All -/
def pk_S_l1All : List PK := [.data (.sl (.int .i64)), .data (.int .i64), .data (.int .i64)]
def rk_S_l1All : List (Ty × Bool) := [(.bool, false)]
def h_S_l1All : Hints := { loops := [(0, { items := [.slot 11 (.data (.int .i64) [])], kill := [0, 3, 4, 5, 6, 7, 8, 12, 13, 14, 15, 16, 17, 18, 19, 20] })] }
noncomputable def M_S_l1All (x : ((List Int) × (Int × Int))) : (Option Bool) :=
  (loopO (fun (again0 : (Int → (Option Bool))) => (fun (s1 : Int) => (cond (decide (s1 < (((List.length x.1) : Nat) : Int))) (bindO (getI x.1 s1) (fun (a2 : Int) => (bindO (M_S_l1In (a2, (x.2.1, x.2.2))) (fun (a3 : Bool) => (cond (not a3) (some false) (bindO (some (IntKind.wrap .i64 (s1 + (1 : Int)))) (fun (a4 : Int) => (again0 a4)))))))) (some true)))) (0 : Int))

noncomputable def c_S_l1All : Con0 := ⟨pk_S_l1All, rk_S_l1All, M_S_l1All⟩

set_option maxRecDepth 100000 in
theorem eq_S_l1All (x : In pk_S_l1All) : semF (mkE [(79, c_S_l1In)]) h_S_l1All (info Try.f145) pk_S_l1All rk_S_l1All x = M_S_l1All x := by kernel_rfl

set_option maxRecDepth 100000 in
theorem m_S_l1All : ConOK Try.prog 145 c_S_l1All := fn_ok (tyOK _) (E := mkE [(79, c_S_l1In)]) (consOK_cons m_S_l1In (consOK_nil rfl)) Try.func145 (h := h_S_l1All) (by kernel_rfl) eq_S_l1All

/-- S_gExps -/
def pk_S_gExps : List PK := [.data (.cons (.int .i64) (.cons (.int .i64) (.one (.int .i64)))), .data (.sl (.int .i64))]
def rk_S_gExps : List (Ty × Bool) := [(.bool, false)]
def h_S_gExps : Hints := { loops := [] }
noncomputable def M_S_gExps (x : ((Int × (Int × Int)) × (List Int))) : (Option Bool) :=
  (bindO (some (IntKind.wrap .i64 (x.1.2.1 - (1 : Int)))) (fun (a0 : Int) => (bindO (M_S_l1All (x.2, ((0 : Int), a0))) (fun (a1 : Bool) => (some a1)))))

noncomputable def c_S_gExps : Con0 := ⟨pk_S_gExps, rk_S_gExps, M_S_gExps⟩

set_option maxRecDepth 100000 in
theorem eq_S_gExps (x : In pk_S_gExps) : semF (mkE [(145, c_S_l1All)]) h_S_gExps (info Try.f104) pk_S_gExps rk_S_gExps x = M_S_gExps x := by kernel_rfl

set_option maxRecDepth 100000 in
theorem m_S_gExps : ConOK Try.prog 104 c_S_gExps := fn_ok (tyOK _) (E := mkE [(145, c_S_l1All)]) (consOK_cons m_S_l1All (consOK_nil rfl)) Try.func104 (h := h_S_gExps) (by kernel_rfl) eq_S_gExps

/-- S_l1Least -/
def pk_S_l1Least : List PK := [.data (.int .i64), .data (.int .i64)]
def rk_S_l1Least : List (Ty × Bool) := [((.int .i64), false)]
def h_S_l1Least : Hints := { loops := [] }
noncomputable def M_S_l1Least (x : (Int × Int)) : (Option Int) :=
  (cond (decide (x.1 < x.2)) (some x.1) (some x.2))

noncomputable def c_S_l1Least : Con0 := ⟨pk_S_l1Least, rk_S_l1Least, M_S_l1Least⟩

set_option maxRecDepth 100000 in
theorem eq_S_l1Least (x : In pk_S_l1Least) : semF (mkE []) h_S_l1Least (info Try.f176) pk_S_l1Least rk_S_l1Least x = M_S_l1Least x := by kernel_rfl

set_option maxRecDepth 100000 in
theorem m_S_l1Least : ConOK Try.prog 176 c_S_l1Least := fn_ok (tyOK _) (E := mkE []) (consOK_nil rfl) Try.func176 (h := h_S_l1Least) (by kernel_rfl) eq_S_l1Least

/-- S_l1Own -/
def pk_S_l1Own : List PK := [.data (.sl (.int .i64))]
def rk_S_l1Own : List (Ty × Bool) := [((.sl (.int .i64)), true)]
def h_S_l1Own : Hints := { loops := [] }
noncomputable def M_S_l1Own (x : (List Int)) : (Option (List Int)) :=
  (bindO (guardO (lenOk ((List.length ([] : List Int)) + (List.length x)))) (fun (a0 : Unit) => (bindO (some (([] : List Int) ++ x)) (fun (a1 : (List Int)) => (some a1)))))

noncomputable def c_S_l1Own : Con0 := ⟨pk_S_l1Own, rk_S_l1Own, M_S_l1Own⟩

set_option maxRecDepth 100000 in
theorem eq_S_l1Own (x : In pk_S_l1Own) : semF (mkE []) h_S_l1Own (info Try.f177) pk_S_l1Own rk_S_l1Own x = M_S_l1Own x := by kernel_rfl

set_option maxRecDepth 100000 in
theorem m_S_l1Own : ConOK Try.prog 177 c_S_l1Own := fn_ok (tyOK _) (E := mkE []) (consOK_nil rfl) Try.func177 (h := h_S_l1Own) (by kernel_rfl) eq_S_l1Own

/-- S_l3With -/
def pk_S_l3With : List PK := [.data .str, .data (.sl (.int .i64))]
def rk_S_l3With : List (Ty × Bool) := [((.sl (.int .i64)), true)]
def h_S_l3With : Hints := { loops := [(0, { items := [.slot 5 (.own (.int .i64) true), .slot 6 (.data (.int .i64) [])], kill := [2, 3, 4, 7, 8, 9, 10, 11, 12, 13, 14, 15, 16, 17, 18, 19, 20, 21, 22, 23, 24, 25] })] }
noncomputable def M_S_l3With (x : (ByteArray × (List Int))) : (Option (List Int)) :=
  (loopO (fun (again0 : (((List Int) × Int) → (Option (List Int)))) => (fun (s1 : ((List Int) × Int)) => (cond (decide (s1.2 < (((ByteArray.size x.1) : Nat) : Int))) (bindO (if ((0 : Int) ≤ s1.2) then (x.1[(Int.toNat s1.2)]?) else (none : Option (UInt8))) (fun (a2 : (UInt8)) => (bindO (guardO (lenOk ((List.length s1.1) + (List.length ((IntKind.wrap .i64 (((UInt8.toNat a2) : Nat) : Int)) :: ([] : List Int)))))) (fun (a3 : Unit) => (bindO (some (s1.1 ++ ((IntKind.wrap .i64 (((UInt8.toNat a2) : Nat) : Int)) :: ([] : List Int)))) (fun (a4 : (List Int)) => (bindO (some (IntKind.wrap .i64 (s1.2 + (1 : Int)))) (fun (a5 : Int) => (again0 (a4, a5)))))))))) (bindO (guardO (lenOk ((List.length s1.1) + (List.length x.2)))) (fun (a6 : Unit) => (bindO (some (s1.1 ++ x.2)) (fun (a7 : (List Int)) => (some a7)))))))) (((((ByteArray.size x.1) : Nat) : Int) :: ([] : List Int)), (0 : Int)))

noncomputable def c_S_l3With : Con0 := ⟨pk_S_l3With, rk_S_l3With, M_S_l3With⟩

set_option maxRecDepth 100000 in
theorem eq_S_l3With (x : In pk_S_l3With) : semF (mkE []) h_S_l3With (info Try.f205) pk_S_l3With rk_S_l3With x = M_S_l3With x := by kernel_rfl

set_option maxRecDepth 100000 in
theorem m_S_l3With : ConOK Try.prog 205 c_S_l3With := fn_ok (tyOK _) (E := mkE []) (consOK_nil rfl) Try.func205 (h := h_S_l3With) (by kernel_rfl) eq_S_l3With

/-- S_l3State_absorb -/
def pk_S_l3State_absorb : List PK := [.mp (.cons (.int .i64) (.one (.int .i64))) false, .data (.int .i64)]
def rk_S_l3State_absorb : List (Ty × Bool) := []
def h_S_l3State_absorb : Hints := { loops := [(0, { items := [.slot 12 (.data (.int .i64) []), .cell 0 0 (.data (.int .i64) []), .cell 0 1 (.data (.int .i64) [])], kill := [1, 2, 3, 4, 5, 6, 7, 8, 9, 13, 14, 15, 16, 17, 18, 19, 20, 21, 22, 23, 24, 25, 26, 27, 28, 29, 30, 31, 32, 33, 34, 35, 36, 37, 38, 39, 40] })] }
noncomputable def M_S_l3State_absorb (x : ((Int × Int) × Int)) : (Option (Int × Int)) :=
  (bindO (guardO ((2147483648 : Int) != (0 : Int))) (fun (a0 : Unit) => (bindO (some (Int.tmod x.2 (2147483648 : Int))) (fun (a1 : Int) => (bindO (guardO ((2147483648 : Int) != (0 : Int))) (fun (a2 : Unit) => (bindO (some (IntKind.wrap .i64 (Int.tdiv x.2 (2147483648 : Int)))) (fun (a3 : Int) => (loopO (fun (again4 : ((Int × (Int × Int)) → (Option (Int × Int)))) => (fun (s5 : (Int × (Int × Int))) => (cond (decide (s5.1 < (((List.length (a1 :: (a3 :: ([] : List Int)))) : Nat) : Int))) (bindO (getI (a1 :: (a3 :: ([] : List Int))) s5.1) (fun (a6 : Int) => (bindO (some (IntKind.wrap .i64 ((48271 : Int) * s5.2.1))) (fun (a7 : Int) => (bindO (some (IntKind.wrap .i64 (a7 + a6))) (fun (a8 : Int) => (bindO (some (IntKind.wrap .i64 (a8 + (1 : Int)))) (fun (a9 : Int) => (bindO (guardO ((2147483647 : Int) != (0 : Int))) (fun (a10 : Unit) => (bindO (some (Int.tmod a9 (2147483647 : Int))) (fun (a11 : Int) => (bindO (some (IntKind.wrap .i64 ((69621 : Int) * s5.2.2))) (fun (a12 : Int) => (bindO (some (IntKind.wrap .i64 (a12 + a6))) (fun (a13 : Int) => (bindO (some (IntKind.wrap .i64 (a13 + (1 : Int)))) (fun (a14 : Int) => (bindO (guardO ((2147483647 : Int) != (0 : Int))) (fun (a15 : Unit) => (bindO (some (Int.tmod a14 (2147483647 : Int))) (fun (a16 : Int) => (bindO (some (IntKind.wrap .i64 (s5.1 + (1 : Int)))) (fun (a17 : Int) => (again4 (a17, (a11, a16))))))))))))))))))))))))))) (some (s5.2.1, s5.2.2))))) ((0 : Int), (x.1.1, x.1.2)))))))))))

noncomputable def c_S_l3State_absorb : Con0 := ⟨pk_S_l3State_absorb, rk_S_l3State_absorb, M_S_l3State_absorb⟩

set_option maxRecDepth 100000 in
theorem eq_S_l3State_absorb (x : In pk_S_l3State_absorb) : semF (mkE []) h_S_l3State_absorb (info Try.f212) pk_S_l3State_absorb rk_S_l3State_absorb x = M_S_l3State_absorb x := by kernel_rfl

set_option maxRecDepth 100000 in
theorem m_S_l3State_absorb : ConOK Try.prog 212 c_S_l3State_absorb := fn_ok (tyOK _) (E := mkE []) (consOK_nil rfl) Try.func212 (h := h_S_l3State_absorb) (by kernel_rfl) eq_S_l3State_absorb

/-- S_hInts -/
def pk_S_hInts : List PK := [.data (.sl (.int .i64))]
def rk_S_hInts : List (Ty × Bool) := [((.int .i64), false)]
def h_S_hInts : Hints := { loops := [(0, { items := [.slot 14 (.data (.int .i64) []), .cell 7 0 (.data (.int .i64) []), .cell 7 1 (.data (.int .i64) [])], kill := [0, 1, 2, 4, 5, 6, 8, 9, 10, 11, 15, 16, 17, 18, 19, 20, 21, 22, 23, 24, 25, 26, 27, 28, 29, 30, 31] })] }
noncomputable def M_S_hInts (x : (List Int)) : (Option Int) :=
  (bindO (M_S_l3State_absorb (((1 : Int), (2 : Int)), (((List.length x) : Nat) : Int))) (fun (a0 : (Int × Int)) => (loopO (fun (again1 : ((Int × (Int × Int)) → (Option Int))) => (fun (s2 : (Int × (Int × Int))) => (cond (decide (s2.1 < (((List.length x) : Nat) : Int))) (bindO (getI x s2.1) (fun (a3 : Int) => (bindO (M_S_l3State_absorb ((s2.2.1, s2.2.2), a3)) (fun (a4 : (Int × Int)) => (bindO (some (IntKind.wrap .i64 (s2.1 + (1 : Int)))) (fun (a5 : Int) => (again1 (a5, (a4.1, a4.2))))))))) (bindO (some (IntKind.wrap .i64 (s2.2.1 * (2147483648 : Int)))) (fun (a6 : Int) => (bindO (some (IntKind.wrap .i64 (a6 + s2.2.2))) (fun (a7 : Int) => (some a7)))))))) ((0 : Int), (a0.1, a0.2)))))

noncomputable def c_S_hInts : Con0 := ⟨pk_S_hInts, rk_S_hInts, M_S_hInts⟩

set_option maxRecDepth 100000 in
theorem eq_S_hInts (x : In pk_S_hInts) : semF (mkE [(212, c_S_l3State_absorb)]) h_S_hInts (info Try.f204) pk_S_hInts rk_S_hInts x = M_S_hInts x := by kernel_rfl

set_option maxRecDepth 100000 in
theorem m_S_hInts : ConOK Try.prog 204 c_S_hInts := fn_ok (tyOK _) (E := mkE [(212, c_S_l3State_absorb)]) (consOK_cons m_S_l3State_absorb (consOK_nil rfl)) Try.func204 (h := h_S_hInts) (by kernel_rfl) eq_S_hInts

/-- S_hLabelled -/
def pk_S_hLabelled : List PK := [.data .str, .data (.sl (.int .i64))]
def rk_S_hLabelled : List (Ty × Bool) := [((.int .i64), false)]
def h_S_hLabelled : Hints := { loops := [] }
noncomputable def M_S_hLabelled (x : (ByteArray × (List Int))) : (Option Int) :=
  (bindO (M_S_l3With (x.1, x.2)) (fun (a0 : (List Int)) => (bindO (M_S_hInts a0) (fun (a1 : Int) => (some a1)))))

noncomputable def c_S_hLabelled : Con0 := ⟨pk_S_hLabelled, rk_S_hLabelled, M_S_hLabelled⟩

set_option maxRecDepth 100000 in
theorem eq_S_hLabelled (x : In pk_S_hLabelled) : semF (mkE [(205, c_S_l3With), (204, c_S_hInts)]) h_S_hLabelled (info Try.f171) pk_S_hLabelled rk_S_hLabelled x = M_S_hLabelled x := by kernel_rfl

set_option maxRecDepth 100000 in
theorem m_S_hLabelled : ConOK Try.prog 171 c_S_hLabelled := fn_ok (tyOK _) (E := mkE [(205, c_S_l3With), (204, c_S_hInts)]) (consOK_cons m_S_l3With (consOK_cons m_S_hInts (consOK_nil rfl))) Try.func171 (h := h_S_hLabelled) (by kernel_rfl) eq_S_hLabelled

/-- S_wSmall -/
def pk_S_wSmall : List PK := [.data (.cons (.int .i64) (.cons (.int .i64) (.one (.int .i64)))), .data (.sl (.int .i64)), .data (.int .i64)]
def rk_S_wSmall : List (Ty × Bool) := [((.sl (.int .i64)), true)]
def h_S_wSmall : Hints := { loops := [(0, { items := [.slot 8 (.own (.int .i64) true), .slot 9 (.data (.int .i64) [])], kill := [0, 3, 4, 5, 6, 10, 11, 12, 13, 14, 15, 16, 17, 18, 19, 20, 21, 22, 23, 24, 25, 26, 27, 28, 29, 30, 31] })] }
noncomputable def M_S_wSmall (x : ((Int × (Int × Int)) × ((List Int) × Int))) : (Option (List Int)) :=
  (bindO (some (IntKind.wrap .i64 (x.1.2.1 - (1 : Int)))) (fun (a0 : Int) => (bindO (M_S_l1Least ((65535 : Int), a0)) (fun (a1 : Int) => (loopO (fun (again2 : (((List Int) × Int) → (Option (List Int)))) => (fun (s3 : ((List Int) × Int)) => (cond (decide (s3.2 < x.2.2)) (bindO (M_S_l1Own x.2.1) (fun (a4 : (List Int)) => (bindO (guardO (lenOk ((List.length a4) + (List.length (s3.2 :: ([] : List Int)))))) (fun (a5 : Unit) => (bindO (some (a4 ++ (s3.2 :: ([] : List Int)))) (fun (a6 : (List Int)) => (bindO (M_S_hLabelled ((bytesOf [115, 109, 97, 108, 108]), a6)) (fun (a7 : Int) => (bindO (guardO (a1 != (0 : Int))) (fun (a8 : Unit) => (bindO (some (Int.tmod a7 a1)) (fun (a9 : Int) => (bindO (some (IntKind.wrap .i64 ((1 : Int) + a9))) (fun (a10 : Int) => (bindO (guardO (lenOk ((List.length s3.1) + (List.length (a10 :: ([] : List Int)))))) (fun (a11 : Unit) => (bindO (some (s3.1 ++ (a10 :: ([] : List Int)))) (fun (a12 : (List Int)) => (bindO (some (IntKind.wrap .i64 (s3.2 + (1 : Int)))) (fun (a13 : Int) => (again2 (a12, a13)))))))))))))))))))))) (some s3.1)))) (([] : List Int), (0 : Int)))))))

noncomputable def c_S_wSmall : Con0 := ⟨pk_S_wSmall, rk_S_wSmall, M_S_wSmall⟩

set_option maxRecDepth 100000 in
theorem eq_S_wSmall (x : In pk_S_wSmall) : semF (mkE [(176, c_S_l1Least), (177, c_S_l1Own), (171, c_S_hLabelled)]) h_S_wSmall (info Try.f105) pk_S_wSmall rk_S_wSmall x = M_S_wSmall x := by kernel_rfl

set_option maxRecDepth 100000 in
theorem m_S_wSmall : ConOK Try.prog 105 c_S_wSmall := fn_ok (tyOK _) (E := mkE [(176, c_S_l1Least), (177, c_S_l1Own), (171, c_S_hLabelled)]) (consOK_cons m_S_l1Least (consOK_cons m_S_l1Own (consOK_cons m_S_hLabelled (consOK_nil rfl)))) Try.func105 (h := h_S_wSmall) (by kernel_rfl) eq_S_wSmall

/-- S_nMod -/
def pk_S_nMod : List PK := [.data (.int .i64), .data (.int .i64)]
def rk_S_nMod : List (Ty × Bool) := [((.int .i64), false)]
def h_S_nMod : Hints := { loops := [] }
noncomputable def M_S_nMod (x : (Int × Int)) : (Option Int) :=
  (bindO (guardO (x.2 != (0 : Int))) (fun (a0 : Unit) => (bindO (some (Int.tmod x.1 x.2)) (fun (a1 : Int) => (bindO (some (IntKind.wrap .i64 (a1 + x.2))) (fun (a2 : Int) => (bindO (guardO (x.2 != (0 : Int))) (fun (a3 : Unit) => (bindO (some (Int.tmod a2 x.2)) (fun (a4 : Int) => (some a4)))))))))))

noncomputable def c_S_nMod : Con0 := ⟨pk_S_nMod, rk_S_nMod, M_S_nMod⟩

set_option maxRecDepth 100000 in
theorem eq_S_nMod (x : In pk_S_nMod) : semF (mkE []) h_S_nMod (info Try.f178) pk_S_nMod rk_S_nMod x = M_S_nMod x := by kernel_rfl

set_option maxRecDepth 100000 in
theorem m_S_nMod : ConOK Try.prog 178 c_S_nMod := fn_ok (tyOK _) (E := mkE []) (consOK_nil rfl) Try.func178 (h := h_S_nMod) (by kernel_rfl) eq_S_nMod

/-- S_gExp -/
def pk_S_gExp : List PK := [.data (.cons (.int .i64) (.cons (.int .i64) (.one (.int .i64)))), .data (.int .i64), .data (.int .i64)]
def rk_S_gExp : List (Ty × Bool) := [((.int .i64), false)]
def h_S_gExp : Hints := { loops := [] }
noncomputable def M_S_gExp (x : ((Int × (Int × Int)) × (Int × Int))) : (Option Int) :=
  (bindO (M_S_nMod (x.2.2, x.1.2.1)) (fun (a0 : Int) => (bindO (M_S_nPower (x.2.1, (a0, x.1.1))) (fun (a1 : Int) => (some a1)))))

noncomputable def c_S_gExp : Con0 := ⟨pk_S_gExp, rk_S_gExp, M_S_gExp⟩

set_option maxRecDepth 100000 in
theorem eq_S_gExp (x : In pk_S_gExp) : semF (mkE [(178, c_S_nMod), (159, c_S_nPower)]) h_S_gExp (info Try.f107) pk_S_gExp rk_S_gExp x = M_S_gExp x := by kernel_rfl

set_option maxRecDepth 100000 in
theorem m_S_gExp : ConOK Try.prog 107 c_S_gExp := fn_ok (tyOK _) (E := mkE [(178, c_S_nMod), (159, c_S_nPower)]) (consOK_cons m_S_nMod (consOK_cons m_S_nPower (consOK_nil rfl))) Try.func107 (h := h_S_gExp) (by kernel_rfl) eq_S_gExp

/-- S_gProd -/
def pk_S_gProd : List PK := [.data (.cons (.int .i64) (.cons (.int .i64) (.one (.int .i64)))), .data (.sl (.int .i64)), .data (.sl (.int .i64))]
def rk_S_gProd : List (Ty × Bool) := [((.int .i64), false)]
def h_S_gProd : Hints := { loops := [(0, { items := [.slot 7 (.data (.int .i64) []), .slot 12 (.data (.int .i64) [])], kill := [0, 1, 4, 5, 6, 8, 9, 13, 14, 15, 16, 17, 18, 19, 20, 21, 22, 23, 24, 25, 26, 27, 28, 29, 30] })] }
noncomputable def M_S_gProd (x : ((Int × (Int × Int)) × ((List Int) × (List Int)))) : (Option Int) :=
  (loopO (fun (again0 : ((Int × Int) → (Option Int))) => (fun (s1 : (Int × Int)) => (cond (decide (s1.2 < (((List.length x.2.1) : Nat) : Int))) (bindO (getI x.2.1 s1.2) (fun (a2 : Int) => (bindO (getI x.2.2 s1.2) (fun (a3 : Int) => (bindO (M_S_gExp ((x.1.1, (x.1.2.1, x.1.2.2)), (a2, a3))) (fun (a4 : Int) => (bindO (some (IntKind.wrap .i64 (s1.1 * a4))) (fun (a5 : Int) => (bindO (guardO (x.1.1 != (0 : Int))) (fun (a6 : Unit) => (bindO (some (Int.tmod a5 x.1.1)) (fun (a7 : Int) => (bindO (some (IntKind.wrap .i64 (s1.2 + (1 : Int)))) (fun (a8 : Int) => (again0 (a7, a8)))))))))))))))) (some s1.1)))) ((1 : Int), (0 : Int)))

noncomputable def c_S_gProd : Con0 := ⟨pk_S_gProd, rk_S_gProd, M_S_gProd⟩

set_option maxRecDepth 100000 in
theorem eq_S_gProd (x : In pk_S_gProd) : semF (mkE [(107, c_S_gExp)]) h_S_gProd (info Try.f108) pk_S_gProd rk_S_gProd x = M_S_gProd x := by kernel_rfl

set_option maxRecDepth 100000 in
theorem m_S_gProd : ConOK Try.prog 108 c_S_gProd := fn_ok (tyOK _) (E := mkE [(107, c_S_gExp)]) (consOK_cons m_S_gExp (consOK_nil rfl)) Try.func108 (h := h_S_gProd) (by kernel_rfl) eq_S_gProd

/-- S_gInv -/
def pk_S_gInv : List PK := [.data (.cons (.int .i64) (.cons (.int .i64) (.one (.int .i64)))), .data (.int .i64)]
def rk_S_gInv : List (Ty × Bool) := [((.int .i64), false)]
def h_S_gInv : Hints := { loops := [] }
noncomputable def M_S_gInv (x : ((Int × (Int × Int)) × Int)) : (Option Int) :=
  (bindO (some (IntKind.wrap .i64 (x.1.2.1 - (1 : Int)))) (fun (a0 : Int) => (bindO (M_S_nPower (x.2, (a0, x.1.1))) (fun (a1 : Int) => (some a1)))))

noncomputable def c_S_gInv : Con0 := ⟨pk_S_gInv, rk_S_gInv, M_S_gInv⟩

set_option maxRecDepth 100000 in
theorem eq_S_gInv (x : In pk_S_gInv) : semF (mkE [(159, c_S_nPower)]) h_S_gInv (info Try.f109) pk_S_gInv rk_S_gInv x = M_S_gInv x := by kernel_rfl

set_option maxRecDepth 100000 in
theorem m_S_gInv : ConOK Try.prog 109 c_S_gInv := fn_ok (tyOK _) (E := mkE [(159, c_S_nPower)]) (consOK_cons m_S_nPower (consOK_nil rfl)) Try.func109 (h := h_S_gInv) (by kernel_rfl) eq_S_gInv

/-- S_gMul -/
def pk_S_gMul : List PK := [.data (.cons (.int .i64) (.cons (.int .i64) (.one (.int .i64)))), .data (.sl (.int .i64))]
def rk_S_gMul : List (Ty × Bool) := [((.int .i64), false)]
def h_S_gMul : Hints := { loops := [(0, { items := [.slot 5 (.data (.int .i64) []), .slot 10 (.data (.int .i64) [])], kill := [0, 1, 3, 4, 6, 7, 11, 12, 13, 14, 15, 16, 17, 18, 19, 20, 21] })] }
noncomputable def M_S_gMul (x : ((Int × (Int × Int)) × (List Int))) : (Option Int) :=
  (loopO (fun (again0 : ((Int × Int) → (Option Int))) => (fun (s1 : (Int × Int)) => (cond (decide (s1.2 < (((List.length x.2) : Nat) : Int))) (bindO (getI x.2 s1.2) (fun (a2 : Int) => (bindO (some (IntKind.wrap .i64 (s1.1 * a2))) (fun (a3 : Int) => (bindO (guardO (x.1.1 != (0 : Int))) (fun (a4 : Unit) => (bindO (some (Int.tmod a3 x.1.1)) (fun (a5 : Int) => (bindO (some (IntKind.wrap .i64 (s1.2 + (1 : Int)))) (fun (a6 : Int) => (again0 (a5, a6)))))))))))) (some s1.1)))) ((1 : Int), (0 : Int)))

noncomputable def c_S_gMul : Con0 := ⟨pk_S_gMul, rk_S_gMul, M_S_gMul⟩

set_option maxRecDepth 100000 in
theorem eq_S_gMul (x : In pk_S_gMul) : semF (mkE []) h_S_gMul (info Try.f106) pk_S_gMul rk_S_gMul x = M_S_gMul x := by kernel_rfl

set_option maxRecDepth 100000 in
theorem m_S_gMul : ConOK Try.prog 106 c_S_gMul := fn_ok (tyOK _) (E := mkE []) (consOK_nil rfl) Try.func106 (h := h_S_gMul) (by kernel_rfl) eq_S_gMul

/-- S_BatchSums -/
def pk_S_BatchSums : List PK := [.data (.cons (.int .i64) (.cons (.int .i64) (.one (.int .i64)))), .data (.int .i64), .data (.sl (.sl (.int .i64))), .data (.sl (.sl (.int .i64)))]
def rk_S_BatchSums : List (Ty × Bool) := [(.bool, false), (.bool, false)]
def h_S_BatchSums : Hints := { loops := [(0, { items := [.slot 10 (.own (.int .i64) true), .slot 42 (.data (.int .i64) [])], kill := [0, 5, 6, 7, 8, 9, 11, 12, 13, 14, 15, 16, 17, 18, 19, 20, 21, 22, 23, 24, 25, 26, 27, 28, 29, 30, 31, 32, 33, 34, 35, 36, 37, 38, 39, 43, 44, 45, 46, 47, 48, 49, 50, 51, 52, 53, 54, 55, 56, 57, 58, 59, 60, 61, 62, 63, 64, 65, 66, 67, 68, 69, 70, 71, 72, 73, 74, 75, 76, 77, 78, 79, 80, 81, 82, 83, 84, 85, 86, 87, 88, 89, 90, 91, 92, 93, 94, 95, 96, 97, 98, 99, 100, 101, 102, 103, 104, 105, 106, 107, 108, 109, 110, 111, 112, 113, 114, 115, 116, 117, 118, 119, 120, 121, 122, 123, 124, 125, 126, 127, 128, 129, 130, 131] }), (2, { items := [.slot 14 (.data (.int .i64) []), .slot 101 (.data (.int .i64) [])], kill := [0, 2, 5, 6, 7, 8, 9, 10, 11, 12, 15, 16, 17, 18, 19, 20, 21, 22, 23, 24, 25, 26, 27, 28, 29, 30, 31, 32, 33, 34, 35, 36, 37, 38, 39, 40, 41, 42, 43, 44, 45, 46, 47, 48, 49, 50, 51, 52, 53, 54, 55, 56, 57, 58, 59, 60, 61, 62, 63, 64, 65, 66, 67, 68, 69, 70, 71, 72, 73, 74, 75, 76, 77, 78, 79, 80, 81, 82, 83, 84, 85, 86, 87, 88, 89, 90, 91, 92, 93, 94, 95, 96, 97, 98, 102, 103, 104, 105, 106, 107, 108, 109, 110, 111, 112, 113, 114, 115, 116, 117, 118, 119, 120, 121, 122, 123, 124, 125, 126, 127, 128, 129, 130, 131] })] }
noncomputable def M_S_BatchSums (x : ((Int × (Int × Int)) × (Int × ((List (List Int)) × (List (List Int)))))) : (Option (Bool × Bool)) :=
  (bindO (M_S_l2Good (x.1.1, (x.1.2.1, x.1.2.2))) (fun (a0 : Bool) => (cond (not a0) (some (false, false)) (bindO (M_S_gIs ((x.1.1, (x.1.2.1, x.1.2.2)), (x.2.1 :: ([] : List Int)))) (fun (a1 : Bool) => (cond (not a1) (some (false, false)) (bindO (M_S_l1In ((((List.length x.2.2.1) : Nat) : Int), ((1 : Int), (24 : Int)))) (fun (a2 : Bool) => (cond (not a2) (some (false, false)) (cond ((((List.length x.2.2.2) : Nat) : Int) != (((List.length x.2.2.1) : Nat) : Int)) (some (false, false)) (loopO (fun (again3 : (((List Int) × Int) → (Option (Bool × Bool)))) => (fun (s4 : ((List Int) × Int)) => (cond (decide (s4.2 < (((List.length x.2.2.1) : Nat) : Int))) (bindO (getI x.2.2.1 s4.2) (fun (a5 : (List Int)) => (bindO (getI x.2.2.1 (0 : Int)) (fun (a6 : (List Int)) => (cond ((((List.length a5) : Nat) : Int) != (((List.length a6) : Nat) : Int)) (some (false, false)) (cond (decide ((((List.length a5) : Nat) : Int) > (24 : Int))) (some (false, false)) (bindO (getI x.2.2.2 s4.2) (fun (a7 : (List Int)) => (cond ((((List.length a7) : Nat) : Int) != (((List.length a5) : Nat) : Int)) (some (false, false)) (bindO (M_S_gIs ((x.1.1, (x.1.2.1, x.1.2.2)), a5)) (fun (a8 : Bool) => (cond (not a8) (some (false, false)) (bindO (getI x.2.2.2 s4.2) (fun (a9 : (List Int)) => (bindO (M_S_gExps ((x.1.1, (x.1.2.1, x.1.2.2)), a9)) (fun (a10 : Bool) => (cond (not a10) (some (false, false)) (bindO (getI x.2.2.2 s4.2) (fun (a11 : (List Int)) => (bindO (guardO (lenOk ((List.length s4.1) + (List.length a11)))) (fun (a12 : Unit) => (bindO (some (s4.1 ++ a11)) (fun (a13 : (List Int)) => (bindO (some (IntKind.wrap .i64 (s4.2 + (1 : Int)))) (fun (a14 : Int) => (again3 (a13, a14))))))))))))))))))))))))))) (cond (decide ((((List.length s4.1) : Nat) : Int) > (200 : Int))) (some (false, false)) (bindO (M_S_wSmall ((x.1.1, (x.1.2.1, x.1.2.2)), (s4.1, (((List.length x.2.2.1) : Nat) : Int)))) (fun (a15 : (List Int)) => (loopO (fun (again16 : ((Int × Int) → (Option (Bool × Bool)))) => (fun (s17 : (Int × Int)) => (cond (decide (s17.2 < (((List.length x.2.2.1) : Nat) : Int))) (bindO (getI x.2.2.1 s17.2) (fun (a18 : (List Int)) => (bindO (getI x.2.2.2 s17.2) (fun (a19 : (List Int)) => (bindO (M_S_gProd ((x.1.1, (x.1.2.1, x.1.2.2)), (a18, a19))) (fun (a20 : Int) => (bindO (M_S_gInv ((x.1.1, (x.1.2.1, x.1.2.2)), x.2.1)) (fun (a21 : Int) => (bindO (M_S_gMul ((x.1.1, (x.1.2.1, x.1.2.2)), (a20 :: (a21 :: ([] : List Int))))) (fun (a22 : Int) => (bindO (getI a15 s17.2) (fun (a23 : Int) => (bindO (M_S_gExp ((x.1.1, (x.1.2.1, x.1.2.2)), (a22, a23))) (fun (a24 : Int) => (bindO (M_S_gMul ((x.1.1, (x.1.2.1, x.1.2.2)), (s17.1 :: (a24 :: ([] : List Int))))) (fun (a25 : Int) => (bindO (some (IntKind.wrap .i64 (s17.2 + (1 : Int)))) (fun (a26 : Int) => (again16 (a25, a26)))))))))))))))))))) (some ((s17.1 == (1 : Int)), true))))) ((1 : Int), (0 : Int))))))))) (([] : List Int), (0 : Int)))))))))))))

noncomputable def c_S_BatchSums : Con0 := ⟨pk_S_BatchSums, rk_S_BatchSums, M_S_BatchSums⟩

set_option maxRecDepth 100000 in
theorem eq_S_BatchSums (x : In pk_S_BatchSums) : semF (mkE [(87, c_S_l2Good), (103, c_S_gIs), (79, c_S_l1In), (104, c_S_gExps), (105, c_S_wSmall), (108, c_S_gProd), (109, c_S_gInv), (106, c_S_gMul), (107, c_S_gExp)]) h_S_BatchSums (info Try.f51) pk_S_BatchSums rk_S_BatchSums x = M_S_BatchSums x := by kernel_rfl

set_option maxRecDepth 100000 in
theorem m_S_BatchSums : ConOK Try.prog 51 c_S_BatchSums := fn_ok (tyOK _) (E := mkE [(87, c_S_l2Good), (103, c_S_gIs), (79, c_S_l1In), (104, c_S_gExps), (105, c_S_wSmall), (108, c_S_gProd), (109, c_S_gInv), (106, c_S_gMul), (107, c_S_gExp)]) (consOK_cons m_S_l2Good (consOK_cons m_S_gIs (consOK_cons m_S_l1In (consOK_cons m_S_gExps (consOK_cons m_S_wSmall (consOK_cons m_S_gProd (consOK_cons m_S_gInv (consOK_cons m_S_gMul (consOK_cons m_S_gExp (consOK_nil rfl)))))))))) Try.func51 (h := h_S_BatchSums) (by kernel_rfl) eq_S_BatchSums

/-- I_within -/
def pk_I_within : List PK := [.data (.int .i64), .data (.int .i64), .data (.int .i64)]
def rk_I_within : List (Ty × Bool) := [(.bool, false)]
def h_I_within : Hints := { loops := [] }
noncomputable def M_I_within (x : (Int × (Int × Int))) : (Option Bool) :=
  (cond (decide (x.1 ≥ x.2.1)) (some (decide (x.1 ≤ x.2.2))) (some false))

noncomputable def c_I_within : Con0 := ⟨pk_I_within, rk_I_within, M_I_within⟩

set_option maxRecDepth 100000 in
theorem eq_I_within (x : In pk_I_within) : semF (mkE []) h_I_within (info Try.f82) pk_I_within rk_I_within x = M_I_within x := by kernel_rfl

set_option maxRecDepth 100000 in
theorem m_I_within : ConOK Try.prog 82 c_I_within := fn_ok (tyOK _) (E := mkE []) (consOK_nil rfl) Try.func82 (h := h_I_within) (by kernel_rfl) eq_I_within

/-- I_isModulus -/
def pk_I_isModulus : List PK := [.data (.int .i64)]
def rk_I_isModulus : List (Ty × Bool) := [(.bool, false)]
def h_I_isModulus : Hints := { loops := [] }
noncomputable def M_I_isModulus (x : Int) : (Option Bool) :=
  (bindO (M_I_within (x, ((2 : Int), (2000000000 : Int)))) (fun (a0 : Bool) => (some a0)))

noncomputable def c_I_isModulus : Con0 := ⟨pk_I_isModulus, rk_I_isModulus, M_I_isModulus⟩

set_option maxRecDepth 100000 in
theorem eq_I_isModulus (x : In pk_I_isModulus) : semF (mkE [(82, c_I_within)]) h_I_isModulus (info Try.f199) pk_I_isModulus rk_I_isModulus x = M_I_isModulus x := by kernel_rfl

set_option maxRecDepth 100000 in
theorem m_I_isModulus : ConOK Try.prog 199 c_I_isModulus := fn_ok (tyOK _) (E := mkE [(82, c_I_within)]) (consOK_cons m_I_within (consOK_nil rfl)) Try.func199 (h := h_I_isModulus) (by kernel_rfl) eq_I_isModulus

/-- I_isPrime -/
def pk_I_isPrime : List PK := [.data (.int .i64)]
def rk_I_isPrime : List (Ty × Bool) := [(.bool, false)]
def h_I_isPrime : Hints := { loops := [(0, { items := [.slot 3 (.data (.int .i64) [])], kill := [1, 2, 4, 5, 6, 7, 8, 9, 10, 11, 12, 13, 14, 15, 16, 17, 18, 19, 20, 21, 22, 23, 24, 25, 26] })] }
noncomputable def M_I_isPrime (x : Int) : (Option Bool) :=
  (bindO (M_I_isModulus x) (fun (a0 : Bool) => (cond (not a0) (some false) (bindO (guardO ((2 : Int) != (0 : Int))) (fun (a1 : Unit) => (bindO (some (Int.tmod x (2 : Int))) (fun (a2 : Int) => (cond (a2 == (0 : Int)) (cond (x != (2 : Int)) (some false) (loopO (fun (again3 : (Int → (Option Bool))) => (fun (s4 : Int) => (bindO (some (IntKind.wrap .i64 (s4 * s4))) (fun (a5 : Int) => (cond (decide (a5 ≤ x)) (bindO (guardO (s4 != (0 : Int))) (fun (a6 : Unit) => (bindO (some (Int.tmod x s4)) (fun (a7 : Int) => (cond (a7 == (0 : Int)) (some false) (bindO (some (IntKind.wrap .i64 (s4 + (2 : Int)))) (fun (a8 : Int) => (again3 a8)))))))) (some true)))))) (3 : Int))) (loopO (fun (again9 : (Int → (Option Bool))) => (fun (s10 : Int) => (bindO (some (IntKind.wrap .i64 (s10 * s10))) (fun (a11 : Int) => (cond (decide (a11 ≤ x)) (bindO (guardO (s10 != (0 : Int))) (fun (a12 : Unit) => (bindO (some (Int.tmod x s10)) (fun (a13 : Int) => (cond (a13 == (0 : Int)) (some false) (bindO (some (IntKind.wrap .i64 (s10 + (2 : Int)))) (fun (a14 : Int) => (again9 a14)))))))) (some true)))))) (3 : Int))))))))))

noncomputable def c_I_isPrime : Con0 := ⟨pk_I_isPrime, rk_I_isPrime, M_I_isPrime⟩

set_option maxRecDepth 100000 in
theorem eq_I_isPrime (x : In pk_I_isPrime) : semF (mkE [(199, c_I_isModulus)]) h_I_isPrime (info Try.f162) pk_I_isPrime rk_I_isPrime x = M_I_isPrime x := by kernel_rfl

set_option maxRecDepth 100000 in
theorem m_I_isPrime : ConOK Try.prog 162 c_I_isPrime := fn_ok (tyOK _) (E := mkE [(199, c_I_isModulus)]) (consOK_cons m_I_isModulus (consOK_nil rfl)) Try.func162 (h := h_I_isPrime) (by kernel_rfl) eq_I_isPrime

/-- I_power -/
def pk_I_power : List PK := [.data (.int .i64), .data (.int .i64), .data (.int .i64)]
def rk_I_power : List (Ty × Bool) := [((.int .i64), false)]
def h_I_power : Hints := { loops := [(0, { items := [.slot 0 (.data (.int .i64) []), .slot 1 (.data (.int .i64) []), .slot 7 (.data (.int .i64) [])], kill := [3, 4, 5, 6, 8, 9, 10, 11, 12, 13, 14, 15, 16, 17, 18, 19, 20, 21, 22, 23, 24, 25, 26, 27] })] }
noncomputable def M_I_power (x : (Int × (Int × Int))) : (Option Int) :=
  (bindO (guardO (x.2.2 != (0 : Int))) (fun (a0 : Unit) => (bindO (some (Int.tmod (1 : Int) x.2.2)) (fun (a1 : Int) => (loopO (fun (again2 : ((Int × (Int × Int)) → (Option Int))) => (fun (s3 : (Int × (Int × Int))) => (cond (decide (s3.2.1 > (0 : Int))) (bindO (some (bits .and .i64 s3.2.1 (1 : Int))) (fun (a4 : Int) => (cond (a4 == (1 : Int)) (bindO (some (IntKind.wrap .i64 (s3.2.2 * s3.1))) (fun (a5 : Int) => (bindO (guardO (x.2.2 != (0 : Int))) (fun (a6 : Unit) => (bindO (some (Int.tmod a5 x.2.2)) (fun (a7 : Int) => (bindO (some (IntKind.wrap .i64 (s3.1 * s3.1))) (fun (a8 : Int) => (bindO (guardO (x.2.2 != (0 : Int))) (fun (a9 : Unit) => (bindO (some (Int.tmod a8 x.2.2)) (fun (a10 : Int) => (bindO (guardO (decide ((0 : Int) ≤ (1 : Int)))) (fun (a11 : Unit) => (bindO (some (shr .i64 s3.2.1 (1 : Int))) (fun (a12 : Int) => (again2 (a10, (a12, a7))))))))))))))))))) (bindO (some (IntKind.wrap .i64 (s3.1 * s3.1))) (fun (a13 : Int) => (bindO (guardO (x.2.2 != (0 : Int))) (fun (a14 : Unit) => (bindO (some (Int.tmod a13 x.2.2)) (fun (a15 : Int) => (bindO (guardO (decide ((0 : Int) ≤ (1 : Int)))) (fun (a16 : Unit) => (bindO (some (shr .i64 s3.2.1 (1 : Int))) (fun (a17 : Int) => (again2 (a15, (a17, s3.2.2)))))))))))))))) (some s3.2.2)))) (x.1, (x.2.1, a1)))))))

noncomputable def c_I_power : Con0 := ⟨pk_I_power, rk_I_power, M_I_power⟩

set_option maxRecDepth 100000 in
theorem eq_I_power (x : In pk_I_power) : semF (mkE []) h_I_power (info Try.f163) pk_I_power rk_I_power x = M_I_power x := by kernel_rfl

set_option maxRecDepth 100000 in
theorem m_I_power : ConOK Try.prog 163 c_I_power := fn_ok (tyOK _) (E := mkE []) (consOK_nil rfl) Try.func163 (h := h_I_power) (by kernel_rfl) eq_I_power

/-- I_IsValidGroup -/
def pk_I_IsValidGroup : List PK := [.data (.cons (.int .i64) (.cons (.int .i64) (.one (.int .i64))))]
def rk_I_IsValidGroup : List (Ty × Bool) := [(.bool, false)]
def h_I_IsValidGroup : Hints := { loops := [] }
noncomputable def M_I_IsValidGroup (x : (Int × (Int × Int))) : (Option Bool) :=
  (bindO (M_I_within (x.1, ((3 : Int), (2000000000 : Int)))) (fun (a0 : Bool) => (cond a0 (bindO (some (IntKind.wrap .i64 (x.1 - (1 : Int)))) (fun (a1 : Int) => (bindO (M_I_within (x.2.1, ((2 : Int), a1))) (fun (a2 : Bool) => (cond a2 (bindO (some (IntKind.wrap .i64 (x.1 - (1 : Int)))) (fun (a3 : Int) => (bindO (guardO (x.2.1 != (0 : Int))) (fun (a4 : Unit) => (bindO (some (Int.tmod a3 x.2.1)) (fun (a5 : Int) => (cond (a5 == (0 : Int)) (bindO (some (IntKind.wrap .i64 (x.1 - (1 : Int)))) (fun (a6 : Int) => (bindO (M_I_within (x.2.2, ((2 : Int), a6))) (fun (a7 : Bool) => (cond a7 (bindO (M_I_isPrime x.1) (fun (a8 : Bool) => (cond a8 (bindO (M_I_isPrime x.2.1) (fun (a9 : Bool) => (cond a9 (bindO (M_I_power (x.2.2, (x.2.1, x.1))) (fun (a10 : Int) => (some (a10 == (1 : Int))))) (some false)))) (some false)))) (some false)))))) (some false)))))))) (some false)))))) (some false))))

noncomputable def c_I_IsValidGroup : Con0 := ⟨pk_I_IsValidGroup, rk_I_IsValidGroup, M_I_IsValidGroup⟩

set_option maxRecDepth 100000 in
theorem eq_I_IsValidGroup (x : In pk_I_IsValidGroup) : semF (mkE [(82, c_I_within), (162, c_I_isPrime), (163, c_I_power)]) h_I_IsValidGroup (info Try.f90) pk_I_IsValidGroup rk_I_IsValidGroup x = M_I_IsValidGroup x := by kernel_rfl

set_option maxRecDepth 100000 in
theorem m_I_IsValidGroup : ConOK Try.prog 90 c_I_IsValidGroup := fn_ok (tyOK _) (E := mkE [(82, c_I_within), (162, c_I_isPrime), (163, c_I_power)]) (consOK_cons m_I_within (consOK_cons m_I_isPrime (consOK_cons m_I_power (consOK_nil rfl)))) Try.func90 (h := h_I_IsValidGroup) (by kernel_rfl) eq_I_IsValidGroup

/-- I_Group_has -/
def pk_I_Group_has : List PK := [.data (.cons (.int .i64) (.cons (.int .i64) (.one (.int .i64)))), .data (.int .i64)]
def rk_I_Group_has : List (Ty × Bool) := [(.bool, false)]
def h_I_Group_has : Hints := { loops := [] }
noncomputable def M_I_Group_has (x : ((Int × (Int × Int)) × Int)) : (Option Bool) :=
  (bindO (some (IntKind.wrap .i64 (x.1.1 - (1 : Int)))) (fun (a0 : Int) => (bindO (M_I_within (x.2, ((1 : Int), a0))) (fun (a1 : Bool) => (cond a1 (bindO (M_I_power (x.2, (x.1.2.1, x.1.1))) (fun (a2 : Int) => (some (a2 == (1 : Int))))) (some false))))))

noncomputable def c_I_Group_has : Con0 := ⟨pk_I_Group_has, rk_I_Group_has, M_I_Group_has⟩

set_option maxRecDepth 100000 in
theorem eq_I_Group_has (x : In pk_I_Group_has) : semF (mkE [(82, c_I_within), (163, c_I_power)]) h_I_Group_has (info Try.f110) pk_I_Group_has rk_I_Group_has x = M_I_Group_has x := by kernel_rfl

set_option maxRecDepth 100000 in
theorem m_I_Group_has : ConOK Try.prog 110 c_I_Group_has := fn_ok (tyOK _) (E := mkE [(82, c_I_within), (163, c_I_power)]) (consOK_cons m_I_within (consOK_cons m_I_power (consOK_nil rfl))) Try.func110 (h := h_I_Group_has) (by kernel_rfl) eq_I_Group_has

/-- slices_IndexFunc_sint_int -/
def pk_slices_IndexFunc_sint_int : List PK := [.data (.sl (.int .i64)), .fn [(.int .i64)] .bool]
def rk_slices_IndexFunc_sint_int : List (Ty × Bool) := [((.int .i64), false)]
def h_slices_IndexFunc_sint_int : Hints := { loops := [(0, { items := [.slot 8 (.data (.int .i64) [])], kill := [2, 3, 4, 5, 6, 9, 10, 11, 12, 13, 14, 15, 16, 17, 18] })] }
noncomputable def M_slices_IndexFunc_sint_int (x : ((List Int) × (Int → (Option Bool)))) : (Option Int) :=
  (loopO (fun (again0 : (Int → (Option Int))) => (fun (s1 : Int) => (cond (decide (s1 < (((List.length x.1) : Nat) : Int))) (bindO (getI x.1 s1) (fun (a2 : Int) => (bindO (x.2 a2) (fun (a3 : Bool) => (cond a3 (some s1) (bindO (some (IntKind.wrap .i64 (s1 + (1 : Int)))) (fun (a4 : Int) => (again0 a4)))))))) (some (- (1 : Int)))))) (0 : Int))

noncomputable def c_slices_IndexFunc_sint_int : Con0 := ⟨pk_slices_IndexFunc_sint_int, rk_slices_IndexFunc_sint_int, M_slices_IndexFunc_sint_int⟩

set_option maxRecDepth 100000 in
theorem eq_slices_IndexFunc_sint_int (x : In pk_slices_IndexFunc_sint_int) : semF (mkE []) h_slices_IndexFunc_sint_int (info Try.f193) pk_slices_IndexFunc_sint_int rk_slices_IndexFunc_sint_int x = M_slices_IndexFunc_sint_int x := by kernel_rfl

set_option maxRecDepth 100000 in
theorem m_slices_IndexFunc_sint_int : ConOK Try.prog 193 c_slices_IndexFunc_sint_int := fn_ok (tyOK _) (E := mkE []) (consOK_nil rfl) Try.func193 (h := h_slices_IndexFunc_sint_int) (by kernel_rfl) eq_slices_IndexFunc_sint_int

/-- slices_ContainsFunc_sint_int -/
def pk_slices_ContainsFunc_sint_int : List PK := [.data (.sl (.int .i64)), .fn [(.int .i64)] .bool]
def rk_slices_ContainsFunc_sint_int : List (Ty × Bool) := [(.bool, false)]
def h_slices_ContainsFunc_sint_int : Hints := { loops := [] }
noncomputable def M_slices_ContainsFunc_sint_int (x : ((List Int) × (Int → (Option Bool)))) : (Option Bool) :=
  (bindO (M_slices_IndexFunc_sint_int (x.1, x.2)) (fun (a0 : Int) => (some (decide (a0 ≥ (0 : Int))))))

noncomputable def c_slices_ContainsFunc_sint_int : Con0 := ⟨pk_slices_ContainsFunc_sint_int, rk_slices_ContainsFunc_sint_int, M_slices_ContainsFunc_sint_int⟩

set_option maxRecDepth 100000 in
theorem eq_slices_ContainsFunc_sint_int (x : In pk_slices_ContainsFunc_sint_int) : semF (mkE [(193, c_slices_IndexFunc_sint_int)]) h_slices_ContainsFunc_sint_int (info Try.f195) pk_slices_ContainsFunc_sint_int rk_slices_ContainsFunc_sint_int x = M_slices_ContainsFunc_sint_int x := by kernel_rfl

set_option maxRecDepth 100000 in
theorem m_slices_ContainsFunc_sint_int : ConOK Try.prog 195 c_slices_ContainsFunc_sint_int := fn_ok (tyOK _) (E := mkE [(193, c_slices_IndexFunc_sint_int)]) (consOK_cons m_slices_IndexFunc_sint_int (consOK_nil rfl)) Try.func195 (h := h_slices_ContainsFunc_sint_int) (by kernel_rfl) eq_slices_ContainsFunc_sint_int

/-- I_areAll_1 -/
def pk_I_areAll_1 : List PK := [.data (.int .i64), .rfn [(.int .i64)] .bool]
def rk_I_areAll_1 : List (Ty × Bool) := [(.bool, false)]
def h_I_areAll_1 : Hints := { loops := [] }
noncomputable def M_I_areAll_1 (x : (Int × (Int → (Option Bool)))) : (Option Bool) :=
  (bindO (x.2 x.1) (fun (a0 : Bool) => (some (not a0))))

noncomputable def c_I_areAll_1 : Con0 := ⟨pk_I_areAll_1, rk_I_areAll_1, M_I_areAll_1⟩

set_option maxRecDepth 100000 in
theorem eq_I_areAll_1 (x : In pk_I_areAll_1) : semF (mkE []) h_I_areAll_1 (info Try.f196) pk_I_areAll_1 rk_I_areAll_1 x = M_I_areAll_1 x := by kernel_rfl

set_option maxRecDepth 100000 in
theorem m_I_areAll_1 : ConOK Try.prog 196 c_I_areAll_1 := fn_ok (tyOK _) (E := mkE []) (consOK_nil rfl) Try.func196 (h := h_I_areAll_1) (by kernel_rfl) eq_I_areAll_1

/-- I_areAll -/
def pk_I_areAll : List PK := [.data (.sl (.int .i64)), .fn [(.int .i64)] .bool]
def rk_I_areAll : List (Ty × Bool) := [(.bool, false)]
def h_I_areAll : Hints := { loops := [] }
noncomputable def M_I_areAll (x : ((List Int) × (Int → (Option Bool)))) : (Option Bool) :=
  (bindO (M_slices_ContainsFunc_sint_int (x.1, (fun (a0 : Int) => (bindO (M_I_areAll_1 (a0, x.2)) (fun (a1 : Bool) => (some a1)))))) (fun (a2 : Bool) => (some (not a2))))

noncomputable def c_I_areAll : Con0 := ⟨pk_I_areAll, rk_I_areAll, M_I_areAll⟩

set_option maxRecDepth 100000 in
theorem eq_I_areAll (x : In pk_I_areAll) : semF (mkE [(195, c_slices_ContainsFunc_sint_int), (196, c_I_areAll_1)]) h_I_areAll (info Try.f155) pk_I_areAll rk_I_areAll x = M_I_areAll x := by kernel_rfl

set_option maxRecDepth 100000 in
theorem m_I_areAll : ConOK Try.prog 155 c_I_areAll := fn_ok (tyOK _) (E := mkE [(195, c_slices_ContainsFunc_sint_int), (196, c_I_areAll_1)]) (consOK_cons m_slices_ContainsFunc_sint_int (consOK_cons m_I_areAll_1 (consOK_nil rfl))) Try.func155 (h := h_I_areAll) (by kernel_rfl) eq_I_areAll

/-- I_Group_hasAll -/
def pk_I_Group_hasAll : List PK := [.data (.cons (.int .i64) (.cons (.int .i64) (.one (.int .i64)))), .data (.sl (.int .i64))]
def rk_I_Group_hasAll : List (Ty × Bool) := [(.bool, false)]
def h_I_Group_hasAll : Hints := { loops := [] }
noncomputable def M_I_Group_hasAll (x : ((Int × (Int × Int)) × (List Int))) : (Option Bool) :=
  (bindO (M_I_areAll (x.2, (fun (a0 : Int) => (bindO (M_I_Group_has ((x.1.1, (x.1.2.1, x.1.2.2)), a0)) (fun (a1 : Bool) => (some a1)))))) (fun (a2 : Bool) => (some a2)))

noncomputable def c_I_Group_hasAll : Con0 := ⟨pk_I_Group_hasAll, rk_I_Group_hasAll, M_I_Group_hasAll⟩

set_option maxRecDepth 100000 in
theorem eq_I_Group_hasAll (x : In pk_I_Group_hasAll) : semF (mkE [(155, c_I_areAll), (110, c_I_Group_has)]) h_I_Group_hasAll (info Try.f111) pk_I_Group_hasAll rk_I_Group_hasAll x = M_I_Group_hasAll x := by kernel_rfl

set_option maxRecDepth 100000 in
theorem m_I_Group_hasAll : ConOK Try.prog 111 c_I_Group_hasAll := fn_ok (tyOK _) (E := mkE [(155, c_I_areAll), (110, c_I_Group_has)]) (consOK_cons m_I_areAll (consOK_cons m_I_Group_has (consOK_nil rfl))) Try.func111 (h := h_I_Group_hasAll) (by kernel_rfl) eq_I_Group_hasAll

/-- I_Group_isExp -/
def pk_I_Group_isExp : List PK := [.data (.cons (.int .i64) (.cons (.int .i64) (.one (.int .i64)))), .data (.int .i64)]
def rk_I_Group_isExp : List (Ty × Bool) := [(.bool, false)]
def h_I_Group_isExp : Hints := { loops := [] }
noncomputable def M_I_Group_isExp (x : ((Int × (Int × Int)) × Int)) : (Option Bool) :=
  (bindO (some (IntKind.wrap .i64 (x.1.2.1 - (1 : Int)))) (fun (a0 : Int) => (bindO (M_I_within (x.2, ((0 : Int), a0))) (fun (a1 : Bool) => (some a1)))))

noncomputable def c_I_Group_isExp : Con0 := ⟨pk_I_Group_isExp, rk_I_Group_isExp, M_I_Group_isExp⟩

set_option maxRecDepth 100000 in
theorem eq_I_Group_isExp (x : In pk_I_Group_isExp) : semF (mkE [(82, c_I_within)]) h_I_Group_isExp (info Try.f122) pk_I_Group_isExp rk_I_Group_isExp x = M_I_Group_isExp x := by kernel_rfl

set_option maxRecDepth 100000 in
theorem m_I_Group_isExp : ConOK Try.prog 122 c_I_Group_isExp := fn_ok (tyOK _) (E := mkE [(82, c_I_within)]) (consOK_cons m_I_within (consOK_nil rfl)) Try.func122 (h := h_I_Group_isExp) (by kernel_rfl) eq_I_Group_isExp

/-- I_Group_areExps -/
def pk_I_Group_areExps : List PK := [.data (.cons (.int .i64) (.cons (.int .i64) (.one (.int .i64)))), .data (.sl (.int .i64))]
def rk_I_Group_areExps : List (Ty × Bool) := [(.bool, false)]
def h_I_Group_areExps : Hints := { loops := [] }
noncomputable def M_I_Group_areExps (x : ((Int × (Int × Int)) × (List Int))) : (Option Bool) :=
  (bindO (M_I_areAll (x.2, (fun (a0 : Int) => (bindO (M_I_Group_isExp ((x.1.1, (x.1.2.1, x.1.2.2)), a0)) (fun (a1 : Bool) => (some a1)))))) (fun (a2 : Bool) => (some a2)))

noncomputable def c_I_Group_areExps : Con0 := ⟨pk_I_Group_areExps, rk_I_Group_areExps, M_I_Group_areExps⟩

set_option maxRecDepth 100000 in
theorem eq_I_Group_areExps (x : In pk_I_Group_areExps) : semF (mkE [(155, c_I_areAll), (122, c_I_Group_isExp)]) h_I_Group_areExps (info Try.f112) pk_I_Group_areExps rk_I_Group_areExps x = M_I_Group_areExps x := by kernel_rfl

set_option maxRecDepth 100000 in
theorem m_I_Group_areExps : ConOK Try.prog 112 c_I_Group_areExps := fn_ok (tyOK _) (E := mkE [(155, c_I_areAll), (122, c_I_Group_isExp)]) (consOK_cons m_I_areAll (consOK_cons m_I_Group_isExp (consOK_nil rfl))) Try.func112 (h := h_I_Group_areExps) (by kernel_rfl) eq_I_Group_areExps

/-- slices_Clone_sint_int -/
def pk_slices_Clone_sint_int : List PK := [.data (.sl (.int .i64))]
def rk_slices_Clone_sint_int : List (Ty × Bool) := [((.sl (.int .i64)), true)]
def h_slices_Clone_sint_int : Hints := { loops := [] }
noncomputable def M_slices_Clone_sint_int (x : (List Int)) : (Option (List Int)) :=
  (cond (List.isEmpty x) (ambO (some ([] : List Int)) (cond (not true) (some ([] : List Int)) (bindO (guardO (lenOk ((List.length ([] : List Int)) + (List.length x)))) (fun (a0 : Unit) => (bindO (some (([] : List Int) ++ x)) (fun (a1 : (List Int)) => (some a1))))))) (cond (not true) (some ([] : List Int)) (bindO (guardO (lenOk ((List.length ([] : List Int)) + (List.length x)))) (fun (a2 : Unit) => (bindO (some (([] : List Int) ++ x)) (fun (a3 : (List Int)) => (some a3)))))))

noncomputable def c_slices_Clone_sint_int : Con0 := ⟨pk_slices_Clone_sint_int, rk_slices_Clone_sint_int, M_slices_Clone_sint_int⟩

set_option maxRecDepth 100000 in
theorem eq_slices_Clone_sint_int (x : In pk_slices_Clone_sint_int) : semF (mkE []) h_slices_Clone_sint_int (info Try.f86) pk_slices_Clone_sint_int rk_slices_Clone_sint_int x = M_slices_Clone_sint_int x := by kernel_rfl

set_option maxRecDepth 100000 in
theorem m_slices_Clone_sint_int : ConOK Try.prog 86 c_slices_Clone_sint_int := fn_ok (tyOK _) (E := mkE []) (consOK_nil rfl) Try.func86 (h := h_slices_Clone_sint_int) (by kernel_rfl) eq_slices_Clone_sint_int

/-- I_labelled -/
def pk_I_labelled : List PK := [.data .str, .data (.sl (.int .i64))]
def rk_I_labelled : List (Ty × Bool) := [((.sl (.int .i64)), true)]
def h_I_labelled : Hints := { loops := [(0, { items := [.slot 5 (.own (.int .i64) true), .slot 12 (.data (.int .i64) [])], kill := [2, 3, 4, 6, 7, 8, 9, 10, 13, 14, 15, 16, 17, 18, 19, 20, 21, 22, 23, 24, 25] })] }
noncomputable def M_I_labelled (x : (ByteArray × (List Int))) : (Option (List Int)) :=
  (loopO (fun (again0 : (((List Int) × Int) → (Option (List Int)))) => (fun (s1 : ((List Int) × Int)) => (cond (decide (s1.2 < (((ByteArray.size x.1) : Nat) : Int))) (bindO (if ((0 : Int) ≤ s1.2) then (x.1[(Int.toNat s1.2)]?) else (none : Option (UInt8))) (fun (a2 : (UInt8)) => (bindO (guardO (lenOk ((List.length s1.1) + (List.length ((IntKind.wrap .i64 (((UInt8.toNat a2) : Nat) : Int)) :: ([] : List Int)))))) (fun (a3 : Unit) => (bindO (some (s1.1 ++ ((IntKind.wrap .i64 (((UInt8.toNat a2) : Nat) : Int)) :: ([] : List Int)))) (fun (a4 : (List Int)) => (bindO (some (IntKind.wrap .i64 (s1.2 + (1 : Int)))) (fun (a5 : Int) => (again0 (a4, a5)))))))))) (bindO (guardO (lenOk ((List.length s1.1) + (List.length x.2)))) (fun (a6 : Unit) => (bindO (some (s1.1 ++ x.2)) (fun (a7 : (List Int)) => (some a7)))))))) (((((ByteArray.size x.1) : Nat) : Int) :: ([] : List Int)), (0 : Int)))

noncomputable def c_I_labelled : Con0 := ⟨pk_I_labelled, rk_I_labelled, M_I_labelled⟩

set_option maxRecDepth 100000 in
theorem eq_I_labelled (x : In pk_I_labelled) : semF (mkE []) h_I_labelled (info Try.f207) pk_I_labelled rk_I_labelled x = M_I_labelled x := by kernel_rfl

set_option maxRecDepth 100000 in
theorem m_I_labelled : ConOK Try.prog 207 c_I_labelled := fn_ok (tyOK _) (E := mkE []) (consOK_nil rfl) Try.func207 (h := h_I_labelled) (by kernel_rfl) eq_I_labelled

/-- I_isDigest -/
def pk_I_isDigest : List PK := [.data (.int .i64)]
def rk_I_isDigest : List (Ty × Bool) := [(.bool, false)]
def h_I_isDigest : Hints := { loops := [] }
noncomputable def M_I_isDigest (x : Int) : (Option Bool) :=
  (bindO (M_I_within (x, ((0 : Int), (4611686018427387903 : Int)))) (fun (a0 : Bool) => (some a0)))

noncomputable def c_I_isDigest : Con0 := ⟨pk_I_isDigest, rk_I_isDigest, M_I_isDigest⟩

set_option maxRecDepth 100000 in
theorem eq_I_isDigest (x : In pk_I_isDigest) : semF (mkE [(82, c_I_within)]) h_I_isDigest (info Try.f218) pk_I_isDigest rk_I_isDigest x = M_I_isDigest x := by kernel_rfl

set_option maxRecDepth 100000 in
theorem m_I_isDigest : ConOK Try.prog 218 c_I_isDigest := fn_ok (tyOK _) (E := mkE [(82, c_I_within)]) (consOK_cons m_I_within (consOK_nil rfl)) Try.func218 (h := h_I_isDigest) (by kernel_rfl) eq_I_isDigest

/-- I_areDigests -/
def pk_I_areDigests : List PK := [.data (.sl (.int .i64))]
def rk_I_areDigests : List (Ty × Bool) := [(.bool, false)]
def h_I_areDigests : Hints := { loops := [] }
noncomputable def M_I_areDigests (x : (List Int)) : (Option Bool) :=
  (cond (decide ((((List.length x) : Nat) : Int) ≤ (400 : Int))) (bindO (M_I_areAll (x, (fun (a0 : Int) => (bindO (M_I_isDigest a0) (fun (a1 : Bool) => (some a1)))))) (fun (a2 : Bool) => (some a2))) (some false))

noncomputable def c_I_areDigests : Con0 := ⟨pk_I_areDigests, rk_I_areDigests, M_I_areDigests⟩

set_option maxRecDepth 100000 in
theorem eq_I_areDigests (x : In pk_I_areDigests) : semF (mkE [(155, c_I_areAll), (218, c_I_isDigest)]) h_I_areDigests (info Try.f213) pk_I_areDigests rk_I_areDigests x = M_I_areDigests x := by kernel_rfl

set_option maxRecDepth 100000 in
theorem m_I_areDigests : ConOK Try.prog 213 c_I_areDigests := fn_ok (tyOK _) (E := mkE [(155, c_I_areAll), (218, c_I_isDigest)]) (consOK_cons m_I_areAll (consOK_cons m_I_isDigest (consOK_nil rfl))) Try.func213 (h := h_I_areDigests) (by kernel_rfl) eq_I_areDigests

/-- I_hash -/
def pk_I_hash : List PK := [.data (.sl (.int .i64))]
def rk_I_hash : List (Ty × Bool) := [((.int .i64), false)]
def h_I_hash : Hints := { loops := [(0, { items := [.slot 3 (.data (.int .i64) []), .slot 4 (.data (.int .i64) []), .slot 15 (.data (.int .i64) [])], kill := [0, 1, 2, 5, 6, 7, 8, 9, 10, 11, 12, 16, 17, 18, 19, 20, 21, 22, 23, 24, 25, 26, 27, 28, 29, 30, 31, 32, 33, 34, 35, 36, 37, 38, 39, 40, 41, 42, 43, 44, 45, 46, 47, 48, 49, 50, 51] })] }
noncomputable def M_I_hash (x : (List Int)) : (Option Int) :=
  (bindO (guardO (lenOk ((List.length ((((List.length x) : Nat) : Int) :: ([] : List Int))) + (List.length x)))) (fun (a0 : Unit) => (bindO (some (((((List.length x) : Nat) : Int) :: ([] : List Int)) ++ x)) (fun (a1 : (List Int)) => (loopO (fun (again2 : ((Int × (Int × Int)) → (Option Int))) => (fun (s3 : (Int × (Int × Int))) => (cond (decide (s3.2.2 < (((List.length a1) : Nat) : Int))) (bindO (getI a1 s3.2.2) (fun (a4 : Int) => (bindO (guardO (decide ((0 : Int) ≤ (31 : Int)))) (fun (a5 : Unit) => (bindO (some (shr .i64 a4 (31 : Int))) (fun (a6 : Int) => (bindO (some (bits .and .i64 a4 (2147483647 : Int))) (fun (a7 : Int) => (bindO (some (IntKind.wrap .i64 ((48271 : Int) * s3.1))) (fun (a8 : Int) => (bindO (some (IntKind.wrap .i64 (a8 + a7))) (fun (a9 : Int) => (bindO (some (IntKind.wrap .i64 (a9 + (1 : Int)))) (fun (a10 : Int) => (bindO (guardO ((2147483647 : Int) != (0 : Int))) (fun (a11 : Unit) => (bindO (some (Int.tmod a10 (2147483647 : Int))) (fun (a12 : Int) => (bindO (some (IntKind.wrap .i64 ((48271 : Int) * a12))) (fun (a13 : Int) => (bindO (some (IntKind.wrap .i64 (a13 + a6))) (fun (a14 : Int) => (bindO (some (IntKind.wrap .i64 (a14 + (1 : Int)))) (fun (a15 : Int) => (bindO (guardO ((2147483647 : Int) != (0 : Int))) (fun (a16 : Unit) => (bindO (some (Int.tmod a15 (2147483647 : Int))) (fun (a17 : Int) => (bindO (some (IntKind.wrap .i64 ((69621 : Int) * s3.2.1))) (fun (a18 : Int) => (bindO (some (IntKind.wrap .i64 (a18 + a7))) (fun (a19 : Int) => (bindO (some (IntKind.wrap .i64 (a19 + (1 : Int)))) (fun (a20 : Int) => (bindO (guardO ((2147483647 : Int) != (0 : Int))) (fun (a21 : Unit) => (bindO (some (Int.tmod a20 (2147483647 : Int))) (fun (a22 : Int) => (bindO (some (IntKind.wrap .i64 ((69621 : Int) * a22))) (fun (a23 : Int) => (bindO (some (IntKind.wrap .i64 (a23 + a6))) (fun (a24 : Int) => (bindO (some (IntKind.wrap .i64 (a24 + (1 : Int)))) (fun (a25 : Int) => (bindO (guardO ((2147483647 : Int) != (0 : Int))) (fun (a26 : Unit) => (bindO (some (Int.tmod a25 (2147483647 : Int))) (fun (a27 : Int) => (bindO (some (IntKind.wrap .i64 (s3.2.2 + (1 : Int)))) (fun (a28 : Int) => (again2 (a17, (a27, a28))))))))))))))))))))))))))))))))))))))))))))))))))))) (bindO (guardO (decide ((0 : Int) ≤ (31 : Int)))) (fun (a29 : Unit) => (bindO (some (shl .i64 s3.1 (31 : Int))) (fun (a30 : Int) => (bindO (some (IntKind.wrap .i64 (a30 + s3.2.1))) (fun (a31 : Int) => (some a31)))))))))) ((1 : Int), ((2 : Int), (0 : Int))))))))

noncomputable def c_I_hash : Con0 := ⟨pk_I_hash, rk_I_hash, M_I_hash⟩

set_option maxRecDepth 100000 in
theorem eq_I_hash (x : In pk_I_hash) : semF (mkE []) h_I_hash (info Try.f214) pk_I_hash rk_I_hash x = M_I_hash x := by kernel_rfl

set_option maxRecDepth 100000 in
theorem m_I_hash : ConOK Try.prog 214 c_I_hash := fn_ok (tyOK _) (E := mkE []) (consOK_nil rfl) Try.func214 (h := h_I_hash) (by kernel_rfl) eq_I_hash

/-- I_HashInts -/
def pk_I_HashInts : List PK := [.data (.sl (.int .i64))]
def rk_I_HashInts : List (Ty × Bool) := [((.int .i64), false), (.bool, false)]
def h_I_HashInts : Hints := { loops := [] }
noncomputable def M_I_HashInts (x : (List Int)) : (Option (Int × Bool)) :=
  (bindO (M_I_areDigests x) (fun (a0 : Bool) => (cond (not a0) (some ((0 : Int), false)) (bindO (M_I_hash x) (fun (a1 : Int) => (some (a1, true)))))))

noncomputable def c_I_HashInts : Con0 := ⟨pk_I_HashInts, rk_I_HashInts, M_I_HashInts⟩

set_option maxRecDepth 100000 in
theorem eq_I_HashInts (x : In pk_I_HashInts) : semF (mkE [(213, c_I_areDigests), (214, c_I_hash)]) h_I_HashInts (info Try.f206) pk_I_HashInts rk_I_HashInts x = M_I_HashInts x := by kernel_rfl

set_option maxRecDepth 100000 in
theorem m_I_HashInts : ConOK Try.prog 206 c_I_HashInts := fn_ok (tyOK _) (E := mkE [(213, c_I_areDigests), (214, c_I_hash)]) (consOK_cons m_I_areDigests (consOK_cons m_I_hash (consOK_nil rfl))) Try.func206 (h := h_I_HashInts) (by kernel_rfl) eq_I_HashInts

/-- I_HashLabelled -/
def pk_I_HashLabelled : List PK := [.data .str, .data (.sl (.int .i64))]
def rk_I_HashLabelled : List (Ty × Bool) := [((.int .i64), false), (.bool, false)]
def h_I_HashLabelled : Hints := { loops := [] }
noncomputable def M_I_HashLabelled (x : (ByteArray × (List Int))) : (Option (Int × Bool)) :=
  (cond (decide ((((ByteArray.size x.1) : Nat) : Int) > (40 : Int))) (some ((0 : Int), false)) (cond (decide ((((List.length x.2) : Nat) : Int) > (400 : Int))) (some ((0 : Int), false)) (bindO (M_I_labelled (x.1, x.2)) (fun (a0 : (List Int)) => (bindO (M_I_HashInts a0) (fun (a1 : (Int × Bool)) => (some (a1.1, a1.2))))))))

noncomputable def c_I_HashLabelled : Con0 := ⟨pk_I_HashLabelled, rk_I_HashLabelled, M_I_HashLabelled⟩

set_option maxRecDepth 100000 in
theorem eq_I_HashLabelled (x : In pk_I_HashLabelled) : semF (mkE [(207, c_I_labelled), (206, c_I_HashInts)]) h_I_HashLabelled (info Try.f174) pk_I_HashLabelled rk_I_HashLabelled x = M_I_HashLabelled x := by kernel_rfl

set_option maxRecDepth 100000 in
theorem m_I_HashLabelled : ConOK Try.prog 174 c_I_HashLabelled := fn_ok (tyOK _) (E := mkE [(207, c_I_labelled), (206, c_I_HashInts)]) (consOK_cons m_I_labelled (consOK_cons m_I_HashInts (consOK_nil rfl))) Try.func174 (h := h_I_HashLabelled) (by kernel_rfl) eq_I_HashLabelled

/-- I_Group_smallExponents -/
def pk_I_Group_smallExponents : List PK := [.data (.cons (.int .i64) (.cons (.int .i64) (.one (.int .i64)))), .data (.sl (.int .i64)), .data (.int .i64)]
def rk_I_Group_smallExponents : List (Ty × Bool) := [((.sl (.int .i64)), true), (.bool, false)]
def h_I_Group_smallExponents : Hints := { loops := [(0, { items := [.slot 8 (.own (.int .i64) true), .slot 15 (.data (.int .i64) [])], kill := [0, 4, 5, 6, 7, 9, 10, 11, 12, 13, 16, 17, 18, 19, 20, 21, 22, 23, 24, 25, 26, 27, 28, 29, 30, 31, 32, 33, 34, 35, 36, 37, 38, 39, 40, 41, 42] })] }
noncomputable def M_I_Group_smallExponents (x : ((Int × (Int × Int)) × ((List Int) × Int))) : (Option ((List Int) × Bool)) :=
  (loopO (fun (again0 : (((List Int) × Int) → (Option ((List Int) × Bool)))) => (fun (s1 : ((List Int) × Int)) => (cond (decide (s1.2 < (if (x.2.2 < (1 : Int)) then (1 : Int) else x.2.2))) (bindO (M_slices_Clone_sint_int x.2.1) (fun (a2 : (List Int)) => (bindO (guardO (lenOk ((List.length a2) + (List.length (s1.2 :: ([] : List Int)))))) (fun (a3 : Unit) => (bindO (some (a2 ++ (s1.2 :: ([] : List Int)))) (fun (a4 : (List Int)) => (bindO (M_I_HashLabelled ((bytesOf [115, 109, 97, 108, 108]), a4)) (fun (a5 : (Int × Bool)) => (cond (not a5.2) (some (([] : List Int), false)) (bindO (some (IntKind.wrap .i64 (x.1.2.1 - (1 : Int)))) (fun (a6 : Int) => (bindO (guardO ((if (a6 < (65535 : Int)) then a6 else (65535 : Int)) != (0 : Int))) (fun (a7 : Unit) => (bindO (some (Int.tmod a5.1 (if (a6 < (65535 : Int)) then a6 else (65535 : Int)))) (fun (a8 : Int) => (bindO (some (IntKind.wrap .i64 ((1 : Int) + a8))) (fun (a9 : Int) => (bindO (guardO (lenOk ((List.length s1.1) + (List.length (a9 :: ([] : List Int)))))) (fun (a10 : Unit) => (bindO (some (s1.1 ++ (a9 :: ([] : List Int)))) (fun (a11 : (List Int)) => (bindO (some (IntKind.wrap .i64 (s1.2 + (1 : Int)))) (fun (a12 : Int) => (again0 (a11, a12))))))))))))))))))))))))) (bindO (sliceNH x.2.2 (List.length s1.1)) (fun (a13 : (Nat × Nat)) => (some ((List.take a13.2 s1.1), true))))))) (([] : List Int), (0 : Int)))

noncomputable def c_I_Group_smallExponents : Con0 := ⟨pk_I_Group_smallExponents, rk_I_Group_smallExponents, M_I_Group_smallExponents⟩

set_option maxRecDepth 100000 in
theorem eq_I_Group_smallExponents (x : In pk_I_Group_smallExponents) : semF (mkE [(86, c_slices_Clone_sint_int), (174, c_I_HashLabelled)]) h_I_Group_smallExponents (info Try.f113) pk_I_Group_smallExponents rk_I_Group_smallExponents x = M_I_Group_smallExponents x := by kernel_rfl

set_option maxRecDepth 100000 in
theorem m_I_Group_smallExponents : ConOK Try.prog 113 c_I_Group_smallExponents := fn_ok (tyOK _) (E := mkE [(86, c_slices_Clone_sint_int), (174, c_I_HashLabelled)]) (consOK_cons m_slices_Clone_sint_int (consOK_cons m_I_HashLabelled (consOK_nil rfl))) Try.func113 (h := h_I_Group_smallExponents) (by kernel_rfl) eq_I_Group_smallExponents

/-- I_mod -/
def pk_I_mod : List PK := [.data (.int .i64), .data (.int .i64)]
def rk_I_mod : List (Ty × Bool) := [((.int .i64), false)]
def h_I_mod : Hints := { loops := [] }
noncomputable def M_I_mod (x : (Int × Int)) : (Option Int) :=
  (bindO (guardO (x.2 != (0 : Int))) (fun (a0 : Unit) => (bindO (some (Int.tmod x.1 x.2)) (fun (a1 : Int) => (bindO (some (IntKind.wrap .i64 (a1 + x.2))) (fun (a2 : Int) => (bindO (guardO (x.2 != (0 : Int))) (fun (a3 : Unit) => (bindO (some (Int.tmod a2 x.2)) (fun (a4 : Int) => (some a4)))))))))))

noncomputable def c_I_mod : Con0 := ⟨pk_I_mod, rk_I_mod, M_I_mod⟩

set_option maxRecDepth 100000 in
theorem eq_I_mod (x : In pk_I_mod) : semF (mkE []) h_I_mod (info Try.f179) pk_I_mod rk_I_mod x = M_I_mod x := by kernel_rfl

set_option maxRecDepth 100000 in
theorem m_I_mod : ConOK Try.prog 179 c_I_mod := fn_ok (tyOK _) (E := mkE []) (consOK_nil rfl) Try.func179 (h := h_I_mod) (by kernel_rfl) eq_I_mod

/-- I_Group_pow -/
def pk_I_Group_pow : List PK := [.data (.cons (.int .i64) (.cons (.int .i64) (.one (.int .i64)))), .data (.int .i64), .data (.int .i64)]
def rk_I_Group_pow : List (Ty × Bool) := [((.int .i64), false)]
def h_I_Group_pow : Hints := { loops := [] }
noncomputable def M_I_Group_pow (x : ((Int × (Int × Int)) × (Int × Int))) : (Option Int) :=
  (bindO (M_I_mod (x.2.2, x.1.2.1)) (fun (a0 : Int) => (bindO (M_I_power (x.2.1, (a0, x.1.1))) (fun (a1 : Int) => (some a1)))))

noncomputable def c_I_Group_pow : Con0 := ⟨pk_I_Group_pow, rk_I_Group_pow, M_I_Group_pow⟩

set_option maxRecDepth 100000 in
theorem eq_I_Group_pow (x : In pk_I_Group_pow) : semF (mkE [(179, c_I_mod), (163, c_I_power)]) h_I_Group_pow (info Try.f115) pk_I_Group_pow rk_I_Group_pow x = M_I_Group_pow x := by kernel_rfl

set_option maxRecDepth 100000 in
theorem m_I_Group_pow : ConOK Try.prog 115 c_I_Group_pow := fn_ok (tyOK _) (E := mkE [(179, c_I_mod), (163, c_I_power)]) (consOK_cons m_I_mod (consOK_cons m_I_power (consOK_nil rfl))) Try.func115 (h := h_I_Group_pow) (by kernel_rfl) eq_I_Group_pow

/-- I_Group_mul -/
def pk_I_Group_mul : List PK := [.data (.cons (.int .i64) (.cons (.int .i64) (.one (.int .i64)))), .data (.sl (.int .i64))]
def rk_I_Group_mul : List (Ty × Bool) := [((.int .i64), false)]
def h_I_Group_mul : Hints := { loops := [(0, { items := [.slot 5 (.data (.int .i64) []), .slot 10 (.data (.int .i64) [])], kill := [0, 1, 3, 4, 6, 7, 11, 12, 13, 14, 15, 16, 17, 18, 19, 20, 21] })] }
noncomputable def M_I_Group_mul (x : ((Int × (Int × Int)) × (List Int))) : (Option Int) :=
  (loopO (fun (again0 : ((Int × Int) → (Option Int))) => (fun (s1 : (Int × Int)) => (cond (decide (s1.2 < (((List.length x.2) : Nat) : Int))) (bindO (getI x.2 s1.2) (fun (a2 : Int) => (bindO (some (IntKind.wrap .i64 (s1.1 * a2))) (fun (a3 : Int) => (bindO (guardO (x.1.1 != (0 : Int))) (fun (a4 : Unit) => (bindO (some (Int.tmod a3 x.1.1)) (fun (a5 : Int) => (bindO (some (IntKind.wrap .i64 (s1.2 + (1 : Int)))) (fun (a6 : Int) => (again0 (a5, a6)))))))))))) (some s1.1)))) ((1 : Int), (0 : Int)))

noncomputable def c_I_Group_mul : Con0 := ⟨pk_I_Group_mul, rk_I_Group_mul, M_I_Group_mul⟩

set_option maxRecDepth 100000 in
theorem eq_I_Group_mul (x : In pk_I_Group_mul) : semF (mkE []) h_I_Group_mul (info Try.f114) pk_I_Group_mul rk_I_Group_mul x = M_I_Group_mul x := by kernel_rfl

set_option maxRecDepth 100000 in
theorem m_I_Group_mul : ConOK Try.prog 114 c_I_Group_mul := fn_ok (tyOK _) (E := mkE []) (consOK_nil rfl) Try.func114 (h := h_I_Group_mul) (by kernel_rfl) eq_I_Group_mul

/-- I_Group_powers -/
def pk_I_Group_powers : List PK := [.data (.cons (.int .i64) (.cons (.int .i64) (.one (.int .i64)))), .data (.sl (.int .i64)), .data (.sl (.int .i64))]
def rk_I_Group_powers : List (Ty × Bool) := [((.int .i64), false)]
def h_I_Group_powers : Hints := { loops := [(0, { items := [.slot 7 (.data (.int .i64) []), .slot 12 (.data (.int .i64) [])], kill := [0, 1, 4, 5, 6, 8, 9, 13, 14, 15, 16, 17, 18, 19, 20, 21, 22, 23, 24, 25, 26, 27, 28, 29] })] }
noncomputable def M_I_Group_powers (x : ((Int × (Int × Int)) × ((List Int) × (List Int)))) : (Option Int) :=
  (loopO (fun (again0 : ((Int × Int) → (Option Int))) => (fun (s1 : (Int × Int)) => (cond (decide (s1.2 < (((List.length x.2.1) : Nat) : Int))) (bindO (getI x.2.1 s1.2) (fun (a2 : Int) => (bindO (getI x.2.2 s1.2) (fun (a3 : Int) => (bindO (M_I_Group_pow ((x.1.1, (x.1.2.1, x.1.2.2)), (a2, a3))) (fun (a4 : Int) => (bindO (M_I_Group_mul ((x.1.1, (x.1.2.1, x.1.2.2)), (s1.1 :: (a4 :: ([] : List Int))))) (fun (a5 : Int) => (bindO (some (IntKind.wrap .i64 (s1.2 + (1 : Int)))) (fun (a6 : Int) => (again0 (a5, a6)))))))))))) (some s1.1)))) ((1 : Int), (0 : Int)))

noncomputable def c_I_Group_powers : Con0 := ⟨pk_I_Group_powers, rk_I_Group_powers, M_I_Group_powers⟩

set_option maxRecDepth 100000 in
theorem eq_I_Group_powers (x : In pk_I_Group_powers) : semF (mkE [(115, c_I_Group_pow), (114, c_I_Group_mul)]) h_I_Group_powers (info Try.f117) pk_I_Group_powers rk_I_Group_powers x = M_I_Group_powers x := by kernel_rfl

set_option maxRecDepth 100000 in
theorem m_I_Group_powers : ConOK Try.prog 117 c_I_Group_powers := fn_ok (tyOK _) (E := mkE [(115, c_I_Group_pow), (114, c_I_Group_mul)]) (consOK_cons m_I_Group_pow (consOK_cons m_I_Group_mul (consOK_nil rfl))) Try.func117 (h := h_I_Group_powers) (by kernel_rfl) eq_I_Group_powers

/-- I_Group_inv -/
def pk_I_Group_inv : List PK := [.data (.cons (.int .i64) (.cons (.int .i64) (.one (.int .i64)))), .data (.int .i64)]
def rk_I_Group_inv : List (Ty × Bool) := [((.int .i64), false)]
def h_I_Group_inv : Hints := { loops := [] }
noncomputable def M_I_Group_inv (x : ((Int × (Int × Int)) × Int)) : (Option Int) :=
  (bindO (M_I_Group_pow ((x.1.1, (x.1.2.1, x.1.2.2)), (x.2, (- (1 : Int))))) (fun (a0 : Int) => (some a0)))

noncomputable def c_I_Group_inv : Con0 := ⟨pk_I_Group_inv, rk_I_Group_inv, M_I_Group_inv⟩

set_option maxRecDepth 100000 in
theorem eq_I_Group_inv (x : In pk_I_Group_inv) : semF (mkE [(115, c_I_Group_pow)]) h_I_Group_inv (info Try.f180) pk_I_Group_inv rk_I_Group_inv x = M_I_Group_inv x := by kernel_rfl

set_option maxRecDepth 100000 in
theorem m_I_Group_inv : ConOK Try.prog 180 c_I_Group_inv := fn_ok (tyOK _) (E := mkE [(115, c_I_Group_pow)]) (consOK_cons m_I_Group_pow (consOK_nil rfl)) Try.func180 (h := h_I_Group_inv) (by kernel_rfl) eq_I_Group_inv

/-- I_Group_over -/
def pk_I_Group_over : List PK := [.data (.cons (.int .i64) (.cons (.int .i64) (.one (.int .i64)))), .data (.int .i64), .data (.int .i64)]
def rk_I_Group_over : List (Ty × Bool) := [((.int .i64), false)]
def h_I_Group_over : Hints := { loops := [] }
noncomputable def M_I_Group_over (x : ((Int × (Int × Int)) × (Int × Int))) : (Option Int) :=
  (bindO (M_I_Group_inv ((x.1.1, (x.1.2.1, x.1.2.2)), x.2.2)) (fun (a0 : Int) => (bindO (M_I_Group_mul ((x.1.1, (x.1.2.1, x.1.2.2)), (x.2.1 :: (a0 :: ([] : List Int))))) (fun (a1 : Int) => (some a1)))))

noncomputable def c_I_Group_over : Con0 := ⟨pk_I_Group_over, rk_I_Group_over, M_I_Group_over⟩

set_option maxRecDepth 100000 in
theorem eq_I_Group_over (x : In pk_I_Group_over) : semF (mkE [(180, c_I_Group_inv), (114, c_I_Group_mul)]) h_I_Group_over (info Try.f116) pk_I_Group_over rk_I_Group_over x = M_I_Group_over x := by kernel_rfl

set_option maxRecDepth 100000 in
theorem m_I_Group_over : ConOK Try.prog 116 c_I_Group_over := fn_ok (tyOK _) (E := mkE [(180, c_I_Group_inv), (114, c_I_Group_mul)]) (consOK_cons m_I_Group_inv (consOK_cons m_I_Group_mul (consOK_nil rfl))) Try.func116 (h := h_I_Group_over) (by kernel_rfl) eq_I_Group_over

/-- I_BatchSums -/
def pk_I_BatchSums : List PK := [.data (.cons (.int .i64) (.cons (.int .i64) (.one (.int .i64)))), .data (.int .i64), .data (.sl (.sl (.int .i64))), .data (.sl (.sl (.int .i64)))]
def rk_I_BatchSums : List (Ty × Bool) := [(.bool, false), (.bool, false)]
def h_I_BatchSums : Hints := { loops := [(0, { items := [.slot 10 (.own (.int .i64) true), .slot 60 (.data (.int .i64) [])], kill := [0, 5, 6, 7, 8, 9, 11, 12, 13, 14, 15, 16, 17, 18, 19, 20, 21, 22, 23, 24, 25, 26, 27, 28, 29, 30, 31, 32, 33, 34, 35, 36, 37, 38, 39, 40, 41, 42, 43, 44, 45, 46, 47, 48, 49, 50, 51, 52, 53, 54, 55, 56, 57, 61, 62, 63, 64, 65, 66, 67, 68, 69, 70, 71, 72, 73, 74, 75, 76, 77, 78, 79, 80, 81, 82, 83, 84, 85, 86, 87, 88, 89, 90, 91, 92, 93, 94, 95, 96, 97, 98, 99, 100, 101, 102, 103, 104, 105, 106, 107, 108, 109, 110, 111, 112, 113, 114, 115, 116, 117, 118, 119, 120, 121, 122, 123, 124, 125, 126, 127, 128, 129, 130, 131, 132, 133, 134, 135, 136, 137, 138, 139, 140, 141, 142, 143] }), (2, { items := [.slot 15 (.data (.int .i64) []), .slot 116 (.data (.int .i64) [])], kill := [0, 2, 5, 6, 7, 8, 9, 10, 11, 12, 14, 16, 17, 18, 19, 20, 21, 22, 23, 24, 25, 26, 27, 28, 29, 30, 31, 32, 33, 34, 35, 36, 37, 38, 39, 40, 41, 42, 43, 44, 45, 46, 47, 48, 49, 50, 51, 52, 53, 54, 55, 56, 57, 58, 59, 60, 61, 62, 63, 64, 65, 66, 67, 68, 69, 70, 71, 72, 73, 74, 75, 76, 77, 78, 79, 80, 81, 82, 83, 84, 85, 86, 87, 88, 89, 90, 91, 92, 93, 94, 95, 96, 97, 98, 99, 100, 101, 102, 103, 104, 105, 106, 107, 108, 109, 110, 111, 112, 113, 117, 118, 119, 120, 121, 122, 123, 124, 125, 126, 127, 128, 129, 130, 131, 132, 133, 134, 135, 136, 137, 138, 139, 140, 141, 142, 143] })] }
noncomputable def M_I_BatchSums (x : ((Int × (Int × Int)) × (Int × ((List (List Int)) × (List (List Int)))))) : (Option (Bool × Bool)) :=
  (bindO (M_I_IsValidGroup (x.1.1, (x.1.2.1, x.1.2.2))) (fun (a0 : Bool) => (cond (not a0) (some (false, false)) (bindO (M_I_Group_has ((x.1.1, (x.1.2.1, x.1.2.2)), x.2.1)) (fun (a1 : Bool) => (cond (not a1) (some (false, false)) (bindO (M_I_within ((((List.length x.2.2.1) : Nat) : Int), ((1 : Int), (24 : Int)))) (fun (a2 : Bool) => (cond (not a2) (some (false, false)) (cond ((((List.length x.2.2.2) : Nat) : Int) != (((List.length x.2.2.1) : Nat) : Int)) (some (false, false)) (bindO (getI x.2.2.1 (0 : Int)) (fun (a3 : (List Int)) => (bindO (some (IntKind.wrap .i64 ((((List.length x.2.2.1) : Nat) : Int) * (((List.length a3) : Nat) : Int)))) (fun (a4 : Int) => (cond (decide (a4 > (200 : Int))) (some (false, false)) (bindO (getI x.2.2.1 (0 : Int)) (fun (a5 : (List Int)) => (cond (decide ((((List.length a5) : Nat) : Int) > (24 : Int))) (some (false, false)) (loopO (fun (again6 : (((List Int) × Int) → (Option (Bool × Bool)))) => (fun (s7 : ((List Int) × Int)) => (cond (decide (s7.2 < (((List.length x.2.2.1) : Nat) : Int))) (bindO (getI x.2.2.1 s7.2) (fun (a8 : (List Int)) => (bindO (getI x.2.2.1 (0 : Int)) (fun (a9 : (List Int)) => (cond ((((List.length a8) : Nat) : Int) != (((List.length a9) : Nat) : Int)) (some (false, false)) (bindO (getI x.2.2.2 s7.2) (fun (a10 : (List Int)) => (cond ((((List.length a10) : Nat) : Int) != (((List.length a8) : Nat) : Int)) (some (false, false)) (bindO (M_I_Group_hasAll ((x.1.1, (x.1.2.1, x.1.2.2)), a8)) (fun (a11 : Bool) => (cond (not a11) (some (false, false)) (bindO (getI x.2.2.2 s7.2) (fun (a12 : (List Int)) => (bindO (M_I_Group_areExps ((x.1.1, (x.1.2.1, x.1.2.2)), a12)) (fun (a13 : Bool) => (cond (not a13) (some (false, false)) (bindO (getI x.2.2.2 s7.2) (fun (a14 : (List Int)) => (bindO (guardO (lenOk ((List.length s7.1) + (List.length a14)))) (fun (a15 : Unit) => (bindO (some (s7.1 ++ a14)) (fun (a16 : (List Int)) => (bindO (some (IntKind.wrap .i64 (s7.2 + (1 : Int)))) (fun (a17 : Int) => (again6 (a16, a17)))))))))))))))))))))))))) (bindO (M_I_Group_smallExponents ((x.1.1, (x.1.2.1, x.1.2.2)), (s7.1, (((List.length x.2.2.1) : Nat) : Int)))) (fun (a18 : ((List Int) × Bool)) => (cond (not a18.2) (some (false, false)) (loopO (fun (again19 : ((Int × Int) → (Option (Bool × Bool)))) => (fun (s20 : (Int × Int)) => (cond (decide (s20.2 < (((List.length x.2.2.1) : Nat) : Int))) (bindO (getI x.2.2.1 s20.2) (fun (a21 : (List Int)) => (bindO (getI x.2.2.2 s20.2) (fun (a22 : (List Int)) => (bindO (M_I_Group_powers ((x.1.1, (x.1.2.1, x.1.2.2)), (a21, a22))) (fun (a23 : Int) => (bindO (M_I_Group_over ((x.1.1, (x.1.2.1, x.1.2.2)), (a23, x.2.1))) (fun (a24 : Int) => (bindO (getI a18.1 s20.2) (fun (a25 : Int) => (bindO (M_I_Group_pow ((x.1.1, (x.1.2.1, x.1.2.2)), (a24, a25))) (fun (a26 : Int) => (bindO (M_I_Group_mul ((x.1.1, (x.1.2.1, x.1.2.2)), (s20.1 :: (a26 :: ([] : List Int))))) (fun (a27 : Int) => (bindO (some (IntKind.wrap .i64 (s20.2 + (1 : Int)))) (fun (a28 : Int) => (again19 (a27, a28)))))))))))))))))) (some ((s20.1 == (1 : Int)), true))))) ((1 : Int), (0 : Int))))))))) (([] : List Int), (0 : Int)))))))))))))))))))))

noncomputable def c_I_BatchSums : Con0 := ⟨pk_I_BatchSums, rk_I_BatchSums, M_I_BatchSums⟩

set_option maxRecDepth 100000 in
theorem eq_I_BatchSums (x : In pk_I_BatchSums) : semF (mkE [(90, c_I_IsValidGroup), (110, c_I_Group_has), (82, c_I_within), (111, c_I_Group_hasAll), (112, c_I_Group_areExps), (113, c_I_Group_smallExponents), (117, c_I_Group_powers), (116, c_I_Group_over), (115, c_I_Group_pow), (114, c_I_Group_mul)]) h_I_BatchSums (info Try.f52) pk_I_BatchSums rk_I_BatchSums x = M_I_BatchSums x := by kernel_rfl

set_option maxRecDepth 100000 in
theorem m_I_BatchSums : ConOK Try.prog 52 c_I_BatchSums := fn_ok (tyOK _) (E := mkE [(90, c_I_IsValidGroup), (110, c_I_Group_has), (82, c_I_within), (111, c_I_Group_hasAll), (112, c_I_Group_areExps), (113, c_I_Group_smallExponents), (117, c_I_Group_powers), (116, c_I_Group_over), (115, c_I_Group_pow), (114, c_I_Group_mul)]) (consOK_cons m_I_IsValidGroup (consOK_cons m_I_Group_has (consOK_cons m_I_within (consOK_cons m_I_Group_hasAll (consOK_cons m_I_Group_areExps (consOK_cons m_I_Group_smallExponents (consOK_cons m_I_Group_powers (consOK_cons m_I_Group_over (consOK_cons m_I_Group_pow (consOK_cons m_I_Group_mul (consOK_nil rfl))))))))))) Try.func52 (h := h_I_BatchSums) (by kernel_rfl) eq_I_BatchSums

/-- L_eqIntS -/
def pk_L_eqIntS : List PK := [.data (.sl (.int .i64)), .data (.sl (.int .i64))]
def rk_L_eqIntS : List (Ty × Bool) := [(.bool, false)]
def h_L_eqIntS : Hints := { loops := [(0, { items := [.slot 5 (.data (.int .i64) [])], kill := [2, 3, 4, 6, 7, 8, 9, 10, 11, 12, 13, 14, 15, 16, 17, 18, 19, 20, 21, 22, 23, 24, 25] })] }
noncomputable def M_L_eqIntS (x : ((List Int) × (List Int))) : (Option Bool) :=
  (cond ((((List.length x.1) : Nat) : Int) != (((List.length x.2) : Nat) : Int)) (some false) (loopO (fun (again0 : (Int → (Option Bool))) => (fun (s1 : Int) => (cond (decide (s1 < (((List.length x.1) : Nat) : Int))) (bindO (getI x.1 s1) (fun (a2 : Int) => (bindO (getI x.2 s1) (fun (a3 : Int) => (cond (a2 != a3) (some false) (bindO (some (IntKind.wrap .i64 (s1 + (1 : Int)))) (fun (a4 : Int) => (again0 a4)))))))) (some true)))) (0 : Int)))

noncomputable def c_L_eqIntS : Con0 := ⟨pk_L_eqIntS, rk_L_eqIntS, M_L_eqIntS⟩

set_option maxRecDepth 100000 in
theorem eq_L_eqIntS (x : In pk_L_eqIntS) : semF (mkE []) h_L_eqIntS (info Try.f27) pk_L_eqIntS rk_L_eqIntS x = M_L_eqIntS x := by kernel_rfl

set_option maxRecDepth 100000 in
theorem m_L_eqIntS : ConOK Try.prog 27 c_L_eqIntS := fn_ok (tyOK _) (E := mkE []) (consOK_nil rfl) Try.func27 (h := h_L_eqIntS) (by kernel_rfl) eq_L_eqIntS

/-- L_eqIntSS -/
def pk_L_eqIntSS : List PK := [.data (.sl (.sl (.int .i64))), .data (.sl (.sl (.int .i64)))]
def rk_L_eqIntSS : List (Ty × Bool) := [(.bool, false)]
def h_L_eqIntSS : Hints := { loops := [(0, { items := [.slot 5 (.data (.int .i64) [])], kill := [2, 3, 4, 6, 7, 8, 9, 10, 11, 12, 13, 14, 15, 16, 17, 18, 19, 20, 21, 22, 23, 24, 25, 26] })] }
noncomputable def M_L_eqIntSS (x : ((List (List Int)) × (List (List Int)))) : (Option Bool) :=
  (cond ((((List.length x.1) : Nat) : Int) != (((List.length x.2) : Nat) : Int)) (some false) (loopO (fun (again0 : (Int → (Option Bool))) => (fun (s1 : Int) => (cond (decide (s1 < (((List.length x.1) : Nat) : Int))) (bindO (getI x.1 s1) (fun (a2 : (List Int)) => (bindO (getI x.2 s1) (fun (a3 : (List Int)) => (bindO (M_L_eqIntS (a2, a3)) (fun (a4 : Bool) => (cond (not a4) (some false) (bindO (some (IntKind.wrap .i64 (s1 + (1 : Int)))) (fun (a5 : Int) => (again0 a5)))))))))) (some true)))) (0 : Int)))

noncomputable def c_L_eqIntSS : Con0 := ⟨pk_L_eqIntSS, rk_L_eqIntSS, M_L_eqIntSS⟩

set_option maxRecDepth 100000 in
theorem eq_L_eqIntSS (x : In pk_L_eqIntSS) : semF (mkE [(27, c_L_eqIntS)]) h_L_eqIntSS (info Try.f19) pk_L_eqIntSS rk_L_eqIntSS x = M_L_eqIntSS x := by kernel_rfl

set_option maxRecDepth 100000 in
theorem m_L_eqIntSS : ConOK Try.prog 19 c_L_eqIntSS := fn_ok (tyOK _) (E := mkE [(27, c_L_eqIntS)]) (consOK_cons m_L_eqIntS (consOK_nil rfl)) Try.func19 (h := h_L_eqIntSS) (by kernel_rfl) eq_L_eqIntSS

/-- L_FnExactBatchSums -/
def pk_L_FnExactBatchSums : List PK := [.data (.cons (.int .i64) (.cons (.int .i64) (.one (.int .i64)))), .data (.int .i64), .data (.sl (.sl (.int .i64))), .data (.sl (.sl (.int .i64)))]
def rk_L_FnExactBatchSums : List (Ty × Bool) := [(.bool, false)]
def h_L_FnExactBatchSums : Hints := { loops := [] }
noncomputable def M_L_FnExactBatchSums (x : ((Int × (Int × Int)) × (Int × ((List (List Int)) × (List (List Int)))))) : (Option Bool) :=
  (bindO (M_L_szIntSS (x.2.2.1, (1048576 : Int))) (fun (a0 : Int) => (cond (decide (a0 < (0 : Int))) (some true) (bindO (M_L_szIntSS (x.2.2.2, a0)) (fun (a1 : Int) => (cond (decide (a1 < (0 : Int))) (some true) (bindO (M_L_toGroup (x.1.1, (x.1.2.1, x.1.2.2))) (fun (a2 : (Int × (Int × Int))) => (bindO (M_L_toIntSS x.2.2.1) (fun (a3 : (List (List Int))) => (bindO (M_L_toIntSS x.2.2.2) (fun (a4 : (List (List Int))) => (bindO (M_S_BatchSums ((a2.1, (a2.2.1, a2.2.2)), (x.2.1, (a3, a4)))) (fun (a5 : (Bool × Bool)) => (bindO (M_L_toIntSS x.2.2.1) (fun (a6 : (List (List Int))) => (bindO (M_L_toIntSS x.2.2.2) (fun (a7 : (List (List Int))) => (bindO (M_L_toGroup (x.1.1, (x.1.2.1, x.1.2.2))) (fun (a8 : (Int × (Int × Int))) => (bindO (M_I_BatchSums ((a8.1, (a8.2.1, a8.2.2)), (x.2.1, (a6, a7)))) (fun (a9 : (Bool × Bool)) => (cond (not (a9.1 == a5.1)) (some false) (cond (not (a9.2 == a5.2)) (some false) (bindO (M_L_toIntSS x.2.2.1) (fun (a10 : (List (List Int))) => (bindO (M_L_eqIntSS (a6, a10)) (fun (a11 : Bool) => (cond (not a11) (some false) (bindO (M_L_toIntSS x.2.2.2) (fun (a12 : (List (List Int))) => (bindO (M_L_eqIntSS (a7, a12)) (fun (a13 : Bool) => (cond (not a13) (some false) (some true)))))))))))))))))))))))))))))))))))

noncomputable def c_L_FnExactBatchSums : Con0 := ⟨pk_L_FnExactBatchSums, rk_L_FnExactBatchSums, M_L_FnExactBatchSums⟩

set_option maxRecDepth 100000 in
theorem eq_L_FnExactBatchSums (x : In pk_L_FnExactBatchSums) : semF (mkE [(15, c_L_szIntSS), (32, c_L_toGroup), (17, c_L_toIntSS), (51, c_S_BatchSums), (52, c_I_BatchSums), (19, c_L_eqIntSS)]) h_L_FnExactBatchSums (info Try.f9) pk_L_FnExactBatchSums rk_L_FnExactBatchSums x = M_L_FnExactBatchSums x := by kernel_rfl

set_option maxRecDepth 100000 in
theorem m_L_FnExactBatchSums : ConOK Try.prog 9 c_L_FnExactBatchSums := fn_ok (tyOK _) (E := mkE [(15, c_L_szIntSS), (32, c_L_toGroup), (17, c_L_toIntSS), (51, c_S_BatchSums), (52, c_I_BatchSums), (19, c_L_eqIntSS)]) (consOK_cons m_L_szIntSS (consOK_cons m_L_toGroup (consOK_cons m_L_toIntSS (consOK_cons m_S_BatchSums (consOK_cons m_I_BatchSums (consOK_cons m_L_eqIntSS (consOK_nil rfl))))))) Try.func9 (h := h_L_FnExactBatchSums) (by kernel_rfl) eq_L_FnExactBatchSums

end Go.Proofs.Ytikmcaegilhfeaa.Vd
