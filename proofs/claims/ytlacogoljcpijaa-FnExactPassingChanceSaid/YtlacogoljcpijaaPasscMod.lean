/- The functions of the law as plain functions on data, and that the program's functions are these. No conditions. -/
import Derived.Test.YtlacogoljcpijaaVd3
import Derived.Test.YtlacogoljcpijaaChecked
import Derived.KernelRfl
set_option linter.unusedVariables false
namespace Go.Proofs.Ytlacogoljcpijaa.Vd
def tys : List (Option Ty) := [none, none, some (.int .i64), some (.int .i64), some .bool, some (.int .u8), some (.int .u8), some (.cons (.int .i64) (.cons (.int .i64) (.cons .bool (.one (.int .u8))))), some (.cons (.int .i64) (.cons (.int .i64) (.cons .bool (.one (.int .u8))))), some .str, some .str, some .str, some (.int .u64), some (.cons .str (.one (.int .u64))), some (.cons .str (.one (.int .u64))), none, none, none, none, none, none, some (.int .i32), none, none, none, some (.sl (.int .i64)), none, none, none, none, none, none, some (.cons (.int .i64) (.cons (.int .i64) (.one (.int .i64)))), some (.cons (.int .i64) (.cons (.int .i64) (.one (.int .i64)))), none, some (.cons (.int .i64) (.cons (.int .i64) (.one (.int .i64)))), none, none, none, none, none, none, none, none, none, none, none, some (.cons (.int .i64) (.one (.int .i64))), some (.cons (.int .i64) (.one (.int .i64))), some (.cons (.int .i64) (.one (.int .i64))), none, none, none, none, none, none, none, none, none, none, none, none, none, none, none, none, none, none, none, none, none, none, none, none, none, none, none, none, none, none, none, none, some (.sl (.cons (.int .i64) (.one (.int .i64)))), none, some (.int .u64), none, none, none, some (.cons (.int .i64) (.one (.int .i64))), some (.cons (.int .i64) (.one (.int .i64))), none, none, none, none, none, none, none, none, some (.int .u32), some (.int .u8), some (.int .u8), none, none, some (.int .i32), some (.int .i32), none, none, none]
def others : List Nat := [1, 15, 16, 17, 23, 24, 27, 28, 29, 30, 31, 34, 36, 37, 38, 39, 40, 41, 42, 43, 44, 45, 46, 51, 52, 53, 54, 56, 57, 58, 59, 60, 61, 62, 63, 64, 65, 66, 68, 69, 70, 71, 72, 73, 74, 75, 76, 77, 78, 79, 80, 81, 83, 85, 86, 87, 90, 91, 97, 101, 102]
def pairs : List Nat := [47, 48, 49, 88, 89]
noncomputable def mkE (con : List (Nat × Con0)) : Env := ⟨[], tys, others, pairs, con⟩

set_option maxRecDepth 100000 in
theorem tyOK (con : List (Nat × Con0)) : TyOK Try.prog (mkE con) := tyOK_of (E := mkE con) (by kernel_rfl) (by kernel_rfl) (by kernel_rfl)

/-- L_toIntS -/
def pk_L_toIntS : List PK := [.data (.sl (.int .i64))]
def rk_L_toIntS : List (Ty × Bool) := [((.sl (.int .i64)), true)]
def h_L_toIntS : Hints := { loops := [(0, { items := [.slot 4 (.data (.int .i64) []), .arr 3 (.int .i64) true], kill := [1, 2, 5, 6, 7, 8, 9, 10, 11, 12, 13, 14, 15, 16, 17, 18, 19, 20, 21] })] }
noncomputable def M_L_toIntS (x : (List Int)) : (Option (List Int)) :=
  (bindO (guardO (((decide ((0 : Int) ≤ (((List.length x) : Nat) : Int))) && (decide ((((List.length x) : Nat) : Int) ≤ (((List.length x) : Nat) : Int)))) && (decide ((((List.length x) : Nat) : Int) ≤ ((lim : Nat) : Int))))) (fun (a0 : Unit) => (loopO (fun (again1 : ((Int × (List Int)) → (Option (List Int)))) => (fun (s2 : (Int × (List Int))) => (cond (decide (s2.1 < (((List.length x) : Nat) : Int))) (bindO (getI x s2.1) (fun (a3 : Int) => (bindO (getI s2.2 s2.1) (fun (a4 : Int) => (bindO (some (List.set s2.2 (Int.toNat s2.1) a3)) (fun (a5 : (List Int)) => (bindO (some (IntKind.wrap .i64 (s2.1 + (1 : Int)))) (fun (a6 : Int) => (again1 (a6, a5)))))))))) (some s2.2)))) ((0 : Int), (List.replicate (Int.toNat (((List.length x) : Nat) : Int)) (0 : Int))))))

noncomputable def c_L_toIntS : Con0 := ⟨pk_L_toIntS, rk_L_toIntS, M_L_toIntS⟩

set_option maxRecDepth 100000 in
theorem eq_L_toIntS (x : In pk_L_toIntS) : semF (mkE []) h_L_toIntS (info Try.f17) pk_L_toIntS rk_L_toIntS x = M_L_toIntS x := by kernel_rfl

set_option maxRecDepth 100000 in
theorem m_L_toIntS : ConOK Try.prog 17 c_L_toIntS := fn_ok (tyOK _) (E := mkE []) (consOK_nil rfl) Try.func17 (h := h_L_toIntS) (by kernel_rfl) eq_L_toIntS

/-- S_l1In -/
def pk_S_l1In : List PK := [.data (.int .i64), .data (.int .i64), .data (.int .i64)]
def rk_S_l1In : List (Ty × Bool) := [(.bool, false)]
def h_S_l1In : Hints := { loops := [] }
noncomputable def M_S_l1In (x : (Int × (Int × Int))) : (Option Bool) :=
  (cond (decide (x.1 ≥ x.2.1)) (some (decide (x.1 ≤ x.2.2))) (some false))

noncomputable def c_S_l1In : Con0 := ⟨pk_S_l1In, rk_S_l1In, M_S_l1In⟩

set_option maxRecDepth 100000 in
theorem eq_S_l1In (x : In pk_S_l1In) : semF (mkE []) h_S_l1In (info Try.f43) pk_S_l1In rk_S_l1In x = M_S_l1In x := by kernel_rfl

set_option maxRecDepth 100000 in
theorem m_S_l1In : ConOK Try.prog 43 c_S_l1In := fn_ok (tyOK _) (E := mkE []) (consOK_nil rfl) Try.func43 (h := h_S_l1In) (by kernel_rfl) eq_S_l1In

/-- S_nPrime -/
def pk_S_nPrime : List PK := [.data (.int .i64)]
def rk_S_nPrime : List (Ty × Bool) := [(.bool, false)]
def h_S_nPrime : Hints := { loops := [(0, { items := [.slot 3 (.data (.int .i64) [])], kill := [1, 2, 4, 5, 6, 7, 8, 9, 10, 11, 12, 13, 14, 15, 16] })] }
noncomputable def M_S_nPrime (x : Int) : (Option Bool) :=
  (cond (decide (x < (2 : Int))) (some false) (loopO (fun (again0 : (Int → (Option Bool))) => (fun (s1 : Int) => (bindO (some (IntKind.wrap .i64 (s1 * s1))) (fun (a2 : Int) => (cond (decide (a2 ≤ x)) (bindO (guardO (s1 != (0 : Int))) (fun (a3 : Unit) => (bindO (some (Int.tmod x s1)) (fun (a4 : Int) => (cond (a4 == (0 : Int)) (some false) (bindO (some (IntKind.wrap .i64 (s1 + (1 : Int)))) (fun (a5 : Int) => (again0 a5)))))))) (some true)))))) (2 : Int)))

noncomputable def c_S_nPrime : Con0 := ⟨pk_S_nPrime, rk_S_nPrime, M_S_nPrime⟩

set_option maxRecDepth 100000 in
theorem eq_S_nPrime (x : In pk_S_nPrime) : semF (mkE []) h_S_nPrime (info Try.f44) pk_S_nPrime rk_S_nPrime x = M_S_nPrime x := by kernel_rfl

set_option maxRecDepth 100000 in
theorem m_S_nPrime : ConOK Try.prog 44 c_S_nPrime := fn_ok (tyOK _) (E := mkE []) (consOK_nil rfl) Try.func44 (h := h_S_nPrime) (by kernel_rfl) eq_S_nPrime

/-- S_l1All -/
def pk_S_l1All : List PK := [.data (.sl (.int .i64)), .data (.int .i64), .data (.int .i64)]
def rk_S_l1All : List (Ty × Bool) := [(.bool, false)]
def h_S_l1All : Hints := { loops := [(0, { items := [.slot 11 (.data (.int .i64) [])], kill := [0, 3, 4, 5, 6, 7, 8, 12, 13, 14, 15, 16, 17, 18, 19, 20] })] }
noncomputable def M_S_l1All (x : ((List Int) × (Int × Int))) : (Option Bool) :=
  (loopO (fun (again0 : (Int → (Option Bool))) => (fun (s1 : Int) => (cond (decide (s1 < (((List.length x.1) : Nat) : Int))) (bindO (getI x.1 s1) (fun (a2 : Int) => (bindO (M_S_l1In (a2, (x.2.1, x.2.2))) (fun (a3 : Bool) => (cond (not a3) (some false) (bindO (some (IntKind.wrap .i64 (s1 + (1 : Int)))) (fun (a4 : Int) => (again0 a4)))))))) (some true)))) (0 : Int))

noncomputable def c_S_l1All : Con0 := ⟨pk_S_l1All, rk_S_l1All, M_S_l1All⟩

set_option maxRecDepth 100000 in
theorem eq_S_l1All (x : In pk_S_l1All) : semF (mkE [(43, c_S_l1In)]) h_S_l1All (info Try.f83) pk_S_l1All rk_S_l1All x = M_S_l1All x := by kernel_rfl

set_option maxRecDepth 100000 in
theorem m_S_l1All : ConOK Try.prog 83 c_S_l1All := fn_ok (tyOK _) (E := mkE [(43, c_S_l1In)]) (consOK_cons m_S_l1In (consOK_nil rfl)) Try.func83 (h := h_S_l1All) (by kernel_rfl) eq_S_l1All

/-- S_wErrors -/
def pk_S_wErrors : List PK := [.data (.int .i64), .data (.sl (.int .i64))]
def rk_S_wErrors : List (Ty × Bool) := [(.bool, false)]
def h_S_wErrors : Hints := { loops := [] }
noncomputable def M_S_wErrors (x : (Int × (List Int))) : (Option Bool) :=
  (bindO (M_S_l1In (x.1, ((2 : Int), (23 : Int)))) (fun (a0 : Bool) => (cond a0 (bindO (M_S_nPrime x.1) (fun (a1 : Bool) => (cond a1 (bindO (M_S_l1In ((((List.length x.2) : Nat) : Int), ((1 : Int), (3 : Int)))) (fun (a2 : Bool) => (cond a2 (bindO (some (IntKind.wrap .i64 (x.1 - (1 : Int)))) (fun (a3 : Int) => (bindO (M_S_l1All (x.2, ((0 : Int), a3))) (fun (a4 : Bool) => (some a4))))) (some false)))) (some false)))) (some false))))

noncomputable def c_S_wErrors : Con0 := ⟨pk_S_wErrors, rk_S_wErrors, M_S_wErrors⟩

set_option maxRecDepth 100000 in
theorem eq_S_wErrors (x : In pk_S_wErrors) : semF (mkE [(43, c_S_l1In), (44, c_S_nPrime), (83, c_S_l1All)]) h_S_wErrors (info Try.f66) pk_S_wErrors rk_S_wErrors x = M_S_wErrors x := by kernel_rfl

set_option maxRecDepth 100000 in
theorem m_S_wErrors : ConOK Try.prog 66 c_S_wErrors := fn_ok (tyOK _) (E := mkE [(43, c_S_l1In), (44, c_S_nPrime), (83, c_S_l1All)]) (consOK_cons m_S_l1In (consOK_cons m_S_nPrime (consOK_cons m_S_l1All (consOK_nil rfl)))) Try.func66 (h := h_S_wErrors) (by kernel_rfl) eq_S_wErrors

/-- S_wPassing -/
def pk_S_wPassing : List PK := [.data (.int .i64), .data (.sl (.int .i64)), .data (.int .i64)]
def rk_S_wPassing : List (Ty × Bool) := [((.int .i64), false)]
def h_S_wPassing : Hints := { loops := [(0, { items := [.slot 7 (.data (.int .i64) []), .slot 8 (.data (.int .i64) [])], kill := [3, 4, 5, 6, 9, 10, 11, 12, 13, 14, 15, 16, 17, 18, 19, 20, 21, 22, 23, 24, 25, 26, 27, 28, 29, 30, 31, 32, 33, 34] })] }
noncomputable def R_S_wPassing : Nat → (Int × ((List Int) × Int)) → (Option Int)
  | 0, _ => none
  | n + 1, x => (cond ((((List.length x.2.1) : Nat) : Int) == (0 : Int)) (bindO (guardO (x.1 != (0 : Int))) (fun (a0 : Unit) => (bindO (some (Int.tmod x.2.2 x.1)) (fun (a1 : Int) => (cond (a1 == (0 : Int)) (some (1 : Int)) (some (0 : Int))))))) (loopO (fun (again2 : ((Int × Int) → (Option Int))) => (fun (s3 : (Int × Int)) => (cond (decide (s3.2 < x.1)) (bindO (sliceLN (1 : Int) (List.length x.2.1)) (fun (a4 : (Nat × Nat)) => (bindO (getI x.2.1 (0 : Int)) (fun (a5 : Int) => (bindO (some (IntKind.wrap .i64 (s3.2 * a5))) (fun (a6 : Int) => (bindO (some (IntKind.wrap .i64 (x.2.2 + a6))) (fun (a7 : Int) => (bindO (R_S_wPassing n (x.1, ((List.drop a4.1 (List.take a4.2 x.2.1)), a7))) (fun (a8 : Int) => (bindO (some (IntKind.wrap .i64 (s3.1 + a8))) (fun (a9 : Int) => (bindO (some (IntKind.wrap .i64 (s3.2 + (1 : Int)))) (fun (a10 : Int) => (again2 (a9, a10)))))))))))))))) (some s3.1)))) ((0 : Int), (1 : Int))))

noncomputable def M_S_wPassing (x : (Int × ((List Int) × Int))) : (Option Int) := limO R_S_wPassing x

noncomputable def c_S_wPassing : Con0 := ⟨pk_S_wPassing, rk_S_wPassing, M_S_wPassing⟩

set_option maxRecDepth 100000 in
theorem eq_S_wPassing (n : Nat) (x : In pk_S_wPassing) : semF (mkE ((67, ⟨pk_S_wPassing, rk_S_wPassing, R_S_wPassing n⟩) :: [])) h_S_wPassing (info Try.f67) pk_S_wPassing rk_S_wPassing x = R_S_wPassing (n + 1) x := by kernel_rfl

set_option maxRecDepth 100000 in
theorem mR_S_wPassing : ∀ n, ConOK Try.prog 67 ⟨pk_S_wPassing, rk_S_wPassing, R_S_wPassing n⟩
  | 0 => conOK_none Try.func67 (h := h_S_wPassing) (by kernel_rfl)
  | n + 1 => fn_ok (tyOK _) (E := mkE ((67, ⟨pk_S_wPassing, rk_S_wPassing, R_S_wPassing n⟩) :: [])) (consOK_cons (mR_S_wPassing n) (consOK_nil rfl)) Try.func67 (h := h_S_wPassing) (by kernel_rfl) (eq_S_wPassing n)

theorem m_S_wPassing : ConOK Try.prog 67 c_S_wPassing := conOK_lim mR_S_wPassing

/-- S_nGcd -/
def pk_S_nGcd : List PK := [.data (.int .i64), .data (.int .i64)]
def rk_S_nGcd : List (Ty × Bool) := [((.int .i64), false)]
def h_S_nGcd : Hints := { loops := [(0, { items := [.slot 0 (.data (.int .i64) []), .slot 1 (.data (.int .i64) [])], kill := [2, 3, 4, 5, 6, 7, 8, 9, 10, 11, 12, 13] })] }
noncomputable def M_S_nGcd (x : (Int × Int)) : (Option Int) :=
  (loopO (fun (again0 : ((Int × Int) → (Option Int))) => (fun (s1 : (Int × Int)) => (cond (s1.2 != (0 : Int)) (bindO (guardO (s1.2 != (0 : Int))) (fun (a2 : Unit) => (bindO (some (Int.tmod s1.1 s1.2)) (fun (a3 : Int) => (again0 (s1.2, a3)))))) (some s1.1)))) (x.1, x.2))

noncomputable def c_S_nGcd : Con0 := ⟨pk_S_nGcd, rk_S_nGcd, M_S_nGcd⟩

set_option maxRecDepth 100000 in
theorem eq_S_nGcd (x : In pk_S_nGcd) : semF (mkE []) h_S_nGcd (info Try.f78) pk_S_nGcd rk_S_nGcd x = M_S_nGcd x := by kernel_rfl

set_option maxRecDepth 100000 in
theorem m_S_nGcd : ConOK Try.prog 78 c_S_nGcd := fn_ok (tyOK _) (E := mkE []) (consOK_nil rfl) Try.func78 (h := h_S_nGcd) (by kernel_rfl) eq_S_nGcd

/-- S_PassingChance -/
def pk_S_PassingChance : List PK := [.data (.int .i64), .data (.sl (.int .i64))]
def rk_S_PassingChance : List (Ty × Bool) := [((.int .i64), false), ((.int .i64), false), (.bool, false)]
def h_S_PassingChance : Hints := { loops := [(0, { items := [.slot 8 (.data (.int .i64) []), .slot 19 (.data (.int .i64) [])], kill := [1, 2, 3, 4, 5, 6, 9, 10, 11, 12, 13, 14, 15, 16, 17, 20, 21, 22, 23, 24, 25, 26, 27, 28, 29, 30, 31, 32, 33, 34] })] }
noncomputable def M_S_PassingChance (x : (Int × (List Int))) : (Option (Int × (Int × Bool))) :=
  (bindO (M_S_wErrors (x.1, x.2)) (fun (a0 : Bool) => (cond (not a0) (some ((0 : Int), ((0 : Int), false))) (bindO (M_S_wPassing (x.1, (x.2, (0 : Int)))) (fun (a1 : Int) => (loopO (fun (again2 : ((Int × Int) → (Option (Int × (Int × Bool))))) => (fun (s3 : (Int × Int)) => (cond (decide (s3.2 < (((List.length x.2) : Nat) : Int))) (bindO (some (IntKind.wrap .i64 (x.1 - (1 : Int)))) (fun (a4 : Int) => (bindO (some (IntKind.wrap .i64 (s3.1 * a4))) (fun (a5 : Int) => (bindO (some (IntKind.wrap .i64 (s3.2 + (1 : Int)))) (fun (a6 : Int) => (again2 (a5, a6)))))))) (bindO (M_S_nGcd (a1, s3.1)) (fun (a7 : Int) => (bindO (guardO (a7 != (0 : Int))) (fun (a8 : Unit) => (bindO (some (IntKind.wrap .i64 (Int.tdiv a1 a7))) (fun (a9 : Int) => (bindO (guardO (a7 != (0 : Int))) (fun (a10 : Unit) => (bindO (some (IntKind.wrap .i64 (Int.tdiv s3.1 a7))) (fun (a11 : Int) => (some (a9, (a11, true)))))))))))))))) ((1 : Int), (0 : Int))))))))

noncomputable def c_S_PassingChance : Con0 := ⟨pk_S_PassingChance, rk_S_PassingChance, M_S_PassingChance⟩

set_option maxRecDepth 100000 in
theorem eq_S_PassingChance (x : In pk_S_PassingChance) : semF (mkE [(66, c_S_wErrors), (67, c_S_wPassing), (78, c_S_nGcd)]) h_S_PassingChance (info Try.f41) pk_S_PassingChance rk_S_PassingChance x = M_S_PassingChance x := by kernel_rfl

set_option maxRecDepth 100000 in
theorem m_S_PassingChance : ConOK Try.prog 41 c_S_PassingChance := fn_ok (tyOK _) (E := mkE [(66, c_S_wErrors), (67, c_S_wPassing), (78, c_S_nGcd)]) (consOK_cons m_S_wErrors (consOK_cons m_S_wPassing (consOK_cons m_S_nGcd (consOK_nil rfl)))) Try.func41 (h := h_S_PassingChance) (by kernel_rfl) eq_S_PassingChance

/-- I_within -/
def pk_I_within : List PK := [.data (.int .i64), .data (.int .i64), .data (.int .i64)]
def rk_I_within : List (Ty × Bool) := [(.bool, false)]
def h_I_within : Hints := { loops := [] }
noncomputable def M_I_within (x : (Int × (Int × Int))) : (Option Bool) :=
  (cond (decide (x.1 ≥ x.2.1)) (some (decide (x.1 ≤ x.2.2))) (some false))

noncomputable def c_I_within : Con0 := ⟨pk_I_within, rk_I_within, M_I_within⟩

set_option maxRecDepth 100000 in
theorem eq_I_within (x : In pk_I_within) : semF (mkE []) h_I_within (info Try.f46) pk_I_within rk_I_within x = M_I_within x := by kernel_rfl

set_option maxRecDepth 100000 in
theorem m_I_within : ConOK Try.prog 46 c_I_within := fn_ok (tyOK _) (E := mkE []) (consOK_nil rfl) Try.func46 (h := h_I_within) (by kernel_rfl) eq_I_within

/-- I_isModulus -/
def pk_I_isModulus : List PK := [.data (.int .i64)]
def rk_I_isModulus : List (Ty × Bool) := [(.bool, false)]
def h_I_isModulus : Hints := { loops := [] }
noncomputable def M_I_isModulus (x : Int) : (Option Bool) :=
  (bindO (M_I_within (x, ((2 : Int), (2000000000 : Int)))) (fun (a0 : Bool) => (some a0)))

noncomputable def c_I_isModulus : Con0 := ⟨pk_I_isModulus, rk_I_isModulus, M_I_isModulus⟩

set_option maxRecDepth 100000 in
theorem eq_I_isModulus (x : In pk_I_isModulus) : semF (mkE [(46, c_I_within)]) h_I_isModulus (info Try.f80) pk_I_isModulus rk_I_isModulus x = M_I_isModulus x := by kernel_rfl

set_option maxRecDepth 100000 in
theorem m_I_isModulus : ConOK Try.prog 80 c_I_isModulus := fn_ok (tyOK _) (E := mkE [(46, c_I_within)]) (consOK_cons m_I_within (consOK_nil rfl)) Try.func80 (h := h_I_isModulus) (by kernel_rfl) eq_I_isModulus

/-- I_isPrime -/
def pk_I_isPrime : List PK := [.data (.int .i64)]
def rk_I_isPrime : List (Ty × Bool) := [(.bool, false)]
def h_I_isPrime : Hints := { loops := [(0, { items := [.slot 3 (.data (.int .i64) [])], kill := [1, 2, 4, 5, 6, 7, 8, 9, 10, 11, 12, 13, 14, 15, 16, 17, 18, 19, 20, 21, 22, 23, 24, 25, 26] })] }
noncomputable def M_I_isPrime (x : Int) : (Option Bool) :=
  (bindO (M_I_isModulus x) (fun (a0 : Bool) => (cond (not a0) (some false) (bindO (guardO ((2 : Int) != (0 : Int))) (fun (a1 : Unit) => (bindO (some (Int.tmod x (2 : Int))) (fun (a2 : Int) => (cond (a2 == (0 : Int)) (cond (x != (2 : Int)) (some false) (loopO (fun (again3 : (Int → (Option Bool))) => (fun (s4 : Int) => (bindO (some (IntKind.wrap .i64 (s4 * s4))) (fun (a5 : Int) => (cond (decide (a5 ≤ x)) (bindO (guardO (s4 != (0 : Int))) (fun (a6 : Unit) => (bindO (some (Int.tmod x s4)) (fun (a7 : Int) => (cond (a7 == (0 : Int)) (some false) (bindO (some (IntKind.wrap .i64 (s4 + (2 : Int)))) (fun (a8 : Int) => (again3 a8)))))))) (some true)))))) (3 : Int))) (loopO (fun (again9 : (Int → (Option Bool))) => (fun (s10 : Int) => (bindO (some (IntKind.wrap .i64 (s10 * s10))) (fun (a11 : Int) => (cond (decide (a11 ≤ x)) (bindO (guardO (s10 != (0 : Int))) (fun (a12 : Unit) => (bindO (some (Int.tmod x s10)) (fun (a13 : Int) => (cond (a13 == (0 : Int)) (some false) (bindO (some (IntKind.wrap .i64 (s10 + (2 : Int)))) (fun (a14 : Int) => (again9 a14)))))))) (some true)))))) (3 : Int))))))))))

noncomputable def c_I_isPrime : Con0 := ⟨pk_I_isPrime, rk_I_isPrime, M_I_isPrime⟩

set_option maxRecDepth 100000 in
theorem eq_I_isPrime (x : In pk_I_isPrime) : semF (mkE [(80, c_I_isModulus)]) h_I_isPrime (info Try.f45) pk_I_isPrime rk_I_isPrime x = M_I_isPrime x := by kernel_rfl

set_option maxRecDepth 100000 in
theorem m_I_isPrime : ConOK Try.prog 45 c_I_isPrime := fn_ok (tyOK _) (E := mkE [(80, c_I_isModulus)]) (consOK_cons m_I_isModulus (consOK_nil rfl)) Try.func45 (h := h_I_isPrime) (by kernel_rfl) eq_I_isPrime

/-- slices_IndexFunc_sint_int -/
def pk_slices_IndexFunc_sint_int : List PK := [.data (.sl (.int .i64)), .fn [(.int .i64)] .bool]
def rk_slices_IndexFunc_sint_int : List (Ty × Bool) := [((.int .i64), false)]
def h_slices_IndexFunc_sint_int : Hints := { loops := [(0, { items := [.slot 8 (.data (.int .i64) [])], kill := [2, 3, 4, 5, 6, 9, 10, 11, 12, 13, 14, 15, 16, 17, 18] })] }
noncomputable def M_slices_IndexFunc_sint_int (x : ((List Int) × (Int → (Option Bool)))) : (Option Int) :=
  (loopO (fun (again0 : (Int → (Option Int))) => (fun (s1 : Int) => (cond (decide (s1 < (((List.length x.1) : Nat) : Int))) (bindO (getI x.1 s1) (fun (a2 : Int) => (bindO (x.2 a2) (fun (a3 : Bool) => (cond a3 (some s1) (bindO (some (IntKind.wrap .i64 (s1 + (1 : Int)))) (fun (a4 : Int) => (again0 a4)))))))) (some (- (1 : Int)))))) (0 : Int))

noncomputable def c_slices_IndexFunc_sint_int : Con0 := ⟨pk_slices_IndexFunc_sint_int, rk_slices_IndexFunc_sint_int, M_slices_IndexFunc_sint_int⟩

set_option maxRecDepth 100000 in
theorem eq_slices_IndexFunc_sint_int (x : In pk_slices_IndexFunc_sint_int) : semF (mkE []) h_slices_IndexFunc_sint_int (info Try.f107) pk_slices_IndexFunc_sint_int rk_slices_IndexFunc_sint_int x = M_slices_IndexFunc_sint_int x := by kernel_rfl

set_option maxRecDepth 100000 in
theorem m_slices_IndexFunc_sint_int : ConOK Try.prog 107 c_slices_IndexFunc_sint_int := fn_ok (tyOK _) (E := mkE []) (consOK_nil rfl) Try.func107 (h := h_slices_IndexFunc_sint_int) (by kernel_rfl) eq_slices_IndexFunc_sint_int

/-- slices_ContainsFunc_sint_int -/
def pk_slices_ContainsFunc_sint_int : List PK := [.data (.sl (.int .i64)), .fn [(.int .i64)] .bool]
def rk_slices_ContainsFunc_sint_int : List (Ty × Bool) := [(.bool, false)]
def h_slices_ContainsFunc_sint_int : Hints := { loops := [] }
noncomputable def M_slices_ContainsFunc_sint_int (x : ((List Int) × (Int → (Option Bool)))) : (Option Bool) :=
  (bindO (M_slices_IndexFunc_sint_int (x.1, x.2)) (fun (a0 : Int) => (some (decide (a0 ≥ (0 : Int))))))

noncomputable def c_slices_ContainsFunc_sint_int : Con0 := ⟨pk_slices_ContainsFunc_sint_int, rk_slices_ContainsFunc_sint_int, M_slices_ContainsFunc_sint_int⟩

set_option maxRecDepth 100000 in
theorem eq_slices_ContainsFunc_sint_int (x : In pk_slices_ContainsFunc_sint_int) : semF (mkE [(107, c_slices_IndexFunc_sint_int)]) h_slices_ContainsFunc_sint_int (info Try.f99) pk_slices_ContainsFunc_sint_int rk_slices_ContainsFunc_sint_int x = M_slices_ContainsFunc_sint_int x := by kernel_rfl

set_option maxRecDepth 100000 in
theorem m_slices_ContainsFunc_sint_int : ConOK Try.prog 99 c_slices_ContainsFunc_sint_int := fn_ok (tyOK _) (E := mkE [(107, c_slices_IndexFunc_sint_int)]) (consOK_cons m_slices_IndexFunc_sint_int (consOK_nil rfl)) Try.func99 (h := h_slices_ContainsFunc_sint_int) (by kernel_rfl) eq_slices_ContainsFunc_sint_int

/-- I_areAll_1 -/
def pk_I_areAll_1 : List PK := [.data (.int .i64), .rfn [(.int .i64)] .bool]
def rk_I_areAll_1 : List (Ty × Bool) := [(.bool, false)]
def h_I_areAll_1 : Hints := { loops := [] }
noncomputable def M_I_areAll_1 (x : (Int × (Int → (Option Bool)))) : (Option Bool) :=
  (bindO (x.2 x.1) (fun (a0 : Bool) => (some (not a0))))

noncomputable def c_I_areAll_1 : Con0 := ⟨pk_I_areAll_1, rk_I_areAll_1, M_I_areAll_1⟩

set_option maxRecDepth 100000 in
theorem eq_I_areAll_1 (x : In pk_I_areAll_1) : semF (mkE []) h_I_areAll_1 (info Try.f100) pk_I_areAll_1 rk_I_areAll_1 x = M_I_areAll_1 x := by kernel_rfl

set_option maxRecDepth 100000 in
theorem m_I_areAll_1 : ConOK Try.prog 100 c_I_areAll_1 := fn_ok (tyOK _) (E := mkE []) (consOK_nil rfl) Try.func100 (h := h_I_areAll_1) (by kernel_rfl) eq_I_areAll_1

/-- I_areAll -/
def pk_I_areAll : List PK := [.data (.sl (.int .i64)), .fn [(.int .i64)] .bool]
def rk_I_areAll : List (Ty × Bool) := [(.bool, false)]
def h_I_areAll : Hints := { loops := [] }
noncomputable def M_I_areAll (x : ((List Int) × (Int → (Option Bool)))) : (Option Bool) :=
  (bindO (M_slices_ContainsFunc_sint_int (x.1, (fun (a0 : Int) => (bindO (M_I_areAll_1 (a0, x.2)) (fun (a1 : Bool) => (some a1)))))) (fun (a2 : Bool) => (some (not a2))))

noncomputable def c_I_areAll : Con0 := ⟨pk_I_areAll, rk_I_areAll, M_I_areAll⟩

set_option maxRecDepth 100000 in
theorem eq_I_areAll (x : In pk_I_areAll) : semF (mkE [(99, c_slices_ContainsFunc_sint_int), (100, c_I_areAll_1)]) h_I_areAll (info Try.f87) pk_I_areAll rk_I_areAll x = M_I_areAll x := by kernel_rfl

set_option maxRecDepth 100000 in
theorem m_I_areAll : ConOK Try.prog 87 c_I_areAll := fn_ok (tyOK _) (E := mkE [(99, c_slices_ContainsFunc_sint_int), (100, c_I_areAll_1)]) (consOK_cons m_slices_ContainsFunc_sint_int (consOK_cons m_I_areAll_1 (consOK_nil rfl))) Try.func87 (h := h_I_areAll) (by kernel_rfl) eq_I_areAll

/-- I_areBelow_1 -/
def pk_I_areBelow_1 : List PK := [.data (.int .i64), .rp (.int .i64)]
def rk_I_areBelow_1 : List (Ty × Bool) := [(.bool, false)]
def h_I_areBelow_1 : Hints := { loops := [] }
noncomputable def M_I_areBelow_1 (x : (Int × Int)) : (Option Bool) :=
  (bindO (some (IntKind.wrap .i64 (x.2 - (1 : Int)))) (fun (a0 : Int) => (bindO (M_I_within (x.1, ((0 : Int), a0))) (fun (a1 : Bool) => (some a1)))))

noncomputable def c_I_areBelow_1 : Con0 := ⟨pk_I_areBelow_1, rk_I_areBelow_1, M_I_areBelow_1⟩

set_option maxRecDepth 100000 in
theorem eq_I_areBelow_1 (x : In pk_I_areBelow_1) : semF (mkE [(46, c_I_within)]) h_I_areBelow_1 (info Try.f91) pk_I_areBelow_1 rk_I_areBelow_1 x = M_I_areBelow_1 x := by kernel_rfl

set_option maxRecDepth 100000 in
theorem m_I_areBelow_1 : ConOK Try.prog 91 c_I_areBelow_1 := fn_ok (tyOK _) (E := mkE [(46, c_I_within)]) (consOK_cons m_I_within (consOK_nil rfl)) Try.func91 (h := h_I_areBelow_1) (by kernel_rfl) eq_I_areBelow_1

/-- I_areBelow -/
def pk_I_areBelow : List PK := [.data (.sl (.int .i64)), .data (.int .i64)]
def rk_I_areBelow : List (Ty × Bool) := [(.bool, false)]
def h_I_areBelow : Hints := { loops := [] }
noncomputable def M_I_areBelow (x : ((List Int) × Int)) : (Option Bool) :=
  (bindO (M_I_areAll (x.1, (fun (a0 : Int) => (bindO (M_I_areBelow_1 (a0, x.2)) (fun (a1 : Bool) => (some a1)))))) (fun (a2 : Bool) => (some a2)))

noncomputable def c_I_areBelow : Con0 := ⟨pk_I_areBelow, rk_I_areBelow, M_I_areBelow⟩

set_option maxRecDepth 100000 in
theorem eq_I_areBelow (x : In pk_I_areBelow) : semF (mkE [(87, c_I_areAll), (91, c_I_areBelow_1)]) h_I_areBelow (info Try.f61) pk_I_areBelow rk_I_areBelow x = M_I_areBelow x := by kernel_rfl

set_option maxRecDepth 100000 in
theorem m_I_areBelow : ConOK Try.prog 61 c_I_areBelow := fn_ok (tyOK _) (E := mkE [(87, c_I_areAll), (91, c_I_areBelow_1)]) (consOK_cons m_I_areAll (consOK_cons m_I_areBelow_1 (consOK_nil rfl))) Try.func61 (h := h_I_areBelow) (by kernel_rfl) eq_I_areBelow

/-- I_areErrors -/
def pk_I_areErrors : List PK := [.data (.int .i64), .data (.sl (.int .i64))]
def rk_I_areErrors : List (Ty × Bool) := [(.bool, false)]
def h_I_areErrors : Hints := { loops := [] }
noncomputable def M_I_areErrors (x : (Int × (List Int))) : (Option Bool) :=
  (bindO (M_I_within (x.1, ((2 : Int), (23 : Int)))) (fun (a0 : Bool) => (cond a0 (bindO (M_I_isPrime x.1) (fun (a1 : Bool) => (cond a1 (bindO (M_I_within ((((List.length x.2) : Nat) : Int), ((1 : Int), (3 : Int)))) (fun (a2 : Bool) => (cond a2 (bindO (M_I_areBelow (x.2, x.1)) (fun (a3 : Bool) => (some a3))) (some false)))) (some false)))) (some false))))

noncomputable def c_I_areErrors : Con0 := ⟨pk_I_areErrors, rk_I_areErrors, M_I_areErrors⟩

set_option maxRecDepth 100000 in
theorem eq_I_areErrors (x : In pk_I_areErrors) : semF (mkE [(46, c_I_within), (45, c_I_isPrime), (61, c_I_areBelow)]) h_I_areErrors (info Try.f68) pk_I_areErrors rk_I_areErrors x = M_I_areErrors x := by kernel_rfl

set_option maxRecDepth 100000 in
theorem m_I_areErrors : ConOK Try.prog 68 c_I_areErrors := fn_ok (tyOK _) (E := mkE [(46, c_I_within), (45, c_I_isPrime), (61, c_I_areBelow)]) (consOK_cons m_I_within (consOK_cons m_I_isPrime (consOK_cons m_I_areBelow (consOK_nil rfl)))) Try.func68 (h := h_I_areErrors) (by kernel_rfl) eq_I_areErrors

/-- I_passing -/
def pk_I_passing : List PK := [.data (.int .i64), .data (.sl (.int .i64))]
def rk_I_passing : List (Ty × Bool) := [((.int .i64), false), ((.int .i64), false)]
def h_I_passing : Hints := { loops := [(0, { items := [.slot 7 (.data (.int .i64) []), .slot 15 (.data (.int .i64) [])], kill := [2, 3, 4, 5, 8, 9, 10, 11, 12, 13, 16, 17, 18, 19, 20, 21, 22, 23, 24, 25, 26, 27, 28, 29, 30, 31, 32, 33, 34, 35, 36, 37, 38, 39, 40, 41, 42, 43, 44, 45, 46, 47, 48, 49, 50, 51, 52, 53, 54, 55] }), (2, { items := [.slot 6 (.data (.int .i64) []), .slot 23 (.data (.int .i64) [])], kill := [2, 3, 4, 5, 8, 9, 10, 11, 12, 13, 14, 15, 16, 17, 18, 19, 20, 21, 24, 25, 26, 27, 28, 29, 30, 31, 32, 33, 34, 35, 36, 37, 38, 39, 40, 41, 42, 43, 44, 45, 46, 47, 48, 49, 50, 51, 52, 53, 54, 55] }), (4, { items := [.slot 9 (.data (.int .i64) []), .slot 10 (.data (.int .i64) []), .slot 29 (.data (.int .i64) [])], kill := [2, 3, 4, 5, 8, 11, 12, 13, 14, 15, 16, 17, 18, 19, 20, 21, 24, 25, 26, 30, 31, 32, 33, 34, 35, 36, 37, 38, 39, 40, 41, 42, 43, 44, 45, 46, 47, 48, 49, 50, 51, 52, 53, 54, 55] })] }
noncomputable def M_I_passing (x : (Int × (List Int))) : (Option (Int × Int)) :=
  (loopO (fun (again0 : ((Int × Int) → (Option (Int × Int)))) => (fun (s1 : (Int × Int)) => (cond (decide (s1.2 < (((List.length x.2) : Nat) : Int))) (bindO (some (IntKind.wrap .i64 (x.1 - (1 : Int)))) (fun (a2 : Int) => (bindO (some (IntKind.wrap .i64 (s1.1 * a2))) (fun (a3 : Int) => (bindO (some (IntKind.wrap .i64 (s1.2 + (1 : Int)))) (fun (a4 : Int) => (again0 (a3, a4)))))))) (loopO (fun (again5 : ((Int × Int) → (Option (Int × Int)))) => (fun (s6 : (Int × Int)) => (cond (decide (s6.2 < s1.1)) (loopO (fun (again7 : ((Int × (Int × Int)) → (Option (Int × Int)))) => (fun (s8 : (Int × (Int × Int))) => (cond (decide (s8.2.2 < (((List.length x.2) : Nat) : Int))) (bindO (getI x.2 s8.2.2) (fun (a9 : Int) => (bindO (some (IntKind.wrap .i64 (x.1 - (1 : Int)))) (fun (a10 : Int) => (bindO (guardO (a10 != (0 : Int))) (fun (a11 : Unit) => (bindO (some (Int.tmod s8.2.1 a10)) (fun (a12 : Int) => (bindO (some (IntKind.wrap .i64 ((1 : Int) + a12))) (fun (a13 : Int) => (bindO (some (IntKind.wrap .i64 (a13 * a9))) (fun (a14 : Int) => (bindO (some (IntKind.wrap .i64 (s8.1 + a14))) (fun (a15 : Int) => (bindO (some (IntKind.wrap .i64 (x.1 - (1 : Int)))) (fun (a16 : Int) => (bindO (guardO (a16 != (0 : Int))) (fun (a17 : Unit) => (bindO (some (IntKind.wrap .i64 (Int.tdiv s8.2.1 a16))) (fun (a18 : Int) => (bindO (some (IntKind.wrap .i64 (s8.2.2 + (1 : Int)))) (fun (a19 : Int) => (again7 (a15, (a18, a19))))))))))))))))))))))))) (bindO (guardO (x.1 != (0 : Int))) (fun (a20 : Unit) => (bindO (some (Int.tmod s8.1 x.1)) (fun (a21 : Int) => (cond (a21 == (0 : Int)) (bindO (some (IntKind.wrap .i64 (s6.1 + (1 : Int)))) (fun (a22 : Int) => (bindO (some (IntKind.wrap .i64 (s6.2 + (1 : Int)))) (fun (a23 : Int) => (again5 (a22, a23)))))) (bindO (some (IntKind.wrap .i64 (s6.2 + (1 : Int)))) (fun (a24 : Int) => (again5 (s6.1, a24)))))))))))) ((0 : Int), (s6.2, (0 : Int)))) (some (s6.1, s1.1))))) ((0 : Int), (0 : Int)))))) ((1 : Int), (0 : Int)))

noncomputable def c_I_passing : Con0 := ⟨pk_I_passing, rk_I_passing, M_I_passing⟩

set_option maxRecDepth 100000 in
theorem eq_I_passing (x : In pk_I_passing) : semF (mkE []) h_I_passing (info Try.f69) pk_I_passing rk_I_passing x = M_I_passing x := by kernel_rfl

set_option maxRecDepth 100000 in
theorem m_I_passing : ConOK Try.prog 69 c_I_passing := fn_ok (tyOK _) (E := mkE []) (consOK_nil rfl) Try.func69 (h := h_I_passing) (by kernel_rfl) eq_I_passing

/-- I_reduced -/
def pk_I_reduced : List PK := [.data (.int .i64), .data (.int .i64)]
def rk_I_reduced : List (Ty × Bool) := [((.int .i64), false), ((.int .i64), false)]
def h_I_reduced : Hints := { loops := [(0, { items := [.slot 6 (.data (.int .i64) []), .slot 7 (.data (.int .i64) [])], kill := [2, 3, 4, 5, 8, 9, 10, 11, 12, 13, 14, 15, 16, 17, 18, 19, 20, 21] })] }
noncomputable def M_I_reduced (x : (Int × Int)) : (Option (Int × Int)) :=
  (loopO (fun (again0 : ((Int × Int) → (Option (Int × Int)))) => (fun (s1 : (Int × Int)) => (cond (s1.2 != (0 : Int)) (bindO (guardO (s1.2 != (0 : Int))) (fun (a2 : Unit) => (bindO (some (Int.tmod s1.1 s1.2)) (fun (a3 : Int) => (again0 (s1.2, a3)))))) (bindO (guardO (s1.1 != (0 : Int))) (fun (a4 : Unit) => (bindO (some (IntKind.wrap .i64 (Int.tdiv x.1 s1.1))) (fun (a5 : Int) => (bindO (guardO (s1.1 != (0 : Int))) (fun (a6 : Unit) => (bindO (some (IntKind.wrap .i64 (Int.tdiv x.2 s1.1))) (fun (a7 : Int) => (some (a5, a7))))))))))))) (x.1, x.2))

noncomputable def c_I_reduced : Con0 := ⟨pk_I_reduced, rk_I_reduced, M_I_reduced⟩

set_option maxRecDepth 100000 in
theorem eq_I_reduced (x : In pk_I_reduced) : semF (mkE []) h_I_reduced (info Try.f79) pk_I_reduced rk_I_reduced x = M_I_reduced x := by kernel_rfl

set_option maxRecDepth 100000 in
theorem m_I_reduced : ConOK Try.prog 79 c_I_reduced := fn_ok (tyOK _) (E := mkE []) (consOK_nil rfl) Try.func79 (h := h_I_reduced) (by kernel_rfl) eq_I_reduced

/-- I_PassingChance -/
def pk_I_PassingChance : List PK := [.data (.int .i64), .data (.sl (.int .i64))]
def rk_I_PassingChance : List (Ty × Bool) := [((.int .i64), false), ((.int .i64), false), (.bool, false)]
def h_I_PassingChance : Hints := { loops := [] }
noncomputable def M_I_PassingChance (x : (Int × (List Int))) : (Option (Int × (Int × Bool))) :=
  (bindO (M_I_areErrors (x.1, x.2)) (fun (a0 : Bool) => (cond (not a0) (some ((0 : Int), ((0 : Int), false))) (bindO (M_I_passing (x.1, x.2)) (fun (a1 : (Int × Int)) => (bindO (M_I_reduced (a1.1, a1.2)) (fun (a2 : (Int × Int)) => (some (a2.1, (a2.2, true))))))))))

noncomputable def c_I_PassingChance : Con0 := ⟨pk_I_PassingChance, rk_I_PassingChance, M_I_PassingChance⟩

set_option maxRecDepth 100000 in
theorem eq_I_PassingChance (x : In pk_I_PassingChance) : semF (mkE [(68, c_I_areErrors), (69, c_I_passing), (79, c_I_reduced)]) h_I_PassingChance (info Try.f42) pk_I_PassingChance rk_I_PassingChance x = M_I_PassingChance x := by kernel_rfl

set_option maxRecDepth 100000 in
theorem m_I_PassingChance : ConOK Try.prog 42 c_I_PassingChance := fn_ok (tyOK _) (E := mkE [(68, c_I_areErrors), (69, c_I_passing), (79, c_I_reduced)]) (consOK_cons m_I_areErrors (consOK_cons m_I_passing (consOK_cons m_I_reduced (consOK_nil rfl)))) Try.func42 (h := h_I_PassingChance) (by kernel_rfl) eq_I_PassingChance

/-- L_eqIntS -/
def pk_L_eqIntS : List PK := [.data (.sl (.int .i64)), .data (.sl (.int .i64))]
def rk_L_eqIntS : List (Ty × Bool) := [(.bool, false)]
def h_L_eqIntS : Hints := { loops := [(0, { items := [.slot 5 (.data (.int .i64) [])], kill := [2, 3, 4, 6, 7, 8, 9, 10, 11, 12, 13, 14, 15, 16, 17, 18, 19, 20, 21, 22, 23, 24, 25] })] }
noncomputable def M_L_eqIntS (x : ((List Int) × (List Int))) : (Option Bool) :=
  (cond ((((List.length x.1) : Nat) : Int) != (((List.length x.2) : Nat) : Int)) (some false) (loopO (fun (again0 : (Int → (Option Bool))) => (fun (s1 : Int) => (cond (decide (s1 < (((List.length x.1) : Nat) : Int))) (bindO (getI x.1 s1) (fun (a2 : Int) => (bindO (getI x.2 s1) (fun (a3 : Int) => (cond (a2 != a3) (some false) (bindO (some (IntKind.wrap .i64 (s1 + (1 : Int)))) (fun (a4 : Int) => (again0 a4)))))))) (some true)))) (0 : Int)))

noncomputable def c_L_eqIntS : Con0 := ⟨pk_L_eqIntS, rk_L_eqIntS, M_L_eqIntS⟩

set_option maxRecDepth 100000 in
theorem eq_L_eqIntS (x : In pk_L_eqIntS) : semF (mkE []) h_L_eqIntS (info Try.f19) pk_L_eqIntS rk_L_eqIntS x = M_L_eqIntS x := by kernel_rfl

set_option maxRecDepth 100000 in
theorem m_L_eqIntS : ConOK Try.prog 19 c_L_eqIntS := fn_ok (tyOK _) (E := mkE []) (consOK_nil rfl) Try.func19 (h := h_L_eqIntS) (by kernel_rfl) eq_L_eqIntS

/-- L_FnExactPassingChance -/
def pk_L_FnExactPassingChance : List PK := [.data (.int .i64), .data (.sl (.int .i64))]
def rk_L_FnExactPassingChance : List (Ty × Bool) := [(.bool, false)]
def h_L_FnExactPassingChance : Hints := { loops := [] }
noncomputable def M_L_FnExactPassingChance (x : (Int × (List Int))) : (Option Bool) :=
  (cond (decide ((((List.length x.2) : Nat) : Int) > (1048576 : Int))) (some true) (bindO (M_L_toIntS x.2) (fun (a0 : (List Int)) => (bindO (M_S_PassingChance (x.1, a0)) (fun (a1 : (Int × (Int × Bool))) => (bindO (M_L_toIntS x.2) (fun (a2 : (List Int)) => (bindO (M_I_PassingChance (x.1, a2)) (fun (a3 : (Int × (Int × Bool))) => (cond (a3.1 != a1.1) (some false) (cond (a3.2.1 != a1.2.1) (some false) (cond (not (a3.2.2 == a1.2.2)) (some false) (bindO (M_L_toIntS x.2) (fun (a4 : (List Int)) => (bindO (M_L_eqIntS (a2, a4)) (fun (a5 : Bool) => (cond (not a5) (some false) (some true))))))))))))))))))

noncomputable def c_L_FnExactPassingChance : Con0 := ⟨pk_L_FnExactPassingChance, rk_L_FnExactPassingChance, M_L_FnExactPassingChance⟩

set_option maxRecDepth 100000 in
theorem eq_L_FnExactPassingChance (x : In pk_L_FnExactPassingChance) : semF (mkE [(17, c_L_toIntS), (41, c_S_PassingChance), (42, c_I_PassingChance), (19, c_L_eqIntS)]) h_L_FnExactPassingChance (info Try.f13) pk_L_FnExactPassingChance rk_L_FnExactPassingChance x = M_L_FnExactPassingChance x := by kernel_rfl

set_option maxRecDepth 100000 in
theorem m_L_FnExactPassingChance : ConOK Try.prog 13 c_L_FnExactPassingChance := fn_ok (tyOK _) (E := mkE [(17, c_L_toIntS), (41, c_S_PassingChance), (42, c_I_PassingChance), (19, c_L_eqIntS)]) (consOK_cons m_L_toIntS (consOK_cons m_S_PassingChance (consOK_cons m_I_PassingChance (consOK_cons m_L_eqIntS (consOK_nil rfl))))) Try.func13 (h := h_L_FnExactPassingChance) (by kernel_rfl) eq_L_FnExactPassingChance

end Go.Proofs.Ytlacogoljcpijaa.Vd
