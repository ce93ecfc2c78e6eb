/- The functions of the law as plain functions on data, and that the program's functions are these. No conditions. -/
import Derived.Test.YtgjneigkkgaaiaaVd4
import Derived.Test.YtgjneigkkgaaiaaChecked
import Derived.KernelRfl
set_option linter.unusedVariables false
namespace Go.Proofs.Ytgjneigkkgaaiaa.Vd
def tys : List (Option Ty) := [none, none, some (.int .i64), some (.int .i64), some .bool, some (.int .u8), some (.int .u8), some (.cons (.int .i64) (.cons (.int .i64) (.cons .bool (.one (.int .u8))))), some (.cons (.int .i64) (.cons (.int .i64) (.cons .bool (.one (.int .u8))))), some .str, some .str, some .str, some (.int .u64), some (.cons .str (.one (.int .u64))), some (.cons .str (.one (.int .u64))), none, none, none, none, none, none, some (.int .i32), some (.sl (.int .i64)), none, none, none, none, none, none, some (.cons (.int .i64) (.cons (.int .i64) (.one (.int .i64)))), some (.cons (.int .i64) (.cons (.int .i64) (.one (.int .i64)))), some (.sl (.sl (.cons (.int .i64) (.one (.int .i64))))), none, some (.sl (.cons (.int .i64) (.one (.int .i64)))), none, none, some (.cons (.int .i64) (.cons (.int .i64) (.one (.int .i64)))), none, some (.sl (.sl (.cons (.int .i64) (.one (.int .i64))))), none, none, none, none, none, none, some (.sl (.int .u8)), none, none, none, none, none, none, none, none, none, none, none, none, none, none, none, some (.sl (.sl (.int .i64))), none, none, none, none, none, none, none, none, none, none, none, none, none, none, none, none, some (.sl (.cons (.int .i64) (.one (.int .i64)))), none, none, none, none, none, some (.cons (.int .i64) (.one (.int .i64))), some (.cons (.int .i64) (.one (.int .i64))), none, none, none, none, some (.int .u64), some (.cons (.sl (.int .u8)) (.cons (.int .i64) (.one (.int .u64)))), some (.cons (.sl (.int .u8)) (.cons (.int .i64) (.one (.int .u64)))), none, none, none, none, none, none, none, none, none, none, none, none, none, none, none, none, none, none, some (.int .u64), none, none, none, none, none, none, none, none, none, none, some (.cons (.int .i64) (.one (.int .i64))), none, none, none, none, none, none, none, none, none, none, some (.sl .bool), none, none, none, some (.int .u32), none, none, none, none, none, none, none, none, none, none, none, none, none, none, none, none, none, some (.int .u8), some (.int .u8), none, none, some (.int .i32), some (.int .i32), none, none, none]
def others : List Nat := [1, 15, 16, 17, 24, 25, 26, 27, 28, 32, 35, 37, 39, 40, 41, 42, 43, 44, 47, 48, 50, 51, 53, 54, 55, 56, 57, 58, 60, 63, 65, 66, 67, 68, 69, 70, 71, 72, 73, 74, 75, 76, 77, 79, 80, 81, 82, 83, 86, 87, 88, 89, 93, 95, 96, 97, 98, 99, 100, 101, 102, 103, 104, 105, 106, 107, 108, 109, 110, 112, 113, 114, 115, 116, 117, 118, 119, 120, 121, 124, 125, 126, 127, 128, 129, 130, 131, 132, 134, 135, 136, 138, 139, 140, 141, 143, 145, 146, 147, 148, 149, 157, 158]
def pairs : List Nat := [84, 85, 122]
def sgN : Nat → Nat → List Nat
  | _, 0 => []
  | a, n + 1 => a :: sgN (a + 1) n

noncomputable def mkE (con : List (Nat × Con0)) : Env := ⟨[], tys, others, pairs, con⟩

set_option maxRecDepth 100000 in
theorem tyOK (con : List (Nat × Con0)) : TyOK Try.prog (mkE con) := tyOK_of (E := mkE con) (by kernel_rfl) (by kernel_rfl) (by kernel_rfl)

/-- L_szCipherS -/
def pk_L_szCipherS : List PK := [.data (.sl (.cons (.int .i64) (.one (.int .i64)))), .data (.int .i64)]
def rk_L_szCipherS : List (Ty × Bool) := [((.int .i64), false)]
def h_L_szCipherS : Hints := { loops := [] }
noncomputable def M_L_szCipherS (x : ((List (Int × Int)) × Int)) : (Option Int) :=
  (bindO (some (IntKind.wrap .i64 (x.2 - (((List.length x.1) : Nat) : Int)))) (fun (a0 : Int) => (cond (decide (a0 < (0 : Int))) (some (- (1 : Int))) (some a0))))

noncomputable def c_L_szCipherS : Con0 := ⟨pk_L_szCipherS, rk_L_szCipherS, M_L_szCipherS⟩

set_option maxRecDepth 100000 in
theorem eq_L_szCipherS (x : In pk_L_szCipherS) : semF (mkE []) h_L_szCipherS (info Try.f69) pk_L_szCipherS rk_L_szCipherS x = M_L_szCipherS x := (semFF_eq _ _ _ _ _ _).symm.trans (by kernel_rfl)

set_option maxRecDepth 100000 in
theorem m_L_szCipherS : ConOK Try.prog 69 c_L_szCipherS := fn_ok (tyOK _) (E := mkE []) (consOK_nil rfl) Try.func69 (h := h_L_szCipherS) (by kernel_rfl) eq_L_szCipherS

/-- L_szCipherSS -/
def pk_L_szCipherSS : List PK := [.data (.sl (.sl (.cons (.int .i64) (.one (.int .i64))))), .data (.int .i64)]
def rk_L_szCipherSS : List (Ty × Bool) := [((.int .i64), false)]
def h_L_szCipherSS : Hints := { loops := [(0, { items := [.slot 1 (.data (.int .i64) []), .slot 5 (.data (.int .i64) [])], kill := [2, 3, 4] ++ (sgN 6 21) })] }
noncomputable def M_L_szCipherSS (x : ((List (List (Int × Int))) × Int)) : (Option Int) :=
  (bindO (some (IntKind.wrap .i64 (x.2 - (((List.length x.1) : Nat) : Int)))) (fun (a0 : Int) => (cond (decide (a0 < (0 : Int))) (some (- (1 : Int))) (loopO (fun (again1 : ((Int × Int) → (Option Int))) => (fun (s2 : (Int × Int)) => (cond (decide (s2.2 < (((List.length x.1) : Nat) : Int))) (bindO (getI x.1 s2.2) (fun (a3 : (List (Int × Int))) => (bindO (M_L_szCipherS (a3, s2.1)) (fun (a4 : Int) => (cond (decide (a4 < (0 : Int))) (some (- (1 : Int))) (bindO (some (IntKind.wrap .i64 (s2.2 + (1 : Int)))) (fun (a5 : Int) => (again1 (a4, a5))))))))) (some s2.1)))) (a0, (0 : Int))))))

noncomputable def c_L_szCipherSS : Con0 := ⟨pk_L_szCipherSS, rk_L_szCipherSS, M_L_szCipherSS⟩

set_option maxRecDepth 100000 in
theorem eq_L_szCipherSS (x : In pk_L_szCipherSS) : semF (mkE [(69, c_L_szCipherS)]) h_L_szCipherSS (info Try.f15) pk_L_szCipherSS rk_L_szCipherSS x = M_L_szCipherSS x := (semFF_eq _ _ _ _ _ _).symm.trans (by kernel_rfl)

set_option maxRecDepth 100000 in
theorem m_L_szCipherSS : ConOK Try.prog 15 c_L_szCipherSS := fn_ok (tyOK _) (E := mkE [(69, c_L_szCipherS)]) (consOK_cons m_L_szCipherS (consOK_nil rfl)) Try.func15 (h := h_L_szCipherSS) (by kernel_rfl) eq_L_szCipherSS

/-- L_toGroup -/
def pk_L_toGroup : List PK := [.data (.cons (.int .i64) (.cons (.int .i64) (.one (.int .i64))))]
def rk_L_toGroup : List (Ty × Bool) := [((.cons (.int .i64) (.cons (.int .i64) (.one (.int .i64)))), false)]
def h_L_toGroup : Hints := { loops := [] }
noncomputable def M_L_toGroup (x : (Int × (Int × Int))) : (Option (Int × (Int × Int))) :=
  (some (x.1, (x.2.1, x.2.2)))

noncomputable def c_L_toGroup : Con0 := ⟨pk_L_toGroup, rk_L_toGroup, M_L_toGroup⟩

set_option maxRecDepth 100000 in
theorem eq_L_toGroup (x : In pk_L_toGroup) : semF (mkE []) h_L_toGroup (info Try.f17) pk_L_toGroup rk_L_toGroup x = M_L_toGroup x := (semFF_eq _ _ _ _ _ _).symm.trans (by kernel_rfl)

set_option maxRecDepth 100000 in
theorem m_L_toGroup : ConOK Try.prog 17 c_L_toGroup := fn_ok (tyOK _) (E := mkE []) (consOK_nil rfl) Try.func17 (h := h_L_toGroup) (by kernel_rfl) eq_L_toGroup

/-- L_toCipher -/
def pk_L_toCipher : List PK := [.data (.cons (.int .i64) (.one (.int .i64)))]
def rk_L_toCipher : List (Ty × Bool) := [((.cons (.int .i64) (.one (.int .i64))), false)]
def h_L_toCipher : Hints := { loops := [] }
noncomputable def M_L_toCipher (x : (Int × Int)) : (Option (Int × Int)) :=
  (some (x.1, x.2))

noncomputable def c_L_toCipher : Con0 := ⟨pk_L_toCipher, rk_L_toCipher, M_L_toCipher⟩

set_option maxRecDepth 100000 in
theorem eq_L_toCipher (x : In pk_L_toCipher) : semF (mkE []) h_L_toCipher (info Try.f124) pk_L_toCipher rk_L_toCipher x = M_L_toCipher x := (semFF_eq _ _ _ _ _ _).symm.trans (by kernel_rfl)

set_option maxRecDepth 100000 in
theorem m_L_toCipher : ConOK Try.prog 124 c_L_toCipher := fn_ok (tyOK _) (E := mkE []) (consOK_nil rfl) Try.func124 (h := h_L_toCipher) (by kernel_rfl) eq_L_toCipher

/-- L_toCipherS -/
def pk_L_toCipherS : List PK := [.data (.sl (.cons (.int .i64) (.one (.int .i64))))]
def rk_L_toCipherS : List (Ty × Bool) := [((.sl (.cons (.int .i64) (.one (.int .i64)))), true)]
def h_L_toCipherS : Hints := { loops := [(0, { items := [.slot 4 (.data (.int .i64) []), .arr 3 (.cons (.int .i64) (.one (.int .i64))) true], kill := [1, 2] ++ (sgN 5 18) })] }
noncomputable def M_L_toCipherS (x : (List (Int × Int))) : (Option (List (Int × Int))) :=
  (bindO (guardO (((decide ((0 : Int) ≤ (((List.length x) : Nat) : Int))) && (decide ((((List.length x) : Nat) : Int) ≤ (((List.length x) : Nat) : Int)))) && (decide ((((List.length x) : Nat) : Int) ≤ ((lim : Nat) : Int))))) (fun (a0 : Unit) => (loopO (fun (again1 : ((Int × (List (Int × Int))) → (Option (List (Int × Int))))) => (fun (s2 : (Int × (List (Int × Int)))) => (cond (decide (s2.1 < (((List.length x) : Nat) : Int))) (bindO (getI x s2.1) (fun (a3 : (Int × Int)) => (bindO (M_L_toCipher (a3.1, a3.2)) (fun (a4 : (Int × Int)) => (bindO (getI s2.2 s2.1) (fun (a5 : (Int × Int)) => (bindO (some (List.set s2.2 (Int.toNat s2.1) (a4.1, a4.2))) (fun (a6 : (List (Int × Int))) => (bindO (some (IntKind.wrap .i64 (s2.1 + (1 : Int)))) (fun (a7 : Int) => (again1 (a7, a6)))))))))))) (some s2.2)))) ((0 : Int), (List.replicate (Int.toNat (((List.length x) : Nat) : Int)) ((0 : Int), (0 : Int)))))))

noncomputable def c_L_toCipherS : Con0 := ⟨pk_L_toCipherS, rk_L_toCipherS, M_L_toCipherS⟩

set_option maxRecDepth 100000 in
theorem eq_L_toCipherS (x : In pk_L_toCipherS) : semF (mkE [(124, c_L_toCipher)]) h_L_toCipherS (info Try.f73) pk_L_toCipherS rk_L_toCipherS x = M_L_toCipherS x := (semFF_eq _ _ _ _ _ _).symm.trans (by kernel_rfl)

set_option maxRecDepth 100000 in
theorem m_L_toCipherS : ConOK Try.prog 73 c_L_toCipherS := fn_ok (tyOK _) (E := mkE [(124, c_L_toCipher)]) (consOK_cons m_L_toCipher (consOK_nil rfl)) Try.func73 (h := h_L_toCipherS) (by kernel_rfl) eq_L_toCipherS

/-- L_toCipherSS -/
def pk_L_toCipherSS : List PK := [.data (.sl (.sl (.cons (.int .i64) (.one (.int .i64)))))]
def rk_L_toCipherSS : List (Ty × Bool) := [((.sl (.sl (.cons (.int .i64) (.one (.int .i64))))), true)]
def h_L_toCipherSS : Hints := { loops := [(0, { items := [.slot 4 (.data (.int .i64) []), .arr 3 (.sl (.cons (.int .i64) (.one (.int .i64)))) true], kill := [1, 2] ++ (sgN 5 18) })] }
noncomputable def M_L_toCipherSS (x : (List (List (Int × Int)))) : (Option (List (List (Int × Int)))) :=
  (bindO (guardO (((decide ((0 : Int) ≤ (((List.length x) : Nat) : Int))) && (decide ((((List.length x) : Nat) : Int) ≤ (((List.length x) : Nat) : Int)))) && (decide ((((List.length x) : Nat) : Int) ≤ ((lim : Nat) : Int))))) (fun (a0 : Unit) => (loopO (fun (again1 : ((Int × (List (List (Int × Int)))) → (Option (List (List (Int × Int)))))) => (fun (s2 : (Int × (List (List (Int × Int))))) => (cond (decide (s2.1 < (((List.length x) : Nat) : Int))) (bindO (getI x s2.1) (fun (a3 : (List (Int × Int))) => (bindO (M_L_toCipherS a3) (fun (a4 : (List (Int × Int))) => (bindO (getI s2.2 s2.1) (fun (a5 : (List (Int × Int))) => (bindO (some (List.set s2.2 (Int.toNat s2.1) a4)) (fun (a6 : (List (List (Int × Int)))) => (bindO (some (IntKind.wrap .i64 (s2.1 + (1 : Int)))) (fun (a7 : Int) => (again1 (a7, a6)))))))))))) (some s2.2)))) ((0 : Int), (List.replicate (Int.toNat (((List.length x) : Nat) : Int)) ([] : List (Int × Int)))))))

noncomputable def c_L_toCipherSS : Con0 := ⟨pk_L_toCipherSS, rk_L_toCipherSS, M_L_toCipherSS⟩

set_option maxRecDepth 100000 in
theorem eq_L_toCipherSS (x : In pk_L_toCipherSS) : semF (mkE [(73, c_L_toCipherS)]) h_L_toCipherSS (info Try.f18) pk_L_toCipherSS rk_L_toCipherSS x = M_L_toCipherSS x := (semFF_eq _ _ _ _ _ _).symm.trans (by kernel_rfl)

set_option maxRecDepth 100000 in
theorem m_L_toCipherSS : ConOK Try.prog 18 c_L_toCipherSS := fn_ok (tyOK _) (E := mkE [(73, c_L_toCipherS)]) (consOK_cons m_L_toCipherS (consOK_nil rfl)) Try.func18 (h := h_L_toCipherSS) (by kernel_rfl) eq_L_toCipherSS

/-- S_l1In -/
def pk_S_l1In : List PK := [.data (.int .i64), .data (.int .i64), .data (.int .i64)]
def rk_S_l1In : List (Ty × Bool) := [(.bool, false)]
def h_S_l1In : Hints := { loops := [] }
noncomputable def M_S_l1In (x : (Int × (Int × Int))) : (Option Bool) :=
  (cond (decide (x.1 ≥ x.2.1)) (some (decide (x.1 ≤ x.2.2))) (some false))

noncomputable def c_S_l1In : Con0 := ⟨pk_S_l1In, rk_S_l1In, M_S_l1In⟩

set_option maxRecDepth 100000 in
theorem eq_S_l1In (x : In pk_S_l1In) : semF (mkE []) h_S_l1In (info Try.f61) pk_S_l1In rk_S_l1In x = M_S_l1In x := (semFF_eq _ _ _ _ _ _).symm.trans (by kernel_rfl)

set_option maxRecDepth 100000 in
theorem m_S_l1In : ConOK Try.prog 61 c_S_l1In := fn_ok (tyOK _) (E := mkE []) (consOK_nil rfl) Try.func61 (h := h_S_l1In) (by kernel_rfl) eq_S_l1In

/-- S_nPower -/
def pk_S_nPower : List PK := [.data (.int .i64), .data (.int .i64), .data (.int .i64)]
def rk_S_nPower : List (Ty × Bool) := [((.int .i64), false)]
def h_S_nPower : Hints := { loops := [(0, { items := [.slot 0 (.data (.int .i64) []), .slot 1 (.data (.int .i64) []), .slot 7 (.data (.int .i64) [])], kill := sgN 3 4 ++ (sgN 8 20) })] }
noncomputable def M_S_nPower (x : (Int × (Int × Int))) : (Option Int) :=
  (bindO (guardO (x.2.2 != (0 : Int))) (fun (a0 : Unit) => (bindO (some (Int.tmod (1 : Int) x.2.2)) (fun (a1 : Int) => (loopO (fun (again2 : ((Int × (Int × Int)) → (Option Int))) => (fun (s3 : (Int × (Int × Int))) => (cond (decide (s3.2.1 > (0 : Int))) (bindO (guardO ((2 : Int) != (0 : Int))) (fun (a4 : Unit) => (bindO (some (Int.tmod s3.2.1 (2 : Int))) (fun (a5 : Int) => (cond (a5 == (1 : Int)) (bindO (some (IntKind.wrap .i64 (s3.2.2 * s3.1))) (fun (a6 : Int) => (bindO (guardO (x.2.2 != (0 : Int))) (fun (a7 : Unit) => (bindO (some (Int.tmod a6 x.2.2)) (fun (a8 : Int) => (bindO (some (IntKind.wrap .i64 (s3.1 * s3.1))) (fun (a9 : Int) => (bindO (guardO (x.2.2 != (0 : Int))) (fun (a10 : Unit) => (bindO (some (Int.tmod a9 x.2.2)) (fun (a11 : Int) => (bindO (guardO ((2 : Int) != (0 : Int))) (fun (a12 : Unit) => (bindO (some (IntKind.wrap .i64 (Int.tdiv s3.2.1 (2 : Int)))) (fun (a13 : Int) => (again2 (a11, (a13, a8))))))))))))))))))) (bindO (some (IntKind.wrap .i64 (s3.1 * s3.1))) (fun (a14 : Int) => (bindO (guardO (x.2.2 != (0 : Int))) (fun (a15 : Unit) => (bindO (some (Int.tmod a14 x.2.2)) (fun (a16 : Int) => (bindO (guardO ((2 : Int) != (0 : Int))) (fun (a17 : Unit) => (bindO (some (IntKind.wrap .i64 (Int.tdiv s3.2.1 (2 : Int)))) (fun (a18 : Int) => (again2 (a16, (a18, s3.2.2)))))))))))))))))) (some s3.2.2)))) (x.1, (x.2.1, a1)))))))

noncomputable def c_S_nPower : Con0 := ⟨pk_S_nPower, rk_S_nPower, M_S_nPower⟩

set_option maxRecDepth 100000 in
theorem eq_S_nPower (x : In pk_S_nPower) : semF (mkE []) h_S_nPower (info Try.f120) pk_S_nPower rk_S_nPower x = M_S_nPower x := (semFF_eq _ _ _ _ _ _).symm.trans (by kernel_rfl)

set_option maxRecDepth 100000 in
theorem m_S_nPower : ConOK Try.prog 120 c_S_nPower := fn_ok (tyOK _) (E := mkE []) (consOK_nil rfl) Try.func120 (h := h_S_nPower) (by kernel_rfl) eq_S_nPower

/-- S_nPrime -/
def pk_S_nPrime : List PK := [.data (.int .i64)]
def rk_S_nPrime : List (Ty × Bool) := [(.bool, false)]
def h_S_nPrime : Hints := { loops := [(0, { items := [.slot 3 (.data (.int .i64) [])], kill := [1, 2] ++ (sgN 4 13) })] }
noncomputable def M_S_nPrime (x : Int) : (Option Bool) :=
  (cond (decide (x < (2 : Int))) (some false) (loopO (fun (again0 : (Int → (Option Bool))) => (fun (s1 : Int) => (bindO (some (IntKind.wrap .i64 (s1 * s1))) (fun (a2 : Int) => (cond (decide (a2 ≤ x)) (bindO (guardO (s1 != (0 : Int))) (fun (a3 : Unit) => (bindO (some (Int.tmod x s1)) (fun (a4 : Int) => (cond (a4 == (0 : Int)) (some false) (bindO (some (IntKind.wrap .i64 (s1 + (1 : Int)))) (fun (a5 : Int) => (again0 a5)))))))) (some true)))))) (2 : Int)))

noncomputable def c_S_nPrime : Con0 := ⟨pk_S_nPrime, rk_S_nPrime, M_S_nPrime⟩

set_option maxRecDepth 100000 in
theorem eq_S_nPrime (x : In pk_S_nPrime) : semF (mkE []) h_S_nPrime (info Try.f121) pk_S_nPrime rk_S_nPrime x = M_S_nPrime x := (semFF_eq _ _ _ _ _ _).symm.trans (by kernel_rfl)

set_option maxRecDepth 100000 in
theorem m_S_nPrime : ConOK Try.prog 121 c_S_nPrime := fn_ok (tyOK _) (E := mkE []) (consOK_nil rfl) Try.func121 (h := h_S_nPrime) (by kernel_rfl) eq_S_nPrime

/-- S_l2Good -/
def pk_S_l2Good : List PK := [.data (.cons (.int .i64) (.cons (.int .i64) (.one (.int .i64))))]
def rk_S_l2Good : List (Ty × Bool) := [(.bool, false)]
def h_S_l2Good : Hints := { loops := [] }
noncomputable def M_S_l2Good (x : (Int × (Int × Int))) : (Option Bool) :=
  (bindO (M_S_l1In (x.1, ((3 : Int), (2000000000 : Int)))) (fun (a0 : Bool) => (cond a0 (bindO (some (IntKind.wrap .i64 (x.1 - (1 : Int)))) (fun (a1 : Int) => (bindO (M_S_l1In (x.2.1, ((2 : Int), a1))) (fun (a2 : Bool) => (cond a2 (bindO (some (IntKind.wrap .i64 (x.1 - (1 : Int)))) (fun (a3 : Int) => (bindO (guardO (x.2.1 != (0 : Int))) (fun (a4 : Unit) => (bindO (some (Int.tmod a3 x.2.1)) (fun (a5 : Int) => (cond (a5 == (0 : Int)) (bindO (some (IntKind.wrap .i64 (x.1 - (1 : Int)))) (fun (a6 : Int) => (bindO (M_S_l1In (x.2.2, ((2 : Int), a6))) (fun (a7 : Bool) => (cond a7 (bindO (M_S_nPower (x.2.2, (x.2.1, x.1))) (fun (a8 : Int) => (cond (a8 == (1 : Int)) (bindO (M_S_nPrime x.2.1) (fun (a9 : Bool) => (cond a9 (bindO (M_S_nPrime x.1) (fun (a10 : Bool) => (some a10))) (some false)))) (some false)))) (some false)))))) (some false)))))))) (some false)))))) (some false))))

noncomputable def c_S_l2Good : Con0 := ⟨pk_S_l2Good, rk_S_l2Good, M_S_l2Good⟩

set_option maxRecDepth 100000 in
theorem eq_S_l2Good (x : In pk_S_l2Good) : semF (mkE [(61, c_S_l1In), (120, c_S_nPower), (121, c_S_nPrime)]) h_S_l2Good (info Try.f70) pk_S_l2Good rk_S_l2Good x = M_S_l2Good x := (semFF_eq _ _ _ _ _ _).symm.trans (by kernel_rfl)

set_option maxRecDepth 100000 in
theorem m_S_l2Good : ConOK Try.prog 70 c_S_l2Good := fn_ok (tyOK _) (E := mkE [(61, c_S_l1In), (120, c_S_nPower), (121, c_S_nPrime)]) (consOK_cons m_S_l1In (consOK_cons m_S_nPower (consOK_cons m_S_nPrime (consOK_nil rfl)))) Try.func70 (h := h_S_l2Good) (by kernel_rfl) eq_S_l2Good

/-- S_gIs -/
def pk_S_gIs : List PK := [.data (.cons (.int .i64) (.cons (.int .i64) (.one (.int .i64)))), .data (.sl (.int .i64))]
def rk_S_gIs : List (Ty × Bool) := [(.bool, false)]
def h_S_gIs : Hints := { loops := [(0, { items := [.slot 9 (.data (.int .i64) [])], kill := [0, 1] ++ (sgN 3 4 ++ (sgN 10 19)) })] }
noncomputable def M_S_gIs (x : ((Int × (Int × Int)) × (List Int))) : (Option Bool) :=
  (loopO (fun (again0 : (Int → (Option Bool))) => (fun (s1 : Int) => (cond (decide (s1 < (((List.length x.2) : Nat) : Int))) (bindO (getI x.2 s1) (fun (a2 : Int) => (bindO (some (IntKind.wrap .i64 (x.1.1 - (1 : Int)))) (fun (a3 : Int) => (bindO (M_S_l1In (a2, ((1 : Int), a3))) (fun (a4 : Bool) => (cond (not a4) (some false) (bindO (M_S_nPower (a2, (x.1.2.1, x.1.1))) (fun (a5 : Int) => (cond (a5 != (1 : Int)) (some false) (bindO (some (IntKind.wrap .i64 (s1 + (1 : Int)))) (fun (a6 : Int) => (again0 a6))))))))))))) (some true)))) (0 : Int))

noncomputable def c_S_gIs : Con0 := ⟨pk_S_gIs, rk_S_gIs, M_S_gIs⟩

set_option maxRecDepth 100000 in
theorem eq_S_gIs (x : In pk_S_gIs) : semF (mkE [(61, c_S_l1In), (120, c_S_nPower)]) h_S_gIs (info Try.f122) pk_S_gIs rk_S_gIs x = M_S_gIs x := (semFF_eq _ _ _ _ _ _).symm.trans (by kernel_rfl)

set_option maxRecDepth 100000 in
theorem m_S_gIs : ConOK Try.prog 122 c_S_gIs := fn_ok (tyOK _) (E := mkE [(61, c_S_l1In), (120, c_S_nPower)]) (consOK_cons m_S_l1In (consOK_cons m_S_nPower (consOK_nil rfl))) Try.func122 (h := h_S_gIs) (by kernel_rfl) eq_S_gIs

/-- S_eGood -/
def pk_S_eGood : List PK := [.data (.cons (.int .i64) (.cons (.int .i64) (.one (.int .i64)))), .data (.sl (.cons (.int .i64) (.one (.int .i64))))]
def rk_S_eGood : List (Ty × Bool) := [(.bool, false)]
def h_S_eGood : Hints := { loops := [(0, { items := [.slot 12 (.data (.int .i64) [])], kill := [0, 1] ++ (sgN 3 7 ++ (sgN 13 12)) })] }
noncomputable def M_S_eGood (x : ((Int × (Int × Int)) × (List (Int × Int)))) : (Option Bool) :=
  (cond (decide ((((List.length x.2) : Nat) : Int) > (24 : Int))) (some false) (loopO (fun (again0 : (Int → (Option Bool))) => (fun (s1 : Int) => (cond (decide (s1 < (((List.length x.2) : Nat) : Int))) (bindO (getI x.2 s1) (fun (a2 : (Int × Int)) => (bindO (M_S_gIs ((x.1.1, (x.1.2.1, x.1.2.2)), (a2.1 :: (a2.2 :: ([] : List Int))))) (fun (a3 : Bool) => (cond (not a3) (some false) (bindO (some (IntKind.wrap .i64 (s1 + (1 : Int)))) (fun (a4 : Int) => (again0 a4)))))))) (some true)))) (0 : Int)))

noncomputable def c_S_eGood : Con0 := ⟨pk_S_eGood, rk_S_eGood, M_S_eGood⟩

set_option maxRecDepth 100000 in
theorem eq_S_eGood (x : In pk_S_eGood) : semF (mkE [(122, c_S_gIs)]) h_S_eGood (info Try.f71) pk_S_eGood rk_S_eGood x = M_S_eGood x := (semFF_eq _ _ _ _ _ _).symm.trans (by kernel_rfl)

set_option maxRecDepth 100000 in
theorem m_S_eGood : ConOK Try.prog 71 c_S_eGood := fn_ok (tyOK _) (E := mkE [(122, c_S_gIs)]) (consOK_cons m_S_gIs (consOK_nil rfl)) Try.func71 (h := h_S_eGood) (by kernel_rfl) eq_S_eGood

/-- S_gMul -/
def pk_S_gMul : List PK := [.data (.cons (.int .i64) (.cons (.int .i64) (.one (.int .i64)))), .data (.sl (.int .i64))]
def rk_S_gMul : List (Ty × Bool) := [((.int .i64), false)]
def h_S_gMul : Hints := { loops := [(0, { items := [.slot 5 (.data (.int .i64) []), .slot 10 (.data (.int .i64) [])], kill := [0, 1, 3, 4, 6, 7] ++ (sgN 11 11) })] }
noncomputable def M_S_gMul (x : ((Int × (Int × Int)) × (List Int))) : (Option Int) :=
  (loopO (fun (again0 : ((Int × Int) → (Option Int))) => (fun (s1 : (Int × Int)) => (cond (decide (s1.2 < (((List.length x.2) : Nat) : Int))) (bindO (getI x.2 s1.2) (fun (a2 : Int) => (bindO (some (IntKind.wrap .i64 (s1.1 * a2))) (fun (a3 : Int) => (bindO (guardO (x.1.1 != (0 : Int))) (fun (a4 : Unit) => (bindO (some (Int.tmod a3 x.1.1)) (fun (a5 : Int) => (bindO (some (IntKind.wrap .i64 (s1.2 + (1 : Int)))) (fun (a6 : Int) => (again0 (a5, a6)))))))))))) (some s1.1)))) ((1 : Int), (0 : Int)))

noncomputable def c_S_gMul : Con0 := ⟨pk_S_gMul, rk_S_gMul, M_S_gMul⟩

set_option maxRecDepth 100000 in
theorem eq_S_gMul (x : In pk_S_gMul) : semF (mkE []) h_S_gMul (info Try.f166) pk_S_gMul rk_S_gMul x = M_S_gMul x := (semFF_eq _ _ _ _ _ _).symm.trans (by kernel_rfl)

set_option maxRecDepth 100000 in
theorem m_S_gMul : ConOK Try.prog 166 c_S_gMul := fn_ok (tyOK _) (E := mkE []) (consOK_nil rfl) Try.func166 (h := h_S_gMul) (by kernel_rfl) eq_S_gMul

/-- S_eMul -/
def pk_S_eMul : List PK := [.data (.cons (.int .i64) (.cons (.int .i64) (.one (.int .i64)))), .data (.sl (.cons (.int .i64) (.one (.int .i64))))]
def rk_S_eMul : List (Ty × Bool) := [((.cons (.int .i64) (.one (.int .i64))), false)]
def h_S_eMul : Hints := { loops := [(0, { items := [.slot 11 (.data (.int .i64) []), .cell 5 0 (.data (.int .i64) []), .cell 5 1 (.data (.int .i64) [])], kill := [0, 1, 3, 6, 7, 8] ++ (sgN 12 20) })] }
noncomputable def M_S_eMul (x : ((Int × (Int × Int)) × (List (Int × Int)))) : (Option (Int × Int)) :=
  (loopO (fun (again0 : ((Int × (Int × Int)) → (Option (Int × Int)))) => (fun (s1 : (Int × (Int × Int))) => (cond (decide (s1.1 < (((List.length x.2) : Nat) : Int))) (bindO (getI x.2 s1.1) (fun (a2 : (Int × Int)) => (bindO (M_S_gMul ((x.1.1, (x.1.2.1, x.1.2.2)), (s1.2.1 :: (a2.1 :: ([] : List Int))))) (fun (a3 : Int) => (bindO (M_S_gMul ((x.1.1, (x.1.2.1, x.1.2.2)), (s1.2.2 :: (a2.2 :: ([] : List Int))))) (fun (a4 : Int) => (bindO (some (IntKind.wrap .i64 (s1.1 + (1 : Int)))) (fun (a5 : Int) => (again0 (a5, (a3, a4))))))))))) (some (s1.2.1, s1.2.2))))) ((0 : Int), ((1 : Int), (1 : Int))))

noncomputable def c_S_eMul : Con0 := ⟨pk_S_eMul, rk_S_eMul, M_S_eMul⟩

set_option maxRecDepth 100000 in
theorem eq_S_eMul (x : In pk_S_eMul) : semF (mkE [(166, c_S_gMul)]) h_S_eMul (info Try.f123) pk_S_eMul rk_S_eMul x = M_S_eMul x := (semFF_eq _ _ _ _ _ _).symm.trans (by kernel_rfl)

set_option maxRecDepth 100000 in
theorem m_S_eMul : ConOK Try.prog 123 c_S_eMul := fn_ok (tyOK _) (E := mkE [(166, c_S_gMul)]) (consOK_cons m_S_gMul (consOK_nil rfl)) Try.func123 (h := h_S_eMul) (by kernel_rfl) eq_S_eMul

/-- S_tSums -/
def pk_S_tSums : List PK := [.data (.cons (.int .i64) (.cons (.int .i64) (.one (.int .i64)))), .data (.sl (.sl (.cons (.int .i64) (.one (.int .i64)))))]
def rk_S_tSums : List (Ty × Bool) := [((.sl (.cons (.int .i64) (.one (.int .i64)))), true)]
def h_S_tSums : Hints := { loops := [(0, { items := [.slot 5 (.own (.cons (.int .i64) (.one (.int .i64))) true), .slot 14 (.data (.int .i64) [])], kill := [0, 3, 4] ++ (sgN 6 7 ++ (sgN 15 24)) }), (2, { items := [.slot 20 (.data (.int .i64) []), .cell 7 0 (.data (.int .i64) []), .cell 7 1 (.data (.int .i64) [])], kill := [0, 3, 4] ++ (sgN 8 5 ++ ([15, 16, 17] ++ (sgN 21 18))) })] }
noncomputable def M_S_tSums (x : ((Int × (Int × Int)) × (List (List (Int × Int))))) : (Option (List (Int × Int))) :=
  (bindO (getI x.2 (0 : Int)) (fun (a0 : (List (Int × Int))) => (loopO (fun (again1 : (((List (Int × Int)) × Int) → (Option (List (Int × Int))))) => (fun (s2 : ((List (Int × Int)) × Int)) => (cond (decide (s2.2 < (((List.length a0) : Nat) : Int))) (loopO (fun (again3 : ((Int × (Int × Int)) → (Option (List (Int × Int))))) => (fun (s4 : (Int × (Int × Int))) => (cond (decide (s4.1 < (((List.length x.2) : Nat) : Int))) (bindO (getI x.2 s4.1) (fun (a5 : (List (Int × Int))) => (bindO (getI a5 s2.2) (fun (a6 : (Int × Int)) => (bindO (M_S_eMul ((x.1.1, (x.1.2.1, x.1.2.2)), ((s4.2.1, s4.2.2) :: ((a6.1, a6.2) :: ([] : List (Int × Int)))))) (fun (a7 : (Int × Int)) => (bindO (some (IntKind.wrap .i64 (s4.1 + (1 : Int)))) (fun (a8 : Int) => (again3 (a8, (a7.1, a7.2))))))))))) (bindO (guardO (lenOk ((List.length s2.1) + (List.length ((s4.2.1, s4.2.2) :: ([] : List (Int × Int))))))) (fun (a9 : Unit) => (bindO (some (s2.1 ++ ((s4.2.1, s4.2.2) :: ([] : List (Int × Int))))) (fun (a10 : (List (Int × Int))) => (bindO (some (IntKind.wrap .i64 (s2.2 + (1 : Int)))) (fun (a11 : Int) => (again1 (a10, a11))))))))))) ((0 : Int), ((1 : Int), (1 : Int)))) (some s2.1)))) (([] : List (Int × Int)), (0 : Int)))))

noncomputable def c_S_tSums : Con0 := ⟨pk_S_tSums, rk_S_tSums, M_S_tSums⟩

set_option maxRecDepth 100000 in
theorem eq_S_tSums (x : In pk_S_tSums) : semF (mkE [(123, c_S_eMul)]) h_S_tSums (info Try.f72) pk_S_tSums rk_S_tSums x = M_S_tSums x := (semFF_eq _ _ _ _ _ _).symm.trans (by kernel_rfl)

set_option maxRecDepth 100000 in
theorem m_S_tSums : ConOK Try.prog 72 c_S_tSums := fn_ok (tyOK _) (E := mkE [(123, c_S_eMul)]) (consOK_cons m_S_eMul (consOK_nil rfl)) Try.func72 (h := h_S_tSums) (by kernel_rfl) eq_S_tSums

/-- S_HomomorphicTally -/
def pk_S_HomomorphicTally : List PK := [.data (.cons (.int .i64) (.cons (.int .i64) (.one (.int .i64)))), .data (.sl (.sl (.cons (.int .i64) (.one (.int .i64)))))]
def rk_S_HomomorphicTally : List (Ty × Bool) := [((.sl (.cons (.int .i64) (.one (.int .i64)))), true), (.bool, false)]
def h_S_HomomorphicTally : Hints := { loops := [(0, { items := [.slot 19 (.data (.int .i64) [])], kill := [0] ++ (sgN 3 14 ++ (sgN 20 25)) })] }
noncomputable def M_S_HomomorphicTally (x : ((Int × (Int × Int)) × (List (List (Int × Int))))) : (Option ((List (Int × Int)) × Bool)) :=
  (bindO (M_S_l2Good (x.1.1, (x.1.2.1, x.1.2.2))) (fun (a0 : Bool) => (cond (not a0) (some (([] : List (Int × Int)), false)) (bindO (M_S_l1In ((((List.length x.2) : Nat) : Int), ((1 : Int), (24 : Int)))) (fun (a1 : Bool) => (cond (not a1) (some (([] : List (Int × Int)), false)) (loopO (fun (again2 : (Int → (Option ((List (Int × Int)) × Bool)))) => (fun (s3 : Int) => (cond (decide (s3 < (((List.length x.2) : Nat) : Int))) (bindO (getI x.2 s3) (fun (a4 : (List (Int × Int))) => (cond ((((List.length a4) : Nat) : Int) == (0 : Int)) (some (([] : List (Int × Int)), false)) (bindO (getI x.2 (0 : Int)) (fun (a5 : (List (Int × Int))) => (cond ((((List.length a4) : Nat) : Int) != (((List.length a5) : Nat) : Int)) (some (([] : List (Int × Int)), false)) (bindO (M_S_eGood ((x.1.1, (x.1.2.1, x.1.2.2)), a4)) (fun (a6 : Bool) => (cond (not a6) (some (([] : List (Int × Int)), false)) (bindO (some (IntKind.wrap .i64 (s3 + (1 : Int)))) (fun (a7 : Int) => (again2 a7)))))))))))) (bindO (M_S_tSums ((x.1.1, (x.1.2.1, x.1.2.2)), x.2)) (fun (a8 : (List (Int × Int))) => (some (a8, true))))))) (0 : Int))))))))

noncomputable def c_S_HomomorphicTally : Con0 := ⟨pk_S_HomomorphicTally, rk_S_HomomorphicTally, M_S_HomomorphicTally⟩

set_option maxRecDepth 100000 in
theorem eq_S_HomomorphicTally (x : In pk_S_HomomorphicTally) : semF (mkE [(70, c_S_l2Good), (61, c_S_l1In), (71, c_S_eGood), (72, c_S_tSums)]) h_S_HomomorphicTally (info Try.f16) pk_S_HomomorphicTally rk_S_HomomorphicTally x = M_S_HomomorphicTally x := (semFF_eq _ _ _ _ _ _).symm.trans (by kernel_rfl)

set_option maxRecDepth 100000 in
theorem m_S_HomomorphicTally : ConOK Try.prog 16 c_S_HomomorphicTally := fn_ok (tyOK _) (E := mkE [(70, c_S_l2Good), (61, c_S_l1In), (71, c_S_eGood), (72, c_S_tSums)]) (consOK_cons m_S_l2Good (consOK_cons m_S_l1In (consOK_cons m_S_eGood (consOK_cons m_S_tSums (consOK_nil rfl))))) Try.func16 (h := h_S_HomomorphicTally) (by kernel_rfl) eq_S_HomomorphicTally

/-- I_within -/
def pk_I_within : List PK := [.data (.int .i64), .data (.int .i64), .data (.int .i64)]
def rk_I_within : List (Ty × Bool) := [(.bool, false)]
def h_I_within : Hints := { loops := [] }
noncomputable def M_I_within (x : (Int × (Int × Int))) : (Option Bool) :=
  (cond (decide (x.1 ≥ x.2.1)) (some (decide (x.1 ≤ x.2.2))) (some false))

noncomputable def c_I_within : Con0 := ⟨pk_I_within, rk_I_within, M_I_within⟩

set_option maxRecDepth 100000 in
theorem eq_I_within (x : In pk_I_within) : semF (mkE []) h_I_within (info Try.f64) pk_I_within rk_I_within x = M_I_within x := (semFF_eq _ _ _ _ _ _).symm.trans (by kernel_rfl)

set_option maxRecDepth 100000 in
theorem m_I_within : ConOK Try.prog 64 c_I_within := fn_ok (tyOK _) (E := mkE []) (consOK_nil rfl) Try.func64 (h := h_I_within) (by kernel_rfl) eq_I_within

/-- I_isModulus -/
def pk_I_isModulus : List PK := [.data (.int .i64)]
def rk_I_isModulus : List (Ty × Bool) := [(.bool, false)]
def h_I_isModulus : Hints := { loops := [] }
noncomputable def M_I_isModulus (x : Int) : (Option Bool) :=
  (bindO (M_I_within (x, ((2 : Int), (2000000000 : Int)))) (fun (a0 : Bool) => (some a0)))

noncomputable def c_I_isModulus : Con0 := ⟨pk_I_isModulus, rk_I_isModulus, M_I_isModulus⟩

set_option maxRecDepth 100000 in
theorem eq_I_isModulus (x : In pk_I_isModulus) : semF (mkE [(64, c_I_within)]) h_I_isModulus (info Try.f151) pk_I_isModulus rk_I_isModulus x = M_I_isModulus x := (semFF_eq _ _ _ _ _ _).symm.trans (by kernel_rfl)

set_option maxRecDepth 100000 in
theorem m_I_isModulus : ConOK Try.prog 151 c_I_isModulus := fn_ok (tyOK _) (E := mkE [(64, c_I_within)]) (consOK_cons m_I_within (consOK_nil rfl)) Try.func151 (h := h_I_isModulus) (by kernel_rfl) eq_I_isModulus

/-- I_isPrime -/
def pk_I_isPrime : List PK := [.data (.int .i64)]
def rk_I_isPrime : List (Ty × Bool) := [(.bool, false)]
def h_I_isPrime : Hints := { loops := [(0, { items := [.slot 3 (.data (.int .i64) [])], kill := [1, 2] ++ (sgN 4 23) })] }
noncomputable def M_I_isPrime (x : Int) : (Option Bool) :=
  (bindO (M_I_isModulus x) (fun (a0 : Bool) => (cond (not a0) (some false) (bindO (guardO ((2 : Int) != (0 : Int))) (fun (a1 : Unit) => (bindO (some (Int.tmod x (2 : Int))) (fun (a2 : Int) => (cond (a2 == (0 : Int)) (cond (x != (2 : Int)) (some false) (loopO (fun (again3 : (Int → (Option Bool))) => (fun (s4 : Int) => (bindO (some (IntKind.wrap .i64 (s4 * s4))) (fun (a5 : Int) => (cond (decide (a5 ≤ x)) (bindO (guardO (s4 != (0 : Int))) (fun (a6 : Unit) => (bindO (some (Int.tmod x s4)) (fun (a7 : Int) => (cond (a7 == (0 : Int)) (some false) (bindO (some (IntKind.wrap .i64 (s4 + (2 : Int)))) (fun (a8 : Int) => (again3 a8)))))))) (some true)))))) (3 : Int))) (loopO (fun (again9 : (Int → (Option Bool))) => (fun (s10 : Int) => (bindO (some (IntKind.wrap .i64 (s10 * s10))) (fun (a11 : Int) => (cond (decide (a11 ≤ x)) (bindO (guardO (s10 != (0 : Int))) (fun (a12 : Unit) => (bindO (some (Int.tmod x s10)) (fun (a13 : Int) => (cond (a13 == (0 : Int)) (some false) (bindO (some (IntKind.wrap .i64 (s10 + (2 : Int)))) (fun (a14 : Int) => (again9 a14)))))))) (some true)))))) (3 : Int))))))))))

noncomputable def c_I_isPrime : Con0 := ⟨pk_I_isPrime, rk_I_isPrime, M_I_isPrime⟩

set_option maxRecDepth 100000 in
theorem eq_I_isPrime (x : In pk_I_isPrime) : semF (mkE [(151, c_I_isModulus)]) h_I_isPrime (info Try.f125) pk_I_isPrime rk_I_isPrime x = M_I_isPrime x := (semFF_eq _ _ _ _ _ _).symm.trans (by kernel_rfl)

set_option maxRecDepth 100000 in
theorem m_I_isPrime : ConOK Try.prog 125 c_I_isPrime := fn_ok (tyOK _) (E := mkE [(151, c_I_isModulus)]) (consOK_cons m_I_isModulus (consOK_nil rfl)) Try.func125 (h := h_I_isPrime) (by kernel_rfl) eq_I_isPrime

/-- I_power -/
def pk_I_power : List PK := [.data (.int .i64), .data (.int .i64), .data (.int .i64)]
def rk_I_power : List (Ty × Bool) := [((.int .i64), false)]
def h_I_power : Hints := { loops := [(0, { items := [.slot 0 (.data (.int .i64) []), .slot 1 (.data (.int .i64) []), .slot 7 (.data (.int .i64) [])], kill := sgN 3 4 ++ (sgN 8 20) })] }
noncomputable def M_I_power (x : (Int × (Int × Int))) : (Option Int) :=
  (bindO (guardO (x.2.2 != (0 : Int))) (fun (a0 : Unit) => (bindO (some (Int.tmod (1 : Int) x.2.2)) (fun (a1 : Int) => (loopO (fun (again2 : ((Int × (Int × Int)) → (Option Int))) => (fun (s3 : (Int × (Int × Int))) => (cond (decide (s3.2.1 > (0 : Int))) (bindO (some (bits .and .i64 s3.2.1 (1 : Int))) (fun (a4 : Int) => (cond (a4 == (1 : Int)) (bindO (some (IntKind.wrap .i64 (s3.2.2 * s3.1))) (fun (a5 : Int) => (bindO (guardO (x.2.2 != (0 : Int))) (fun (a6 : Unit) => (bindO (some (Int.tmod a5 x.2.2)) (fun (a7 : Int) => (bindO (some (IntKind.wrap .i64 (s3.1 * s3.1))) (fun (a8 : Int) => (bindO (guardO (x.2.2 != (0 : Int))) (fun (a9 : Unit) => (bindO (some (Int.tmod a8 x.2.2)) (fun (a10 : Int) => (bindO (guardO (decide ((0 : Int) ≤ (1 : Int)))) (fun (a11 : Unit) => (bindO (some (shr .i64 s3.2.1 (1 : Int))) (fun (a12 : Int) => (again2 (a10, (a12, a7))))))))))))))))))) (bindO (some (IntKind.wrap .i64 (s3.1 * s3.1))) (fun (a13 : Int) => (bindO (guardO (x.2.2 != (0 : Int))) (fun (a14 : Unit) => (bindO (some (Int.tmod a13 x.2.2)) (fun (a15 : Int) => (bindO (guardO (decide ((0 : Int) ≤ (1 : Int)))) (fun (a16 : Unit) => (bindO (some (shr .i64 s3.2.1 (1 : Int))) (fun (a17 : Int) => (again2 (a15, (a17, s3.2.2)))))))))))))))) (some s3.2.2)))) (x.1, (x.2.1, a1)))))))

noncomputable def c_I_power : Con0 := ⟨pk_I_power, rk_I_power, M_I_power⟩

set_option maxRecDepth 100000 in
theorem eq_I_power (x : In pk_I_power) : semF (mkE []) h_I_power (info Try.f126) pk_I_power rk_I_power x = M_I_power x := (semFF_eq _ _ _ _ _ _).symm.trans (by kernel_rfl)

set_option maxRecDepth 100000 in
theorem m_I_power : ConOK Try.prog 126 c_I_power := fn_ok (tyOK _) (E := mkE []) (consOK_nil rfl) Try.func126 (h := h_I_power) (by kernel_rfl) eq_I_power

/-- I_IsValidGroup -/
def pk_I_IsValidGroup : List PK := [.data (.cons (.int .i64) (.cons (.int .i64) (.one (.int .i64))))]
def rk_I_IsValidGroup : List (Ty × Bool) := [(.bool, false)]
def h_I_IsValidGroup : Hints := { loops := [] }
noncomputable def M_I_IsValidGroup (x : (Int × (Int × Int))) : (Option Bool) :=
  (bindO (M_I_within (x.1, ((3 : Int), (2000000000 : Int)))) (fun (a0 : Bool) => (cond a0 (bindO (some (IntKind.wrap .i64 (x.1 - (1 : Int)))) (fun (a1 : Int) => (bindO (M_I_within (x.2.1, ((2 : Int), a1))) (fun (a2 : Bool) => (cond a2 (bindO (some (IntKind.wrap .i64 (x.1 - (1 : Int)))) (fun (a3 : Int) => (bindO (guardO (x.2.1 != (0 : Int))) (fun (a4 : Unit) => (bindO (some (Int.tmod a3 x.2.1)) (fun (a5 : Int) => (cond (a5 == (0 : Int)) (bindO (some (IntKind.wrap .i64 (x.1 - (1 : Int)))) (fun (a6 : Int) => (bindO (M_I_within (x.2.2, ((2 : Int), a6))) (fun (a7 : Bool) => (cond a7 (bindO (M_I_isPrime x.1) (fun (a8 : Bool) => (cond a8 (bindO (M_I_isPrime x.2.1) (fun (a9 : Bool) => (cond a9 (bindO (M_I_power (x.2.2, (x.2.1, x.1))) (fun (a10 : Int) => (some (a10 == (1 : Int))))) (some false)))) (some false)))) (some false)))))) (some false)))))))) (some false)))))) (some false))))

noncomputable def c_I_IsValidGroup : Con0 := ⟨pk_I_IsValidGroup, rk_I_IsValidGroup, M_I_IsValidGroup⟩

set_option maxRecDepth 100000 in
theorem eq_I_IsValidGroup (x : In pk_I_IsValidGroup) : semF (mkE [(64, c_I_within), (125, c_I_isPrime), (126, c_I_power)]) h_I_IsValidGroup (info Try.f74) pk_I_IsValidGroup rk_I_IsValidGroup x = M_I_IsValidGroup x := (semFF_eq _ _ _ _ _ _).symm.trans (by kernel_rfl)

set_option maxRecDepth 100000 in
theorem m_I_IsValidGroup : ConOK Try.prog 74 c_I_IsValidGroup := fn_ok (tyOK _) (E := mkE [(64, c_I_within), (125, c_I_isPrime), (126, c_I_power)]) (consOK_cons m_I_within (consOK_cons m_I_isPrime (consOK_cons m_I_power (consOK_nil rfl)))) Try.func74 (h := h_I_IsValidGroup) (by kernel_rfl) eq_I_IsValidGroup

/-- math_bits_Mul32 -/
def pk_math_bits_Mul32 : List PK := [.data (.int .u32), .data (.int .u32)]
def rk_math_bits_Mul32 : List (Ty × Bool) := [((.int .u32), false), ((.int .u32), false)]
def h_math_bits_Mul32 : Hints := { loops := [] }
noncomputable def M_math_bits_Mul32 (x : (Int × Int)) : (Option (Int × Int)) :=
  (bindO (some (IntKind.wrap .u64 ((IntKind.wrap .u64 x.1) * (IntKind.wrap .u64 x.2)))) (fun (a0 : Int) => (bindO (guardO (decide ((0 : Int) ≤ (32 : Int)))) (fun (a1 : Unit) => (bindO (some (shr .u64 a0 (32 : Int))) (fun (a2 : Int) => (some ((IntKind.wrap .u32 a2), (IntKind.wrap .u32 a0)))))))))

noncomputable def c_math_bits_Mul32 : Con0 := ⟨pk_math_bits_Mul32, rk_math_bits_Mul32, M_math_bits_Mul32⟩

set_option maxRecDepth 100000 in
theorem eq_math_bits_Mul32 (x : In pk_math_bits_Mul32) : semF (mkE []) h_math_bits_Mul32 (info Try.f167) pk_math_bits_Mul32 rk_math_bits_Mul32 x = M_math_bits_Mul32 x := (semFF_eq _ _ _ _ _ _).symm.trans (by kernel_rfl)

set_option maxRecDepth 100000 in
theorem m_math_bits_Mul32 : ConOK Try.prog 167 c_math_bits_Mul32 := fn_ok (tyOK _) (E := mkE []) (consOK_nil rfl) Try.func167 (h := h_math_bits_Mul32) (by kernel_rfl) eq_math_bits_Mul32

/-- math_bits_Mul64 -/
def pk_math_bits_Mul64 : List PK := [.data (.int .u64), .data (.int .u64)]
def rk_math_bits_Mul64 : List (Ty × Bool) := [((.int .u64), false), ((.int .u64), false)]
def h_math_bits_Mul64 : Hints := { loops := [] }
noncomputable def M_math_bits_Mul64 (x : (Int × Int)) : (Option (Int × Int)) :=
  (bindO (some (bits .and .u64 x.1 (4294967295 : Int))) (fun (a0 : Int) => (bindO (guardO (decide ((0 : Int) ≤ (32 : Int)))) (fun (a1 : Unit) => (bindO (some (shr .u64 x.1 (32 : Int))) (fun (a2 : Int) => (bindO (some (bits .and .u64 x.2 (4294967295 : Int))) (fun (a3 : Int) => (bindO (guardO (decide ((0 : Int) ≤ (32 : Int)))) (fun (a4 : Unit) => (bindO (some (shr .u64 x.2 (32 : Int))) (fun (a5 : Int) => (bindO (some (IntKind.wrap .u64 (a0 * a3))) (fun (a6 : Int) => (bindO (some (IntKind.wrap .u64 (a2 * a3))) (fun (a7 : Int) => (bindO (guardO (decide ((0 : Int) ≤ (32 : Int)))) (fun (a8 : Unit) => (bindO (some (shr .u64 a6 (32 : Int))) (fun (a9 : Int) => (bindO (some (IntKind.wrap .u64 (a7 + a9))) (fun (a10 : Int) => (bindO (some (bits .and .u64 a10 (4294967295 : Int))) (fun (a11 : Int) => (bindO (guardO (decide ((0 : Int) ≤ (32 : Int)))) (fun (a12 : Unit) => (bindO (some (shr .u64 a10 (32 : Int))) (fun (a13 : Int) => (bindO (some (IntKind.wrap .u64 (a0 * a5))) (fun (a14 : Int) => (bindO (some (IntKind.wrap .u64 (a11 + a14))) (fun (a15 : Int) => (bindO (some (IntKind.wrap .u64 (a2 * a5))) (fun (a16 : Int) => (bindO (some (IntKind.wrap .u64 (a16 + a13))) (fun (a17 : Int) => (bindO (guardO (decide ((0 : Int) ≤ (32 : Int)))) (fun (a18 : Unit) => (bindO (some (shr .u64 a15 (32 : Int))) (fun (a19 : Int) => (bindO (some (IntKind.wrap .u64 (a17 + a19))) (fun (a20 : Int) => (bindO (some (IntKind.wrap .u64 (x.1 * x.2))) (fun (a21 : Int) => (some (a20, a21))))))))))))))))))))))))))))))))))))))))))))))

noncomputable def c_math_bits_Mul64 : Con0 := ⟨pk_math_bits_Mul64, rk_math_bits_Mul64, M_math_bits_Mul64⟩

set_option maxRecDepth 100000 in
theorem eq_math_bits_Mul64 (x : In pk_math_bits_Mul64) : semF (mkE []) h_math_bits_Mul64 (info Try.f168) pk_math_bits_Mul64 rk_math_bits_Mul64 x = M_math_bits_Mul64 x := (semFF_eq _ _ _ _ _ _).symm.trans (by kernel_rfl)

set_option maxRecDepth 100000 in
theorem m_math_bits_Mul64 : ConOK Try.prog 168 c_math_bits_Mul64 := fn_ok (tyOK _) (E := mkE []) (consOK_nil rfl) Try.func168 (h := h_math_bits_Mul64) (by kernel_rfl) eq_math_bits_Mul64

/-- math_bits_Mul -/
def pk_math_bits_Mul : List PK := [.data (.int .u64), .data (.int .u64)]
def rk_math_bits_Mul : List (Ty × Bool) := [((.int .u64), false), ((.int .u64), false)]
def h_math_bits_Mul : Hints := { loops := [] }
noncomputable def M_math_bits_Mul (x : (Int × Int)) : (Option (Int × Int)) :=
  (bindO (M_math_bits_Mul64 (x.1, x.2)) (fun (a0 : (Int × Int)) => (some (a0.1, a0.2))))

noncomputable def c_math_bits_Mul : Con0 := ⟨pk_math_bits_Mul, rk_math_bits_Mul, M_math_bits_Mul⟩

set_option maxRecDepth 100000 in
theorem eq_math_bits_Mul (x : In pk_math_bits_Mul) : semF (mkE [(167, c_math_bits_Mul32), (168, c_math_bits_Mul64)]) h_math_bits_Mul (info Try.f127) pk_math_bits_Mul rk_math_bits_Mul x = M_math_bits_Mul x := (semFF_eq _ _ _ _ _ _).symm.trans (by kernel_rfl)

set_option maxRecDepth 100000 in
theorem m_math_bits_Mul : ConOK Try.prog 127 c_math_bits_Mul := fn_ok (tyOK _) (E := mkE [(167, c_math_bits_Mul32), (168, c_math_bits_Mul64)]) (consOK_cons m_math_bits_Mul32 (consOK_cons m_math_bits_Mul64 (consOK_nil rfl))) Try.func127 (h := h_math_bits_Mul) (by kernel_rfl) eq_math_bits_Mul

/-- slices_Repeat_sI_Cipher_I_Cipher -/
def pk_slices_Repeat_sI_Cipher_I_Cipher : List PK := [.data (.sl (.cons (.int .i64) (.one (.int .i64)))), .data (.int .i64)]
def rk_slices_Repeat_sI_Cipher_I_Cipher : List (Ty × Bool) := [((.sl (.cons (.int .i64) (.one (.int .i64)))), true)]
def h_slices_Repeat_sI_Cipher_I_Cipher : Hints := { loops := [(0, { items := [.slot 8 (.data (.int .i64) []), .arr 7 (.cons (.int .i64) (.one (.int .i64))) true], kill := sgN 0 7 ++ (sgN 9 39) })] }
noncomputable def M_slices_Repeat_sI_Cipher_I_Cipher (x : ((List (Int × Int)) × Int)) : (Option (List (Int × Int))) :=
  (cond (decide (x.2 < (0 : Int))) (none : Option (List (Int × Int))) (bindO (M_math_bits_Mul ((IntKind.wrap .u64 (((List.length x.1) : Nat) : Int)), (IntKind.wrap .u64 x.2))) (fun (a0 : (Int × Int)) => (cond (decide (a0.1 > (0 : Int))) (none : Option (List (Int × Int))) (cond (decide (a0.2 > (9223372036854775807 : Int))) (none : Option (List (Int × Int))) (bindO (guardO (((decide ((0 : Int) ≤ (IntKind.wrap .i64 a0.2))) && (decide ((IntKind.wrap .i64 a0.2) ≤ (IntKind.wrap .i64 a0.2)))) && (decide ((IntKind.wrap .i64 a0.2) ≤ ((lim : Nat) : Int))))) (fun (a1 : Unit) => (bindO (some (((min (List.length x.1) (List.length (List.replicate (Int.toNat (IntKind.wrap .i64 a0.2)) ((0 : Int), (0 : Int))))) : Nat) : Int)) (fun (a2 : Int) => (loopO (fun (again3 : ((Int × (List (Int × Int))) → (Option (List (Int × Int))))) => (fun (s4 : (Int × (List (Int × Int)))) => (cond (decide (s4.1 < (((List.length s4.2) : Nat) : Int))) (bindO (sliceLN s4.1 (List.length s4.2)) (fun (a5 : (Nat × Nat)) => (bindO (sliceNH s4.1 (List.length s4.2)) (fun (a6 : (Nat × Nat)) => (bindO (some (((min (List.length (List.take a6.2 s4.2)) (List.length (List.drop a5.1 (List.take a5.2 s4.2)))) : Nat) : Int)) (fun (a7 : Int) => (bindO (some (IntKind.wrap .i64 (s4.1 + a7))) (fun (a8 : Int) => (again3 (a8, ((List.take a5.1 s4.2) ++ ((List.take (List.length (List.drop a5.1 (List.take a5.2 s4.2))) (List.take a6.2 s4.2)) ++ (List.drop (a5.1 + (min (List.length (List.take a6.2 s4.2)) (List.length (List.drop a5.1 (List.take a5.2 s4.2))))) s4.2))))))))))))) (some s4.2)))) (a2, ((List.take (List.length (List.replicate (Int.toNat (IntKind.wrap .i64 a0.2)) ((0 : Int), (0 : Int)))) x.1) ++ (List.drop (List.length x.1) (List.replicate (Int.toNat (IntKind.wrap .i64 a0.2)) ((0 : Int), (0 : Int))))))))))))))))

noncomputable def c_slices_Repeat_sI_Cipher_I_Cipher : Con0 := ⟨pk_slices_Repeat_sI_Cipher_I_Cipher, rk_slices_Repeat_sI_Cipher_I_Cipher, M_slices_Repeat_sI_Cipher_I_Cipher⟩

set_option maxRecDepth 100000 in
theorem eq_slices_Repeat_sI_Cipher_I_Cipher (x : In pk_slices_Repeat_sI_Cipher_I_Cipher) : semF (mkE [(127, c_math_bits_Mul)]) h_slices_Repeat_sI_Cipher_I_Cipher (info Try.f75) pk_slices_Repeat_sI_Cipher_I_Cipher rk_slices_Repeat_sI_Cipher_I_Cipher x = M_slices_Repeat_sI_Cipher_I_Cipher x := (semFF_eq _ _ _ _ _ _).symm.trans (by kernel_rfl)

set_option maxRecDepth 100000 in
theorem m_slices_Repeat_sI_Cipher_I_Cipher : ConOK Try.prog 75 c_slices_Repeat_sI_Cipher_I_Cipher := fn_ok (tyOK _) (E := mkE [(127, c_math_bits_Mul)]) (consOK_cons m_math_bits_Mul (consOK_nil rfl)) Try.func75 (h := h_slices_Repeat_sI_Cipher_I_Cipher) (by kernel_rfl) eq_slices_Repeat_sI_Cipher_I_Cipher

/-- slices_IndexFunc_sI_Cipher_I_Cipher -/
def pk_slices_IndexFunc_sI_Cipher_I_Cipher : List PK := [.data (.sl (.cons (.int .i64) (.one (.int .i64)))), .fn [(.cons (.int .i64) (.one (.int .i64)))] .bool]
def rk_slices_IndexFunc_sI_Cipher_I_Cipher : List (Ty × Bool) := [((.int .i64), false)]
def h_slices_IndexFunc_sI_Cipher_I_Cipher : Hints := { loops := [(0, { items := [.slot 8 (.data (.int .i64) [])], kill := sgN 2 5 ++ (sgN 9 10) })] }
noncomputable def M_slices_IndexFunc_sI_Cipher_I_Cipher (x : ((List (Int × Int)) × ((Int × Int) → (Option Bool)))) : (Option Int) :=
  (loopO (fun (again0 : (Int → (Option Int))) => (fun (s1 : Int) => (cond (decide (s1 < (((List.length x.1) : Nat) : Int))) (bindO (getI x.1 s1) (fun (a2 : (Int × Int)) => (bindO (x.2 (a2.1, a2.2)) (fun (a3 : Bool) => (cond a3 (some s1) (bindO (some (IntKind.wrap .i64 (s1 + (1 : Int)))) (fun (a4 : Int) => (again0 a4)))))))) (some (- (1 : Int)))))) (0 : Int))

noncomputable def c_slices_IndexFunc_sI_Cipher_I_Cipher : Con0 := ⟨pk_slices_IndexFunc_sI_Cipher_I_Cipher, rk_slices_IndexFunc_sI_Cipher_I_Cipher, M_slices_IndexFunc_sI_Cipher_I_Cipher⟩

set_option maxRecDepth 100000 in
theorem eq_slices_IndexFunc_sI_Cipher_I_Cipher (x : In pk_slices_IndexFunc_sI_Cipher_I_Cipher) : semF (mkE []) h_slices_IndexFunc_sI_Cipher_I_Cipher (info Try.f169) pk_slices_IndexFunc_sI_Cipher_I_Cipher rk_slices_IndexFunc_sI_Cipher_I_Cipher x = M_slices_IndexFunc_sI_Cipher_I_Cipher x := (semFF_eq _ _ _ _ _ _).symm.trans (by kernel_rfl)

set_option maxRecDepth 100000 in
theorem m_slices_IndexFunc_sI_Cipher_I_Cipher : ConOK Try.prog 169 c_slices_IndexFunc_sI_Cipher_I_Cipher := fn_ok (tyOK _) (E := mkE []) (consOK_nil rfl) Try.func169 (h := h_slices_IndexFunc_sI_Cipher_I_Cipher) (by kernel_rfl) eq_slices_IndexFunc_sI_Cipher_I_Cipher

/-- slices_ContainsFunc_sI_Cipher_I_Cipher -/
def pk_slices_ContainsFunc_sI_Cipher_I_Cipher : List PK := [.data (.sl (.cons (.int .i64) (.one (.int .i64)))), .fn [(.cons (.int .i64) (.one (.int .i64)))] .bool]
def rk_slices_ContainsFunc_sI_Cipher_I_Cipher : List (Ty × Bool) := [(.bool, false)]
def h_slices_ContainsFunc_sI_Cipher_I_Cipher : Hints := { loops := [] }
noncomputable def M_slices_ContainsFunc_sI_Cipher_I_Cipher (x : ((List (Int × Int)) × ((Int × Int) → (Option Bool)))) : (Option Bool) :=
  (bindO (M_slices_IndexFunc_sI_Cipher_I_Cipher (x.1, x.2)) (fun (a0 : Int) => (some (decide (a0 ≥ (0 : Int))))))

noncomputable def c_slices_ContainsFunc_sI_Cipher_I_Cipher : Con0 := ⟨pk_slices_ContainsFunc_sI_Cipher_I_Cipher, rk_slices_ContainsFunc_sI_Cipher_I_Cipher, M_slices_ContainsFunc_sI_Cipher_I_Cipher⟩

set_option maxRecDepth 100000 in
theorem eq_slices_ContainsFunc_sI_Cipher_I_Cipher (x : In pk_slices_ContainsFunc_sI_Cipher_I_Cipher) : semF (mkE [(169, c_slices_IndexFunc_sI_Cipher_I_Cipher)]) h_slices_ContainsFunc_sI_Cipher_I_Cipher (info Try.f128) pk_slices_ContainsFunc_sI_Cipher_I_Cipher rk_slices_ContainsFunc_sI_Cipher_I_Cipher x = M_slices_ContainsFunc_sI_Cipher_I_Cipher x := (semFF_eq _ _ _ _ _ _).symm.trans (by kernel_rfl)

set_option maxRecDepth 100000 in
theorem m_slices_ContainsFunc_sI_Cipher_I_Cipher : ConOK Try.prog 128 c_slices_ContainsFunc_sI_Cipher_I_Cipher := fn_ok (tyOK _) (E := mkE [(169, c_slices_IndexFunc_sI_Cipher_I_Cipher)]) (consOK_cons m_slices_IndexFunc_sI_Cipher_I_Cipher (consOK_nil rfl)) Try.func128 (h := h_slices_ContainsFunc_sI_Cipher_I_Cipher) (by kernel_rfl) eq_slices_ContainsFunc_sI_Cipher_I_Cipher

/-- I_Group_has -/
def pk_I_Group_has : List PK := [.data (.cons (.int .i64) (.cons (.int .i64) (.one (.int .i64)))), .data (.int .i64)]
def rk_I_Group_has : List (Ty × Bool) := [(.bool, false)]
def h_I_Group_has : Hints := { loops := [] }
noncomputable def M_I_Group_has (x : ((Int × (Int × Int)) × Int)) : (Option Bool) :=
  (bindO (some (IntKind.wrap .i64 (x.1.1 - (1 : Int)))) (fun (a0 : Int) => (bindO (M_I_within (x.2, ((1 : Int), a0))) (fun (a1 : Bool) => (cond a1 (bindO (M_I_power (x.2, (x.1.2.1, x.1.1))) (fun (a2 : Int) => (some (a2 == (1 : Int))))) (some false))))))

noncomputable def c_I_Group_has : Con0 := ⟨pk_I_Group_has, rk_I_Group_has, M_I_Group_has⟩

set_option maxRecDepth 100000 in
theorem eq_I_Group_has (x : In pk_I_Group_has) : semF (mkE [(64, c_I_within), (126, c_I_power)]) h_I_Group_has (info Try.f170) pk_I_Group_has rk_I_Group_has x = M_I_Group_has x := (semFF_eq _ _ _ _ _ _).symm.trans (by kernel_rfl)

set_option maxRecDepth 100000 in
theorem m_I_Group_has : ConOK Try.prog 170 c_I_Group_has := fn_ok (tyOK _) (E := mkE [(64, c_I_within), (126, c_I_power)]) (consOK_cons m_I_within (consOK_cons m_I_power (consOK_nil rfl))) Try.func170 (h := h_I_Group_has) (by kernel_rfl) eq_I_Group_has

/-- I_Group_hasCipher -/
def pk_I_Group_hasCipher : List PK := [.data (.cons (.int .i64) (.cons (.int .i64) (.one (.int .i64)))), .data (.cons (.int .i64) (.one (.int .i64)))]
def rk_I_Group_hasCipher : List (Ty × Bool) := [(.bool, false)]
def h_I_Group_hasCipher : Hints := { loops := [] }
noncomputable def M_I_Group_hasCipher (x : ((Int × (Int × Int)) × (Int × Int))) : (Option Bool) :=
  (bindO (M_I_Group_has ((x.1.1, (x.1.2.1, x.1.2.2)), x.2.1)) (fun (a0 : Bool) => (cond a0 (bindO (M_I_Group_has ((x.1.1, (x.1.2.1, x.1.2.2)), x.2.2)) (fun (a1 : Bool) => (some a1))) (some false))))

noncomputable def c_I_Group_hasCipher : Con0 := ⟨pk_I_Group_hasCipher, rk_I_Group_hasCipher, M_I_Group_hasCipher⟩

set_option maxRecDepth 100000 in
theorem eq_I_Group_hasCipher (x : In pk_I_Group_hasCipher) : semF (mkE [(170, c_I_Group_has)]) h_I_Group_hasCipher (info Try.f130) pk_I_Group_hasCipher rk_I_Group_hasCipher x = M_I_Group_hasCipher x := (semFF_eq _ _ _ _ _ _).symm.trans (by kernel_rfl)

set_option maxRecDepth 100000 in
theorem m_I_Group_hasCipher : ConOK Try.prog 130 c_I_Group_hasCipher := fn_ok (tyOK _) (E := mkE [(170, c_I_Group_has)]) (consOK_cons m_I_Group_has (consOK_nil rfl)) Try.func130 (h := h_I_Group_hasCipher) (by kernel_rfl) eq_I_Group_hasCipher

/-- I_Group_hasCiphers_1 -/
def pk_I_Group_hasCiphers_1 : List PK := [.data (.cons (.int .i64) (.one (.int .i64))), .rp (.cons (.int .i64) (.cons (.int .i64) (.one (.int .i64))))]
def rk_I_Group_hasCiphers_1 : List (Ty × Bool) := [(.bool, false)]
def h_I_Group_hasCiphers_1 : Hints := { loops := [] }
noncomputable def M_I_Group_hasCiphers_1 (x : ((Int × Int) × (Int × (Int × Int)))) : (Option Bool) :=
  (bindO (M_I_Group_hasCipher ((x.2.1, (x.2.2.1, x.2.2.2)), (x.1.1, x.1.2))) (fun (a0 : Bool) => (some (not a0))))

noncomputable def c_I_Group_hasCiphers_1 : Con0 := ⟨pk_I_Group_hasCiphers_1, rk_I_Group_hasCiphers_1, M_I_Group_hasCiphers_1⟩

set_option maxRecDepth 100000 in
theorem eq_I_Group_hasCiphers_1 (x : In pk_I_Group_hasCiphers_1) : semF (mkE [(130, c_I_Group_hasCipher)]) h_I_Group_hasCiphers_1 (info Try.f129) pk_I_Group_hasCiphers_1 rk_I_Group_hasCiphers_1 x = M_I_Group_hasCiphers_1 x := (semFF_eq _ _ _ _ _ _).symm.trans (by kernel_rfl)

set_option maxRecDepth 100000 in
theorem m_I_Group_hasCiphers_1 : ConOK Try.prog 129 c_I_Group_hasCiphers_1 := fn_ok (tyOK _) (E := mkE [(130, c_I_Group_hasCipher)]) (consOK_cons m_I_Group_hasCipher (consOK_nil rfl)) Try.func129 (h := h_I_Group_hasCiphers_1) (by kernel_rfl) eq_I_Group_hasCiphers_1

/-- I_Group_hasCiphers -/
def pk_I_Group_hasCiphers : List PK := [.data (.cons (.int .i64) (.cons (.int .i64) (.one (.int .i64)))), .data (.sl (.cons (.int .i64) (.one (.int .i64))))]
def rk_I_Group_hasCiphers : List (Ty × Bool) := [(.bool, false)]
def h_I_Group_hasCiphers : Hints := { loops := [] }
noncomputable def M_I_Group_hasCiphers (x : ((Int × (Int × Int)) × (List (Int × Int)))) : (Option Bool) :=
  (cond (decide ((((List.length x.2) : Nat) : Int) ≤ (24 : Int))) (bindO (M_slices_ContainsFunc_sI_Cipher_I_Cipher (x.2, (fun (a0 : (Int × Int)) => (bindO (M_I_Group_hasCiphers_1 (a0, (x.1.1, (x.1.2.1, x.1.2.2)))) (fun (a1 : Bool) => (some a1)))))) (fun (a2 : Bool) => (some (not a2)))) (some false))

noncomputable def c_I_Group_hasCiphers : Con0 := ⟨pk_I_Group_hasCiphers, rk_I_Group_hasCiphers, M_I_Group_hasCiphers⟩

set_option maxRecDepth 100000 in
theorem eq_I_Group_hasCiphers (x : In pk_I_Group_hasCiphers) : semF (mkE [(128, c_slices_ContainsFunc_sI_Cipher_I_Cipher), (129, c_I_Group_hasCiphers_1)]) h_I_Group_hasCiphers (info Try.f76) pk_I_Group_hasCiphers rk_I_Group_hasCiphers x = M_I_Group_hasCiphers x := (semFF_eq _ _ _ _ _ _).symm.trans (by kernel_rfl)

set_option maxRecDepth 100000 in
theorem m_I_Group_hasCiphers : ConOK Try.prog 76 c_I_Group_hasCiphers := fn_ok (tyOK _) (E := mkE [(128, c_slices_ContainsFunc_sI_Cipher_I_Cipher), (129, c_I_Group_hasCiphers_1)]) (consOK_cons m_slices_ContainsFunc_sI_Cipher_I_Cipher (consOK_cons m_I_Group_hasCiphers_1 (consOK_nil rfl))) Try.func76 (h := h_I_Group_hasCiphers) (by kernel_rfl) eq_I_Group_hasCiphers

/-- I_Group_mul -/
def pk_I_Group_mul : List PK := [.data (.cons (.int .i64) (.cons (.int .i64) (.one (.int .i64)))), .data (.sl (.int .i64))]
def rk_I_Group_mul : List (Ty × Bool) := [((.int .i64), false)]
def h_I_Group_mul : Hints := { loops := [(0, { items := [.slot 5 (.data (.int .i64) []), .slot 10 (.data (.int .i64) [])], kill := [0, 1, 3, 4, 6, 7] ++ (sgN 11 11) })] }
noncomputable def M_I_Group_mul (x : ((Int × (Int × Int)) × (List Int))) : (Option Int) :=
  (loopO (fun (again0 : ((Int × Int) → (Option Int))) => (fun (s1 : (Int × Int)) => (cond (decide (s1.2 < (((List.length x.2) : Nat) : Int))) (bindO (getI x.2 s1.2) (fun (a2 : Int) => (bindO (some (IntKind.wrap .i64 (s1.1 * a2))) (fun (a3 : Int) => (bindO (guardO (x.1.1 != (0 : Int))) (fun (a4 : Unit) => (bindO (some (Int.tmod a3 x.1.1)) (fun (a5 : Int) => (bindO (some (IntKind.wrap .i64 (s1.2 + (1 : Int)))) (fun (a6 : Int) => (again0 (a5, a6)))))))))))) (some s1.1)))) ((1 : Int), (0 : Int)))

noncomputable def c_I_Group_mul : Con0 := ⟨pk_I_Group_mul, rk_I_Group_mul, M_I_Group_mul⟩

set_option maxRecDepth 100000 in
theorem eq_I_Group_mul (x : In pk_I_Group_mul) : semF (mkE []) h_I_Group_mul (info Try.f131) pk_I_Group_mul rk_I_Group_mul x = M_I_Group_mul x := (semFF_eq _ _ _ _ _ _).symm.trans (by kernel_rfl)

set_option maxRecDepth 100000 in
theorem m_I_Group_mul : ConOK Try.prog 131 c_I_Group_mul := fn_ok (tyOK _) (E := mkE []) (consOK_nil rfl) Try.func131 (h := h_I_Group_mul) (by kernel_rfl) eq_I_Group_mul

/-- I_Group_mulTwo -/
def pk_I_Group_mulTwo : List PK := [.data (.cons (.int .i64) (.cons (.int .i64) (.one (.int .i64)))), .data (.cons (.int .i64) (.one (.int .i64))), .data (.cons (.int .i64) (.one (.int .i64)))]
def rk_I_Group_mulTwo : List (Ty × Bool) := [((.cons (.int .i64) (.one (.int .i64))), false)]
def h_I_Group_mulTwo : Hints := { loops := [] }
noncomputable def M_I_Group_mulTwo (x : ((Int × (Int × Int)) × ((Int × Int) × (Int × Int)))) : (Option (Int × Int)) :=
  (bindO (M_I_Group_mul ((x.1.1, (x.1.2.1, x.1.2.2)), (x.2.1.1 :: (x.2.2.1 :: ([] : List Int))))) (fun (a0 : Int) => (bindO (M_I_Group_mul ((x.1.1, (x.1.2.1, x.1.2.2)), (x.2.1.2 :: (x.2.2.2 :: ([] : List Int))))) (fun (a1 : Int) => (some (a0, a1))))))

noncomputable def c_I_Group_mulTwo : Con0 := ⟨pk_I_Group_mulTwo, rk_I_Group_mulTwo, M_I_Group_mulTwo⟩

set_option maxRecDepth 100000 in
theorem eq_I_Group_mulTwo (x : In pk_I_Group_mulTwo) : semF (mkE [(131, c_I_Group_mul)]) h_I_Group_mulTwo (info Try.f77) pk_I_Group_mulTwo rk_I_Group_mulTwo x = M_I_Group_mulTwo x := (semFF_eq _ _ _ _ _ _).symm.trans (by kernel_rfl)

set_option maxRecDepth 100000 in
theorem m_I_Group_mulTwo : ConOK Try.prog 77 c_I_Group_mulTwo := fn_ok (tyOK _) (E := mkE [(131, c_I_Group_mul)]) (consOK_cons m_I_Group_mul (consOK_nil rfl)) Try.func77 (h := h_I_Group_mulTwo) (by kernel_rfl) eq_I_Group_mulTwo

/-- I_HomomorphicTally -/
def pk_I_HomomorphicTally : List PK := [.data (.cons (.int .i64) (.cons (.int .i64) (.one (.int .i64)))), .data (.sl (.sl (.cons (.int .i64) (.one (.int .i64)))))]
def rk_I_HomomorphicTally : List (Ty × Bool) := [((.sl (.cons (.int .i64) (.one (.int .i64)))), true), (.bool, false)]
def h_I_HomomorphicTally : Hints := { loops := [(0, { items := [.slot 36 (.data (.int .i64) []), .arr 6 (.cons (.int .i64) (.one (.int .i64))) true], kill := [0, 1, 3, 4, 5] ++ (sgN 7 27 ++ (sgN 37 34)) }), (2, { items := [.slot 53 (.data (.int .i64) []), .arr 6 (.cons (.int .i64) (.one (.int .i64))) true], kill := [0, 1, 3, 4, 5] ++ (sgN 7 27 ++ (sgN 37 14 ++ (sgN 54 17))) })] }
noncomputable def M_I_HomomorphicTally (x : ((Int × (Int × Int)) × (List (List (Int × Int))))) : (Option ((List (Int × Int)) × Bool)) :=
  (bindO (M_I_IsValidGroup (x.1.1, (x.1.2.1, x.1.2.2))) (fun (a0 : Bool) => (cond (not a0) (some (([] : List (Int × Int)), false)) (bindO (M_I_within ((((List.length x.2) : Nat) : Int), ((1 : Int), (24 : Int)))) (fun (a1 : Bool) => (cond (not a1) (some (([] : List (Int × Int)), false)) (bindO (getI x.2 (0 : Int)) (fun (a2 : (List (Int × Int))) => (cond ((((List.length a2) : Nat) : Int) == (0 : Int)) (some (([] : List (Int × Int)), false)) (bindO (getI x.2 (0 : Int)) (fun (a3 : (List (Int × Int))) => (bindO (M_slices_Repeat_sI_Cipher_I_Cipher ((((1 : Int), (1 : Int)) :: ([] : List (Int × Int))), (((List.length a3) : Nat) : Int))) (fun (a4 : (List (Int × Int))) => (loopO (fun (again5 : ((Int × (List (Int × Int))) → (Option ((List (Int × Int)) × Bool)))) => (fun (s6 : (Int × (List (Int × Int)))) => (cond (decide (s6.1 < (((List.length x.2) : Nat) : Int))) (bindO (getI x.2 s6.1) (fun (a7 : (List (Int × Int))) => (cond ((((List.length a7) : Nat) : Int) != (((List.length s6.2) : Nat) : Int)) (some (([] : List (Int × Int)), false)) (bindO (M_I_Group_hasCiphers ((x.1.1, (x.1.2.1, x.1.2.2)), a7)) (fun (a8 : Bool) => (cond (not a8) (some (([] : List (Int × Int)), false)) (loopO (fun (again9 : ((Int × (List (Int × Int))) → (Option ((List (Int × Int)) × Bool)))) => (fun (s10 : (Int × (List (Int × Int)))) => (cond (decide (s10.1 < (((List.length a7) : Nat) : Int))) (bindO (getI a7 s10.1) (fun (a11 : (Int × Int)) => (bindO (getI s10.2 s10.1) (fun (a12 : (Int × Int)) => (bindO (M_I_Group_mulTwo ((x.1.1, (x.1.2.1, x.1.2.2)), ((a12.1, a12.2), (a11.1, a11.2)))) (fun (a13 : (Int × Int)) => (bindO (getI s10.2 s10.1) (fun (a14 : (Int × Int)) => (bindO (some (List.set s10.2 (Int.toNat s10.1) (a13.1, a13.2))) (fun (a15 : (List (Int × Int))) => (bindO (some (IntKind.wrap .i64 (s10.1 + (1 : Int)))) (fun (a16 : Int) => (again9 (a16, a15)))))))))))))) (bindO (some (IntKind.wrap .i64 (s6.1 + (1 : Int)))) (fun (a17 : Int) => (again5 (a17, s10.2))))))) ((0 : Int), s6.2)))))))) (some (s6.2, true))))) ((0 : Int), a4)))))))))))))))

noncomputable def c_I_HomomorphicTally : Con0 := ⟨pk_I_HomomorphicTally, rk_I_HomomorphicTally, M_I_HomomorphicTally⟩

set_option maxRecDepth 100000 in
theorem eq_I_HomomorphicTally (x : In pk_I_HomomorphicTally) : semF (mkE [(74, c_I_IsValidGroup), (64, c_I_within), (75, c_slices_Repeat_sI_Cipher_I_Cipher), (76, c_I_Group_hasCiphers), (77, c_I_Group_mulTwo)]) h_I_HomomorphicTally (info Try.f19) pk_I_HomomorphicTally rk_I_HomomorphicTally x = M_I_HomomorphicTally x := (semFF_eq _ _ _ _ _ _).symm.trans (by kernel_rfl)

set_option maxRecDepth 100000 in
theorem m_I_HomomorphicTally : ConOK Try.prog 19 c_I_HomomorphicTally := fn_ok (tyOK _) (E := mkE [(74, c_I_IsValidGroup), (64, c_I_within), (75, c_slices_Repeat_sI_Cipher_I_Cipher), (76, c_I_Group_hasCiphers), (77, c_I_Group_mulTwo)]) (consOK_cons m_I_IsValidGroup (consOK_cons m_I_within (consOK_cons m_slices_Repeat_sI_Cipher_I_Cipher (consOK_cons m_I_Group_hasCiphers (consOK_cons m_I_Group_mulTwo (consOK_nil rfl)))))) Try.func19 (h := h_I_HomomorphicTally) (by kernel_rfl) eq_I_HomomorphicTally

/-- L_eqCipher -/
def pk_L_eqCipher : List PK := [.data (.cons (.int .i64) (.one (.int .i64))), .data (.cons (.int .i64) (.one (.int .i64)))]
def rk_L_eqCipher : List (Ty × Bool) := [(.bool, false)]
def h_L_eqCipher : Hints := { loops := [] }
noncomputable def M_L_eqCipher (x : ((Int × Int) × (Int × Int))) : (Option Bool) :=
  (cond (x.1.1 != x.2.1) (some false) (cond (x.1.2 != x.2.2) (some false) (some true)))

noncomputable def c_L_eqCipher : Con0 := ⟨pk_L_eqCipher, rk_L_eqCipher, M_L_eqCipher⟩

set_option maxRecDepth 100000 in
theorem eq_L_eqCipher (x : In pk_L_eqCipher) : semF (mkE []) h_L_eqCipher (info Try.f78) pk_L_eqCipher rk_L_eqCipher x = M_L_eqCipher x := (semFF_eq _ _ _ _ _ _).symm.trans (by kernel_rfl)

set_option maxRecDepth 100000 in
theorem m_L_eqCipher : ConOK Try.prog 78 c_L_eqCipher := fn_ok (tyOK _) (E := mkE []) (consOK_nil rfl) Try.func78 (h := h_L_eqCipher) (by kernel_rfl) eq_L_eqCipher

/-- L_eqCipherS -/
def pk_L_eqCipherS : List PK := [.data (.sl (.cons (.int .i64) (.one (.int .i64)))), .data (.sl (.cons (.int .i64) (.one (.int .i64))))]
def rk_L_eqCipherS : List (Ty × Bool) := [(.bool, false)]
def h_L_eqCipherS : Hints := { loops := [(0, { items := [.slot 5 (.data (.int .i64) [])], kill := [2, 3, 4] ++ (sgN 6 21) })] }
noncomputable def M_L_eqCipherS (x : ((List (Int × Int)) × (List (Int × Int)))) : (Option Bool) :=
  (cond ((((List.length x.1) : Nat) : Int) != (((List.length x.2) : Nat) : Int)) (some false) (loopO (fun (again0 : (Int → (Option Bool))) => (fun (s1 : Int) => (cond (decide (s1 < (((List.length x.1) : Nat) : Int))) (bindO (getI x.1 s1) (fun (a2 : (Int × Int)) => (bindO (getI x.2 s1) (fun (a3 : (Int × Int)) => (bindO (M_L_eqCipher ((a2.1, a2.2), (a3.1, a3.2))) (fun (a4 : Bool) => (cond (not a4) (some false) (bindO (some (IntKind.wrap .i64 (s1 + (1 : Int)))) (fun (a5 : Int) => (again0 a5)))))))))) (some true)))) (0 : Int)))

noncomputable def c_L_eqCipherS : Con0 := ⟨pk_L_eqCipherS, rk_L_eqCipherS, M_L_eqCipherS⟩

set_option maxRecDepth 100000 in
theorem eq_L_eqCipherS (x : In pk_L_eqCipherS) : semF (mkE [(78, c_L_eqCipher)]) h_L_eqCipherS (info Try.f20) pk_L_eqCipherS rk_L_eqCipherS x = M_L_eqCipherS x := (semFF_eq _ _ _ _ _ _).symm.trans (by kernel_rfl)

set_option maxRecDepth 100000 in
theorem m_L_eqCipherS : ConOK Try.prog 20 c_L_eqCipherS := fn_ok (tyOK _) (E := mkE [(78, c_L_eqCipher)]) (consOK_cons m_L_eqCipher (consOK_nil rfl)) Try.func20 (h := h_L_eqCipherS) (by kernel_rfl) eq_L_eqCipherS

/-- L_eqCipherSS -/
def pk_L_eqCipherSS : List PK := [.data (.sl (.sl (.cons (.int .i64) (.one (.int .i64))))), .data (.sl (.sl (.cons (.int .i64) (.one (.int .i64)))))]
def rk_L_eqCipherSS : List (Ty × Bool) := [(.bool, false)]
def h_L_eqCipherSS : Hints := { loops := [(0, { items := [.slot 5 (.data (.int .i64) [])], kill := [2, 3, 4] ++ (sgN 6 21) })] }
noncomputable def M_L_eqCipherSS (x : ((List (List (Int × Int))) × (List (List (Int × Int))))) : (Option Bool) :=
  (cond ((((List.length x.1) : Nat) : Int) != (((List.length x.2) : Nat) : Int)) (some false) (loopO (fun (again0 : (Int → (Option Bool))) => (fun (s1 : Int) => (cond (decide (s1 < (((List.length x.1) : Nat) : Int))) (bindO (getI x.1 s1) (fun (a2 : (List (Int × Int))) => (bindO (getI x.2 s1) (fun (a3 : (List (Int × Int))) => (bindO (M_L_eqCipherS (a2, a3)) (fun (a4 : Bool) => (cond (not a4) (some false) (bindO (some (IntKind.wrap .i64 (s1 + (1 : Int)))) (fun (a5 : Int) => (again0 a5)))))))))) (some true)))) (0 : Int)))

noncomputable def c_L_eqCipherSS : Con0 := ⟨pk_L_eqCipherSS, rk_L_eqCipherSS, M_L_eqCipherSS⟩

set_option maxRecDepth 100000 in
theorem eq_L_eqCipherSS (x : In pk_L_eqCipherSS) : semF (mkE [(20, c_L_eqCipherS)]) h_L_eqCipherSS (info Try.f21) pk_L_eqCipherSS rk_L_eqCipherSS x = M_L_eqCipherSS x := (semFF_eq _ _ _ _ _ _).symm.trans (by kernel_rfl)

set_option maxRecDepth 100000 in
theorem m_L_eqCipherSS : ConOK Try.prog 21 c_L_eqCipherSS := fn_ok (tyOK _) (E := mkE [(20, c_L_eqCipherS)]) (consOK_cons m_L_eqCipherS (consOK_nil rfl)) Try.func21 (h := h_L_eqCipherSS) (by kernel_rfl) eq_L_eqCipherSS

/-- L_markCipherS -/
def pk_L_markCipherS : List PK := [.mv (.sl (.cons (.int .i64) (.one (.int .i64)))), .data (.int .i64)]
def rk_L_markCipherS : List (Ty × Bool) := [((.int .i64), false)]
def h_L_markCipherS : Hints := { loops := [(0, { items := [.slot 1 (.data (.int .i64) []), .slot 5 (.data (.int .i64) []), .arr 0 (.cons (.int .i64) (.one (.int .i64))) true], kill := [2, 3, 4] ++ (sgN 6 21) })] }
noncomputable def M_L_markCipherS (x : ((List (Int × Int)) × Int)) : (Option (Int × (List (Int × Int)))) :=
  (loopO (fun (again0 : ((Int × (Int × (List (Int × Int)))) → (Option (Int × (List (Int × Int)))))) => (fun (s1 : (Int × (Int × (List (Int × Int))))) => (cond (decide (s1.2.1 < (((List.length s1.2.2) : Nat) : Int))) (bindO (getI s1.2.2 s1.2.1) (fun (a2 : (Int × Int)) => (bindO (some (List.set s1.2.2 (Int.toNat s1.2.1) (s1.1, a2.2))) (fun (a3 : (List (Int × Int))) => (bindO (some (IntKind.wrap .i64 (s1.1 + (1 : Int)))) (fun (a4 : Int) => (bindO (getI a3 s1.2.1) (fun (a5 : (Int × Int)) => (bindO (some (List.set a3 (Int.toNat s1.2.1) (a5.1, a4))) (fun (a6 : (List (Int × Int))) => (bindO (some (IntKind.wrap .i64 (a4 + (1 : Int)))) (fun (a7 : Int) => (bindO (some (IntKind.wrap .i64 (s1.2.1 + (1 : Int)))) (fun (a8 : Int) => (again0 (a7, (a8, a6))))))))))))))))) (some (s1.1, s1.2.2))))) (x.2, ((0 : Int), x.1)))

noncomputable def c_L_markCipherS : Con0 := ⟨pk_L_markCipherS, rk_L_markCipherS, M_L_markCipherS⟩

set_option maxRecDepth 100000 in
theorem eq_L_markCipherS (x : In pk_L_markCipherS) : semF (mkE []) h_L_markCipherS (info Try.f23) pk_L_markCipherS rk_L_markCipherS x = M_L_markCipherS x := (semFF_eq _ _ _ _ _ _).symm.trans (by kernel_rfl)

set_option maxRecDepth 100000 in
theorem m_L_markCipherS : ConOK Try.prog 23 c_L_markCipherS := fn_ok (tyOK _) (E := mkE []) (consOK_nil rfl) Try.func23 (h := h_L_markCipherS) (by kernel_rfl) eq_L_markCipherS

/-- L_markCipherSS -/
def pk_L_markCipherSS : List PK := [.mv (.sl (.sl (.cons (.int .i64) (.one (.int .i64))))), .data (.int .i64)]
def rk_L_markCipherSS : List (Ty × Bool) := [((.int .i64), false)]
def h_L_markCipherSS : Hints := { loops := [(0, { items := [.slot 1 (.data (.int .i64) []), .slot 5 (.data (.int .i64) []), .arr 0 (.sl (.cons (.int .i64) (.one (.int .i64)))) true], kill := [2, 3, 4] ++ (sgN 6 13) })] }
noncomputable def M_L_markCipherSS (x : ((List (List (Int × Int))) × Int)) : (Option (Int × (List (List (Int × Int))))) :=
  (loopO (fun (again0 : ((Int × (Int × (List (List (Int × Int))))) → (Option (Int × (List (List (Int × Int))))))) => (fun (s1 : (Int × (Int × (List (List (Int × Int)))))) => (cond (decide (s1.2.1 < (((List.length s1.2.2) : Nat) : Int))) (bindO (getI s1.2.2 s1.2.1) (fun (a2 : (List (Int × Int))) => (bindO (M_L_markCipherS (a2, s1.1)) (fun (a3 : (Int × (List (Int × Int)))) => (bindO (some (IntKind.wrap .i64 (s1.2.1 + (1 : Int)))) (fun (a4 : Int) => (again0 (a3.1, (a4, (List.modify s1.2.2 (Int.toNat s1.2.1) (fun (a5 : (List (Int × Int))) => a3.2))))))))))) (some (s1.1, s1.2.2))))) (x.2, ((0 : Int), x.1)))

noncomputable def c_L_markCipherSS : Con0 := ⟨pk_L_markCipherSS, rk_L_markCipherSS, M_L_markCipherSS⟩

set_option maxRecDepth 100000 in
theorem eq_L_markCipherSS (x : In pk_L_markCipherSS) : semF (mkE [(23, c_L_markCipherS)]) h_L_markCipherSS (info Try.f22) pk_L_markCipherSS rk_L_markCipherSS x = M_L_markCipherSS x := (semFF_eq _ _ _ _ _ _).symm.trans (by kernel_rfl)

set_option maxRecDepth 100000 in
theorem m_L_markCipherSS : ConOK Try.prog 22 c_L_markCipherSS := fn_ok (tyOK _) (E := mkE [(23, c_L_markCipherS)]) (consOK_cons m_L_markCipherS (consOK_nil rfl)) Try.func22 (h := h_L_markCipherSS) (by kernel_rfl) eq_L_markCipherSS

/-- L_heldCipherS -/
def pk_L_heldCipherS : List PK := [.data (.sl (.cons (.int .i64) (.one (.int .i64)))), .data (.int .i64)]
def rk_L_heldCipherS : List (Ty × Bool) := [((.int .i64), false)]
def h_L_heldCipherS : Hints := { loops := [(0, { items := [.slot 1 (.data (.int .i64) []), .slot 5 (.data (.int .i64) [])], kill := [2, 3, 4] ++ (sgN 6 25) })] }
noncomputable def M_L_heldCipherS (x : ((List (Int × Int)) × Int)) : (Option Int) :=
  (loopO (fun (again0 : ((Int × Int) → (Option Int))) => (fun (s1 : (Int × Int)) => (cond (decide (s1.2 < (((List.length x.1) : Nat) : Int))) (bindO (getI x.1 s1.2) (fun (a2 : (Int × Int)) => (cond (a2.1 != s1.1) (some (- (1 : Int))) (bindO (some (IntKind.wrap .i64 (s1.1 + (1 : Int)))) (fun (a3 : Int) => (bindO (getI x.1 s1.2) (fun (a4 : (Int × Int)) => (cond (a4.2 != a3) (some (- (1 : Int))) (bindO (some (IntKind.wrap .i64 (a3 + (1 : Int)))) (fun (a5 : Int) => (bindO (some (IntKind.wrap .i64 (s1.2 + (1 : Int)))) (fun (a6 : Int) => (again0 (a5, a6)))))))))))))) (some s1.1)))) (x.2, (0 : Int)))

noncomputable def c_L_heldCipherS : Con0 := ⟨pk_L_heldCipherS, rk_L_heldCipherS, M_L_heldCipherS⟩

set_option maxRecDepth 100000 in
theorem eq_L_heldCipherS (x : In pk_L_heldCipherS) : semF (mkE []) h_L_heldCipherS (info Try.f24) pk_L_heldCipherS rk_L_heldCipherS x = M_L_heldCipherS x := (semFF_eq _ _ _ _ _ _).symm.trans (by kernel_rfl)

set_option maxRecDepth 100000 in
theorem m_L_heldCipherS : ConOK Try.prog 24 c_L_heldCipherS := fn_ok (tyOK _) (E := mkE []) (consOK_nil rfl) Try.func24 (h := h_L_heldCipherS) (by kernel_rfl) eq_L_heldCipherS

/-- L_FnExactHomomorphicTally -/
def pk_L_FnExactHomomorphicTally : List PK := [.data (.cons (.int .i64) (.cons (.int .i64) (.one (.int .i64)))), .data (.sl (.sl (.cons (.int .i64) (.one (.int .i64)))))]
def rk_L_FnExactHomomorphicTally : List (Ty × Bool) := [(.bool, false)]
def h_L_FnExactHomomorphicTally : Hints := { loops := [] }
noncomputable def M_L_FnExactHomomorphicTally (x : ((Int × (Int × Int)) × (List (List (Int × Int))))) : (Option Bool) :=
  (bindO (M_L_szCipherSS (x.2, (1048576 : Int))) (fun (a0 : Int) => (cond (decide (a0 < (0 : Int))) (some true) (bindO (M_L_toGroup (x.1.1, (x.1.2.1, x.1.2.2))) (fun (a1 : (Int × (Int × Int))) => (bindO (M_L_toCipherSS x.2) (fun (a2 : (List (List (Int × Int)))) => (bindO (M_S_HomomorphicTally ((a1.1, (a1.2.1, a1.2.2)), a2)) (fun (a3 : ((List (Int × Int)) × Bool)) => (bindO (M_L_toCipherSS x.2) (fun (a4 : (List (List (Int × Int)))) => (bindO (M_L_toGroup (x.1.1, (x.1.2.1, x.1.2.2))) (fun (a5 : (Int × (Int × Int))) => (bindO (M_I_HomomorphicTally ((a5.1, (a5.2.1, a5.2.2)), a4)) (fun (a6 : ((List (Int × Int)) × Bool)) => (bindO (M_L_eqCipherS (a6.1, a3.1)) (fun (a7 : Bool) => (cond (not a7) (some false) (cond (not (a6.2 == a3.2)) (some false) (bindO (M_L_toCipherSS x.2) (fun (a8 : (List (List (Int × Int)))) => (bindO (M_L_eqCipherSS (a4, a8)) (fun (a9 : Bool) => (cond (not a9) (some false) (bindO (M_L_markCipherSS (a4, (1 : Int))) (fun (a10 : (Int × (List (List (Int × Int))))) => (cond (decide (a10.1 < (0 : Int))) (some false) (bindO (M_L_eqCipherS (a6.1, a3.1)) (fun (a11 : Bool) => (cond (not a11) (some false) (cond (not (a6.2 == a3.2)) (some false) (bindO (M_L_markCipherS (a6.1, (1 : Int))) (fun (a12 : (Int × (List (Int × Int)))) => (bindO (M_L_heldCipherS (a12.2, (1 : Int))) (fun (a13 : Int) => (cond (decide (a13 < (0 : Int))) (some false) (cond (a13 != a12.1) (some false) (bindO (M_L_toGroup (x.1.1, (x.1.2.1, x.1.2.2))) (fun (a14 : (Int × (Int × Int))) => (bindO (M_L_toCipherSS x.2) (fun (a15 : (List (List (Int × Int)))) => (bindO (M_I_HomomorphicTally ((a14.1, (a14.2.1, a14.2.2)), a15)) (fun (a16 : ((List (Int × Int)) × Bool)) => (bindO (M_L_eqCipherS (a16.1, a3.1)) (fun (a17 : Bool) => (cond (not a17) (some false) (cond (not (a16.2 == a3.2)) (some false) (bindO (M_L_heldCipherS (a12.2, (1 : Int))) (fun (a18 : Int) => (cond (decide (a18 < (0 : Int))) (some false) (cond (a18 != a12.1) (some false) (some true))))))))))))))))))))))))))))))))))))))))))))))))))))

noncomputable def c_L_FnExactHomomorphicTally : Con0 := ⟨pk_L_FnExactHomomorphicTally, rk_L_FnExactHomomorphicTally, M_L_FnExactHomomorphicTally⟩

set_option maxRecDepth 100000 in
theorem eq_L_FnExactHomomorphicTally (x : In pk_L_FnExactHomomorphicTally) : semF (mkE [(15, c_L_szCipherSS), (17, c_L_toGroup), (18, c_L_toCipherSS), (16, c_S_HomomorphicTally), (19, c_I_HomomorphicTally), (20, c_L_eqCipherS), (21, c_L_eqCipherSS), (22, c_L_markCipherSS), (23, c_L_markCipherS), (24, c_L_heldCipherS)]) h_L_FnExactHomomorphicTally (info Try.f4) pk_L_FnExactHomomorphicTally rk_L_FnExactHomomorphicTally x = M_L_FnExactHomomorphicTally x := (semFF_eq _ _ _ _ _ _).symm.trans (by kernel_rfl)

set_option maxRecDepth 100000 in
theorem m_L_FnExactHomomorphicTally : ConOK Try.prog 4 c_L_FnExactHomomorphicTally := fn_ok (tyOK _) (E := mkE [(15, c_L_szCipherSS), (17, c_L_toGroup), (18, c_L_toCipherSS), (16, c_S_HomomorphicTally), (19, c_I_HomomorphicTally), (20, c_L_eqCipherS), (21, c_L_eqCipherSS), (22, c_L_markCipherSS), (23, c_L_markCipherS), (24, c_L_heldCipherS)]) (consOK_cons m_L_szCipherSS (consOK_cons m_L_toGroup (consOK_cons m_L_toCipherSS (consOK_cons m_S_HomomorphicTally (consOK_cons m_I_HomomorphicTally (consOK_cons m_L_eqCipherS (consOK_cons m_L_eqCipherSS (consOK_cons m_L_markCipherSS (consOK_cons m_L_markCipherS (consOK_cons m_L_heldCipherS (consOK_nil rfl))))))))))) Try.func4 (h := h_L_FnExactHomomorphicTally) (by kernel_rfl) eq_L_FnExactHomomorphicTally

end Go.Proofs.Ytgjneigkkgaaiaa.Vd
