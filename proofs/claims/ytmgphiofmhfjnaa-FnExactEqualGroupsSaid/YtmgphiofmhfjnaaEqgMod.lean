/- The functions of the law as plain functions on data, and that the program's functions are these. No conditions. -/
import Derived.Test.YtmgphiofmhfjnaaVd3
import Derived.Test.YtmgphiofmhfjnaaChecked
import Derived.KernelRfl
set_option linter.unusedVariables false
namespace Go.Proofs.Ytmgphiofmhfjnaa.Vd
def tys : List (Option Ty) := [none, none, some (.int .i64), some (.int .i64), some .bool, some (.int .u8), some (.int .u8), some (.cons (.int .i64) (.cons (.int .i64) (.cons .bool (.one (.int .u8))))), some (.cons (.int .i64) (.cons (.int .i64) (.cons .bool (.one (.int .u8))))), some .str, some .str, some .str, some (.int .u64), some (.cons .str (.one (.int .u64))), some (.cons .str (.one (.int .u64))), none, none, none, none, none, none, some (.int .i32), some (.sl (.sl (.int .i64))), none, none, none, none, none, none, some (.cons (.int .i64) (.cons (.int .i64) (.one (.int .i64)))), some (.cons (.int .i64) (.cons (.int .i64) (.one (.int .i64)))), some (.sl (.int .i64)), none, none, some (.cons (.int .i64) (.cons (.int .i64) (.one (.int .i64)))), none, none, none, none, none, none, none, none, none, none, none, none, none, none, none, some (.sl (.cons (.int .i64) (.one (.int .i64)))), none, none, none, none, none, some (.sl (.cons (.int .i64) (.one (.int .i64)))), none, none, none, none, none, none, none, some (.int .u64), none, none, none, none, none, none, none, none, none, none, none, none, none, none, some (.cons (.int .i64) (.one (.int .i64))), some (.cons (.int .i64) (.one (.int .i64))), none, none, none, none, none, none, none, none, none, none, none, none, some (.cons (.int .i64) (.one (.int .i64))), none, none, none, none, none, none, none, none, none, none, none, none, some (.int .u32), none, some (.int .u64), none, none, none, none, none, none, none, none, some (.cons (.int .i64) (.one (.int .i64))), some (.cons (.int .i64) (.one (.int .i64))), none, none, none, none, none, none, none, none, some (.int .u8), some (.int .u8), none, none, some (.int .i32), some (.int .i32), none, none, none]
def others : List Nat := [1, 15, 16, 17, 23, 25, 26, 27, 28, 33, 35, 36, 37, 38, 39, 40, 41, 42, 43, 45, 46, 47, 49, 52, 53, 54, 55, 57, 58, 59, 60, 61, 62, 63, 65, 66, 67, 68, 69, 70, 71, 72, 73, 74, 75, 76, 77, 78, 81, 82, 83, 84, 85, 86, 87, 88, 89, 90, 91, 92, 94, 95, 96, 97, 98, 99, 100, 101, 102, 103, 104, 105, 107, 109, 110, 111, 112, 113, 114, 115, 116, 119, 120, 126, 129, 130]
def pairs : List Nat := [79, 80, 93, 117, 118]
noncomputable def mkE (con : List (Nat × Con0)) : Env := ⟨[], tys, others, pairs, con⟩

set_option maxRecDepth 100000 in
theorem tyOK (con : List (Nat × Con0)) : TyOK Try.prog (mkE con) := tyOK_of (E := mkE con) (by kernel_rfl) (by kernel_rfl) (by kernel_rfl)

/-- L_szCipherS -/
def pk_L_szCipherS : List PK := [.data (.sl (.cons (.int .i64) (.one (.int .i64)))), .data (.int .i64)]
def rk_L_szCipherS : List (Ty × Bool) := [((.int .i64), false)]
def h_L_szCipherS : Hints := { loops := [] }
noncomputable def M_L_szCipherS (x : ((List (Int × Int)) × Int)) : (Option Int) :=
  (bindO (some (IntKind.wrap .i64 (x.2 - (((List.length x.1) : Nat) : Int)))) (fun (a0 : Int) => (cond (decide (a0 < (0 : Int))) (some (- (1 : Int))) (some a0))))

noncomputable def c_L_szCipherS : Con0 := ⟨pk_L_szCipherS, rk_L_szCipherS, M_L_szCipherS⟩

set_option maxRecDepth 100000 in
theorem eq_L_szCipherS (x : In pk_L_szCipherS) : semF (mkE []) h_L_szCipherS (info Try.f48) pk_L_szCipherS rk_L_szCipherS x = M_L_szCipherS x := by kernel_rfl

set_option maxRecDepth 100000 in
theorem m_L_szCipherS : ConOK Try.prog 48 c_L_szCipherS := fn_ok (tyOK _) (E := mkE []) (consOK_nil rfl) Try.func48 (h := h_L_szCipherS) (by kernel_rfl) eq_L_szCipherS

/-- L_toGroup -/
def pk_L_toGroup : List PK := [.data (.cons (.int .i64) (.cons (.int .i64) (.one (.int .i64))))]
def rk_L_toGroup : List (Ty × Bool) := [((.cons (.int .i64) (.cons (.int .i64) (.one (.int .i64)))), false)]
def h_L_toGroup : Hints := { loops := [] }
noncomputable def M_L_toGroup (x : (Int × (Int × Int))) : (Option (Int × (Int × Int))) :=
  (some (x.1, (x.2.1, x.2.2)))

noncomputable def c_L_toGroup : Con0 := ⟨pk_L_toGroup, rk_L_toGroup, M_L_toGroup⟩

set_option maxRecDepth 100000 in
theorem eq_L_toGroup (x : In pk_L_toGroup) : semF (mkE []) h_L_toGroup (info Try.f21) pk_L_toGroup rk_L_toGroup x = M_L_toGroup x := by kernel_rfl

set_option maxRecDepth 100000 in
theorem m_L_toGroup : ConOK Try.prog 21 c_L_toGroup := fn_ok (tyOK _) (E := mkE []) (consOK_nil rfl) Try.func21 (h := h_L_toGroup) (by kernel_rfl) eq_L_toGroup

/-- L_toCipher -/
def pk_L_toCipher : List PK := [.data (.cons (.int .i64) (.one (.int .i64)))]
def rk_L_toCipher : List (Ty × Bool) := [((.cons (.int .i64) (.one (.int .i64))), false)]
def h_L_toCipher : Hints := { loops := [] }
noncomputable def M_L_toCipher (x : (Int × Int)) : (Option (Int × Int)) :=
  (some (x.1, x.2))

noncomputable def c_L_toCipher : Con0 := ⟨pk_L_toCipher, rk_L_toCipher, M_L_toCipher⟩

set_option maxRecDepth 100000 in
theorem eq_L_toCipher (x : In pk_L_toCipher) : semF (mkE []) h_L_toCipher (info Try.f103) pk_L_toCipher rk_L_toCipher x = M_L_toCipher x := by kernel_rfl

set_option maxRecDepth 100000 in
theorem m_L_toCipher : ConOK Try.prog 103 c_L_toCipher := fn_ok (tyOK _) (E := mkE []) (consOK_nil rfl) Try.func103 (h := h_L_toCipher) (by kernel_rfl) eq_L_toCipher

/-- L_toCipherS -/
def pk_L_toCipherS : List PK := [.data (.sl (.cons (.int .i64) (.one (.int .i64))))]
def rk_L_toCipherS : List (Ty × Bool) := [((.sl (.cons (.int .i64) (.one (.int .i64)))), true)]
def h_L_toCipherS : Hints := { loops := [(0, { items := [.slot 4 (.data (.int .i64) []), .arr 3 (.cons (.int .i64) (.one (.int .i64))) true], kill := [1, 2, 5, 6, 7, 8, 9, 10, 11, 12, 13, 14, 15, 16, 17, 18, 19, 20, 21, 22] })] }
noncomputable def M_L_toCipherS (x : (List (Int × Int))) : (Option (List (Int × Int))) :=
  (bindO (guardO (((decide ((0 : Int) ≤ (((List.length x) : Nat) : Int))) && (decide ((((List.length x) : Nat) : Int) ≤ (((List.length x) : Nat) : Int)))) && (decide ((((List.length x) : Nat) : Int) ≤ ((lim : Nat) : Int))))) (fun (a0 : Unit) => (loopO (fun (again1 : ((Int × (List (Int × Int))) → (Option (List (Int × Int))))) => (fun (s2 : (Int × (List (Int × Int)))) => (cond (decide (s2.1 < (((List.length x) : Nat) : Int))) (bindO (getI x s2.1) (fun (a3 : (Int × Int)) => (bindO (M_L_toCipher (a3.1, a3.2)) (fun (a4 : (Int × Int)) => (bindO (getI s2.2 s2.1) (fun (a5 : (Int × Int)) => (bindO (some (List.set s2.2 (Int.toNat s2.1) (a4.1, a4.2))) (fun (a6 : (List (Int × Int))) => (bindO (some (IntKind.wrap .i64 (s2.1 + (1 : Int)))) (fun (a7 : Int) => (again1 (a7, a6)))))))))))) (some s2.2)))) ((0 : Int), (List.replicate (Int.toNat (((List.length x) : Nat) : Int)) ((0 : Int), (0 : Int)))))))

noncomputable def c_L_toCipherS : Con0 := ⟨pk_L_toCipherS, rk_L_toCipherS, M_L_toCipherS⟩

set_option maxRecDepth 100000 in
theorem eq_L_toCipherS (x : In pk_L_toCipherS) : semF (mkE [(103, c_L_toCipher)]) h_L_toCipherS (info Try.f50) pk_L_toCipherS rk_L_toCipherS x = M_L_toCipherS x := by kernel_rfl

set_option maxRecDepth 100000 in
theorem m_L_toCipherS : ConOK Try.prog 50 c_L_toCipherS := fn_ok (tyOK _) (E := mkE [(103, c_L_toCipher)]) (consOK_cons m_L_toCipher (consOK_nil rfl)) Try.func50 (h := h_L_toCipherS) (by kernel_rfl) eq_L_toCipherS

/-- S_l1In -/
def pk_S_l1In : List PK := [.data (.int .i64), .data (.int .i64), .data (.int .i64)]
def rk_S_l1In : List (Ty × Bool) := [(.bool, false)]
def h_S_l1In : Hints := { loops := [] }
noncomputable def M_S_l1In (x : (Int × (Int × Int))) : (Option Bool) :=
  (cond (decide (x.1 ≥ x.2.1)) (some (decide (x.1 ≤ x.2.2))) (some false))

noncomputable def c_S_l1In : Con0 := ⟨pk_S_l1In, rk_S_l1In, M_S_l1In⟩

set_option maxRecDepth 100000 in
theorem eq_S_l1In (x : In pk_S_l1In) : semF (mkE []) h_S_l1In (info Try.f61) pk_S_l1In rk_S_l1In x = M_S_l1In x := by kernel_rfl

set_option maxRecDepth 100000 in
theorem m_S_l1In : ConOK Try.prog 61 c_S_l1In := fn_ok (tyOK _) (E := mkE []) (consOK_nil rfl) Try.func61 (h := h_S_l1In) (by kernel_rfl) eq_S_l1In

/-- S_nPower -/
def pk_S_nPower : List PK := [.data (.int .i64), .data (.int .i64), .data (.int .i64)]
def rk_S_nPower : List (Ty × Bool) := [((.int .i64), false)]
def h_S_nPower : Hints := { loops := [(0, { items := [.slot 0 (.data (.int .i64) []), .slot 1 (.data (.int .i64) []), .slot 7 (.data (.int .i64) [])], kill := [3, 4, 5, 6, 8, 9, 10, 11, 12, 13, 14, 15, 16, 17, 18, 19, 20, 21, 22, 23, 24, 25, 26, 27] })] }
noncomputable def M_S_nPower (x : (Int × (Int × Int))) : (Option Int) :=
  (bindO (guardO (x.2.2 != (0 : Int))) (fun (a0 : Unit) => (bindO (some (Int.tmod (1 : Int) x.2.2)) (fun (a1 : Int) => (loopO (fun (again2 : ((Int × (Int × Int)) → (Option Int))) => (fun (s3 : (Int × (Int × Int))) => (cond (decide (s3.2.1 > (0 : Int))) (bindO (guardO ((2 : Int) != (0 : Int))) (fun (a4 : Unit) => (bindO (some (Int.tmod s3.2.1 (2 : Int))) (fun (a5 : Int) => (cond (a5 == (1 : Int)) (bindO (some (IntKind.wrap .i64 (s3.2.2 * s3.1))) (fun (a6 : Int) => (bindO (guardO (x.2.2 != (0 : Int))) (fun (a7 : Unit) => (bindO (some (Int.tmod a6 x.2.2)) (fun (a8 : Int) => (bindO (some (IntKind.wrap .i64 (s3.1 * s3.1))) (fun (a9 : Int) => (bindO (guardO (x.2.2 != (0 : Int))) (fun (a10 : Unit) => (bindO (some (Int.tmod a9 x.2.2)) (fun (a11 : Int) => (bindO (guardO ((2 : Int) != (0 : Int))) (fun (a12 : Unit) => (bindO (some (IntKind.wrap .i64 (Int.tdiv s3.2.1 (2 : Int)))) (fun (a13 : Int) => (again2 (a11, (a13, a8))))))))))))))))))) (bindO (some (IntKind.wrap .i64 (s3.1 * s3.1))) (fun (a14 : Int) => (bindO (guardO (x.2.2 != (0 : Int))) (fun (a15 : Unit) => (bindO (some (Int.tmod a14 x.2.2)) (fun (a16 : Int) => (bindO (guardO ((2 : Int) != (0 : Int))) (fun (a17 : Unit) => (bindO (some (IntKind.wrap .i64 (Int.tdiv s3.2.1 (2 : Int)))) (fun (a18 : Int) => (again2 (a16, (a18, s3.2.2)))))))))))))))))) (some s3.2.2)))) (x.1, (x.2.1, a1)))))))

noncomputable def c_S_nPower : Con0 := ⟨pk_S_nPower, rk_S_nPower, M_S_nPower⟩

set_option maxRecDepth 100000 in
theorem eq_S_nPower (x : In pk_S_nPower) : semF (mkE []) h_S_nPower (info Try.f114) pk_S_nPower rk_S_nPower x = M_S_nPower x := by kernel_rfl

set_option maxRecDepth 100000 in
theorem m_S_nPower : ConOK Try.prog 114 c_S_nPower := fn_ok (tyOK _) (E := mkE []) (consOK_nil rfl) Try.func114 (h := h_S_nPower) (by kernel_rfl) eq_S_nPower

/-- S_nPrime -/
def pk_S_nPrime : List PK := [.data (.int .i64)]
def rk_S_nPrime : List (Ty × Bool) := [(.bool, false)]
def h_S_nPrime : Hints := { loops := [(0, { items := [.slot 3 (.data (.int .i64) [])], kill := [1, 2, 4, 5, 6, 7, 8, 9, 10, 11, 12, 13, 14, 15, 16] })] }
noncomputable def M_S_nPrime (x : Int) : (Option Bool) :=
  (cond (decide (x < (2 : Int))) (some false) (loopO (fun (again0 : (Int → (Option Bool))) => (fun (s1 : Int) => (bindO (some (IntKind.wrap .i64 (s1 * s1))) (fun (a2 : Int) => (cond (decide (a2 ≤ x)) (bindO (guardO (s1 != (0 : Int))) (fun (a3 : Unit) => (bindO (some (Int.tmod x s1)) (fun (a4 : Int) => (cond (a4 == (0 : Int)) (some false) (bindO (some (IntKind.wrap .i64 (s1 + (1 : Int)))) (fun (a5 : Int) => (again0 a5)))))))) (some true)))))) (2 : Int)))

noncomputable def c_S_nPrime : Con0 := ⟨pk_S_nPrime, rk_S_nPrime, M_S_nPrime⟩

set_option maxRecDepth 100000 in
theorem eq_S_nPrime (x : In pk_S_nPrime) : semF (mkE []) h_S_nPrime (info Try.f115) pk_S_nPrime rk_S_nPrime x = M_S_nPrime x := by kernel_rfl

set_option maxRecDepth 100000 in
theorem m_S_nPrime : ConOK Try.prog 115 c_S_nPrime := fn_ok (tyOK _) (E := mkE []) (consOK_nil rfl) Try.func115 (h := h_S_nPrime) (by kernel_rfl) eq_S_nPrime

/-- S_l2Good -/
def pk_S_l2Good : List PK := [.data (.cons (.int .i64) (.cons (.int .i64) (.one (.int .i64))))]
def rk_S_l2Good : List (Ty × Bool) := [(.bool, false)]
def h_S_l2Good : Hints := { loops := [] }
noncomputable def M_S_l2Good (x : (Int × (Int × Int))) : (Option Bool) :=
  (bindO (M_S_l1In (x.1, ((3 : Int), (2000000000 : Int)))) (fun (a0 : Bool) => (cond a0 (bindO (some (IntKind.wrap .i64 (x.1 - (1 : Int)))) (fun (a1 : Int) => (bindO (M_S_l1In (x.2.1, ((2 : Int), a1))) (fun (a2 : Bool) => (cond a2 (bindO (some (IntKind.wrap .i64 (x.1 - (1 : Int)))) (fun (a3 : Int) => (bindO (guardO (x.2.1 != (0 : Int))) (fun (a4 : Unit) => (bindO (some (Int.tmod a3 x.2.1)) (fun (a5 : Int) => (cond (a5 == (0 : Int)) (bindO (some (IntKind.wrap .i64 (x.1 - (1 : Int)))) (fun (a6 : Int) => (bindO (M_S_l1In (x.2.2, ((2 : Int), a6))) (fun (a7 : Bool) => (cond a7 (bindO (M_S_nPower (x.2.2, (x.2.1, x.1))) (fun (a8 : Int) => (cond (a8 == (1 : Int)) (bindO (M_S_nPrime x.2.1) (fun (a9 : Bool) => (cond a9 (bindO (M_S_nPrime x.1) (fun (a10 : Bool) => (some a10))) (some false)))) (some false)))) (some false)))))) (some false)))))))) (some false)))))) (some false))))

noncomputable def c_S_l2Good : Con0 := ⟨pk_S_l2Good, rk_S_l2Good, M_S_l2Good⟩

set_option maxRecDepth 100000 in
theorem eq_S_l2Good (x : In pk_S_l2Good) : semF (mkE [(61, c_S_l1In), (114, c_S_nPower), (115, c_S_nPrime)]) h_S_l2Good (info Try.f59) pk_S_l2Good rk_S_l2Good x = M_S_l2Good x := by kernel_rfl

set_option maxRecDepth 100000 in
theorem m_S_l2Good : ConOK Try.prog 59 c_S_l2Good := fn_ok (tyOK _) (E := mkE [(61, c_S_l1In), (114, c_S_nPower), (115, c_S_nPrime)]) (consOK_cons m_S_l1In (consOK_cons m_S_nPower (consOK_cons m_S_nPrime (consOK_nil rfl)))) Try.func59 (h := h_S_l2Good) (by kernel_rfl) eq_S_l2Good

/-- S_l1All -/
def pk_S_l1All : List PK := [.data (.sl (.int .i64)), .data (.int .i64), .data (.int .i64)]
def rk_S_l1All : List (Ty × Bool) := [(.bool, false)]
def h_S_l1All : Hints := { loops := [(0, { items := [.slot 11 (.data (.int .i64) [])], kill := [0, 3, 4, 5, 6, 7, 8, 12, 13, 14, 15, 16, 17, 18, 19, 20] })] }
noncomputable def M_S_l1All (x : ((List Int) × (Int × Int))) : (Option Bool) :=
  (loopO (fun (again0 : (Int → (Option Bool))) => (fun (s1 : Int) => (cond (decide (s1 < (((List.length x.1) : Nat) : Int))) (bindO (getI x.1 s1) (fun (a2 : Int) => (bindO (M_S_l1In (a2, (x.2.1, x.2.2))) (fun (a3 : Bool) => (cond (not a3) (some false) (bindO (some (IntKind.wrap .i64 (s1 + (1 : Int)))) (fun (a4 : Int) => (again0 a4)))))))) (some true)))) (0 : Int))

noncomputable def c_S_l1All : Con0 := ⟨pk_S_l1All, rk_S_l1All, M_S_l1All⟩

set_option maxRecDepth 100000 in
theorem eq_S_l1All (x : In pk_S_l1All) : semF (mkE [(61, c_S_l1In)]) h_S_l1All (info Try.f73) pk_S_l1All rk_S_l1All x = M_S_l1All x := by kernel_rfl

set_option maxRecDepth 100000 in
theorem m_S_l1All : ConOK Try.prog 73 c_S_l1All := fn_ok (tyOK _) (E := mkE [(61, c_S_l1In)]) (consOK_cons m_S_l1In (consOK_nil rfl)) Try.func73 (h := h_S_l1All) (by kernel_rfl) eq_S_l1All

/-- S_gExps -/
def pk_S_gExps : List PK := [.data (.cons (.int .i64) (.cons (.int .i64) (.one (.int .i64)))), .data (.sl (.int .i64))]
def rk_S_gExps : List (Ty × Bool) := [(.bool, false)]
def h_S_gExps : Hints := { loops := [] }
noncomputable def M_S_gExps (x : ((Int × (Int × Int)) × (List Int))) : (Option Bool) :=
  (bindO (some (IntKind.wrap .i64 (x.1.2.1 - (1 : Int)))) (fun (a0 : Int) => (bindO (M_S_l1All (x.2, ((0 : Int), a0))) (fun (a1 : Bool) => (some a1)))))

noncomputable def c_S_gExps : Con0 := ⟨pk_S_gExps, rk_S_gExps, M_S_gExps⟩

set_option maxRecDepth 100000 in
theorem eq_S_gExps (x : In pk_S_gExps) : semF (mkE [(73, c_S_l1All)]) h_S_gExps (info Try.f87) pk_S_gExps rk_S_gExps x = M_S_gExps x := by kernel_rfl

set_option maxRecDepth 100000 in
theorem m_S_gExps : ConOK Try.prog 87 c_S_gExps := fn_ok (tyOK _) (E := mkE [(73, c_S_l1All)]) (consOK_cons m_S_l1All (consOK_nil rfl)) Try.func87 (h := h_S_gExps) (by kernel_rfl) eq_S_gExps

/-- S_gIs -/
def pk_S_gIs : List PK := [.data (.cons (.int .i64) (.cons (.int .i64) (.one (.int .i64)))), .data (.sl (.int .i64))]
def rk_S_gIs : List (Ty × Bool) := [(.bool, false)]
def h_S_gIs : Hints := { loops := [(0, { items := [.slot 9 (.data (.int .i64) [])], kill := [0, 1, 3, 4, 5, 6, 10, 11, 12, 13, 14, 15, 16, 17, 18, 19, 20, 21, 22, 23, 24, 25, 26, 27, 28] })] }
noncomputable def M_S_gIs (x : ((Int × (Int × Int)) × (List Int))) : (Option Bool) :=
  (loopO (fun (again0 : (Int → (Option Bool))) => (fun (s1 : Int) => (cond (decide (s1 < (((List.length x.2) : Nat) : Int))) (bindO (getI x.2 s1) (fun (a2 : Int) => (bindO (some (IntKind.wrap .i64 (x.1.1 - (1 : Int)))) (fun (a3 : Int) => (bindO (M_S_l1In (a2, ((1 : Int), a3))) (fun (a4 : Bool) => (cond (not a4) (some false) (bindO (M_S_nPower (a2, (x.1.2.1, x.1.1))) (fun (a5 : Int) => (cond (a5 != (1 : Int)) (some false) (bindO (some (IntKind.wrap .i64 (s1 + (1 : Int)))) (fun (a6 : Int) => (again0 a6))))))))))))) (some true)))) (0 : Int))

noncomputable def c_S_gIs : Con0 := ⟨pk_S_gIs, rk_S_gIs, M_S_gIs⟩

set_option maxRecDepth 100000 in
theorem eq_S_gIs (x : In pk_S_gIs) : semF (mkE [(61, c_S_l1In), (114, c_S_nPower)]) h_S_gIs (info Try.f60) pk_S_gIs rk_S_gIs x = M_S_gIs x := by kernel_rfl

set_option maxRecDepth 100000 in
theorem m_S_gIs : ConOK Try.prog 60 c_S_gIs := fn_ok (tyOK _) (E := mkE [(61, c_S_l1In), (114, c_S_nPower)]) (consOK_cons m_S_l1In (consOK_cons m_S_nPower (consOK_nil rfl))) Try.func60 (h := h_S_gIs) (by kernel_rfl) eq_S_gIs

/-- S_eGood -/
def pk_S_eGood : List PK := [.data (.cons (.int .i64) (.cons (.int .i64) (.one (.int .i64)))), .data (.sl (.cons (.int .i64) (.one (.int .i64))))]
def rk_S_eGood : List (Ty × Bool) := [(.bool, false)]
def h_S_eGood : Hints := { loops := [(0, { items := [.slot 12 (.data (.int .i64) [])], kill := [0, 1, 3, 4, 5, 6, 7, 8, 9, 13, 14, 15, 16, 17, 18, 19, 20, 21, 22, 23, 24] })] }
noncomputable def M_S_eGood (x : ((Int × (Int × Int)) × (List (Int × Int)))) : (Option Bool) :=
  (cond (decide ((((List.length x.2) : Nat) : Int) > (24 : Int))) (some false) (loopO (fun (again0 : (Int → (Option Bool))) => (fun (s1 : Int) => (cond (decide (s1 < (((List.length x.2) : Nat) : Int))) (bindO (getI x.2 s1) (fun (a2 : (Int × Int)) => (bindO (M_S_gIs ((x.1.1, (x.1.2.1, x.1.2.2)), (a2.1 :: (a2.2 :: ([] : List Int))))) (fun (a3 : Bool) => (cond (not a3) (some false) (bindO (some (IntKind.wrap .i64 (s1 + (1 : Int)))) (fun (a4 : Int) => (again0 a4)))))))) (some true)))) (0 : Int)))

noncomputable def c_S_eGood : Con0 := ⟨pk_S_eGood, rk_S_eGood, M_S_eGood⟩

set_option maxRecDepth 100000 in
theorem eq_S_eGood (x : In pk_S_eGood) : semF (mkE [(60, c_S_gIs)]) h_S_eGood (info Try.f101) pk_S_eGood rk_S_eGood x = M_S_eGood x := by kernel_rfl

set_option maxRecDepth 100000 in
theorem m_S_eGood : ConOK Try.prog 101 c_S_eGood := fn_ok (tyOK _) (E := mkE [(60, c_S_gIs)]) (consOK_cons m_S_gIs (consOK_nil rfl)) Try.func101 (h := h_S_eGood) (by kernel_rfl) eq_S_eGood

/-- S_nMod -/
def pk_S_nMod : List PK := [.data (.int .i64), .data (.int .i64)]
def rk_S_nMod : List (Ty × Bool) := [((.int .i64), false)]
def h_S_nMod : Hints := { loops := [] }
noncomputable def M_S_nMod (x : (Int × Int)) : (Option Int) :=
  (bindO (guardO (x.2 != (0 : Int))) (fun (a0 : Unit) => (bindO (some (Int.tmod x.1 x.2)) (fun (a1 : Int) => (bindO (some (IntKind.wrap .i64 (a1 + x.2))) (fun (a2 : Int) => (bindO (guardO (x.2 != (0 : Int))) (fun (a3 : Unit) => (bindO (some (Int.tmod a2 x.2)) (fun (a4 : Int) => (some a4)))))))))))

noncomputable def c_S_nMod : Con0 := ⟨pk_S_nMod, rk_S_nMod, M_S_nMod⟩

set_option maxRecDepth 100000 in
theorem eq_S_nMod (x : In pk_S_nMod) : semF (mkE []) h_S_nMod (info Try.f155) pk_S_nMod rk_S_nMod x = M_S_nMod x := by kernel_rfl

set_option maxRecDepth 100000 in
theorem m_S_nMod : ConOK Try.prog 155 c_S_nMod := fn_ok (tyOK _) (E := mkE []) (consOK_nil rfl) Try.func155 (h := h_S_nMod) (by kernel_rfl) eq_S_nMod

/-- S_gExp -/
def pk_S_gExp : List PK := [.data (.cons (.int .i64) (.cons (.int .i64) (.one (.int .i64)))), .data (.int .i64), .data (.int .i64)]
def rk_S_gExp : List (Ty × Bool) := [((.int .i64), false)]
def h_S_gExp : Hints := { loops := [] }
noncomputable def M_S_gExp (x : ((Int × (Int × Int)) × (Int × Int))) : (Option Int) :=
  (bindO (M_S_nMod (x.2.2, x.1.2.1)) (fun (a0 : Int) => (bindO (M_S_nPower (x.2.1, (a0, x.1.1))) (fun (a1 : Int) => (some a1)))))

noncomputable def c_S_gExp : Con0 := ⟨pk_S_gExp, rk_S_gExp, M_S_gExp⟩

set_option maxRecDepth 100000 in
theorem eq_S_gExp (x : In pk_S_gExp) : semF (mkE [(155, c_S_nMod), (114, c_S_nPower)]) h_S_gExp (info Try.f133) pk_S_gExp rk_S_gExp x = M_S_gExp x := by kernel_rfl

set_option maxRecDepth 100000 in
theorem m_S_gExp : ConOK Try.prog 133 c_S_gExp := fn_ok (tyOK _) (E := mkE [(155, c_S_nMod), (114, c_S_nPower)]) (consOK_cons m_S_nMod (consOK_cons m_S_nPower (consOK_nil rfl))) Try.func133 (h := h_S_gExp) (by kernel_rfl) eq_S_gExp

/-- S_gInv -/
def pk_S_gInv : List PK := [.data (.cons (.int .i64) (.cons (.int .i64) (.one (.int .i64)))), .data (.int .i64)]
def rk_S_gInv : List (Ty × Bool) := [((.int .i64), false)]
def h_S_gInv : Hints := { loops := [] }
noncomputable def M_S_gInv (x : ((Int × (Int × Int)) × Int)) : (Option Int) :=
  (bindO (some (IntKind.wrap .i64 (x.1.2.1 - (1 : Int)))) (fun (a0 : Int) => (bindO (M_S_nPower (x.2, (a0, x.1.1))) (fun (a1 : Int) => (some a1)))))

noncomputable def c_S_gInv : Con0 := ⟨pk_S_gInv, rk_S_gInv, M_S_gInv⟩

set_option maxRecDepth 100000 in
theorem eq_S_gInv (x : In pk_S_gInv) : semF (mkE [(114, c_S_nPower)]) h_S_gInv (info Try.f142) pk_S_gInv rk_S_gInv x = M_S_gInv x := by kernel_rfl

set_option maxRecDepth 100000 in
theorem m_S_gInv : ConOK Try.prog 142 c_S_gInv := fn_ok (tyOK _) (E := mkE [(114, c_S_nPower)]) (consOK_cons m_S_nPower (consOK_nil rfl)) Try.func142 (h := h_S_gInv) (by kernel_rfl) eq_S_gInv

/-- S_gMul -/
def pk_S_gMul : List PK := [.data (.cons (.int .i64) (.cons (.int .i64) (.one (.int .i64)))), .data (.sl (.int .i64))]
def rk_S_gMul : List (Ty × Bool) := [((.int .i64), false)]
def h_S_gMul : Hints := { loops := [(0, { items := [.slot 5 (.data (.int .i64) []), .slot 10 (.data (.int .i64) [])], kill := [0, 1, 3, 4, 6, 7, 11, 12, 13, 14, 15, 16, 17, 18, 19, 20, 21] })] }
noncomputable def M_S_gMul (x : ((Int × (Int × Int)) × (List Int))) : (Option Int) :=
  (loopO (fun (again0 : ((Int × Int) → (Option Int))) => (fun (s1 : (Int × Int)) => (cond (decide (s1.2 < (((List.length x.2) : Nat) : Int))) (bindO (getI x.2 s1.2) (fun (a2 : Int) => (bindO (some (IntKind.wrap .i64 (s1.1 * a2))) (fun (a3 : Int) => (bindO (guardO (x.1.1 != (0 : Int))) (fun (a4 : Unit) => (bindO (some (Int.tmod a3 x.1.1)) (fun (a5 : Int) => (bindO (some (IntKind.wrap .i64 (s1.2 + (1 : Int)))) (fun (a6 : Int) => (again0 (a5, a6)))))))))))) (some s1.1)))) ((1 : Int), (0 : Int)))

noncomputable def c_S_gMul : Con0 := ⟨pk_S_gMul, rk_S_gMul, M_S_gMul⟩

set_option maxRecDepth 100000 in
theorem eq_S_gMul (x : In pk_S_gMul) : semF (mkE []) h_S_gMul (info Try.f134) pk_S_gMul rk_S_gMul x = M_S_gMul x := by kernel_rfl

set_option maxRecDepth 100000 in
theorem m_S_gMul : ConOK Try.prog 134 c_S_gMul := fn_ok (tyOK _) (E := mkE []) (consOK_nil rfl) Try.func134 (h := h_S_gMul) (by kernel_rfl) eq_S_gMul

/-- S_eDec -/
def pk_S_eDec : List PK := [.data (.cons (.int .i64) (.cons (.int .i64) (.one (.int .i64)))), .data (.int .i64), .data (.cons (.int .i64) (.one (.int .i64)))]
def rk_S_eDec : List (Ty × Bool) := [((.int .i64), false)]
def h_S_eDec : Hints := { loops := [] }
noncomputable def M_S_eDec (x : ((Int × (Int × Int)) × (Int × (Int × Int)))) : (Option Int) :=
  (bindO (M_S_gExp ((x.1.1, (x.1.2.1, x.1.2.2)), (x.2.2.1, x.2.1))) (fun (a0 : Int) => (bindO (M_S_gInv ((x.1.1, (x.1.2.1, x.1.2.2)), a0)) (fun (a1 : Int) => (bindO (M_S_gMul ((x.1.1, (x.1.2.1, x.1.2.2)), (x.2.2.2 :: (a1 :: ([] : List Int))))) (fun (a2 : Int) => (some a2)))))))

noncomputable def c_S_eDec : Con0 := ⟨pk_S_eDec, rk_S_eDec, M_S_eDec⟩

set_option maxRecDepth 100000 in
theorem eq_S_eDec (x : In pk_S_eDec) : semF (mkE [(133, c_S_gExp), (142, c_S_gInv), (134, c_S_gMul)]) h_S_eDec (info Try.f107) pk_S_eDec rk_S_eDec x = M_S_eDec x := by kernel_rfl

set_option maxRecDepth 100000 in
theorem m_S_eDec : ConOK Try.prog 107 c_S_eDec := fn_ok (tyOK _) (E := mkE [(133, c_S_gExp), (142, c_S_gInv), (134, c_S_gMul)]) (consOK_cons m_S_gExp (consOK_cons m_S_gInv (consOK_cons m_S_gMul (consOK_nil rfl)))) Try.func107 (h := h_S_eDec) (by kernel_rfl) eq_S_eDec

/-- S_EqualGroups -/
def pk_S_EqualGroups : List PK := [.data (.cons (.int .i64) (.cons (.int .i64) (.one (.int .i64)))), .data (.int .i64), .data (.sl (.cons (.int .i64) (.one (.int .i64))))]
def rk_S_EqualGroups : List (Ty × Bool) := [((.sl (.int .i64)), true), (.bool, false)]
def h_S_EqualGroups : Hints := { loops := [(0, { items := [.slot 8 (.own (.int .i64) true), .slot 9 (.own (.int .i64) true), .slot 34 (.data (.int .i64) [])], kill := [0, 2, 4, 5, 6, 7, 10, 11, 12, 13, 14, 15, 16, 17, 18, 19, 20, 21, 22, 23, 24, 25, 26, 27, 28, 29, 30, 31, 35, 36, 37, 38, 39, 40, 41, 42, 43, 44, 45, 46, 47, 48, 49, 50, 51, 52, 53, 54, 55, 56, 57, 58, 59, 60, 61, 62, 63, 64, 65, 66, 67, 68, 69, 70] }), (2, { items := [.slot 13 (.data (.int .i64) []), .slot 46 (.data (.int .i64) [])], kill := [0, 2, 4, 5, 6, 7, 11, 14, 15, 16, 17, 18, 19, 20, 21, 22, 23, 24, 25, 26, 27, 28, 29, 30, 31, 35, 36, 37, 38, 39, 40, 41, 42, 43, 47, 48, 49, 50, 51, 52, 53, 54, 55, 56, 57, 58, 59, 60, 61, 62, 63, 64, 65, 66, 67, 68, 69, 70] })] }
noncomputable def M_S_EqualGroups (x : ((Int × (Int × Int)) × (Int × (List (Int × Int))))) : (Option ((List Int) × Bool)) :=
  (bindO (M_S_l2Good (x.1.1, (x.1.2.1, x.1.2.2))) (fun (a0 : Bool) => (cond (not a0) (some (([] : List Int), false)) (bindO (M_S_gExps ((x.1.1, (x.1.2.1, x.1.2.2)), (x.2.1 :: ([] : List Int)))) (fun (a1 : Bool) => (cond (not a1) (some (([] : List Int), false)) (bindO (M_S_eGood ((x.1.1, (x.1.2.1, x.1.2.2)), x.2.2)) (fun (a2 : Bool) => (cond (not a2) (some (([] : List Int), false)) (loopO (fun (again3 : (((List Int) × ((List Int) × Int)) → (Option ((List Int) × Bool)))) => (fun (s4 : ((List Int) × ((List Int) × Int))) => (cond (decide (s4.2.2 < (((List.length x.2.2) : Nat) : Int))) (bindO (getI x.2.2 s4.2.2) (fun (a5 : (Int × Int)) => (bindO (M_S_eDec ((x.1.1, (x.1.2.1, x.1.2.2)), (x.2.1, (a5.1, a5.2)))) (fun (a6 : Int) => (loopO (fun (again7 : ((Int × Int) → (Option ((List Int) × Bool)))) => (fun (s8 : (Int × Int)) => (cond (decide (s8.2 < (((List.length s4.1) : Nat) : Int))) (bindO (getI s4.1 s8.2) (fun (a9 : Int) => (cond (a9 == a6) (cond (s8.1 == s4.2.2) (bindO (some (IntKind.wrap .i64 (s8.2 + (1 : Int)))) (fun (a10 : Int) => (again7 (s8.2, a10)))) (bindO (some (IntKind.wrap .i64 (s8.2 + (1 : Int)))) (fun (a11 : Int) => (again7 (s8.1, a11))))) (bindO (some (IntKind.wrap .i64 (s8.2 + (1 : Int)))) (fun (a12 : Int) => (again7 (s8.1, a12))))))) (bindO (guardO (lenOk ((List.length s4.1) + (List.length (a6 :: ([] : List Int)))))) (fun (a13 : Unit) => (bindO (some (s4.1 ++ (a6 :: ([] : List Int)))) (fun (a14 : (List Int)) => (bindO (guardO (lenOk ((List.length s4.2.1) + (List.length (s8.1 :: ([] : List Int)))))) (fun (a15 : Unit) => (bindO (some (s4.2.1 ++ (s8.1 :: ([] : List Int)))) (fun (a16 : (List Int)) => (bindO (some (IntKind.wrap .i64 (s4.2.2 + (1 : Int)))) (fun (a17 : Int) => (again3 (a14, (a16, a17)))))))))))))))) (s4.2.2, (0 : Int))))))) (some (s4.2.1, true))))) (([] : List Int), (([] : List Int), (0 : Int)))))))))))))

noncomputable def c_S_EqualGroups : Con0 := ⟨pk_S_EqualGroups, rk_S_EqualGroups, M_S_EqualGroups⟩

set_option maxRecDepth 100000 in
theorem eq_S_EqualGroups (x : In pk_S_EqualGroups) : semF (mkE [(59, c_S_l2Good), (87, c_S_gExps), (101, c_S_eGood), (107, c_S_eDec)]) h_S_EqualGroups (info Try.f52) pk_S_EqualGroups rk_S_EqualGroups x = M_S_EqualGroups x := by kernel_rfl

set_option maxRecDepth 100000 in
theorem m_S_EqualGroups : ConOK Try.prog 52 c_S_EqualGroups := fn_ok (tyOK _) (E := mkE [(59, c_S_l2Good), (87, c_S_gExps), (101, c_S_eGood), (107, c_S_eDec)]) (consOK_cons m_S_l2Good (consOK_cons m_S_gExps (consOK_cons m_S_eGood (consOK_cons m_S_eDec (consOK_nil rfl))))) Try.func52 (h := h_S_EqualGroups) (by kernel_rfl) eq_S_EqualGroups

/-- I_within -/
def pk_I_within : List PK := [.data (.int .i64), .data (.int .i64), .data (.int .i64)]
def rk_I_within : List (Ty × Bool) := [(.bool, false)]
def h_I_within : Hints := { loops := [] }
noncomputable def M_I_within (x : (Int × (Int × Int))) : (Option Bool) :=
  (cond (decide (x.1 ≥ x.2.1)) (some (decide (x.1 ≤ x.2.2))) (some false))

noncomputable def c_I_within : Con0 := ⟨pk_I_within, rk_I_within, M_I_within⟩

set_option maxRecDepth 100000 in
theorem eq_I_within (x : In pk_I_within) : semF (mkE []) h_I_within (info Try.f65) pk_I_within rk_I_within x = M_I_within x := by kernel_rfl

set_option maxRecDepth 100000 in
theorem m_I_within : ConOK Try.prog 65 c_I_within := fn_ok (tyOK _) (E := mkE []) (consOK_nil rfl) Try.func65 (h := h_I_within) (by kernel_rfl) eq_I_within

/-- I_isModulus -/
def pk_I_isModulus : List PK := [.data (.int .i64)]
def rk_I_isModulus : List (Ty × Bool) := [(.bool, false)]
def h_I_isModulus : Hints := { loops := [] }
noncomputable def M_I_isModulus (x : Int) : (Option Bool) :=
  (bindO (M_I_within (x, ((2 : Int), (2000000000 : Int)))) (fun (a0 : Bool) => (some a0)))

noncomputable def c_I_isModulus : Con0 := ⟨pk_I_isModulus, rk_I_isModulus, M_I_isModulus⟩

set_option maxRecDepth 100000 in
theorem eq_I_isModulus (x : In pk_I_isModulus) : semF (mkE [(65, c_I_within)]) h_I_isModulus (info Try.f146) pk_I_isModulus rk_I_isModulus x = M_I_isModulus x := by kernel_rfl

set_option maxRecDepth 100000 in
theorem m_I_isModulus : ConOK Try.prog 146 c_I_isModulus := fn_ok (tyOK _) (E := mkE [(65, c_I_within)]) (consOK_cons m_I_within (consOK_nil rfl)) Try.func146 (h := h_I_isModulus) (by kernel_rfl) eq_I_isModulus

/-- I_isPrime -/
def pk_I_isPrime : List PK := [.data (.int .i64)]
def rk_I_isPrime : List (Ty × Bool) := [(.bool, false)]
def h_I_isPrime : Hints := { loops := [(0, { items := [.slot 3 (.data (.int .i64) [])], kill := [1, 2, 4, 5, 6, 7, 8, 9, 10, 11, 12, 13, 14, 15, 16, 17, 18, 19, 20, 21, 22, 23, 24, 25, 26] })] }
noncomputable def M_I_isPrime (x : Int) : (Option Bool) :=
  (bindO (M_I_isModulus x) (fun (a0 : Bool) => (cond (not a0) (some false) (bindO (guardO ((2 : Int) != (0 : Int))) (fun (a1 : Unit) => (bindO (some (Int.tmod x (2 : Int))) (fun (a2 : Int) => (cond (a2 == (0 : Int)) (cond (x != (2 : Int)) (some false) (loopO (fun (again3 : (Int → (Option Bool))) => (fun (s4 : Int) => (bindO (some (IntKind.wrap .i64 (s4 * s4))) (fun (a5 : Int) => (cond (decide (a5 ≤ x)) (bindO (guardO (s4 != (0 : Int))) (fun (a6 : Unit) => (bindO (some (Int.tmod x s4)) (fun (a7 : Int) => (cond (a7 == (0 : Int)) (some false) (bindO (some (IntKind.wrap .i64 (s4 + (2 : Int)))) (fun (a8 : Int) => (again3 a8)))))))) (some true)))))) (3 : Int))) (loopO (fun (again9 : (Int → (Option Bool))) => (fun (s10 : Int) => (bindO (some (IntKind.wrap .i64 (s10 * s10))) (fun (a11 : Int) => (cond (decide (a11 ≤ x)) (bindO (guardO (s10 != (0 : Int))) (fun (a12 : Unit) => (bindO (some (Int.tmod x s10)) (fun (a13 : Int) => (cond (a13 == (0 : Int)) (some false) (bindO (some (IntKind.wrap .i64 (s10 + (2 : Int)))) (fun (a14 : Int) => (again9 a14)))))))) (some true)))))) (3 : Int))))))))))

noncomputable def c_I_isPrime : Con0 := ⟨pk_I_isPrime, rk_I_isPrime, M_I_isPrime⟩

set_option maxRecDepth 100000 in
theorem eq_I_isPrime (x : In pk_I_isPrime) : semF (mkE [(146, c_I_isModulus)]) h_I_isPrime (info Try.f116) pk_I_isPrime rk_I_isPrime x = M_I_isPrime x := by kernel_rfl

set_option maxRecDepth 100000 in
theorem m_I_isPrime : ConOK Try.prog 116 c_I_isPrime := fn_ok (tyOK _) (E := mkE [(146, c_I_isModulus)]) (consOK_cons m_I_isModulus (consOK_nil rfl)) Try.func116 (h := h_I_isPrime) (by kernel_rfl) eq_I_isPrime

/-- I_power -/
def pk_I_power : List PK := [.data (.int .i64), .data (.int .i64), .data (.int .i64)]
def rk_I_power : List (Ty × Bool) := [((.int .i64), false)]
def h_I_power : Hints := { loops := [(0, { items := [.slot 0 (.data (.int .i64) []), .slot 1 (.data (.int .i64) []), .slot 7 (.data (.int .i64) [])], kill := [3, 4, 5, 6, 8, 9, 10, 11, 12, 13, 14, 15, 16, 17, 18, 19, 20, 21, 22, 23, 24, 25, 26, 27] })] }
noncomputable def M_I_power (x : (Int × (Int × Int))) : (Option Int) :=
  (bindO (guardO (x.2.2 != (0 : Int))) (fun (a0 : Unit) => (bindO (some (Int.tmod (1 : Int) x.2.2)) (fun (a1 : Int) => (loopO (fun (again2 : ((Int × (Int × Int)) → (Option Int))) => (fun (s3 : (Int × (Int × Int))) => (cond (decide (s3.2.1 > (0 : Int))) (bindO (some (bits .and .i64 s3.2.1 (1 : Int))) (fun (a4 : Int) => (cond (a4 == (1 : Int)) (bindO (some (IntKind.wrap .i64 (s3.2.2 * s3.1))) (fun (a5 : Int) => (bindO (guardO (x.2.2 != (0 : Int))) (fun (a6 : Unit) => (bindO (some (Int.tmod a5 x.2.2)) (fun (a7 : Int) => (bindO (some (IntKind.wrap .i64 (s3.1 * s3.1))) (fun (a8 : Int) => (bindO (guardO (x.2.2 != (0 : Int))) (fun (a9 : Unit) => (bindO (some (Int.tmod a8 x.2.2)) (fun (a10 : Int) => (bindO (guardO (decide ((0 : Int) ≤ (1 : Int)))) (fun (a11 : Unit) => (bindO (some (shr .i64 s3.2.1 (1 : Int))) (fun (a12 : Int) => (again2 (a10, (a12, a7))))))))))))))))))) (bindO (some (IntKind.wrap .i64 (s3.1 * s3.1))) (fun (a13 : Int) => (bindO (guardO (x.2.2 != (0 : Int))) (fun (a14 : Unit) => (bindO (some (Int.tmod a13 x.2.2)) (fun (a15 : Int) => (bindO (guardO (decide ((0 : Int) ≤ (1 : Int)))) (fun (a16 : Unit) => (bindO (some (shr .i64 s3.2.1 (1 : Int))) (fun (a17 : Int) => (again2 (a15, (a17, s3.2.2)))))))))))))))) (some s3.2.2)))) (x.1, (x.2.1, a1)))))))

noncomputable def c_I_power : Con0 := ⟨pk_I_power, rk_I_power, M_I_power⟩

set_option maxRecDepth 100000 in
theorem eq_I_power (x : In pk_I_power) : semF (mkE []) h_I_power (info Try.f117) pk_I_power rk_I_power x = M_I_power x := by kernel_rfl

set_option maxRecDepth 100000 in
theorem m_I_power : ConOK Try.prog 117 c_I_power := fn_ok (tyOK _) (E := mkE []) (consOK_nil rfl) Try.func117 (h := h_I_power) (by kernel_rfl) eq_I_power

/-- I_IsValidGroup -/
def pk_I_IsValidGroup : List PK := [.data (.cons (.int .i64) (.cons (.int .i64) (.one (.int .i64))))]
def rk_I_IsValidGroup : List (Ty × Bool) := [(.bool, false)]
def h_I_IsValidGroup : Hints := { loops := [] }
noncomputable def M_I_IsValidGroup (x : (Int × (Int × Int))) : (Option Bool) :=
  (bindO (M_I_within (x.1, ((3 : Int), (2000000000 : Int)))) (fun (a0 : Bool) => (cond a0 (bindO (some (IntKind.wrap .i64 (x.1 - (1 : Int)))) (fun (a1 : Int) => (bindO (M_I_within (x.2.1, ((2 : Int), a1))) (fun (a2 : Bool) => (cond a2 (bindO (some (IntKind.wrap .i64 (x.1 - (1 : Int)))) (fun (a3 : Int) => (bindO (guardO (x.2.1 != (0 : Int))) (fun (a4 : Unit) => (bindO (some (Int.tmod a3 x.2.1)) (fun (a5 : Int) => (cond (a5 == (0 : Int)) (bindO (some (IntKind.wrap .i64 (x.1 - (1 : Int)))) (fun (a6 : Int) => (bindO (M_I_within (x.2.2, ((2 : Int), a6))) (fun (a7 : Bool) => (cond a7 (bindO (M_I_isPrime x.1) (fun (a8 : Bool) => (cond a8 (bindO (M_I_isPrime x.2.1) (fun (a9 : Bool) => (cond a9 (bindO (M_I_power (x.2.2, (x.2.1, x.1))) (fun (a10 : Int) => (some (a10 == (1 : Int))))) (some false)))) (some false)))) (some false)))))) (some false)))))))) (some false)))))) (some false))))

noncomputable def c_I_IsValidGroup : Con0 := ⟨pk_I_IsValidGroup, rk_I_IsValidGroup, M_I_IsValidGroup⟩

set_option maxRecDepth 100000 in
theorem eq_I_IsValidGroup (x : In pk_I_IsValidGroup) : semF (mkE [(65, c_I_within), (116, c_I_isPrime), (117, c_I_power)]) h_I_IsValidGroup (info Try.f63) pk_I_IsValidGroup rk_I_IsValidGroup x = M_I_IsValidGroup x := by kernel_rfl

set_option maxRecDepth 100000 in
theorem m_I_IsValidGroup : ConOK Try.prog 63 c_I_IsValidGroup := fn_ok (tyOK _) (E := mkE [(65, c_I_within), (116, c_I_isPrime), (117, c_I_power)]) (consOK_cons m_I_within (consOK_cons m_I_isPrime (consOK_cons m_I_power (consOK_nil rfl)))) Try.func63 (h := h_I_IsValidGroup) (by kernel_rfl) eq_I_IsValidGroup

/-- I_Group_isExp -/
def pk_I_Group_isExp : List PK := [.data (.cons (.int .i64) (.cons (.int .i64) (.one (.int .i64)))), .data (.int .i64)]
def rk_I_Group_isExp : List (Ty × Bool) := [(.bool, false)]
def h_I_Group_isExp : Hints := { loops := [] }
noncomputable def M_I_Group_isExp (x : ((Int × (Int × Int)) × Int)) : (Option Bool) :=
  (bindO (some (IntKind.wrap .i64 (x.1.2.1 - (1 : Int)))) (fun (a0 : Int) => (bindO (M_I_within (x.2, ((0 : Int), a0))) (fun (a1 : Bool) => (some a1)))))

noncomputable def c_I_Group_isExp : Con0 := ⟨pk_I_Group_isExp, rk_I_Group_isExp, M_I_Group_isExp⟩

set_option maxRecDepth 100000 in
theorem eq_I_Group_isExp (x : In pk_I_Group_isExp) : semF (mkE [(65, c_I_within)]) h_I_Group_isExp (info Try.f108) pk_I_Group_isExp rk_I_Group_isExp x = M_I_Group_isExp x := by kernel_rfl

set_option maxRecDepth 100000 in
theorem m_I_Group_isExp : ConOK Try.prog 108 c_I_Group_isExp := fn_ok (tyOK _) (E := mkE [(65, c_I_within)]) (consOK_cons m_I_within (consOK_nil rfl)) Try.func108 (h := h_I_Group_isExp) (by kernel_rfl) eq_I_Group_isExp

/-- slices_IndexFunc_sI_Cipher_I_Cipher -/
def pk_slices_IndexFunc_sI_Cipher_I_Cipher : List PK := [.data (.sl (.cons (.int .i64) (.one (.int .i64)))), .fn [(.cons (.int .i64) (.one (.int .i64)))] .bool]
def rk_slices_IndexFunc_sI_Cipher_I_Cipher : List (Ty × Bool) := [((.int .i64), false)]
def h_slices_IndexFunc_sI_Cipher_I_Cipher : Hints := { loops := [(0, { items := [.slot 8 (.data (.int .i64) [])], kill := [2, 3, 4, 5, 6, 9, 10, 11, 12, 13, 14, 15, 16, 17, 18] })] }
noncomputable def M_slices_IndexFunc_sI_Cipher_I_Cipher (x : ((List (Int × Int)) × ((Int × Int) → (Option Bool)))) : (Option Int) :=
  (loopO (fun (again0 : (Int → (Option Int))) => (fun (s1 : Int) => (cond (decide (s1 < (((List.length x.1) : Nat) : Int))) (bindO (getI x.1 s1) (fun (a2 : (Int × Int)) => (bindO (x.2 (a2.1, a2.2)) (fun (a3 : Bool) => (cond a3 (some s1) (bindO (some (IntKind.wrap .i64 (s1 + (1 : Int)))) (fun (a4 : Int) => (again0 a4)))))))) (some (- (1 : Int)))))) (0 : Int))

noncomputable def c_slices_IndexFunc_sI_Cipher_I_Cipher : Con0 := ⟨pk_slices_IndexFunc_sI_Cipher_I_Cipher, rk_slices_IndexFunc_sI_Cipher_I_Cipher, M_slices_IndexFunc_sI_Cipher_I_Cipher⟩

set_option maxRecDepth 100000 in
theorem eq_slices_IndexFunc_sI_Cipher_I_Cipher (x : In pk_slices_IndexFunc_sI_Cipher_I_Cipher) : semF (mkE []) h_slices_IndexFunc_sI_Cipher_I_Cipher (info Try.f157) pk_slices_IndexFunc_sI_Cipher_I_Cipher rk_slices_IndexFunc_sI_Cipher_I_Cipher x = M_slices_IndexFunc_sI_Cipher_I_Cipher x := by kernel_rfl

set_option maxRecDepth 100000 in
theorem m_slices_IndexFunc_sI_Cipher_I_Cipher : ConOK Try.prog 157 c_slices_IndexFunc_sI_Cipher_I_Cipher := fn_ok (tyOK _) (E := mkE []) (consOK_nil rfl) Try.func157 (h := h_slices_IndexFunc_sI_Cipher_I_Cipher) (by kernel_rfl) eq_slices_IndexFunc_sI_Cipher_I_Cipher

/-- slices_ContainsFunc_sI_Cipher_I_Cipher -/
def pk_slices_ContainsFunc_sI_Cipher_I_Cipher : List PK := [.data (.sl (.cons (.int .i64) (.one (.int .i64)))), .fn [(.cons (.int .i64) (.one (.int .i64)))] .bool]
def rk_slices_ContainsFunc_sI_Cipher_I_Cipher : List (Ty × Bool) := [(.bool, false)]
def h_slices_ContainsFunc_sI_Cipher_I_Cipher : Hints := { loops := [] }
noncomputable def M_slices_ContainsFunc_sI_Cipher_I_Cipher (x : ((List (Int × Int)) × ((Int × Int) → (Option Bool)))) : (Option Bool) :=
  (bindO (M_slices_IndexFunc_sI_Cipher_I_Cipher (x.1, x.2)) (fun (a0 : Int) => (some (decide (a0 ≥ (0 : Int))))))

noncomputable def c_slices_ContainsFunc_sI_Cipher_I_Cipher : Con0 := ⟨pk_slices_ContainsFunc_sI_Cipher_I_Cipher, rk_slices_ContainsFunc_sI_Cipher_I_Cipher, M_slices_ContainsFunc_sI_Cipher_I_Cipher⟩

set_option maxRecDepth 100000 in
theorem eq_slices_ContainsFunc_sI_Cipher_I_Cipher (x : In pk_slices_ContainsFunc_sI_Cipher_I_Cipher) : semF (mkE [(157, c_slices_IndexFunc_sI_Cipher_I_Cipher)]) h_slices_ContainsFunc_sI_Cipher_I_Cipher (info Try.f139) pk_slices_ContainsFunc_sI_Cipher_I_Cipher rk_slices_ContainsFunc_sI_Cipher_I_Cipher x = M_slices_ContainsFunc_sI_Cipher_I_Cipher x := by kernel_rfl

set_option maxRecDepth 100000 in
theorem m_slices_ContainsFunc_sI_Cipher_I_Cipher : ConOK Try.prog 139 c_slices_ContainsFunc_sI_Cipher_I_Cipher := fn_ok (tyOK _) (E := mkE [(157, c_slices_IndexFunc_sI_Cipher_I_Cipher)]) (consOK_cons m_slices_IndexFunc_sI_Cipher_I_Cipher (consOK_nil rfl)) Try.func139 (h := h_slices_ContainsFunc_sI_Cipher_I_Cipher) (by kernel_rfl) eq_slices_ContainsFunc_sI_Cipher_I_Cipher

/-- I_Group_has -/
def pk_I_Group_has : List PK := [.data (.cons (.int .i64) (.cons (.int .i64) (.one (.int .i64)))), .data (.int .i64)]
def rk_I_Group_has : List (Ty × Bool) := [(.bool, false)]
def h_I_Group_has : Hints := { loops := [] }
noncomputable def M_I_Group_has (x : ((Int × (Int × Int)) × Int)) : (Option Bool) :=
  (bindO (some (IntKind.wrap .i64 (x.1.1 - (1 : Int)))) (fun (a0 : Int) => (bindO (M_I_within (x.2, ((1 : Int), a0))) (fun (a1 : Bool) => (cond a1 (bindO (M_I_power (x.2, (x.1.2.1, x.1.1))) (fun (a2 : Int) => (some (a2 == (1 : Int))))) (some false))))))

noncomputable def c_I_Group_has : Con0 := ⟨pk_I_Group_has, rk_I_Group_has, M_I_Group_has⟩

set_option maxRecDepth 100000 in
theorem eq_I_Group_has (x : In pk_I_Group_has) : semF (mkE [(65, c_I_within), (117, c_I_power)]) h_I_Group_has (info Try.f90) pk_I_Group_has rk_I_Group_has x = M_I_Group_has x := by kernel_rfl

set_option maxRecDepth 100000 in
theorem m_I_Group_has : ConOK Try.prog 90 c_I_Group_has := fn_ok (tyOK _) (E := mkE [(65, c_I_within), (117, c_I_power)]) (consOK_cons m_I_within (consOK_cons m_I_power (consOK_nil rfl))) Try.func90 (h := h_I_Group_has) (by kernel_rfl) eq_I_Group_has

/-- I_Group_hasCipher -/
def pk_I_Group_hasCipher : List PK := [.data (.cons (.int .i64) (.cons (.int .i64) (.one (.int .i64)))), .data (.cons (.int .i64) (.one (.int .i64)))]
def rk_I_Group_hasCipher : List (Ty × Bool) := [(.bool, false)]
def h_I_Group_hasCipher : Hints := { loops := [] }
noncomputable def M_I_Group_hasCipher (x : ((Int × (Int × Int)) × (Int × Int))) : (Option Bool) :=
  (bindO (M_I_Group_has ((x.1.1, (x.1.2.1, x.1.2.2)), x.2.1)) (fun (a0 : Bool) => (cond a0 (bindO (M_I_Group_has ((x.1.1, (x.1.2.1, x.1.2.2)), x.2.2)) (fun (a1 : Bool) => (some a1))) (some false))))

noncomputable def c_I_Group_hasCipher : Con0 := ⟨pk_I_Group_hasCipher, rk_I_Group_hasCipher, M_I_Group_hasCipher⟩

set_option maxRecDepth 100000 in
theorem eq_I_Group_hasCipher (x : In pk_I_Group_hasCipher) : semF (mkE [(90, c_I_Group_has)]) h_I_Group_hasCipher (info Try.f141) pk_I_Group_hasCipher rk_I_Group_hasCipher x = M_I_Group_hasCipher x := by kernel_rfl

set_option maxRecDepth 100000 in
theorem m_I_Group_hasCipher : ConOK Try.prog 141 c_I_Group_hasCipher := fn_ok (tyOK _) (E := mkE [(90, c_I_Group_has)]) (consOK_cons m_I_Group_has (consOK_nil rfl)) Try.func141 (h := h_I_Group_hasCipher) (by kernel_rfl) eq_I_Group_hasCipher

/-- I_Group_hasCiphers_1 -/
def pk_I_Group_hasCiphers_1 : List PK := [.data (.cons (.int .i64) (.one (.int .i64))), .rp (.cons (.int .i64) (.cons (.int .i64) (.one (.int .i64))))]
def rk_I_Group_hasCiphers_1 : List (Ty × Bool) := [(.bool, false)]
def h_I_Group_hasCiphers_1 : Hints := { loops := [] }
noncomputable def M_I_Group_hasCiphers_1 (x : ((Int × Int) × (Int × (Int × Int)))) : (Option Bool) :=
  (bindO (M_I_Group_hasCipher ((x.2.1, (x.2.2.1, x.2.2.2)), (x.1.1, x.1.2))) (fun (a0 : Bool) => (some (not a0))))

noncomputable def c_I_Group_hasCiphers_1 : Con0 := ⟨pk_I_Group_hasCiphers_1, rk_I_Group_hasCiphers_1, M_I_Group_hasCiphers_1⟩

set_option maxRecDepth 100000 in
theorem eq_I_Group_hasCiphers_1 (x : In pk_I_Group_hasCiphers_1) : semF (mkE [(141, c_I_Group_hasCipher)]) h_I_Group_hasCiphers_1 (info Try.f140) pk_I_Group_hasCiphers_1 rk_I_Group_hasCiphers_1 x = M_I_Group_hasCiphers_1 x := by kernel_rfl

set_option maxRecDepth 100000 in
theorem m_I_Group_hasCiphers_1 : ConOK Try.prog 140 c_I_Group_hasCiphers_1 := fn_ok (tyOK _) (E := mkE [(141, c_I_Group_hasCipher)]) (consOK_cons m_I_Group_hasCipher (consOK_nil rfl)) Try.func140 (h := h_I_Group_hasCiphers_1) (by kernel_rfl) eq_I_Group_hasCiphers_1

/-- I_Group_hasCiphers -/
def pk_I_Group_hasCiphers : List PK := [.data (.cons (.int .i64) (.cons (.int .i64) (.one (.int .i64)))), .data (.sl (.cons (.int .i64) (.one (.int .i64))))]
def rk_I_Group_hasCiphers : List (Ty × Bool) := [(.bool, false)]
def h_I_Group_hasCiphers : Hints := { loops := [] }
noncomputable def M_I_Group_hasCiphers (x : ((Int × (Int × Int)) × (List (Int × Int)))) : (Option Bool) :=
  (cond (decide ((((List.length x.2) : Nat) : Int) ≤ (24 : Int))) (bindO (M_slices_ContainsFunc_sI_Cipher_I_Cipher (x.2, (fun (a0 : (Int × Int)) => (bindO (M_I_Group_hasCiphers_1 (a0, (x.1.1, (x.1.2.1, x.1.2.2)))) (fun (a1 : Bool) => (some a1)))))) (fun (a2 : Bool) => (some (not a2)))) (some false))

noncomputable def c_I_Group_hasCiphers : Con0 := ⟨pk_I_Group_hasCiphers, rk_I_Group_hasCiphers, M_I_Group_hasCiphers⟩

set_option maxRecDepth 100000 in
theorem eq_I_Group_hasCiphers (x : In pk_I_Group_hasCiphers) : semF (mkE [(139, c_slices_ContainsFunc_sI_Cipher_I_Cipher), (140, c_I_Group_hasCiphers_1)]) h_I_Group_hasCiphers (info Try.f105) pk_I_Group_hasCiphers rk_I_Group_hasCiphers x = M_I_Group_hasCiphers x := by kernel_rfl

set_option maxRecDepth 100000 in
theorem m_I_Group_hasCiphers : ConOK Try.prog 105 c_I_Group_hasCiphers := fn_ok (tyOK _) (E := mkE [(139, c_slices_ContainsFunc_sI_Cipher_I_Cipher), (140, c_I_Group_hasCiphers_1)]) (consOK_cons m_slices_ContainsFunc_sI_Cipher_I_Cipher (consOK_cons m_I_Group_hasCiphers_1 (consOK_nil rfl))) Try.func105 (h := h_I_Group_hasCiphers) (by kernel_rfl) eq_I_Group_hasCiphers

/-- I_mod -/
def pk_I_mod : List PK := [.data (.int .i64), .data (.int .i64)]
def rk_I_mod : List (Ty × Bool) := [((.int .i64), false)]
def h_I_mod : Hints := { loops := [] }
noncomputable def M_I_mod (x : (Int × Int)) : (Option Int) :=
  (bindO (guardO (x.2 != (0 : Int))) (fun (a0 : Unit) => (bindO (some (Int.tmod x.1 x.2)) (fun (a1 : Int) => (bindO (some (IntKind.wrap .i64 (a1 + x.2))) (fun (a2 : Int) => (bindO (guardO (x.2 != (0 : Int))) (fun (a3 : Unit) => (bindO (some (Int.tmod a2 x.2)) (fun (a4 : Int) => (some a4)))))))))))

noncomputable def c_I_mod : Con0 := ⟨pk_I_mod, rk_I_mod, M_I_mod⟩

set_option maxRecDepth 100000 in
theorem eq_I_mod (x : In pk_I_mod) : semF (mkE []) h_I_mod (info Try.f156) pk_I_mod rk_I_mod x = M_I_mod x := by kernel_rfl

set_option maxRecDepth 100000 in
theorem m_I_mod : ConOK Try.prog 156 c_I_mod := fn_ok (tyOK _) (E := mkE []) (consOK_nil rfl) Try.func156 (h := h_I_mod) (by kernel_rfl) eq_I_mod

/-- I_Group_pow -/
def pk_I_Group_pow : List PK := [.data (.cons (.int .i64) (.cons (.int .i64) (.one (.int .i64)))), .data (.int .i64), .data (.int .i64)]
def rk_I_Group_pow : List (Ty × Bool) := [((.int .i64), false)]
def h_I_Group_pow : Hints := { loops := [] }
noncomputable def M_I_Group_pow (x : ((Int × (Int × Int)) × (Int × Int))) : (Option Int) :=
  (bindO (M_I_mod (x.2.2, x.1.2.1)) (fun (a0 : Int) => (bindO (M_I_power (x.2.1, (a0, x.1.1))) (fun (a1 : Int) => (some a1)))))

noncomputable def c_I_Group_pow : Con0 := ⟨pk_I_Group_pow, rk_I_Group_pow, M_I_Group_pow⟩

set_option maxRecDepth 100000 in
theorem eq_I_Group_pow (x : In pk_I_Group_pow) : semF (mkE [(156, c_I_mod), (117, c_I_power)]) h_I_Group_pow (info Try.f135) pk_I_Group_pow rk_I_Group_pow x = M_I_Group_pow x := by kernel_rfl

set_option maxRecDepth 100000 in
theorem m_I_Group_pow : ConOK Try.prog 135 c_I_Group_pow := fn_ok (tyOK _) (E := mkE [(156, c_I_mod), (117, c_I_power)]) (consOK_cons m_I_mod (consOK_cons m_I_power (consOK_nil rfl))) Try.func135 (h := h_I_Group_pow) (by kernel_rfl) eq_I_Group_pow

/-- I_Group_inv -/
def pk_I_Group_inv : List PK := [.data (.cons (.int .i64) (.cons (.int .i64) (.one (.int .i64)))), .data (.int .i64)]
def rk_I_Group_inv : List (Ty × Bool) := [((.int .i64), false)]
def h_I_Group_inv : Hints := { loops := [] }
noncomputable def M_I_Group_inv (x : ((Int × (Int × Int)) × Int)) : (Option Int) :=
  (bindO (M_I_Group_pow ((x.1.1, (x.1.2.1, x.1.2.2)), (x.2, (- (1 : Int))))) (fun (a0 : Int) => (some a0)))

noncomputable def c_I_Group_inv : Con0 := ⟨pk_I_Group_inv, rk_I_Group_inv, M_I_Group_inv⟩

set_option maxRecDepth 100000 in
theorem eq_I_Group_inv (x : In pk_I_Group_inv) : semF (mkE [(135, c_I_Group_pow)]) h_I_Group_inv (info Try.f143) pk_I_Group_inv rk_I_Group_inv x = M_I_Group_inv x := by kernel_rfl

set_option maxRecDepth 100000 in
theorem m_I_Group_inv : ConOK Try.prog 143 c_I_Group_inv := fn_ok (tyOK _) (E := mkE [(135, c_I_Group_pow)]) (consOK_cons m_I_Group_pow (consOK_nil rfl)) Try.func143 (h := h_I_Group_inv) (by kernel_rfl) eq_I_Group_inv

/-- I_Group_mul -/
def pk_I_Group_mul : List PK := [.data (.cons (.int .i64) (.cons (.int .i64) (.one (.int .i64)))), .data (.sl (.int .i64))]
def rk_I_Group_mul : List (Ty × Bool) := [((.int .i64), false)]
def h_I_Group_mul : Hints := { loops := [(0, { items := [.slot 5 (.data (.int .i64) []), .slot 10 (.data (.int .i64) [])], kill := [0, 1, 3, 4, 6, 7, 11, 12, 13, 14, 15, 16, 17, 18, 19, 20, 21] })] }
noncomputable def M_I_Group_mul (x : ((Int × (Int × Int)) × (List Int))) : (Option Int) :=
  (loopO (fun (again0 : ((Int × Int) → (Option Int))) => (fun (s1 : (Int × Int)) => (cond (decide (s1.2 < (((List.length x.2) : Nat) : Int))) (bindO (getI x.2 s1.2) (fun (a2 : Int) => (bindO (some (IntKind.wrap .i64 (s1.1 * a2))) (fun (a3 : Int) => (bindO (guardO (x.1.1 != (0 : Int))) (fun (a4 : Unit) => (bindO (some (Int.tmod a3 x.1.1)) (fun (a5 : Int) => (bindO (some (IntKind.wrap .i64 (s1.2 + (1 : Int)))) (fun (a6 : Int) => (again0 (a5, a6)))))))))))) (some s1.1)))) ((1 : Int), (0 : Int)))

noncomputable def c_I_Group_mul : Con0 := ⟨pk_I_Group_mul, rk_I_Group_mul, M_I_Group_mul⟩

set_option maxRecDepth 100000 in
theorem eq_I_Group_mul (x : In pk_I_Group_mul) : semF (mkE []) h_I_Group_mul (info Try.f118) pk_I_Group_mul rk_I_Group_mul x = M_I_Group_mul x := by kernel_rfl

set_option maxRecDepth 100000 in
theorem m_I_Group_mul : ConOK Try.prog 118 c_I_Group_mul := fn_ok (tyOK _) (E := mkE []) (consOK_nil rfl) Try.func118 (h := h_I_Group_mul) (by kernel_rfl) eq_I_Group_mul

/-- I_Group_decrypt -/
def pk_I_Group_decrypt : List PK := [.data (.cons (.int .i64) (.cons (.int .i64) (.one (.int .i64)))), .data (.int .i64), .data (.cons (.int .i64) (.one (.int .i64)))]
def rk_I_Group_decrypt : List (Ty × Bool) := [((.int .i64), false)]
def h_I_Group_decrypt : Hints := { loops := [] }
noncomputable def M_I_Group_decrypt (x : ((Int × (Int × Int)) × (Int × (Int × Int)))) : (Option Int) :=
  (bindO (M_I_Group_pow ((x.1.1, (x.1.2.1, x.1.2.2)), (x.2.2.1, x.2.1))) (fun (a0 : Int) => (bindO (M_I_Group_inv ((x.1.1, (x.1.2.1, x.1.2.2)), a0)) (fun (a1 : Int) => (bindO (M_I_Group_mul ((x.1.1, (x.1.2.1, x.1.2.2)), (x.2.2.2 :: (a1 :: ([] : List Int))))) (fun (a2 : Int) => (some a2)))))))

noncomputable def c_I_Group_decrypt : Con0 := ⟨pk_I_Group_decrypt, rk_I_Group_decrypt, M_I_Group_decrypt⟩

set_option maxRecDepth 100000 in
theorem eq_I_Group_decrypt (x : In pk_I_Group_decrypt) : semF (mkE [(135, c_I_Group_pow), (143, c_I_Group_inv), (118, c_I_Group_mul)]) h_I_Group_decrypt (info Try.f109) pk_I_Group_decrypt rk_I_Group_decrypt x = M_I_Group_decrypt x := by kernel_rfl

set_option maxRecDepth 100000 in
theorem m_I_Group_decrypt : ConOK Try.prog 109 c_I_Group_decrypt := fn_ok (tyOK _) (E := mkE [(135, c_I_Group_pow), (143, c_I_Group_inv), (118, c_I_Group_mul)]) (consOK_cons m_I_Group_pow (consOK_cons m_I_Group_inv (consOK_cons m_I_Group_mul (consOK_nil rfl)))) Try.func109 (h := h_I_Group_decrypt) (by kernel_rfl) eq_I_Group_decrypt

/-- slices_Index_sint_int -/
def pk_slices_Index_sint_int : List PK := [.data (.sl (.int .i64)), .data (.int .i64)]
def rk_slices_Index_sint_int : List (Ty × Bool) := [((.int .i64), false)]
def h_slices_Index_sint_int : Hints := { loops := [(0, { items := [.slot 8 (.data (.int .i64) [])], kill := [2, 3, 4, 5, 6, 9, 10, 11, 12, 13, 14, 15, 16, 17, 18] })] }
noncomputable def M_slices_Index_sint_int (x : ((List Int) × Int)) : (Option Int) :=
  (loopO (fun (again0 : (Int → (Option Int))) => (fun (s1 : Int) => (cond (decide (s1 < (((List.length x.1) : Nat) : Int))) (bindO (getI x.1 s1) (fun (a2 : Int) => (cond (x.2 == a2) (some s1) (bindO (some (IntKind.wrap .i64 (s1 + (1 : Int)))) (fun (a3 : Int) => (again0 a3)))))) (some (- (1 : Int)))))) (0 : Int))

noncomputable def c_slices_Index_sint_int : Con0 := ⟨pk_slices_Index_sint_int, rk_slices_Index_sint_int, M_slices_Index_sint_int⟩

set_option maxRecDepth 100000 in
theorem eq_slices_Index_sint_int (x : In pk_slices_Index_sint_int) : semF (mkE []) h_slices_Index_sint_int (info Try.f110) pk_slices_Index_sint_int rk_slices_Index_sint_int x = M_slices_Index_sint_int x := by kernel_rfl

set_option maxRecDepth 100000 in
theorem m_slices_Index_sint_int : ConOK Try.prog 110 c_slices_Index_sint_int := fn_ok (tyOK _) (E := mkE []) (consOK_nil rfl) Try.func110 (h := h_slices_Index_sint_int) (by kernel_rfl) eq_slices_Index_sint_int

/-- I_EqualGroups -/
def pk_I_EqualGroups : List PK := [.data (.cons (.int .i64) (.cons (.int .i64) (.one (.int .i64)))), .data (.int .i64), .data (.sl (.cons (.int .i64) (.one (.int .i64))))]
def rk_I_EqualGroups : List (Ty × Bool) := [((.sl (.int .i64)), true), (.bool, false)]
def h_I_EqualGroups : Hints := { loops := [(0, { items := [.slot 8 (.own (.int .i64) true), .slot 9 (.own (.int .i64) true), .slot 31 (.data (.int .i64) [])], kill := [0, 2, 4, 5, 6, 7, 10, 11, 12, 13, 14, 15, 16, 17, 18, 19, 20, 21, 22, 23, 24, 25, 26, 27, 28, 32, 33, 34, 35, 36, 37, 38, 39, 40, 41, 42, 43, 44, 45, 46, 47, 48, 49, 50, 51, 52, 53, 54] })] }
noncomputable def M_I_EqualGroups (x : ((Int × (Int × Int)) × (Int × (List (Int × Int))))) : (Option ((List Int) × Bool)) :=
  (bindO (M_I_IsValidGroup (x.1.1, (x.1.2.1, x.1.2.2))) (fun (a0 : Bool) => (cond (not a0) (some (([] : List Int), false)) (bindO (M_I_Group_isExp ((x.1.1, (x.1.2.1, x.1.2.2)), x.2.1)) (fun (a1 : Bool) => (cond (not a1) (some (([] : List Int), false)) (bindO (M_I_Group_hasCiphers ((x.1.1, (x.1.2.1, x.1.2.2)), x.2.2)) (fun (a2 : Bool) => (cond (not a2) (some (([] : List Int), false)) (loopO (fun (again3 : (((List Int) × ((List Int) × Int)) → (Option ((List Int) × Bool)))) => (fun (s4 : ((List Int) × ((List Int) × Int))) => (cond (decide (s4.2.2 < (((List.length x.2.2) : Nat) : Int))) (bindO (getI x.2.2 s4.2.2) (fun (a5 : (Int × Int)) => (bindO (M_I_Group_decrypt ((x.1.1, (x.1.2.1, x.1.2.2)), (x.2.1, (a5.1, a5.2)))) (fun (a6 : Int) => (bindO (guardO (lenOk ((List.length s4.2.1) + (List.length (a6 :: ([] : List Int)))))) (fun (a7 : Unit) => (bindO (some (s4.2.1 ++ (a6 :: ([] : List Int)))) (fun (a8 : (List Int)) => (bindO (some (IntKind.wrap .i64 ((((List.length a8) : Nat) : Int) - (1 : Int)))) (fun (a9 : Int) => (bindO (getI a8 a9) (fun (a10 : Int) => (bindO (M_slices_Index_sint_int (a8, a10)) (fun (a11 : Int) => (bindO (guardO (lenOk ((List.length s4.1) + (List.length (a11 :: ([] : List Int)))))) (fun (a12 : Unit) => (bindO (some (s4.1 ++ (a11 :: ([] : List Int)))) (fun (a13 : (List Int)) => (bindO (some (IntKind.wrap .i64 (s4.2.2 + (1 : Int)))) (fun (a14 : Int) => (again3 (a13, (a8, a14))))))))))))))))))))))) (some (s4.1, true))))) (([] : List Int), (([] : List Int), (0 : Int)))))))))))))

noncomputable def c_I_EqualGroups : Con0 := ⟨pk_I_EqualGroups, rk_I_EqualGroups, M_I_EqualGroups⟩

set_option maxRecDepth 100000 in
theorem eq_I_EqualGroups (x : In pk_I_EqualGroups) : semF (mkE [(63, c_I_IsValidGroup), (108, c_I_Group_isExp), (105, c_I_Group_hasCiphers), (109, c_I_Group_decrypt), (110, c_slices_Index_sint_int)]) h_I_EqualGroups (info Try.f53) pk_I_EqualGroups rk_I_EqualGroups x = M_I_EqualGroups x := by kernel_rfl

set_option maxRecDepth 100000 in
theorem m_I_EqualGroups : ConOK Try.prog 53 c_I_EqualGroups := fn_ok (tyOK _) (E := mkE [(63, c_I_IsValidGroup), (108, c_I_Group_isExp), (105, c_I_Group_hasCiphers), (109, c_I_Group_decrypt), (110, c_slices_Index_sint_int)]) (consOK_cons m_I_IsValidGroup (consOK_cons m_I_Group_isExp (consOK_cons m_I_Group_hasCiphers (consOK_cons m_I_Group_decrypt (consOK_cons m_slices_Index_sint_int (consOK_nil rfl)))))) Try.func53 (h := h_I_EqualGroups) (by kernel_rfl) eq_I_EqualGroups

/-- L_eqIntS -/
def pk_L_eqIntS : List PK := [.data (.sl (.int .i64)), .data (.sl (.int .i64))]
def rk_L_eqIntS : List (Ty × Bool) := [(.bool, false)]
def h_L_eqIntS : Hints := { loops := [(0, { items := [.slot 5 (.data (.int .i64) [])], kill := [2, 3, 4, 6, 7, 8, 9, 10, 11, 12, 13, 14, 15, 16, 17, 18, 19, 20, 21, 22, 23, 24, 25] })] }
noncomputable def M_L_eqIntS (x : ((List Int) × (List Int))) : (Option Bool) :=
  (cond ((((List.length x.1) : Nat) : Int) != (((List.length x.2) : Nat) : Int)) (some false) (loopO (fun (again0 : (Int → (Option Bool))) => (fun (s1 : Int) => (cond (decide (s1 < (((List.length x.1) : Nat) : Int))) (bindO (getI x.1 s1) (fun (a2 : Int) => (bindO (getI x.2 s1) (fun (a3 : Int) => (cond (a2 != a3) (some false) (bindO (some (IntKind.wrap .i64 (s1 + (1 : Int)))) (fun (a4 : Int) => (again0 a4)))))))) (some true)))) (0 : Int)))

noncomputable def c_L_eqIntS : Con0 := ⟨pk_L_eqIntS, rk_L_eqIntS, M_L_eqIntS⟩

set_option maxRecDepth 100000 in
theorem eq_L_eqIntS (x : In pk_L_eqIntS) : semF (mkE []) h_L_eqIntS (info Try.f24) pk_L_eqIntS rk_L_eqIntS x = M_L_eqIntS x := by kernel_rfl

set_option maxRecDepth 100000 in
theorem m_L_eqIntS : ConOK Try.prog 24 c_L_eqIntS := fn_ok (tyOK _) (E := mkE []) (consOK_nil rfl) Try.func24 (h := h_L_eqIntS) (by kernel_rfl) eq_L_eqIntS

/-- L_eqCipher -/
def pk_L_eqCipher : List PK := [.data (.cons (.int .i64) (.one (.int .i64))), .data (.cons (.int .i64) (.one (.int .i64)))]
def rk_L_eqCipher : List (Ty × Bool) := [(.bool, false)]
def h_L_eqCipher : Hints := { loops := [] }
noncomputable def M_L_eqCipher (x : ((Int × Int) × (Int × Int))) : (Option Bool) :=
  (cond (x.1.1 != x.2.1) (some false) (cond (x.1.2 != x.2.2) (some false) (some true)))

noncomputable def c_L_eqCipher : Con0 := ⟨pk_L_eqCipher, rk_L_eqCipher, M_L_eqCipher⟩

set_option maxRecDepth 100000 in
theorem eq_L_eqCipher (x : In pk_L_eqCipher) : semF (mkE []) h_L_eqCipher (info Try.f94) pk_L_eqCipher rk_L_eqCipher x = M_L_eqCipher x := by kernel_rfl

set_option maxRecDepth 100000 in
theorem m_L_eqCipher : ConOK Try.prog 94 c_L_eqCipher := fn_ok (tyOK _) (E := mkE []) (consOK_nil rfl) Try.func94 (h := h_L_eqCipher) (by kernel_rfl) eq_L_eqCipher

/-- L_eqCipherS -/
def pk_L_eqCipherS : List PK := [.data (.sl (.cons (.int .i64) (.one (.int .i64)))), .data (.sl (.cons (.int .i64) (.one (.int .i64))))]
def rk_L_eqCipherS : List (Ty × Bool) := [(.bool, false)]
def h_L_eqCipherS : Hints := { loops := [(0, { items := [.slot 5 (.data (.int .i64) [])], kill := [2, 3, 4, 6, 7, 8, 9, 10, 11, 12, 13, 14, 15, 16, 17, 18, 19, 20, 21, 22, 23, 24, 25, 26] })] }
noncomputable def M_L_eqCipherS (x : ((List (Int × Int)) × (List (Int × Int)))) : (Option Bool) :=
  (cond ((((List.length x.1) : Nat) : Int) != (((List.length x.2) : Nat) : Int)) (some false) (loopO (fun (again0 : (Int → (Option Bool))) => (fun (s1 : Int) => (cond (decide (s1 < (((List.length x.1) : Nat) : Int))) (bindO (getI x.1 s1) (fun (a2 : (Int × Int)) => (bindO (getI x.2 s1) (fun (a3 : (Int × Int)) => (bindO (M_L_eqCipher ((a2.1, a2.2), (a3.1, a3.2))) (fun (a4 : Bool) => (cond (not a4) (some false) (bindO (some (IntKind.wrap .i64 (s1 + (1 : Int)))) (fun (a5 : Int) => (again0 a5)))))))))) (some true)))) (0 : Int)))

noncomputable def c_L_eqCipherS : Con0 := ⟨pk_L_eqCipherS, rk_L_eqCipherS, M_L_eqCipherS⟩

set_option maxRecDepth 100000 in
theorem eq_L_eqCipherS (x : In pk_L_eqCipherS) : semF (mkE [(94, c_L_eqCipher)]) h_L_eqCipherS (info Try.f41) pk_L_eqCipherS rk_L_eqCipherS x = M_L_eqCipherS x := by kernel_rfl

set_option maxRecDepth 100000 in
theorem m_L_eqCipherS : ConOK Try.prog 41 c_L_eqCipherS := fn_ok (tyOK _) (E := mkE [(94, c_L_eqCipher)]) (consOK_cons m_L_eqCipher (consOK_nil rfl)) Try.func41 (h := h_L_eqCipherS) (by kernel_rfl) eq_L_eqCipherS

/-- L_markCipherS -/
def pk_L_markCipherS : List PK := [.mv (.sl (.cons (.int .i64) (.one (.int .i64)))), .data (.int .i64)]
def rk_L_markCipherS : List (Ty × Bool) := [((.int .i64), false)]
def h_L_markCipherS : Hints := { loops := [(0, { items := [.slot 1 (.data (.int .i64) []), .slot 5 (.data (.int .i64) []), .arr 0 (.cons (.int .i64) (.one (.int .i64))) true], kill := [2, 3, 4, 6, 7, 8, 9, 10, 11, 12, 13, 14, 15, 16, 17, 18, 19, 20, 21, 22, 23, 24, 25, 26] })] }
noncomputable def M_L_markCipherS (x : ((List (Int × Int)) × Int)) : (Option (Int × (List (Int × Int)))) :=
  (loopO (fun (again0 : ((Int × (Int × (List (Int × Int)))) → (Option (Int × (List (Int × Int)))))) => (fun (s1 : (Int × (Int × (List (Int × Int))))) => (cond (decide (s1.2.1 < (((List.length s1.2.2) : Nat) : Int))) (bindO (getI s1.2.2 s1.2.1) (fun (a2 : (Int × Int)) => (bindO (some (List.set s1.2.2 (Int.toNat s1.2.1) (s1.1, a2.2))) (fun (a3 : (List (Int × Int))) => (bindO (some (IntKind.wrap .i64 (s1.1 + (1 : Int)))) (fun (a4 : Int) => (bindO (getI a3 s1.2.1) (fun (a5 : (Int × Int)) => (bindO (some (List.set a3 (Int.toNat s1.2.1) (a5.1, a4))) (fun (a6 : (List (Int × Int))) => (bindO (some (IntKind.wrap .i64 (a4 + (1 : Int)))) (fun (a7 : Int) => (bindO (some (IntKind.wrap .i64 (s1.2.1 + (1 : Int)))) (fun (a8 : Int) => (again0 (a7, (a8, a6))))))))))))))))) (some (s1.1, s1.2.2))))) (x.2, ((0 : Int), x.1)))

noncomputable def c_L_markCipherS : Con0 := ⟨pk_L_markCipherS, rk_L_markCipherS, M_L_markCipherS⟩

set_option maxRecDepth 100000 in
theorem eq_L_markCipherS (x : In pk_L_markCipherS) : semF (mkE []) h_L_markCipherS (info Try.f42) pk_L_markCipherS rk_L_markCipherS x = M_L_markCipherS x := by kernel_rfl

set_option maxRecDepth 100000 in
theorem m_L_markCipherS : ConOK Try.prog 42 c_L_markCipherS := fn_ok (tyOK _) (E := mkE []) (consOK_nil rfl) Try.func42 (h := h_L_markCipherS) (by kernel_rfl) eq_L_markCipherS

/-- L_markIntS -/
def pk_L_markIntS : List PK := [.mv (.sl (.int .i64)), .data (.int .i64)]
def rk_L_markIntS : List (Ty × Bool) := [((.int .i64), false)]
def h_L_markIntS : Hints := { loops := [(0, { items := [.slot 1 (.data (.int .i64) []), .slot 5 (.data (.int .i64) []), .arr 0 (.int .i64) true], kill := [2, 3, 4, 6, 7, 8, 9, 10, 11, 12, 13, 14, 15, 16, 17, 18] })] }
noncomputable def M_L_markIntS (x : ((List Int) × Int)) : (Option (Int × (List Int))) :=
  (loopO (fun (again0 : ((Int × (Int × (List Int))) → (Option (Int × (List Int))))) => (fun (s1 : (Int × (Int × (List Int)))) => (cond (decide (s1.2.1 < (((List.length s1.2.2) : Nat) : Int))) (bindO (getI s1.2.2 s1.2.1) (fun (a2 : Int) => (bindO (some (List.set s1.2.2 (Int.toNat s1.2.1) s1.1)) (fun (a3 : (List Int)) => (bindO (some (IntKind.wrap .i64 (s1.1 + (1 : Int)))) (fun (a4 : Int) => (bindO (some (IntKind.wrap .i64 (s1.2.1 + (1 : Int)))) (fun (a5 : Int) => (again0 (a4, (a5, a3))))))))))) (some (s1.1, s1.2.2))))) (x.2, ((0 : Int), x.1)))

noncomputable def c_L_markIntS : Con0 := ⟨pk_L_markIntS, rk_L_markIntS, M_L_markIntS⟩

set_option maxRecDepth 100000 in
theorem eq_L_markIntS (x : In pk_L_markIntS) : semF (mkE []) h_L_markIntS (info Try.f25) pk_L_markIntS rk_L_markIntS x = M_L_markIntS x := by kernel_rfl

set_option maxRecDepth 100000 in
theorem m_L_markIntS : ConOK Try.prog 25 c_L_markIntS := fn_ok (tyOK _) (E := mkE []) (consOK_nil rfl) Try.func25 (h := h_L_markIntS) (by kernel_rfl) eq_L_markIntS

/-- L_heldIntS -/
def pk_L_heldIntS : List PK := [.data (.sl (.int .i64)), .data (.int .i64)]
def rk_L_heldIntS : List (Ty × Bool) := [((.int .i64), false)]
def h_L_heldIntS : Hints := { loops := [(0, { items := [.slot 1 (.data (.int .i64) []), .slot 5 (.data (.int .i64) [])], kill := [2, 3, 4, 6, 7, 8, 9, 10, 11, 12, 13, 14, 15, 16, 17, 18, 19, 20] })] }
noncomputable def M_L_heldIntS (x : ((List Int) × Int)) : (Option Int) :=
  (loopO (fun (again0 : ((Int × Int) → (Option Int))) => (fun (s1 : (Int × Int)) => (cond (decide (s1.2 < (((List.length x.1) : Nat) : Int))) (bindO (getI x.1 s1.2) (fun (a2 : Int) => (cond (a2 != s1.1) (some (- (1 : Int))) (bindO (some (IntKind.wrap .i64 (s1.1 + (1 : Int)))) (fun (a3 : Int) => (bindO (some (IntKind.wrap .i64 (s1.2 + (1 : Int)))) (fun (a4 : Int) => (again0 (a3, a4))))))))) (some s1.1)))) (x.2, (0 : Int)))

noncomputable def c_L_heldIntS : Con0 := ⟨pk_L_heldIntS, rk_L_heldIntS, M_L_heldIntS⟩

set_option maxRecDepth 100000 in
theorem eq_L_heldIntS (x : In pk_L_heldIntS) : semF (mkE []) h_L_heldIntS (info Try.f26) pk_L_heldIntS rk_L_heldIntS x = M_L_heldIntS x := by kernel_rfl

set_option maxRecDepth 100000 in
theorem m_L_heldIntS : ConOK Try.prog 26 c_L_heldIntS := fn_ok (tyOK _) (E := mkE []) (consOK_nil rfl) Try.func26 (h := h_L_heldIntS) (by kernel_rfl) eq_L_heldIntS

/-- L_FnExactEqualGroups -/
def pk_L_FnExactEqualGroups : List PK := [.data (.cons (.int .i64) (.cons (.int .i64) (.one (.int .i64)))), .data (.int .i64), .data (.sl (.cons (.int .i64) (.one (.int .i64))))]
def rk_L_FnExactEqualGroups : List (Ty × Bool) := [(.bool, false)]
def h_L_FnExactEqualGroups : Hints := { loops := [] }
noncomputable def M_L_FnExactEqualGroups (x : ((Int × (Int × Int)) × (Int × (List (Int × Int))))) : (Option Bool) :=
  (bindO (M_L_szCipherS (x.2.2, (1048576 : Int))) (fun (a0 : Int) => (cond (decide (a0 < (0 : Int))) (some true) (bindO (M_L_toGroup (x.1.1, (x.1.2.1, x.1.2.2))) (fun (a1 : (Int × (Int × Int))) => (bindO (M_L_toCipherS x.2.2) (fun (a2 : (List (Int × Int))) => (bindO (M_S_EqualGroups ((a1.1, (a1.2.1, a1.2.2)), (x.2.1, a2))) (fun (a3 : ((List Int) × Bool)) => (bindO (M_L_toCipherS x.2.2) (fun (a4 : (List (Int × Int))) => (bindO (M_L_toGroup (x.1.1, (x.1.2.1, x.1.2.2))) (fun (a5 : (Int × (Int × Int))) => (bindO (M_I_EqualGroups ((a5.1, (a5.2.1, a5.2.2)), (x.2.1, a4))) (fun (a6 : ((List Int) × Bool)) => (bindO (M_L_eqIntS (a6.1, a3.1)) (fun (a7 : Bool) => (cond (not a7) (some false) (cond (not (a6.2 == a3.2)) (some false) (bindO (M_L_toCipherS x.2.2) (fun (a8 : (List (Int × Int))) => (bindO (M_L_eqCipherS (a4, a8)) (fun (a9 : Bool) => (cond (not a9) (some false) (bindO (M_L_markCipherS (a4, (1 : Int))) (fun (a10 : (Int × (List (Int × Int)))) => (cond (decide (a10.1 < (0 : Int))) (some false) (bindO (M_L_eqIntS (a6.1, a3.1)) (fun (a11 : Bool) => (cond (not a11) (some false) (cond (not (a6.2 == a3.2)) (some false) (bindO (M_L_markIntS (a6.1, (1 : Int))) (fun (a12 : (Int × (List Int))) => (bindO (M_L_heldIntS (a12.2, (1 : Int))) (fun (a13 : Int) => (cond (decide (a13 < (0 : Int))) (some false) (cond (a13 != a12.1) (some false) (bindO (M_L_toGroup (x.1.1, (x.1.2.1, x.1.2.2))) (fun (a14 : (Int × (Int × Int))) => (bindO (M_L_toCipherS x.2.2) (fun (a15 : (List (Int × Int))) => (bindO (M_I_EqualGroups ((a14.1, (a14.2.1, a14.2.2)), (x.2.1, a15))) (fun (a16 : ((List Int) × Bool)) => (bindO (M_L_eqIntS (a16.1, a3.1)) (fun (a17 : Bool) => (cond (not a17) (some false) (cond (not (a16.2 == a3.2)) (some false) (bindO (M_L_heldIntS (a12.2, (1 : Int))) (fun (a18 : Int) => (cond (decide (a18 < (0 : Int))) (some false) (cond (a18 != a12.1) (some false) (some true))))))))))))))))))))))))))))))))))))))))))))))))))))

noncomputable def c_L_FnExactEqualGroups : Con0 := ⟨pk_L_FnExactEqualGroups, rk_L_FnExactEqualGroups, M_L_FnExactEqualGroups⟩

set_option maxRecDepth 100000 in
theorem eq_L_FnExactEqualGroups (x : In pk_L_FnExactEqualGroups) : semF (mkE [(48, c_L_szCipherS), (21, c_L_toGroup), (50, c_L_toCipherS), (52, c_S_EqualGroups), (53, c_I_EqualGroups), (24, c_L_eqIntS), (41, c_L_eqCipherS), (42, c_L_markCipherS), (25, c_L_markIntS), (26, c_L_heldIntS)]) h_L_FnExactEqualGroups (info Try.f14) pk_L_FnExactEqualGroups rk_L_FnExactEqualGroups x = M_L_FnExactEqualGroups x := by kernel_rfl

set_option maxRecDepth 100000 in
theorem m_L_FnExactEqualGroups : ConOK Try.prog 14 c_L_FnExactEqualGroups := fn_ok (tyOK _) (E := mkE [(48, c_L_szCipherS), (21, c_L_toGroup), (50, c_L_toCipherS), (52, c_S_EqualGroups), (53, c_I_EqualGroups), (24, c_L_eqIntS), (41, c_L_eqCipherS), (42, c_L_markCipherS), (25, c_L_markIntS), (26, c_L_heldIntS)]) (consOK_cons m_L_szCipherS (consOK_cons m_L_toGroup (consOK_cons m_L_toCipherS (consOK_cons m_S_EqualGroups (consOK_cons m_I_EqualGroups (consOK_cons m_L_eqIntS (consOK_cons m_L_eqCipherS (consOK_cons m_L_markCipherS (consOK_cons m_L_markIntS (consOK_cons m_L_heldIntS (consOK_nil rfl))))))))))) Try.func14 (h := h_L_FnExactEqualGroups) (by kernel_rfl) eq_L_FnExactEqualGroups

end Go.Proofs.Ytmgphiofmhfjnaa.Vd
