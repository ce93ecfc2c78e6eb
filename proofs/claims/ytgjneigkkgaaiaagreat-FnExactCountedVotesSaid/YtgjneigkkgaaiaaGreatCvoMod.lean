/- The functions of the law as plain functions on data, and that the program's functions are these. No conditions. -/
import Derived.Test.YtgjneigkkgaaiaaGreatVdSS
import Derived.Test.YtgjneigkkgaaiaaGreatChecked
import Derived.KernelRfl
set_option linter.unusedVariables false
namespace Go.Proofs.YtgjneigkkgaaiaaGreat.Vd
def tys : List (Option Ty) := [none, none, some (.int .i64), some (.int .i64), some .bool, some (.int .u8), some (.int .u8), some (.cons (.int .i64) (.cons (.int .i64) (.cons .bool (.one (.int .u8))))), some (.cons (.int .i64) (.cons (.int .i64) (.cons .bool (.one (.int .u8))))), some .str, some .str, some .str, some (.int .u64), some (.cons .str (.one (.int .u64))), some (.cons .str (.one (.int .u64))), none, none, none, none, none, none, some (.int .i32), some (.cons (.int .i64) (.cons (.int .i64) (.one (.int .i64)))), some (.cons (.int .i64) (.cons (.int .i64) (.one (.int .i64)))), some (.sl (.cons (.int .i64) (.one (.int .i64)))), some (.sl (.cons (.cons (.int .i64) (.one (.int .i64))) (.cons (.cons (.int .i64) (.one (.int .i64))) (.one (.cons (.sl (.int .i64)) (.cons (.sl (.int .i64)) (.one (.sl (.int .i64))))))))), none, none, some (.sl (.int .i64)), none, none, some (.cons (.int .i64) (.cons (.int .i64) (.one (.int .i64)))), none, some (.sl (.cons (.int .i64) (.one (.int .i64)))), none, some (.sl (.cons (.cons (.int .i64) (.one (.int .i64))) (.cons (.cons (.int .i64) (.one (.int .i64))) (.one (.cons (.sl (.int .i64)) (.cons (.sl (.int .i64)) (.one (.sl (.int .i64))))))))), none, none, none, none, none, none, none, none, some (.sl (.int .u8)), none, some (.cons (.int .i64) (.cons (.int .i64) (.cons (.int .i64) (.cons (.int .i64) (.one (.int .i64)))))), some (.cons (.int .i64) (.cons (.int .i64) (.cons (.int .i64) (.cons (.int .i64) (.one (.int .i64)))))), some (.sl (.sl (.int .i64))), none, none, none, some (.sl (.sl (.cons (.int .i64) (.one (.int .i64))))), none, some (.cons (.int .i64) (.one (.int .i64))), some (.cons (.int .i64) (.one (.int .i64))), none, none, none, none, none, none, none, none, none, none, some (.cons (.int .i64) (.one (.int .i64))), some (.cons (.sl (.int .i64)) (.cons (.sl (.int .i64)) (.one (.sl (.int .i64))))), some (.cons (.sl (.int .i64)) (.cons (.sl (.int .i64)) (.one (.sl (.int .i64))))), some (.cons (.cons (.int .i64) (.one (.int .i64))) (.cons (.cons (.int .i64) (.one (.int .i64))) (.one (.cons (.sl (.int .i64)) (.cons (.sl (.int .i64)) (.one (.sl (.int .i64)))))))), some (.cons (.cons (.int .i64) (.one (.int .i64))) (.cons (.cons (.int .i64) (.one (.int .i64))) (.one (.cons (.sl (.int .i64)) (.cons (.sl (.int .i64)) (.one (.sl (.int .i64)))))))), none, none, some (.cons (.sl (.int .i64)) (.cons (.sl (.int .i64)) (.one (.sl (.int .i64))))), some (.cons (.cons (.int .i64) (.one (.int .i64))) (.cons (.cons (.int .i64) (.one (.int .i64))) (.one (.cons (.sl (.int .i64)) (.cons (.sl (.int .i64)) (.one (.sl (.int .i64)))))))), some (.cons (.cons (.int .i64) (.one (.int .i64))) (.cons (.cons (.int .i64) (.one (.int .i64))) (.one (.cons (.sl (.int .i64)) (.cons (.sl (.int .i64)) (.one (.sl (.int .i64)))))))), none, none, none, none, none, none, none, none, some (.int .u64), some (.cons (.sl (.int .u8)) (.cons (.int .i64) (.one (.int .u64)))), some (.cons (.sl (.int .u8)) (.cons (.int .i64) (.one (.int .u64)))), none, none, none, none, none, none, none, none, none, none, none, none, none, none, none, none, none, none, none, none, none, none, none, none, none, none, none, none, none, none, none, none, none, none, none, none, none, none, none, none, none, none, none, none, some (.int .u64), none, none, none, none, none, none, none, none, none, none, none, none, none, none, none, some (.int .i64), none, none, none, none, none, none, some (.int .u32), none, none, none, none, none, none, none, none, none, none, none, none, some (.int .u64), none, none, none, none, none, none, none, none, none, none, none, none, none, some (.cons (.int .i64) (.one (.int .i64))), some (.cons (.int .i64) (.one (.int .i64))), none, none, none, none, none, none, none, some (.int .u8), some (.int .u8), none, none, some (.int .i32), some (.int .i32), none, none, none]
def others : List Nat := [1, 15, 16, 17, 26, 27, 30, 32, 34, 36, 37, 38, 39, 40, 41, 42, 43, 45, 50, 51, 53, 57, 59, 61, 63, 64, 65, 71, 72, 76, 77, 78, 79, 80, 81, 82, 83, 87, 88, 89, 90, 91, 92, 93, 94, 95, 96, 97, 98, 99, 100, 101, 102, 103, 104, 105, 106, 107, 108, 109, 110, 111, 112, 113, 114, 115, 116, 117, 118, 119, 120, 121, 122, 123, 124, 125, 126, 127, 128, 129, 130, 132, 133, 134, 135, 136, 138, 139, 140, 141, 142, 143, 144, 145, 146, 149, 150, 151, 152, 153, 155, 156, 157, 159, 161, 162, 164, 165, 166, 168, 169, 170, 171, 172, 173, 174, 175, 177, 178, 179, 180, 183, 184, 192, 193]
def pairs : List Nat := [54, 55, 66, 181, 182]
noncomputable def mkE (con : List (Nat × Con0)) : Env := ⟨[], tys, others, pairs, con⟩

set_option maxRecDepth 100000 in
theorem tyOK (con : List (Nat × Con0)) : TyOK Tryz.prog (mkE con) := tyOK_of (E := mkE con) (by kernel_rfl) (by kernel_rfl) (by kernel_rfl)

/-- L_szCipherS -/
def pk_L_szCipherS : List PK := [.data (.sl (.cons (.int .i64) (.one (.int .i64)))), .data (.int .i64)]
def rk_L_szCipherS : List (Ty × Bool) := [((.int .i64), false)]
def h_L_szCipherS : Hints := { loops := [] }
noncomputable def M_L_szCipherS (x : ((List (Int × Int)) × Int)) : (Option Int) :=
  (bindO (some (IntKind.wrap .i64 (x.2 - (((List.length x.1) : Nat) : Int)))) (fun (a0 : Int) => (cond (decide (a0 < (0 : Int))) (some (- (1 : Int))) (some a0))))

noncomputable def c_L_szCipherS : Con0 := ⟨pk_L_szCipherS, rk_L_szCipherS, M_L_szCipherS⟩

set_option maxRecDepth 100000 in
theorem eq_L_szCipherS (x : In pk_L_szCipherS) : semF (mkE []) h_L_szCipherS (info Tryz.f5) pk_L_szCipherS rk_L_szCipherS x = M_L_szCipherS x := (semFF_eq _ _ _ _ _ _).symm.trans (by kernel_rfl)

set_option maxRecDepth 100000 in
theorem m_L_szCipherS : ConOK Tryz.prog 5 c_L_szCipherS := fn_ok (tyOK _) (E := mkE []) (consOK_nil rfl) Tryz.func5 (h := h_L_szCipherS) (by kernel_rfl) eq_L_szCipherS

/-- L_szIntS -/
def pk_L_szIntS : List PK := [.data (.sl (.int .i64)), .data (.int .i64)]
def rk_L_szIntS : List (Ty × Bool) := [((.int .i64), false)]
def h_L_szIntS : Hints := { loops := [] }
noncomputable def M_L_szIntS (x : ((List Int) × Int)) : (Option Int) :=
  (bindO (some (IntKind.wrap .i64 (x.2 - (((List.length x.1) : Nat) : Int)))) (fun (a0 : Int) => (cond (decide (a0 < (0 : Int))) (some (- (1 : Int))) (some a0))))

noncomputable def c_L_szIntS : Con0 := ⟨pk_L_szIntS, rk_L_szIntS, M_L_szIntS⟩

set_option maxRecDepth 100000 in
theorem eq_L_szIntS (x : In pk_L_szIntS) : semF (mkE []) h_L_szIntS (info Tryz.f124) pk_L_szIntS rk_L_szIntS x = M_L_szIntS x := (semFF_eq _ _ _ _ _ _).symm.trans (by kernel_rfl)

set_option maxRecDepth 100000 in
theorem m_L_szIntS : ConOK Tryz.prog 124 c_L_szIntS := fn_ok (tyOK _) (E := mkE []) (consOK_nil rfl) Tryz.func124 (h := h_L_szIntS) (by kernel_rfl) eq_L_szIntS

/-- L_szProof -/
def pk_L_szProof : List PK := [.data (.cons (.sl (.int .i64)) (.cons (.sl (.int .i64)) (.one (.sl (.int .i64))))), .data (.int .i64)]
def rk_L_szProof : List (Ty × Bool) := [((.int .i64), false)]
def h_L_szProof : Hints := { loops := [] }
noncomputable def M_L_szProof (x : (((List Int) × ((List Int) × (List Int))) × Int)) : (Option Int) :=
  (bindO (M_L_szIntS (x.1.1, x.2)) (fun (a0 : Int) => (cond (decide (a0 < (0 : Int))) (some (- (1 : Int))) (bindO (M_L_szIntS (x.1.2.1, a0)) (fun (a1 : Int) => (cond (decide (a1 < (0 : Int))) (some (- (1 : Int))) (bindO (M_L_szIntS (x.1.2.2, a1)) (fun (a2 : Int) => (cond (decide (a2 < (0 : Int))) (some (- (1 : Int))) (some a2))))))))))

noncomputable def c_L_szProof : Con0 := ⟨pk_L_szProof, rk_L_szProof, M_L_szProof⟩

set_option maxRecDepth 100000 in
theorem eq_L_szProof (x : In pk_L_szProof) : semF (mkE [(124, c_L_szIntS)]) h_L_szProof (info Tryz.f77) pk_L_szProof rk_L_szProof x = M_L_szProof x := (semFF_eq _ _ _ _ _ _).symm.trans (by kernel_rfl)

set_option maxRecDepth 100000 in
theorem m_L_szProof : ConOK Tryz.prog 77 c_L_szProof := fn_ok (tyOK _) (E := mkE [(124, c_L_szIntS)]) (consOK_cons m_L_szIntS (consOK_nil rfl)) Tryz.func77 (h := h_L_szProof) (by kernel_rfl) eq_L_szProof

/-- L_szCast -/
def pk_L_szCast : List PK := [.data (.cons (.cons (.int .i64) (.one (.int .i64))) (.cons (.cons (.int .i64) (.one (.int .i64))) (.one (.cons (.sl (.int .i64)) (.cons (.sl (.int .i64)) (.one (.sl (.int .i64)))))))), .data (.int .i64)]
def rk_L_szCast : List (Ty × Bool) := [((.int .i64), false)]
def h_L_szCast : Hints := { loops := [] }
noncomputable def M_L_szCast (x : (((Int × Int) × ((Int × Int) × ((List Int) × ((List Int) × (List Int))))) × Int)) : (Option Int) :=
  (bindO (M_L_szProof ((x.1.2.2.1, (x.1.2.2.2.1, x.1.2.2.2.2)), x.2)) (fun (a0 : Int) => (cond (decide (a0 < (0 : Int))) (some (- (1 : Int))) (some a0))))

noncomputable def c_L_szCast : Con0 := ⟨pk_L_szCast, rk_L_szCast, M_L_szCast⟩

set_option maxRecDepth 100000 in
theorem eq_L_szCast (x : In pk_L_szCast) : semF (mkE [(77, c_L_szProof)]) h_L_szCast (info Tryz.f31) pk_L_szCast rk_L_szCast x = M_L_szCast x := (semFF_eq _ _ _ _ _ _).symm.trans (by kernel_rfl)

set_option maxRecDepth 100000 in
theorem m_L_szCast : ConOK Tryz.prog 31 c_L_szCast := fn_ok (tyOK _) (E := mkE [(77, c_L_szProof)]) (consOK_cons m_L_szProof (consOK_nil rfl)) Tryz.func31 (h := h_L_szCast) (by kernel_rfl) eq_L_szCast

/-- L_szCastS -/
def pk_L_szCastS : List PK := [.data (.sl (.cons (.cons (.int .i64) (.one (.int .i64))) (.cons (.cons (.int .i64) (.one (.int .i64))) (.one (.cons (.sl (.int .i64)) (.cons (.sl (.int .i64)) (.one (.sl (.int .i64))))))))), .data (.int .i64)]
def rk_L_szCastS : List (Ty × Bool) := [((.int .i64), false)]
def h_L_szCastS : Hints := { loops := [(0, { items := [.slot 1 (.data (.int .i64) []), .slot 5 (.data (.int .i64) [])], kill := [2, 3, 4, 6, 7, 8, 9, 10, 11, 12, 13, 14, 15, 16, 17, 18, 19, 20, 21, 22, 23, 24, 25, 26] })] }
noncomputable def M_L_szCastS (x : ((List ((Int × Int) × ((Int × Int) × ((List Int) × ((List Int) × (List Int)))))) × Int)) : (Option Int) :=
  (bindO (some (IntKind.wrap .i64 (x.2 - (((List.length x.1) : Nat) : Int)))) (fun (a0 : Int) => (cond (decide (a0 < (0 : Int))) (some (- (1 : Int))) (loopO (fun (again1 : ((Int × Int) → (Option Int))) => (fun (s2 : (Int × Int)) => (cond (decide (s2.2 < (((List.length x.1) : Nat) : Int))) (bindO (getI x.1 s2.2) (fun (a3 : ((Int × Int) × ((Int × Int) × ((List Int) × ((List Int) × (List Int)))))) => (bindO (M_L_szCast (((a3.1.1, a3.1.2), ((a3.2.1.1, a3.2.1.2), (a3.2.2.1, (a3.2.2.2.1, a3.2.2.2.2)))), s2.1)) (fun (a4 : Int) => (cond (decide (a4 < (0 : Int))) (some (- (1 : Int))) (bindO (some (IntKind.wrap .i64 (s2.2 + (1 : Int)))) (fun (a5 : Int) => (again1 (a4, a5))))))))) (some s2.1)))) (a0, (0 : Int))))))

noncomputable def c_L_szCastS : Con0 := ⟨pk_L_szCastS, rk_L_szCastS, M_L_szCastS⟩

set_option maxRecDepth 100000 in
theorem eq_L_szCastS (x : In pk_L_szCastS) : semF (mkE [(31, c_L_szCast)]) h_L_szCastS (info Tryz.f6) pk_L_szCastS rk_L_szCastS x = M_L_szCastS x := (semFF_eq _ _ _ _ _ _).symm.trans (by kernel_rfl)

set_option maxRecDepth 100000 in
theorem m_L_szCastS : ConOK Tryz.prog 6 c_L_szCastS := fn_ok (tyOK _) (E := mkE [(31, c_L_szCast)]) (consOK_cons m_L_szCast (consOK_nil rfl)) Tryz.func6 (h := h_L_szCastS) (by kernel_rfl) eq_L_szCastS

/-- L_toGroup -/
def pk_L_toGroup : List PK := [.data (.cons (.int .i64) (.cons (.int .i64) (.one (.int .i64))))]
def rk_L_toGroup : List (Ty × Bool) := [((.cons (.int .i64) (.cons (.int .i64) (.one (.int .i64)))), false)]
def h_L_toGroup : Hints := { loops := [] }
noncomputable def M_L_toGroup (x : (Int × (Int × Int))) : (Option (Int × (Int × Int))) :=
  (some (x.1, (x.2.1, x.2.2)))

noncomputable def c_L_toGroup : Con0 := ⟨pk_L_toGroup, rk_L_toGroup, M_L_toGroup⟩

set_option maxRecDepth 100000 in
theorem eq_L_toGroup (x : In pk_L_toGroup) : semF (mkE []) h_L_toGroup (info Tryz.f8) pk_L_toGroup rk_L_toGroup x = M_L_toGroup x := (semFF_eq _ _ _ _ _ _).symm.trans (by kernel_rfl)

set_option maxRecDepth 100000 in
theorem m_L_toGroup : ConOK Tryz.prog 8 c_L_toGroup := fn_ok (tyOK _) (E := mkE []) (consOK_nil rfl) Tryz.func8 (h := h_L_toGroup) (by kernel_rfl) eq_L_toGroup

/-- L_toCipher -/
def pk_L_toCipher : List PK := [.data (.cons (.int .i64) (.one (.int .i64)))]
def rk_L_toCipher : List (Ty × Bool) := [((.cons (.int .i64) (.one (.int .i64))), false)]
def h_L_toCipher : Hints := { loops := [] }
noncomputable def M_L_toCipher (x : (Int × Int)) : (Option (Int × Int)) :=
  (some (x.1, x.2))

noncomputable def c_L_toCipher : Con0 := ⟨pk_L_toCipher, rk_L_toCipher, M_L_toCipher⟩

set_option maxRecDepth 100000 in
theorem eq_L_toCipher (x : In pk_L_toCipher) : semF (mkE []) h_L_toCipher (info Tryz.f35) pk_L_toCipher rk_L_toCipher x = M_L_toCipher x := (semFF_eq _ _ _ _ _ _).symm.trans (by kernel_rfl)

set_option maxRecDepth 100000 in
theorem m_L_toCipher : ConOK Tryz.prog 35 c_L_toCipher := fn_ok (tyOK _) (E := mkE []) (consOK_nil rfl) Tryz.func35 (h := h_L_toCipher) (by kernel_rfl) eq_L_toCipher

/-- L_toCipherS -/
def pk_L_toCipherS : List PK := [.data (.sl (.cons (.int .i64) (.one (.int .i64))))]
def rk_L_toCipherS : List (Ty × Bool) := [((.sl (.cons (.int .i64) (.one (.int .i64)))), true)]
def h_L_toCipherS : Hints := { loops := [(0, { items := [.slot 4 (.data (.int .i64) []), .arr 3 (.cons (.int .i64) (.one (.int .i64))) true], kill := [1, 2, 5, 6, 7, 8, 9, 10, 11, 12, 13, 14, 15, 16, 17, 18, 19, 20, 21, 22] })] }
noncomputable def M_L_toCipherS (x : (List (Int × Int))) : (Option (List (Int × Int))) :=
  (bindO (guardO (((decide ((0 : Int) ≤ (((List.length x) : Nat) : Int))) && (decide ((((List.length x) : Nat) : Int) ≤ (((List.length x) : Nat) : Int)))) && (decide ((((List.length x) : Nat) : Int) ≤ ((lim : Nat) : Int))))) (fun (a0 : Unit) => (loopO (fun (again1 : ((Int × (List (Int × Int))) → (Option (List (Int × Int))))) => (fun (s2 : (Int × (List (Int × Int)))) => (cond (decide (s2.1 < (((List.length x) : Nat) : Int))) (bindO (getI x s2.1) (fun (a3 : (Int × Int)) => (bindO (M_L_toCipher (a3.1, a3.2)) (fun (a4 : (Int × Int)) => (bindO (getI s2.2 s2.1) (fun (a5 : (Int × Int)) => (bindO (some (List.set s2.2 (Int.toNat s2.1) (a4.1, a4.2))) (fun (a6 : (List (Int × Int))) => (bindO (some (IntKind.wrap .i64 (s2.1 + (1 : Int)))) (fun (a7 : Int) => (again1 (a7, a6)))))))))))) (some s2.2)))) ((0 : Int), (List.replicate (Int.toNat (((List.length x) : Nat) : Int)) ((0 : Int), (0 : Int)))))))

noncomputable def c_L_toCipherS : Con0 := ⟨pk_L_toCipherS, rk_L_toCipherS, M_L_toCipherS⟩

set_option maxRecDepth 100000 in
theorem eq_L_toCipherS (x : In pk_L_toCipherS) : semF (mkE [(35, c_L_toCipher)]) h_L_toCipherS (info Tryz.f9) pk_L_toCipherS rk_L_toCipherS x = M_L_toCipherS x := (semFF_eq _ _ _ _ _ _).symm.trans (by kernel_rfl)

set_option maxRecDepth 100000 in
theorem m_L_toCipherS : ConOK Tryz.prog 9 c_L_toCipherS := fn_ok (tyOK _) (E := mkE [(35, c_L_toCipher)]) (consOK_cons m_L_toCipher (consOK_nil rfl)) Tryz.func9 (h := h_L_toCipherS) (by kernel_rfl) eq_L_toCipherS

/-- L_toIntS -/
def pk_L_toIntS : List PK := [.data (.sl (.int .i64))]
def rk_L_toIntS : List (Ty × Bool) := [((.sl (.int .i64)), true)]
def h_L_toIntS : Hints := { loops := [(0, { items := [.slot 4 (.data (.int .i64) []), .arr 3 (.int .i64) true], kill := [1, 2, 5, 6, 7, 8, 9, 10, 11, 12, 13, 14, 15, 16, 17, 18, 19, 20, 21] })] }
noncomputable def M_L_toIntS (x : (List Int)) : (Option (List Int)) :=
  (bindO (guardO (((decide ((0 : Int) ≤ (((List.length x) : Nat) : Int))) && (decide ((((List.length x) : Nat) : Int) ≤ (((List.length x) : Nat) : Int)))) && (decide ((((List.length x) : Nat) : Int) ≤ ((lim : Nat) : Int))))) (fun (a0 : Unit) => (loopO (fun (again1 : ((Int × (List Int)) → (Option (List Int)))) => (fun (s2 : (Int × (List Int))) => (cond (decide (s2.1 < (((List.length x) : Nat) : Int))) (bindO (getI x s2.1) (fun (a3 : Int) => (bindO (getI s2.2 s2.1) (fun (a4 : Int) => (bindO (some (List.set s2.2 (Int.toNat s2.1) a3)) (fun (a5 : (List Int)) => (bindO (some (IntKind.wrap .i64 (s2.1 + (1 : Int)))) (fun (a6 : Int) => (again1 (a6, a5)))))))))) (some s2.2)))) ((0 : Int), (List.replicate (Int.toNat (((List.length x) : Nat) : Int)) (0 : Int))))))

noncomputable def c_L_toIntS : Con0 := ⟨pk_L_toIntS, rk_L_toIntS, M_L_toIntS⟩

set_option maxRecDepth 100000 in
theorem eq_L_toIntS (x : In pk_L_toIntS) : semF (mkE []) h_L_toIntS (info Tryz.f127) pk_L_toIntS rk_L_toIntS x = M_L_toIntS x := (semFF_eq _ _ _ _ _ _).symm.trans (by kernel_rfl)

set_option maxRecDepth 100000 in
theorem m_L_toIntS : ConOK Tryz.prog 127 c_L_toIntS := fn_ok (tyOK _) (E := mkE []) (consOK_nil rfl) Tryz.func127 (h := h_L_toIntS) (by kernel_rfl) eq_L_toIntS

/-- L_toProof -/
def pk_L_toProof : List PK := [.data (.cons (.sl (.int .i64)) (.cons (.sl (.int .i64)) (.one (.sl (.int .i64)))))]
def rk_L_toProof : List (Ty × Bool) := [((.cons (.sl (.int .i64)) (.cons (.sl (.int .i64)) (.one (.sl (.int .i64))))), true)]
def h_L_toProof : Hints := { loops := [] }
noncomputable def M_L_toProof (x : ((List Int) × ((List Int) × (List Int)))) : (Option ((List Int) × ((List Int) × (List Int)))) :=
  (bindO (M_L_toIntS x.1) (fun (a0 : (List Int)) => (bindO (M_L_toIntS x.2.1) (fun (a1 : (List Int)) => (bindO (M_L_toIntS x.2.2) (fun (a2 : (List Int)) => (some (a0, (a1, a2)))))))))

noncomputable def c_L_toProof : Con0 := ⟨pk_L_toProof, rk_L_toProof, M_L_toProof⟩

set_option maxRecDepth 100000 in
theorem eq_L_toProof (x : In pk_L_toProof) : semF (mkE [(127, c_L_toIntS)]) h_L_toProof (info Tryz.f84) pk_L_toProof rk_L_toProof x = M_L_toProof x := (semFF_eq _ _ _ _ _ _).symm.trans (by kernel_rfl)

set_option maxRecDepth 100000 in
theorem m_L_toProof : ConOK Tryz.prog 84 c_L_toProof := fn_ok (tyOK _) (E := mkE [(127, c_L_toIntS)]) (consOK_cons m_L_toIntS (consOK_nil rfl)) Tryz.func84 (h := h_L_toProof) (by kernel_rfl) eq_L_toProof

/-- L_toCast -/
def pk_L_toCast : List PK := [.data (.cons (.cons (.int .i64) (.one (.int .i64))) (.cons (.cons (.int .i64) (.one (.int .i64))) (.one (.cons (.sl (.int .i64)) (.cons (.sl (.int .i64)) (.one (.sl (.int .i64))))))))]
def rk_L_toCast : List (Ty × Bool) := [((.cons (.cons (.int .i64) (.one (.int .i64))) (.cons (.cons (.int .i64) (.one (.int .i64))) (.one (.cons (.sl (.int .i64)) (.cons (.sl (.int .i64)) (.one (.sl (.int .i64)))))))), true)]
def h_L_toCast : Hints := { loops := [] }
noncomputable def M_L_toCast (x : ((Int × Int) × ((Int × Int) × ((List Int) × ((List Int) × (List Int)))))) : (Option ((Int × Int) × ((Int × Int) × ((List Int) × ((List Int) × (List Int)))))) :=
  (bindO (M_L_toCipher (x.1.1, x.1.2)) (fun (a0 : (Int × Int)) => (bindO (M_L_toCipher (x.2.1.1, x.2.1.2)) (fun (a1 : (Int × Int)) => (bindO (M_L_toProof (x.2.2.1, (x.2.2.2.1, x.2.2.2.2))) (fun (a2 : ((List Int) × ((List Int) × (List Int)))) => (some ((a0.1, a0.2), ((a1.1, a1.2), (a2.1, (a2.2.1, a2.2.2)))))))))))

noncomputable def c_L_toCast : Con0 := ⟨pk_L_toCast, rk_L_toCast, M_L_toCast⟩

set_option maxRecDepth 100000 in
theorem eq_L_toCast (x : In pk_L_toCast) : semF (mkE [(35, c_L_toCipher), (84, c_L_toProof)]) h_L_toCast (info Tryz.f36) pk_L_toCast rk_L_toCast x = M_L_toCast x := (semFF_eq _ _ _ _ _ _).symm.trans (by kernel_rfl)

set_option maxRecDepth 100000 in
theorem m_L_toCast : ConOK Tryz.prog 36 c_L_toCast := fn_ok (tyOK _) (E := mkE [(35, c_L_toCipher), (84, c_L_toProof)]) (consOK_cons m_L_toCipher (consOK_cons m_L_toProof (consOK_nil rfl))) Tryz.func36 (h := h_L_toCast) (by kernel_rfl) eq_L_toCast

/-- L_toCastS -/
def pk_L_toCastS : List PK := [.data (.sl (.cons (.cons (.int .i64) (.one (.int .i64))) (.cons (.cons (.int .i64) (.one (.int .i64))) (.one (.cons (.sl (.int .i64)) (.cons (.sl (.int .i64)) (.one (.sl (.int .i64)))))))))]
def rk_L_toCastS : List (Ty × Bool) := [((.sl (.cons (.cons (.int .i64) (.one (.int .i64))) (.cons (.cons (.int .i64) (.one (.int .i64))) (.one (.cons (.sl (.int .i64)) (.cons (.sl (.int .i64)) (.one (.sl (.int .i64))))))))), true)]
def h_L_toCastS : Hints := { loops := [(0, { items := [.slot 4 (.data (.int .i64) []), .arr 3 (.cons (.cons (.int .i64) (.one (.int .i64))) (.cons (.cons (.int .i64) (.one (.int .i64))) (.one (.cons (.sl (.int .i64)) (.cons (.sl (.int .i64)) (.one (.sl (.int .i64)))))))) true], kill := [1, 2, 5, 6, 7, 8, 9, 10, 11, 12, 13, 14, 15, 16, 17, 18, 19, 20, 21, 22] })] }
noncomputable def M_L_toCastS (x : (List ((Int × Int) × ((Int × Int) × ((List Int) × ((List Int) × (List Int))))))) : (Option (List ((Int × Int) × ((Int × Int) × ((List Int) × ((List Int) × (List Int))))))) :=
  (bindO (guardO (((decide ((0 : Int) ≤ (((List.length x) : Nat) : Int))) && (decide ((((List.length x) : Nat) : Int) ≤ (((List.length x) : Nat) : Int)))) && (decide ((((List.length x) : Nat) : Int) ≤ ((lim : Nat) : Int))))) (fun (a0 : Unit) => (loopO (fun (again1 : ((Int × (List ((Int × Int) × ((Int × Int) × ((List Int) × ((List Int) × (List Int))))))) → (Option (List ((Int × Int) × ((Int × Int) × ((List Int) × ((List Int) × (List Int))))))))) => (fun (s2 : (Int × (List ((Int × Int) × ((Int × Int) × ((List Int) × ((List Int) × (List Int)))))))) => (cond (decide (s2.1 < (((List.length x) : Nat) : Int))) (bindO (getI x s2.1) (fun (a3 : ((Int × Int) × ((Int × Int) × ((List Int) × ((List Int) × (List Int)))))) => (bindO (M_L_toCast ((a3.1.1, a3.1.2), ((a3.2.1.1, a3.2.1.2), (a3.2.2.1, (a3.2.2.2.1, a3.2.2.2.2))))) (fun (a4 : ((Int × Int) × ((Int × Int) × ((List Int) × ((List Int) × (List Int)))))) => (bindO (getI s2.2 s2.1) (fun (a5 : ((Int × Int) × ((Int × Int) × ((List Int) × ((List Int) × (List Int)))))) => (bindO (some (List.set s2.2 (Int.toNat s2.1) ((a4.1.1, a4.1.2), ((a4.2.1.1, a4.2.1.2), (a4.2.2.1, (a4.2.2.2.1, a4.2.2.2.2)))))) (fun (a6 : (List ((Int × Int) × ((Int × Int) × ((List Int) × ((List Int) × (List Int))))))) => (bindO (some (IntKind.wrap .i64 (s2.1 + (1 : Int)))) (fun (a7 : Int) => (again1 (a7, a6)))))))))))) (some s2.2)))) ((0 : Int), (List.replicate (Int.toNat (((List.length x) : Nat) : Int)) (((0 : Int), (0 : Int)), (((0 : Int), (0 : Int)), (([] : List Int), (([] : List Int), ([] : List Int))))))))))

noncomputable def c_L_toCastS : Con0 := ⟨pk_L_toCastS, rk_L_toCastS, M_L_toCastS⟩

set_option maxRecDepth 100000 in
theorem eq_L_toCastS (x : In pk_L_toCastS) : semF (mkE [(36, c_L_toCast)]) h_L_toCastS (info Tryz.f10) pk_L_toCastS rk_L_toCastS x = M_L_toCastS x := (semFF_eq _ _ _ _ _ _).symm.trans (by kernel_rfl)

set_option maxRecDepth 100000 in
theorem m_L_toCastS : ConOK Tryz.prog 10 c_L_toCastS := fn_ok (tyOK _) (E := mkE [(36, c_L_toCast)]) (consOK_cons m_L_toCast (consOK_nil rfl)) Tryz.func10 (h := h_L_toCastS) (by kernel_rfl) eq_L_toCastS

/-- S_l1In -/
def pk_S_l1In : List PK := [.data (.int .i64), .data (.int .i64), .data (.int .i64)]
def rk_S_l1In : List (Ty × Bool) := [(.bool, false)]
def h_S_l1In : Hints := { loops := [] }
noncomputable def M_S_l1In (x : (Int × (Int × Int))) : (Option Bool) :=
  (cond (decide (x.1 ≥ x.2.1)) (some (decide (x.1 ≤ x.2.2))) (some false))

noncomputable def c_S_l1In : Con0 := ⟨pk_S_l1In, rk_S_l1In, M_S_l1In⟩

set_option maxRecDepth 100000 in
theorem eq_S_l1In (x : In pk_S_l1In) : semF (mkE []) h_S_l1In (info Tryz.f65) pk_S_l1In rk_S_l1In x = M_S_l1In x := (semFF_eq _ _ _ _ _ _).symm.trans (by kernel_rfl)

set_option maxRecDepth 100000 in
theorem m_S_l1In : ConOK Tryz.prog 65 c_S_l1In := fn_ok (tyOK _) (E := mkE []) (consOK_nil rfl) Tryz.func65 (h := h_S_l1In) (by kernel_rfl) eq_S_l1In

/-- S_nPower -/
def pk_S_nPower : List PK := [.data (.int .i64), .data (.int .i64), .data (.int .i64)]
def rk_S_nPower : List (Ty × Bool) := [((.int .i64), false)]
def h_S_nPower : Hints := { loops := [(0, { items := [.slot 0 (.data (.int .i64) []), .slot 1 (.data (.int .i64) []), .slot 7 (.data (.int .i64) [])], kill := [3, 4, 5, 6, 8, 9, 10, 11, 12, 13, 14, 15, 16, 17, 18, 19, 20, 21, 22, 23, 24, 25, 26, 27] })] }
noncomputable def M_S_nPower (x : (Int × (Int × Int))) : (Option Int) :=
  (bindO (guardO (x.2.2 != (0 : Int))) (fun (a0 : Unit) => (bindO (some (Int.tmod (1 : Int) x.2.2)) (fun (a1 : Int) => (loopO (fun (again2 : ((Int × (Int × Int)) → (Option Int))) => (fun (s3 : (Int × (Int × Int))) => (cond (decide (s3.2.1 > (0 : Int))) (bindO (guardO ((2 : Int) != (0 : Int))) (fun (a4 : Unit) => (bindO (some (Int.tmod s3.2.1 (2 : Int))) (fun (a5 : Int) => (cond (a5 == (1 : Int)) (bindO (some (IntKind.wrap .i64 (s3.2.2 * s3.1))) (fun (a6 : Int) => (bindO (guardO (x.2.2 != (0 : Int))) (fun (a7 : Unit) => (bindO (some (Int.tmod a6 x.2.2)) (fun (a8 : Int) => (bindO (some (IntKind.wrap .i64 (s3.1 * s3.1))) (fun (a9 : Int) => (bindO (guardO (x.2.2 != (0 : Int))) (fun (a10 : Unit) => (bindO (some (Int.tmod a9 x.2.2)) (fun (a11 : Int) => (bindO (guardO ((2 : Int) != (0 : Int))) (fun (a12 : Unit) => (bindO (some (IntKind.wrap .i64 (Int.tdiv s3.2.1 (2 : Int)))) (fun (a13 : Int) => (again2 (a11, (a13, a8))))))))))))))))))) (bindO (some (IntKind.wrap .i64 (s3.1 * s3.1))) (fun (a14 : Int) => (bindO (guardO (x.2.2 != (0 : Int))) (fun (a15 : Unit) => (bindO (some (Int.tmod a14 x.2.2)) (fun (a16 : Int) => (bindO (guardO ((2 : Int) != (0 : Int))) (fun (a17 : Unit) => (bindO (some (IntKind.wrap .i64 (Int.tdiv s3.2.1 (2 : Int)))) (fun (a18 : Int) => (again2 (a16, (a18, s3.2.2)))))))))))))))))) (some s3.2.2)))) (x.1, (x.2.1, a1)))))))

noncomputable def c_S_nPower : Con0 := ⟨pk_S_nPower, rk_S_nPower, M_S_nPower⟩

set_option maxRecDepth 100000 in
theorem eq_S_nPower (x : In pk_S_nPower) : semF (mkE []) h_S_nPower (info Tryz.f69) pk_S_nPower rk_S_nPower x = M_S_nPower x := (semFF_eq _ _ _ _ _ _).symm.trans (by kernel_rfl)

set_option maxRecDepth 100000 in
theorem m_S_nPower : ConOK Tryz.prog 69 c_S_nPower := fn_ok (tyOK _) (E := mkE []) (consOK_nil rfl) Tryz.func69 (h := h_S_nPower) (by kernel_rfl) eq_S_nPower

/-- S_nPrime -/
def pk_S_nPrime : List PK := [.data (.int .i64)]
def rk_S_nPrime : List (Ty × Bool) := [(.bool, false)]
def h_S_nPrime : Hints := { loops := [(0, { items := [.slot 3 (.data (.int .i64) [])], kill := [1, 2, 4, 5, 6, 7, 8, 9, 10, 11, 12, 13, 14, 15, 16] })] }
noncomputable def M_S_nPrime (x : Int) : (Option Bool) :=
  (cond (decide (x < (2 : Int))) (some false) (loopO (fun (again0 : (Int → (Option Bool))) => (fun (s1 : Int) => (bindO (some (IntKind.wrap .i64 (s1 * s1))) (fun (a2 : Int) => (cond (decide (a2 ≤ x)) (bindO (guardO (s1 != (0 : Int))) (fun (a3 : Unit) => (bindO (some (Int.tmod x s1)) (fun (a4 : Int) => (cond (a4 == (0 : Int)) (some false) (bindO (some (IntKind.wrap .i64 (s1 + (1 : Int)))) (fun (a5 : Int) => (again0 a5)))))))) (some true)))))) (2 : Int)))

noncomputable def c_S_nPrime : Con0 := ⟨pk_S_nPrime, rk_S_nPrime, M_S_nPrime⟩

set_option maxRecDepth 100000 in
theorem eq_S_nPrime (x : In pk_S_nPrime) : semF (mkE []) h_S_nPrime (info Tryz.f123) pk_S_nPrime rk_S_nPrime x = M_S_nPrime x := (semFF_eq _ _ _ _ _ _).symm.trans (by kernel_rfl)

set_option maxRecDepth 100000 in
theorem m_S_nPrime : ConOK Tryz.prog 123 c_S_nPrime := fn_ok (tyOK _) (E := mkE []) (consOK_nil rfl) Tryz.func123 (h := h_S_nPrime) (by kernel_rfl) eq_S_nPrime

/-- S_l2Good -/
def pk_S_l2Good : List PK := [.data (.cons (.int .i64) (.cons (.int .i64) (.one (.int .i64))))]
def rk_S_l2Good : List (Ty × Bool) := [(.bool, false)]
def h_S_l2Good : Hints := { loops := [] }
noncomputable def M_S_l2Good (x : (Int × (Int × Int))) : (Option Bool) :=
  (bindO (M_S_l1In (x.1, ((3 : Int), (2000000000 : Int)))) (fun (a0 : Bool) => (cond a0 (bindO (some (IntKind.wrap .i64 (x.1 - (1 : Int)))) (fun (a1 : Int) => (bindO (M_S_l1In (x.2.1, ((2 : Int), a1))) (fun (a2 : Bool) => (cond a2 (bindO (some (IntKind.wrap .i64 (x.1 - (1 : Int)))) (fun (a3 : Int) => (bindO (guardO (x.2.1 != (0 : Int))) (fun (a4 : Unit) => (bindO (some (Int.tmod a3 x.2.1)) (fun (a5 : Int) => (cond (a5 == (0 : Int)) (bindO (some (IntKind.wrap .i64 (x.1 - (1 : Int)))) (fun (a6 : Int) => (bindO (M_S_l1In (x.2.2, ((2 : Int), a6))) (fun (a7 : Bool) => (cond a7 (bindO (M_S_nPower (x.2.2, (x.2.1, x.1))) (fun (a8 : Int) => (cond (a8 == (1 : Int)) (bindO (M_S_nPrime x.2.1) (fun (a9 : Bool) => (cond a9 (bindO (M_S_nPrime x.1) (fun (a10 : Bool) => (some a10))) (some false)))) (some false)))) (some false)))))) (some false)))))))) (some false)))))) (some false))))

noncomputable def c_S_l2Good : Con0 := ⟨pk_S_l2Good, rk_S_l2Good, M_S_l2Good⟩

set_option maxRecDepth 100000 in
theorem eq_S_l2Good (x : In pk_S_l2Good) : semF (mkE [(65, c_S_l1In), (69, c_S_nPower), (123, c_S_nPrime)]) h_S_l2Good (info Tryz.f75) pk_S_l2Good rk_S_l2Good x = M_S_l2Good x := (semFF_eq _ _ _ _ _ _).symm.trans (by kernel_rfl)

set_option maxRecDepth 100000 in
theorem m_S_l2Good : ConOK Tryz.prog 75 c_S_l2Good := fn_ok (tyOK _) (E := mkE [(65, c_S_l1In), (69, c_S_nPower), (123, c_S_nPrime)]) (consOK_cons m_S_l1In (consOK_cons m_S_nPower (consOK_cons m_S_nPrime (consOK_nil rfl)))) Tryz.func75 (h := h_S_l2Good) (by kernel_rfl) eq_S_l2Good

/-- S_l1All -/
def pk_S_l1All : List PK := [.data (.sl (.int .i64)), .data (.int .i64), .data (.int .i64)]
def rk_S_l1All : List (Ty × Bool) := [(.bool, false)]
def h_S_l1All : Hints := { loops := [(0, { items := [.slot 11 (.data (.int .i64) [])], kill := [0, 3, 4, 5, 6, 7, 8, 12, 13, 14, 15, 16, 17, 18, 19, 20] })] }
noncomputable def M_S_l1All (x : ((List Int) × (Int × Int))) : (Option Bool) :=
  (loopO (fun (again0 : (Int → (Option Bool))) => (fun (s1 : Int) => (cond (decide (s1 < (((List.length x.1) : Nat) : Int))) (bindO (getI x.1 s1) (fun (a2 : Int) => (bindO (M_S_l1In (a2, (x.2.1, x.2.2))) (fun (a3 : Bool) => (cond (not a3) (some false) (bindO (some (IntKind.wrap .i64 (s1 + (1 : Int)))) (fun (a4 : Int) => (again0 a4)))))))) (some true)))) (0 : Int))

noncomputable def c_S_l1All : Con0 := ⟨pk_S_l1All, rk_S_l1All, M_S_l1All⟩

set_option maxRecDepth 100000 in
theorem eq_S_l1All (x : In pk_S_l1All) : semF (mkE [(65, c_S_l1In)]) h_S_l1All (info Tryz.f111) pk_S_l1All rk_S_l1All x = M_S_l1All x := (semFF_eq _ _ _ _ _ _).symm.trans (by kernel_rfl)

set_option maxRecDepth 100000 in
theorem m_S_l1All : ConOK Tryz.prog 111 c_S_l1All := fn_ok (tyOK _) (E := mkE [(65, c_S_l1In)]) (consOK_cons m_S_l1In (consOK_nil rfl)) Tryz.func111 (h := h_S_l1All) (by kernel_rfl) eq_S_l1All

/-- S_gExps -/
def pk_S_gExps : List PK := [.data (.cons (.int .i64) (.cons (.int .i64) (.one (.int .i64)))), .data (.sl (.int .i64))]
def rk_S_gExps : List (Ty × Bool) := [(.bool, false)]
def h_S_gExps : Hints := { loops := [] }
noncomputable def M_S_gExps (x : ((Int × (Int × Int)) × (List Int))) : (Option Bool) :=
  (bindO (some (IntKind.wrap .i64 (x.1.2.1 - (1 : Int)))) (fun (a0 : Int) => (bindO (M_S_l1All (x.2, ((0 : Int), a0))) (fun (a1 : Bool) => (some a1)))))

noncomputable def c_S_gExps : Con0 := ⟨pk_S_gExps, rk_S_gExps, M_S_gExps⟩

set_option maxRecDepth 100000 in
theorem eq_S_gExps (x : In pk_S_gExps) : semF (mkE [(111, c_S_l1All)]) h_S_gExps (info Tryz.f56) pk_S_gExps rk_S_gExps x = M_S_gExps x := (semFF_eq _ _ _ _ _ _).symm.trans (by kernel_rfl)

set_option maxRecDepth 100000 in
theorem m_S_gExps : ConOK Tryz.prog 56 c_S_gExps := fn_ok (tyOK _) (E := mkE [(111, c_S_l1All)]) (consOK_cons m_S_l1All (consOK_nil rfl)) Tryz.func56 (h := h_S_gExps) (by kernel_rfl) eq_S_gExps

/-- S_dSecrets -/
def pk_S_dSecrets : List PK := [.data (.cons (.int .i64) (.cons (.int .i64) (.one (.int .i64)))), .data (.int .i64), .data (.int .i64)]
def rk_S_dSecrets : List (Ty × Bool) := [(.bool, false)]
def h_S_dSecrets : Hints := { loops := [] }
noncomputable def M_S_dSecrets (x : ((Int × (Int × Int)) × (Int × Int))) : (Option Bool) :=
  (bindO (M_S_l2Good (x.1.1, (x.1.2.1, x.1.2.2))) (fun (a0 : Bool) => (cond a0 (bindO (M_S_gExps ((x.1.1, (x.1.2.1, x.1.2.2)), (x.2.1 :: (x.2.2 :: ([] : List Int))))) (fun (a1 : Bool) => (cond a1 (some (x.2.2 != (0 : Int))) (some false)))) (some false))))

noncomputable def c_S_dSecrets : Con0 := ⟨pk_S_dSecrets, rk_S_dSecrets, M_S_dSecrets⟩

set_option maxRecDepth 100000 in
theorem eq_S_dSecrets (x : In pk_S_dSecrets) : semF (mkE [(75, c_S_l2Good), (56, c_S_gExps)]) h_S_dSecrets (info Tryz.f78) pk_S_dSecrets rk_S_dSecrets x = M_S_dSecrets x := (semFF_eq _ _ _ _ _ _).symm.trans (by kernel_rfl)

set_option maxRecDepth 100000 in
theorem m_S_dSecrets : ConOK Tryz.prog 78 c_S_dSecrets := fn_ok (tyOK _) (E := mkE [(75, c_S_l2Good), (56, c_S_gExps)]) (consOK_cons m_S_l2Good (consOK_cons m_S_gExps (consOK_nil rfl))) Tryz.func78 (h := h_S_dSecrets) (by kernel_rfl) eq_S_dSecrets

/-- S_gIs -/
def pk_S_gIs : List PK := [.data (.cons (.int .i64) (.cons (.int .i64) (.one (.int .i64)))), .data (.sl (.int .i64))]
def rk_S_gIs : List (Ty × Bool) := [(.bool, false)]
def h_S_gIs : Hints := { loops := [(0, { items := [.slot 9 (.data (.int .i64) [])], kill := [0, 1, 3, 4, 5, 6, 10, 11, 12, 13, 14, 15, 16, 17, 18, 19, 20, 21, 22, 23, 24, 25, 26, 27, 28] })] }
noncomputable def M_S_gIs (x : ((Int × (Int × Int)) × (List Int))) : (Option Bool) :=
  (loopO (fun (again0 : (Int → (Option Bool))) => (fun (s1 : Int) => (cond (decide (s1 < (((List.length x.2) : Nat) : Int))) (bindO (getI x.2 s1) (fun (a2 : Int) => (bindO (some (IntKind.wrap .i64 (x.1.1 - (1 : Int)))) (fun (a3 : Int) => (bindO (M_S_l1In (a2, ((1 : Int), a3))) (fun (a4 : Bool) => (cond (not a4) (some false) (bindO (M_S_nPower (a2, (x.1.2.1, x.1.1))) (fun (a5 : Int) => (cond (a5 != (1 : Int)) (some false) (bindO (some (IntKind.wrap .i64 (s1 + (1 : Int)))) (fun (a6 : Int) => (again0 a6))))))))))))) (some true)))) (0 : Int))

noncomputable def c_S_gIs : Con0 := ⟨pk_S_gIs, rk_S_gIs, M_S_gIs⟩

set_option maxRecDepth 100000 in
theorem eq_S_gIs (x : In pk_S_gIs) : semF (mkE [(65, c_S_l1In), (69, c_S_nPower)]) h_S_gIs (info Tryz.f76) pk_S_gIs rk_S_gIs x = M_S_gIs x := (semFF_eq _ _ _ _ _ _).symm.trans (by kernel_rfl)

set_option maxRecDepth 100000 in
theorem m_S_gIs : ConOK Tryz.prog 76 c_S_gIs := fn_ok (tyOK _) (E := mkE [(65, c_S_l1In), (69, c_S_nPower)]) (consOK_cons m_S_l1In (consOK_cons m_S_nPower (consOK_nil rfl))) Tryz.func76 (h := h_S_gIs) (by kernel_rfl) eq_S_gIs

/-- S_eGood -/
def pk_S_eGood : List PK := [.data (.cons (.int .i64) (.cons (.int .i64) (.one (.int .i64)))), .data (.sl (.cons (.int .i64) (.one (.int .i64))))]
def rk_S_eGood : List (Ty × Bool) := [(.bool, false)]
def h_S_eGood : Hints := { loops := [(0, { items := [.slot 12 (.data (.int .i64) [])], kill := [0, 1, 3, 4, 5, 6, 7, 8, 9, 13, 14, 15, 16, 17, 18, 19, 20, 21, 22, 23, 24] })] }
noncomputable def M_S_eGood (x : ((Int × (Int × Int)) × (List (Int × Int)))) : (Option Bool) :=
  (cond (decide ((((List.length x.2) : Nat) : Int) > (24 : Int))) (some false) (loopO (fun (again0 : (Int → (Option Bool))) => (fun (s1 : Int) => (cond (decide (s1 < (((List.length x.2) : Nat) : Int))) (bindO (getI x.2 s1) (fun (a2 : (Int × Int)) => (bindO (M_S_gIs ((x.1.1, (x.1.2.1, x.1.2.2)), (a2.1 :: (a2.2 :: ([] : List Int))))) (fun (a3 : Bool) => (cond (not a3) (some false) (bindO (some (IntKind.wrap .i64 (s1 + (1 : Int)))) (fun (a4 : Int) => (again0 a4)))))))) (some true)))) (0 : Int)))

noncomputable def c_S_eGood : Con0 := ⟨pk_S_eGood, rk_S_eGood, M_S_eGood⟩

set_option maxRecDepth 100000 in
theorem eq_S_eGood (x : In pk_S_eGood) : semF (mkE [(76, c_S_gIs)]) h_S_eGood (info Tryz.f79) pk_S_eGood rk_S_eGood x = M_S_eGood x := (semFF_eq _ _ _ _ _ _).symm.trans (by kernel_rfl)

set_option maxRecDepth 100000 in
theorem m_S_eGood : ConOK Tryz.prog 79 c_S_eGood := fn_ok (tyOK _) (E := mkE [(76, c_S_gIs)]) (consOK_cons m_S_gIs (consOK_nil rfl)) Tryz.func79 (h := h_S_eGood) (by kernel_rfl) eq_S_eGood

/-- S_dInput -/
def pk_S_dInput : List PK := [.data (.cons (.int .i64) (.cons (.int .i64) (.one (.int .i64)))), .data (.int .i64), .data (.int .i64), .data (.sl (.cons (.int .i64) (.one (.int .i64)))), .data (.sl (.cons (.cons (.int .i64) (.one (.int .i64))) (.cons (.cons (.int .i64) (.one (.int .i64))) (.one (.cons (.sl (.int .i64)) (.cons (.sl (.int .i64)) (.one (.sl (.int .i64)))))))))]
def rk_S_dInput : List (Ty × Bool) := [(.bool, false)]
def h_S_dInput : Hints := { loops := [(0, { items := [.slot 31 (.data (.int .i64) [])], kill := [0, 1, 2, 3, 4, 6, 7, 8, 9, 10, 11, 12, 13, 14, 15, 16, 17, 18, 19, 20, 21, 22, 23, 24, 25, 26, 27, 28, 32, 33, 34, 35, 36, 37, 38, 39, 40, 41, 42, 43] })] }
noncomputable def M_S_dInput (x : ((Int × (Int × Int)) × (Int × (Int × ((List (Int × Int)) × (List ((Int × Int) × ((Int × Int) × ((List Int) × ((List Int) × (List Int))))))))))) : (Option Bool) :=
  (bindO (M_S_dSecrets ((x.1.1, (x.1.2.1, x.1.2.2)), (x.2.1, x.2.2.1))) (fun (a0 : Bool) => (cond (not a0) (some false) (bindO (M_S_eGood ((x.1.1, (x.1.2.1, x.1.2.2)), x.2.2.2.1)) (fun (a1 : Bool) => (cond (not a1) (some false) (cond (decide ((((List.length x.2.2.2.2) : Nat) : Int) > (24 : Int))) (some false) (loopO (fun (again2 : (Int → (Option Bool))) => (fun (s3 : Int) => (cond (decide (s3 < (((List.length x.2.2.2.2) : Nat) : Int))) (bindO (getI x.2.2.2.2 s3) (fun (a4 : ((Int × Int) × ((Int × Int) × ((List Int) × ((List Int) × (List Int)))))) => (bindO (M_S_eGood ((x.1.1, (x.1.2.1, x.1.2.2)), ((a4.1.1, a4.1.2) :: ((a4.2.1.1, a4.2.1.2) :: ([] : List (Int × Int)))))) (fun (a5 : Bool) => (cond (not a5) (some false) (bindO (some (IntKind.wrap .i64 (s3 + (1 : Int)))) (fun (a6 : Int) => (again2 a6)))))))) (some true)))) (0 : Int)))))))))

noncomputable def c_S_dInput : Con0 := ⟨pk_S_dInput, rk_S_dInput, M_S_dInput⟩

set_option maxRecDepth 100000 in
theorem eq_S_dInput (x : In pk_S_dInput) : semF (mkE [(78, c_S_dSecrets), (79, c_S_eGood)]) h_S_dInput (info Tryz.f32) pk_S_dInput rk_S_dInput x = M_S_dInput x := (semFF_eq _ _ _ _ _ _).symm.trans (by kernel_rfl)

set_option maxRecDepth 100000 in
theorem m_S_dInput : ConOK Tryz.prog 32 c_S_dInput := fn_ok (tyOK _) (E := mkE [(78, c_S_dSecrets), (79, c_S_eGood)]) (consOK_cons m_S_dSecrets (consOK_cons m_S_eGood (consOK_nil rfl))) Tryz.func32 (h := h_S_dInput) (by kernel_rfl) eq_S_dInput

/-- S_nMod -/
def pk_S_nMod : List PK := [.data (.int .i64), .data (.int .i64)]
def rk_S_nMod : List (Ty × Bool) := [((.int .i64), false)]
def h_S_nMod : Hints := { loops := [] }
noncomputable def M_S_nMod (x : (Int × Int)) : (Option Int) :=
  (bindO (guardO (x.2 != (0 : Int))) (fun (a0 : Unit) => (bindO (some (Int.tmod x.1 x.2)) (fun (a1 : Int) => (bindO (some (IntKind.wrap .i64 (a1 + x.2))) (fun (a2 : Int) => (bindO (guardO (x.2 != (0 : Int))) (fun (a3 : Unit) => (bindO (some (Int.tmod a2 x.2)) (fun (a4 : Int) => (some a4)))))))))))

noncomputable def c_S_nMod : Con0 := ⟨pk_S_nMod, rk_S_nMod, M_S_nMod⟩

set_option maxRecDepth 100000 in
theorem eq_S_nMod (x : In pk_S_nMod) : semF (mkE []) h_S_nMod (info Tryz.f70) pk_S_nMod rk_S_nMod x = M_S_nMod x := (semFF_eq _ _ _ _ _ _).symm.trans (by kernel_rfl)

set_option maxRecDepth 100000 in
theorem m_S_nMod : ConOK Tryz.prog 70 c_S_nMod := fn_ok (tyOK _) (E := mkE []) (consOK_nil rfl) Tryz.func70 (h := h_S_nMod) (by kernel_rfl) eq_S_nMod

/-- S_gExp -/
def pk_S_gExp : List PK := [.data (.cons (.int .i64) (.cons (.int .i64) (.one (.int .i64)))), .data (.int .i64), .data (.int .i64)]
def rk_S_gExp : List (Ty × Bool) := [((.int .i64), false)]
def h_S_gExp : Hints := { loops := [] }
noncomputable def M_S_gExp (x : ((Int × (Int × Int)) × (Int × Int))) : (Option Int) :=
  (bindO (M_S_nMod (x.2.2, x.1.2.1)) (fun (a0 : Int) => (bindO (M_S_nPower (x.2.1, (a0, x.1.1))) (fun (a1 : Int) => (some a1)))))

noncomputable def c_S_gExp : Con0 := ⟨pk_S_gExp, rk_S_gExp, M_S_gExp⟩

set_option maxRecDepth 100000 in
theorem eq_S_gExp (x : In pk_S_gExp) : semF (mkE [(70, c_S_nMod), (69, c_S_nPower)]) h_S_gExp (info Tryz.f58) pk_S_gExp rk_S_gExp x = M_S_gExp x := (semFF_eq _ _ _ _ _ _).symm.trans (by kernel_rfl)

set_option maxRecDepth 100000 in
theorem m_S_gExp : ConOK Tryz.prog 58 c_S_gExp := fn_ok (tyOK _) (E := mkE [(70, c_S_nMod), (69, c_S_nPower)]) (consOK_cons m_S_nMod (consOK_cons m_S_nPower (consOK_nil rfl))) Tryz.func58 (h := h_S_gExp) (by kernel_rfl) eq_S_gExp

/-- S_gInv -/
def pk_S_gInv : List PK := [.data (.cons (.int .i64) (.cons (.int .i64) (.one (.int .i64)))), .data (.int .i64)]
def rk_S_gInv : List (Ty × Bool) := [((.int .i64), false)]
def h_S_gInv : Hints := { loops := [] }
noncomputable def M_S_gInv (x : ((Int × (Int × Int)) × Int)) : (Option Int) :=
  (bindO (some (IntKind.wrap .i64 (x.1.2.1 - (1 : Int)))) (fun (a0 : Int) => (bindO (M_S_nPower (x.2, (a0, x.1.1))) (fun (a1 : Int) => (some a1)))))

noncomputable def c_S_gInv : Con0 := ⟨pk_S_gInv, rk_S_gInv, M_S_gInv⟩

set_option maxRecDepth 100000 in
theorem eq_S_gInv (x : In pk_S_gInv) : semF (mkE [(69, c_S_nPower)]) h_S_gInv (info Tryz.f126) pk_S_gInv rk_S_gInv x = M_S_gInv x := (semFF_eq _ _ _ _ _ _).symm.trans (by kernel_rfl)

set_option maxRecDepth 100000 in
theorem m_S_gInv : ConOK Tryz.prog 126 c_S_gInv := fn_ok (tyOK _) (E := mkE [(69, c_S_nPower)]) (consOK_cons m_S_nPower (consOK_nil rfl)) Tryz.func126 (h := h_S_gInv) (by kernel_rfl) eq_S_gInv

/-- S_gMul -/
def pk_S_gMul : List PK := [.data (.cons (.int .i64) (.cons (.int .i64) (.one (.int .i64)))), .data (.sl (.int .i64))]
def rk_S_gMul : List (Ty × Bool) := [((.int .i64), false)]
def h_S_gMul : Hints := { loops := [(0, { items := [.slot 5 (.data (.int .i64) []), .slot 10 (.data (.int .i64) [])], kill := [0, 1, 3, 4, 6, 7, 11, 12, 13, 14, 15, 16, 17, 18, 19, 20, 21] })] }
noncomputable def M_S_gMul (x : ((Int × (Int × Int)) × (List Int))) : (Option Int) :=
  (loopO (fun (again0 : ((Int × Int) → (Option Int))) => (fun (s1 : (Int × Int)) => (cond (decide (s1.2 < (((List.length x.2) : Nat) : Int))) (bindO (getI x.2 s1.2) (fun (a2 : Int) => (bindO (some (IntKind.wrap .i64 (s1.1 * a2))) (fun (a3 : Int) => (bindO (guardO (x.1.1 != (0 : Int))) (fun (a4 : Unit) => (bindO (some (Int.tmod a3 x.1.1)) (fun (a5 : Int) => (bindO (some (IntKind.wrap .i64 (s1.2 + (1 : Int)))) (fun (a6 : Int) => (again0 (a5, a6)))))))))))) (some s1.1)))) ((1 : Int), (0 : Int)))

noncomputable def c_S_gMul : Con0 := ⟨pk_S_gMul, rk_S_gMul, M_S_gMul⟩

set_option maxRecDepth 100000 in
theorem eq_S_gMul (x : In pk_S_gMul) : semF (mkE []) h_S_gMul (info Tryz.f112) pk_S_gMul rk_S_gMul x = M_S_gMul x := (semFF_eq _ _ _ _ _ _).symm.trans (by kernel_rfl)

set_option maxRecDepth 100000 in
theorem m_S_gMul : ConOK Tryz.prog 112 c_S_gMul := fn_ok (tyOK _) (E := mkE []) (consOK_nil rfl) Tryz.func112 (h := h_S_gMul) (by kernel_rfl) eq_S_gMul

/-- S_eDec -/
def pk_S_eDec : List PK := [.data (.cons (.int .i64) (.cons (.int .i64) (.one (.int .i64)))), .data (.int .i64), .data (.cons (.int .i64) (.one (.int .i64)))]
def rk_S_eDec : List (Ty × Bool) := [((.int .i64), false)]
def h_S_eDec : Hints := { loops := [] }
noncomputable def M_S_eDec (x : ((Int × (Int × Int)) × (Int × (Int × Int)))) : (Option Int) :=
  (bindO (M_S_gExp ((x.1.1, (x.1.2.1, x.1.2.2)), (x.2.2.1, x.2.1))) (fun (a0 : Int) => (bindO (M_S_gInv ((x.1.1, (x.1.2.1, x.1.2.2)), a0)) (fun (a1 : Int) => (bindO (M_S_gMul ((x.1.1, (x.1.2.1, x.1.2.2)), (x.2.2.2 :: (a1 :: ([] : List Int))))) (fun (a2 : Int) => (some a2)))))))

noncomputable def c_S_eDec : Con0 := ⟨pk_S_eDec, rk_S_eDec, M_S_eDec⟩

set_option maxRecDepth 100000 in
theorem eq_S_eDec (x : In pk_S_eDec) : semF (mkE [(58, c_S_gExp), (126, c_S_gInv), (112, c_S_gMul)]) h_S_eDec (info Tryz.f83) pk_S_eDec rk_S_eDec x = M_S_eDec x := (semFF_eq _ _ _ _ _ _).symm.trans (by kernel_rfl)

set_option maxRecDepth 100000 in
theorem m_S_eDec : ConOK Tryz.prog 83 c_S_eDec := fn_ok (tyOK _) (E := mkE [(58, c_S_gExp), (126, c_S_gInv), (112, c_S_gMul)]) (consOK_cons m_S_gExp (consOK_cons m_S_gInv (consOK_cons m_S_gMul (consOK_nil rfl)))) Tryz.func83 (h := h_S_eDec) (by kernel_rfl) eq_S_eDec

/-- S_dTag -/
def pk_S_dTag : List PK := [.data (.cons (.int .i64) (.cons (.int .i64) (.one (.int .i64)))), .data (.int .i64), .data (.int .i64), .data (.cons (.int .i64) (.one (.int .i64)))]
def rk_S_dTag : List (Ty × Bool) := [((.int .i64), false)]
def h_S_dTag : Hints := { loops := [] }
noncomputable def M_S_dTag (x : ((Int × (Int × Int)) × (Int × (Int × (Int × Int))))) : (Option Int) :=
  (bindO (M_S_eDec ((x.1.1, (x.1.2.1, x.1.2.2)), (x.2.1, (x.2.2.2.1, x.2.2.2.2)))) (fun (a0 : Int) => (bindO (M_S_gExp ((x.1.1, (x.1.2.1, x.1.2.2)), (a0, x.2.2.1))) (fun (a1 : Int) => (some a1)))))

noncomputable def c_S_dTag : Con0 := ⟨pk_S_dTag, rk_S_dTag, M_S_dTag⟩

set_option maxRecDepth 100000 in
theorem eq_S_dTag (x : In pk_S_dTag) : semF (mkE [(83, c_S_eDec), (58, c_S_gExp)]) h_S_dTag (info Tryz.f80) pk_S_dTag rk_S_dTag x = M_S_dTag x := (semFF_eq _ _ _ _ _ _).symm.trans (by kernel_rfl)

set_option maxRecDepth 100000 in
theorem m_S_dTag : ConOK Tryz.prog 80 c_S_dTag := fn_ok (tyOK _) (E := mkE [(83, c_S_eDec), (58, c_S_gExp)]) (consOK_cons m_S_eDec (consOK_cons m_S_gExp (consOK_nil rfl))) Tryz.func80 (h := h_S_dTag) (by kernel_rfl) eq_S_dTag

/-- S_l3With -/
def pk_S_l3With : List PK := [.data .str, .data (.sl (.int .i64))]
def rk_S_l3With : List (Ty × Bool) := [((.sl (.int .i64)), true)]
def h_S_l3With : Hints := { loops := [(0, { items := [.slot 5 (.own (.int .i64) true), .slot 6 (.data (.int .i64) [])], kill := [2, 3, 4, 7, 8, 9, 10, 11, 12, 13, 14, 15, 16, 17, 18, 19, 20, 21, 22, 23, 24, 25] })] }
noncomputable def M_S_l3With (x : (ByteArray × (List Int))) : (Option (List Int)) :=
  (loopO (fun (again0 : (((List Int) × Int) → (Option (List Int)))) => (fun (s1 : ((List Int) × Int)) => (cond (decide (s1.2 < (((ByteArray.size x.1) : Nat) : Int))) (bindO (if ((0 : Int) ≤ s1.2) then (x.1[(Int.toNat s1.2)]?) else (none : Option (UInt8))) (fun (a2 : (UInt8)) => (bindO (guardO (lenOk ((List.length s1.1) + (List.length ((IntKind.wrap .i64 (((UInt8.toNat a2) : Nat) : Int)) :: ([] : List Int)))))) (fun (a3 : Unit) => (bindO (some (s1.1 ++ ((IntKind.wrap .i64 (((UInt8.toNat a2) : Nat) : Int)) :: ([] : List Int)))) (fun (a4 : (List Int)) => (bindO (some (IntKind.wrap .i64 (s1.2 + (1 : Int)))) (fun (a5 : Int) => (again0 (a4, a5)))))))))) (bindO (guardO (lenOk ((List.length s1.1) + (List.length x.2)))) (fun (a6 : Unit) => (bindO (some (s1.1 ++ x.2)) (fun (a7 : (List Int)) => (some a7)))))))) (((((ByteArray.size x.1) : Nat) : Int) :: ([] : List Int)), (0 : Int)))

noncomputable def c_S_l3With : Con0 := ⟨pk_S_l3With, rk_S_l3With, M_S_l3With⟩

set_option maxRecDepth 100000 in
theorem eq_S_l3With (x : In pk_S_l3With) : semF (mkE []) h_S_l3With (info Tryz.f177) pk_S_l3With rk_S_l3With x = M_S_l3With x := (semFF_eq _ _ _ _ _ _).symm.trans (by kernel_rfl)

set_option maxRecDepth 100000 in
theorem m_S_l3With : ConOK Tryz.prog 177 c_S_l3With := fn_ok (tyOK _) (E := mkE []) (consOK_nil rfl) Tryz.func177 (h := h_S_l3With) (by kernel_rfl) eq_S_l3With

/-- S_l3State_absorb -/
def pk_S_l3State_absorb : List PK := [.mp (.cons (.int .i64) (.one (.int .i64))) false, .data (.int .i64)]
def rk_S_l3State_absorb : List (Ty × Bool) := []
def h_S_l3State_absorb : Hints := { loops := [(0, { items := [.slot 12 (.data (.int .i64) []), .cell 0 0 (.data (.int .i64) []), .cell 0 1 (.data (.int .i64) [])], kill := [1, 2, 3, 4, 5, 6, 7, 8, 9, 13, 14, 15, 16, 17, 18, 19, 20, 21, 22, 23, 24, 25, 26, 27, 28, 29, 30, 31, 32, 33, 34, 35, 36, 37, 38, 39, 40] })] }
noncomputable def M_S_l3State_absorb (x : ((Int × Int) × Int)) : (Option (Int × Int)) :=
  (bindO (guardO ((2147483648 : Int) != (0 : Int))) (fun (a0 : Unit) => (bindO (some (Int.tmod x.2 (2147483648 : Int))) (fun (a1 : Int) => (bindO (guardO ((2147483648 : Int) != (0 : Int))) (fun (a2 : Unit) => (bindO (some (IntKind.wrap .i64 (Int.tdiv x.2 (2147483648 : Int)))) (fun (a3 : Int) => (loopO (fun (again4 : ((Int × (Int × Int)) → (Option (Int × Int)))) => (fun (s5 : (Int × (Int × Int))) => (cond (decide (s5.1 < (((List.length (a1 :: (a3 :: ([] : List Int)))) : Nat) : Int))) (bindO (getI (a1 :: (a3 :: ([] : List Int))) s5.1) (fun (a6 : Int) => (bindO (some (IntKind.wrap .i64 ((48271 : Int) * s5.2.1))) (fun (a7 : Int) => (bindO (some (IntKind.wrap .i64 (a7 + a6))) (fun (a8 : Int) => (bindO (some (IntKind.wrap .i64 (a8 + (1 : Int)))) (fun (a9 : Int) => (bindO (guardO ((2147483647 : Int) != (0 : Int))) (fun (a10 : Unit) => (bindO (some (Int.tmod a9 (2147483647 : Int))) (fun (a11 : Int) => (bindO (some (IntKind.wrap .i64 ((69621 : Int) * s5.2.2))) (fun (a12 : Int) => (bindO (some (IntKind.wrap .i64 (a12 + a6))) (fun (a13 : Int) => (bindO (some (IntKind.wrap .i64 (a13 + (1 : Int)))) (fun (a14 : Int) => (bindO (guardO ((2147483647 : Int) != (0 : Int))) (fun (a15 : Unit) => (bindO (some (Int.tmod a14 (2147483647 : Int))) (fun (a16 : Int) => (bindO (some (IntKind.wrap .i64 (s5.1 + (1 : Int)))) (fun (a17 : Int) => (again4 (a17, (a11, a16))))))))))))))))))))))))))) (some (s5.2.1, s5.2.2))))) ((0 : Int), (x.1.1, x.1.2)))))))))))

noncomputable def c_S_l3State_absorb : Con0 := ⟨pk_S_l3State_absorb, rk_S_l3State_absorb, M_S_l3State_absorb⟩

set_option maxRecDepth 100000 in
theorem eq_S_l3State_absorb (x : In pk_S_l3State_absorb) : semF (mkE []) h_S_l3State_absorb (info Tryz.f180) pk_S_l3State_absorb rk_S_l3State_absorb x = M_S_l3State_absorb x := (semFF_eq _ _ _ _ _ _).symm.trans (by kernel_rfl)

set_option maxRecDepth 100000 in
theorem m_S_l3State_absorb : ConOK Tryz.prog 180 c_S_l3State_absorb := fn_ok (tyOK _) (E := mkE []) (consOK_nil rfl) Tryz.func180 (h := h_S_l3State_absorb) (by kernel_rfl) eq_S_l3State_absorb

/-- S_hInts -/
def pk_S_hInts : List PK := [.data (.sl (.int .i64))]
def rk_S_hInts : List (Ty × Bool) := [((.int .i64), false)]
def h_S_hInts : Hints := { loops := [(0, { items := [.slot 14 (.data (.int .i64) []), .cell 7 0 (.data (.int .i64) []), .cell 7 1 (.data (.int .i64) [])], kill := [0, 1, 2, 4, 5, 6, 8, 9, 10, 11, 15, 16, 17, 18, 19, 20, 21, 22, 23, 24, 25, 26, 27, 28, 29, 30, 31] })] }
noncomputable def M_S_hInts (x : (List Int)) : (Option Int) :=
  (bindO (M_S_l3State_absorb (((1 : Int), (2 : Int)), (((List.length x) : Nat) : Int))) (fun (a0 : (Int × Int)) => (loopO (fun (again1 : ((Int × (Int × Int)) → (Option Int))) => (fun (s2 : (Int × (Int × Int))) => (cond (decide (s2.1 < (((List.length x) : Nat) : Int))) (bindO (getI x s2.1) (fun (a3 : Int) => (bindO (M_S_l3State_absorb ((s2.2.1, s2.2.2), a3)) (fun (a4 : (Int × Int)) => (bindO (some (IntKind.wrap .i64 (s2.1 + (1 : Int)))) (fun (a5 : Int) => (again1 (a5, (a4.1, a4.2))))))))) (bindO (some (IntKind.wrap .i64 (s2.2.1 * (2147483648 : Int)))) (fun (a6 : Int) => (bindO (some (IntKind.wrap .i64 (a6 + s2.2.2))) (fun (a7 : Int) => (some a7)))))))) ((0 : Int), (a0.1, a0.2)))))

noncomputable def c_S_hInts : Con0 := ⟨pk_S_hInts, rk_S_hInts, M_S_hInts⟩

set_option maxRecDepth 100000 in
theorem eq_S_hInts (x : In pk_S_hInts) : semF (mkE [(180, c_S_l3State_absorb)]) h_S_hInts (info Tryz.f176) pk_S_hInts rk_S_hInts x = M_S_hInts x := (semFF_eq _ _ _ _ _ _).symm.trans (by kernel_rfl)

set_option maxRecDepth 100000 in
theorem m_S_hInts : ConOK Tryz.prog 176 c_S_hInts := fn_ok (tyOK _) (E := mkE [(180, c_S_l3State_absorb)]) (consOK_cons m_S_l3State_absorb (consOK_nil rfl)) Tryz.func176 (h := h_S_hInts) (by kernel_rfl) eq_S_hInts

/-- S_hLabelled -/
def pk_S_hLabelled : List PK := [.data .str, .data (.sl (.int .i64))]
def rk_S_hLabelled : List (Ty × Bool) := [((.int .i64), false)]
def h_S_hLabelled : Hints := { loops := [] }
noncomputable def M_S_hLabelled (x : (ByteArray × (List Int))) : (Option Int) :=
  (bindO (M_S_l3With (x.1, x.2)) (fun (a0 : (List Int)) => (bindO (M_S_hInts a0) (fun (a1 : Int) => (some a1)))))

noncomputable def c_S_hLabelled : Con0 := ⟨pk_S_hLabelled, rk_S_hLabelled, M_S_hLabelled⟩

set_option maxRecDepth 100000 in
theorem eq_S_hLabelled (x : In pk_S_hLabelled) : semF (mkE [(177, c_S_l3With), (176, c_S_hInts)]) h_S_hLabelled (info Tryz.f173) pk_S_hLabelled rk_S_hLabelled x = M_S_hLabelled x := (semFF_eq _ _ _ _ _ _).symm.trans (by kernel_rfl)

set_option maxRecDepth 100000 in
theorem m_S_hLabelled : ConOK Tryz.prog 173 c_S_hLabelled := fn_ok (tyOK _) (E := mkE [(177, c_S_l3With), (176, c_S_hInts)]) (consOK_cons m_S_l3With (consOK_cons m_S_hInts (consOK_nil rfl))) Tryz.func173 (h := h_S_hLabelled) (by kernel_rfl) eq_S_hLabelled

/-- S_hChallenge -/
def pk_S_hChallenge : List PK := [.data (.cons (.int .i64) (.cons (.int .i64) (.one (.int .i64)))), .data .str, .data (.sl (.int .i64))]
def rk_S_hChallenge : List (Ty × Bool) := [((.int .i64), false)]
def h_S_hChallenge : Hints := { loops := [] }
noncomputable def M_S_hChallenge (x : ((Int × (Int × Int)) × (ByteArray × (List Int)))) : (Option Int) :=
  (bindO (guardO (lenOk ((List.length (x.1.1 :: (x.1.2.1 :: (x.1.2.2 :: ([] : List Int))))) + (List.length x.2.2)))) (fun (a0 : Unit) => (bindO (some ((x.1.1 :: (x.1.2.1 :: (x.1.2.2 :: ([] : List Int)))) ++ x.2.2)) (fun (a1 : (List Int)) => (bindO (M_S_hLabelled (x.2.1, a1)) (fun (a2 : Int) => (bindO (guardO (x.1.2.1 != (0 : Int))) (fun (a3 : Unit) => (bindO (some (Int.tmod a2 x.1.2.1)) (fun (a4 : Int) => (some a4)))))))))))

noncomputable def c_S_hChallenge : Con0 := ⟨pk_S_hChallenge, rk_S_hChallenge, M_S_hChallenge⟩

set_option maxRecDepth 100000 in
theorem eq_S_hChallenge (x : In pk_S_hChallenge) : semF (mkE [(173, c_S_hLabelled)]) h_S_hChallenge (info Tryz.f163) pk_S_hChallenge rk_S_hChallenge x = M_S_hChallenge x := (semFF_eq _ _ _ _ _ _).symm.trans (by kernel_rfl)

set_option maxRecDepth 100000 in
theorem m_S_hChallenge : ConOK Tryz.prog 163 c_S_hChallenge := fn_ok (tyOK _) (E := mkE [(173, c_S_hLabelled)]) (consOK_cons m_S_hLabelled (consOK_nil rfl)) Tryz.func163 (h := h_S_hChallenge) (by kernel_rfl) eq_S_hChallenge

/-- S_dChallenge -/
def pk_S_dChallenge : List PK := [.data (.cons (.int .i64) (.cons (.int .i64) (.one (.int .i64)))), .data (.cons (.cons (.int .i64) (.one (.int .i64))) (.cons (.cons (.int .i64) (.one (.int .i64))) (.one (.cons (.sl (.int .i64)) (.cons (.sl (.int .i64)) (.one (.sl (.int .i64))))))))]
def rk_S_dChallenge : List (Ty × Bool) := [((.int .i64), false)]
def h_S_dChallenge : Hints := { loops := [] }
noncomputable def M_S_dChallenge (x : ((Int × (Int × Int)) × ((Int × Int) × ((Int × Int) × ((List Int) × ((List Int) × (List Int))))))) : (Option Int) :=
  (bindO (guardO (lenOk ((List.length (x.2.1.1 :: (x.2.1.2 :: (x.2.2.1.1 :: (x.2.2.1.2 :: ([] : List Int)))))) + (List.length x.2.2.2.1)))) (fun (a0 : Unit) => (bindO (some ((x.2.1.1 :: (x.2.1.2 :: (x.2.2.1.1 :: (x.2.2.1.2 :: ([] : List Int))))) ++ x.2.2.2.1)) (fun (a1 : (List Int)) => (bindO (M_S_hChallenge ((x.1.1, (x.1.2.1, x.1.2.2)), ((bytesOf [99, 97, 115, 116]), a1))) (fun (a2 : Int) => (some a2)))))))

noncomputable def c_S_dChallenge : Con0 := ⟨pk_S_dChallenge, rk_S_dChallenge, M_S_dChallenge⟩

set_option maxRecDepth 100000 in
theorem eq_S_dChallenge (x : In pk_S_dChallenge) : semF (mkE [(163, c_S_hChallenge)]) h_S_dChallenge (info Tryz.f125) pk_S_dChallenge rk_S_dChallenge x = M_S_dChallenge x := (semFF_eq _ _ _ _ _ _).symm.trans (by kernel_rfl)

set_option maxRecDepth 100000 in
theorem m_S_dChallenge : ConOK Tryz.prog 125 c_S_dChallenge := fn_ok (tyOK _) (E := mkE [(163, c_S_hChallenge)]) (consOK_cons m_S_hChallenge (consOK_nil rfl)) Tryz.func125 (h := h_S_dChallenge) (by kernel_rfl) eq_S_dChallenge

/-- S_dVerify -/
def pk_S_dVerify : List PK := [.data (.cons (.int .i64) (.cons (.int .i64) (.one (.int .i64)))), .data (.cons (.cons (.int .i64) (.one (.int .i64))) (.cons (.cons (.int .i64) (.one (.int .i64))) (.one (.cons (.sl (.int .i64)) (.cons (.sl (.int .i64)) (.one (.sl (.int .i64))))))))]
def rk_S_dVerify : List (Ty × Bool) := [(.bool, false)]
def h_S_dVerify : Hints := { loops := [(0, { items := [.slot 58 (.data (.int .i64) [])], kill := [0, 1, 3, 4, 6, 7, 8, 9, 10, 11, 12, 13, 14, 15, 16, 17, 18, 19, 20, 21, 22, 23, 24, 25, 26, 27, 28, 29, 30, 31, 32, 33, 34, 35, 36, 37, 38, 39, 40, 41, 42, 43, 44, 45, 46, 47, 48, 49, 50, 51, 52, 53, 54, 55, 59, 60, 61, 62, 63, 64, 65, 66, 67, 68, 69, 70, 71, 72, 73, 74, 75, 76, 77, 78, 79, 80, 81, 82, 83, 84, 85, 86, 87, 88] })] }
noncomputable def M_S_dVerify (x : ((Int × (Int × Int)) × ((Int × Int) × ((Int × Int) × ((List Int) × ((List Int) × (List Int))))))) : (Option Bool) :=
  (cond ((((List.length x.2.2.2.1) : Nat) : Int) != (2 : Int)) (some false) (cond ((((List.length x.2.2.2.2.1) : Nat) : Int) != (1 : Int)) (some false) (cond ((((List.length x.2.2.2.2.2) : Nat) : Int) != (2 : Int)) (some false) (bindO (M_S_gIs ((x.1.1, (x.1.2.1, x.1.2.2)), x.2.2.2.1)) (fun (a0 : Bool) => (cond (not a0) (some false) (bindO (M_S_gExps ((x.1.1, (x.1.2.1, x.1.2.2)), x.2.2.2.2.2)) (fun (a1 : Bool) => (cond (not a1) (some false) (bindO (getI x.2.2.2.2.1 (0 : Int)) (fun (a2 : Int) => (bindO (M_S_dChallenge ((x.1.1, (x.1.2.1, x.1.2.2)), ((x.2.1.1, x.2.1.2), ((x.2.2.1.1, x.2.2.1.2), (x.2.2.2.1, (x.2.2.2.2.1, x.2.2.2.2.2)))))) (fun (a3 : Int) => (cond (a2 != a3) (some false) (loopO (fun (again4 : (Int → (Option Bool))) => (fun (s5 : Int) => (cond (decide (s5 < (((List.length (x.2.1.1 :: (x.2.2.1.1 :: ([] : List Int)))) : Nat) : Int))) (bindO (getI (x.2.1.1 :: (x.2.2.1.1 :: ([] : List Int))) s5) (fun (a6 : Int) => (bindO (getI x.2.2.2.2.2 s5) (fun (a7 : Int) => (bindO (M_S_gExp ((x.1.1, (x.1.2.1, x.1.2.2)), (x.1.2.2, a7))) (fun (a8 : Int) => (bindO (getI x.2.2.2.1 s5) (fun (a9 : Int) => (bindO (getI x.2.2.2.2.1 (0 : Int)) (fun (a10 : Int) => (bindO (M_S_gExp ((x.1.1, (x.1.2.1, x.1.2.2)), (a6, a10))) (fun (a11 : Int) => (bindO (M_S_gMul ((x.1.1, (x.1.2.1, x.1.2.2)), (a9 :: (a11 :: ([] : List Int))))) (fun (a12 : Int) => (cond (a8 != a12) (some false) (bindO (some (IntKind.wrap .i64 (s5 + (1 : Int)))) (fun (a13 : Int) => (again4 a13)))))))))))))))))) (some true)))) (0 : Int))))))))))))))))

noncomputable def c_S_dVerify : Con0 := ⟨pk_S_dVerify, rk_S_dVerify, M_S_dVerify⟩

set_option maxRecDepth 100000 in
theorem eq_S_dVerify (x : In pk_S_dVerify) : semF (mkE [(76, c_S_gIs), (56, c_S_gExps), (125, c_S_dChallenge), (58, c_S_gExp), (112, c_S_gMul)]) h_S_dVerify (info Tryz.f81) pk_S_dVerify rk_S_dVerify x = M_S_dVerify x := (semFF_eq _ _ _ _ _ _).symm.trans (by kernel_rfl)

set_option maxRecDepth 100000 in
theorem m_S_dVerify : ConOK Tryz.prog 81 c_S_dVerify := fn_ok (tyOK _) (E := mkE [(76, c_S_gIs), (56, c_S_gExps), (125, c_S_dChallenge), (58, c_S_gExp), (112, c_S_gMul)]) (consOK_cons m_S_gIs (consOK_cons m_S_gExps (consOK_cons m_S_dChallenge (consOK_cons m_S_gExp (consOK_cons m_S_gMul (consOK_nil rfl)))))) Tryz.func81 (h := h_S_dVerify) (by kernel_rfl) eq_S_dVerify

/-- S_l1Has -/
def pk_S_l1Has : List PK := [.data (.sl (.int .i64)), .data (.int .i64)]
def rk_S_l1Has : List (Ty × Bool) := [(.bool, false)]
def h_S_l1Has : Hints := { loops := [(0, { items := [.slot 9 (.data (.int .i64) [])], kill := [0, 2, 3, 4, 5, 6, 10, 11, 12, 13, 14, 15, 16] })] }
noncomputable def M_S_l1Has (x : ((List Int) × Int)) : (Option Bool) :=
  (loopO (fun (again0 : (Int → (Option Bool))) => (fun (s1 : Int) => (cond (decide (s1 < (((List.length x.1) : Nat) : Int))) (bindO (getI x.1 s1) (fun (a2 : Int) => (cond (a2 == x.2) (some true) (bindO (some (IntKind.wrap .i64 (s1 + (1 : Int)))) (fun (a3 : Int) => (again0 a3)))))) (some false)))) (0 : Int))

noncomputable def c_S_l1Has : Con0 := ⟨pk_S_l1Has, rk_S_l1Has, M_S_l1Has⟩

set_option maxRecDepth 100000 in
theorem eq_S_l1Has (x : In pk_S_l1Has) : semF (mkE []) h_S_l1Has (info Tryz.f82) pk_S_l1Has rk_S_l1Has x = M_S_l1Has x := (semFF_eq _ _ _ _ _ _).symm.trans (by kernel_rfl)

set_option maxRecDepth 100000 in
theorem m_S_l1Has : ConOK Tryz.prog 82 c_S_l1Has := fn_ok (tyOK _) (E := mkE []) (consOK_nil rfl) Tryz.func82 (h := h_S_l1Has) (by kernel_rfl) eq_S_l1Has

/-- S_dWeed -/
def pk_S_dWeed : List PK := [.data (.cons (.int .i64) (.cons (.int .i64) (.one (.int .i64)))), .data (.int .i64), .data (.int .i64), .data (.sl (.cons (.int .i64) (.one (.int .i64)))), .data (.sl (.cons (.cons (.int .i64) (.one (.int .i64))) (.cons (.cons (.int .i64) (.one (.int .i64))) (.one (.cons (.sl (.int .i64)) (.cons (.sl (.int .i64)) (.one (.sl (.int .i64)))))))))]
def rk_S_dWeed : List (Ty × Bool) := [((.sl (.int .i64)), true)]
def h_S_dWeed : Hints := { loops := [(0, { items := [.slot 11 (.own (.int .i64) true), .slot 20 (.data (.int .i64) [])], kill := [0, 3, 6, 7, 8, 9, 10, 13, 14, 15, 16, 17, 21, 22, 23, 24, 25, 26, 27, 28, 29, 30, 31, 32, 33, 34, 35, 36, 37, 38, 39, 40, 41, 42, 43, 44, 45, 46, 47, 48, 49, 50, 51, 52, 53, 54, 55, 56, 57, 58, 59, 60, 61, 62, 63, 64, 65, 66, 67, 68, 69, 70, 71, 72, 73, 74, 75, 76, 77, 78, 79, 80, 81, 82] }), (2, { items := [.slot 12 (.own (.int .i64) true), .slot 16 (.data (.int .i64) []), .arr 15 (.int .i64) true], kill := [0, 3, 6, 7, 8, 9, 10, 13, 14, 17, 18, 19, 20, 21, 22, 23, 24, 25, 26, 27, 28, 29, 30, 31, 32, 33, 34, 35, 36, 37, 38, 39, 40, 41, 42, 43, 44, 45, 46, 47, 48, 49, 50, 51, 52, 53, 54, 55, 56, 57, 58, 59, 60, 61, 62, 63, 64, 65, 66, 67, 68, 69, 70, 71, 72, 73, 74, 75, 76, 77, 78, 79, 80, 81, 82] })] }
noncomputable def M_S_dWeed (x : ((Int × (Int × Int)) × (Int × (Int × ((List (Int × Int)) × (List ((Int × Int) × ((Int × Int) × ((List Int) × ((List Int) × (List Int))))))))))) : (Option (List Int)) :=
  (loopO (fun (again0 : (((List Int) × Int) → (Option (List Int)))) => (fun (s1 : ((List Int) × Int)) => (cond (decide (s1.2 < (((List.length x.2.2.2.1) : Nat) : Int))) (bindO (getI x.2.2.2.1 s1.2) (fun (a2 : (Int × Int)) => (bindO (M_S_dTag ((x.1.1, (x.1.2.1, x.1.2.2)), (x.2.1, (x.2.2.1, (a2.1, a2.2))))) (fun (a3 : Int) => (bindO (guardO (lenOk ((List.length s1.1) + (List.length (a3 :: ([] : List Int)))))) (fun (a4 : Unit) => (bindO (some (s1.1 ++ (a3 :: ([] : List Int)))) (fun (a5 : (List Int)) => (bindO (some (IntKind.wrap .i64 (s1.2 + (1 : Int)))) (fun (a6 : Int) => (again0 (a5, a6)))))))))))) (bindO (guardO (((decide ((0 : Int) ≤ (((List.length x.2.2.2.2) : Nat) : Int))) && (decide ((((List.length x.2.2.2.2) : Nat) : Int) ≤ (((List.length x.2.2.2.2) : Nat) : Int)))) && (decide ((((List.length x.2.2.2.2) : Nat) : Int) ≤ ((lim : Nat) : Int))))) (fun (a7 : Unit) => (bindO (some (IntKind.wrap .i64 ((((List.length x.2.2.2.2) : Nat) : Int) - (1 : Int)))) (fun (a8 : Int) => (loopO (fun (again9 : (((List Int) × (Int × (List Int))) → (Option (List Int)))) => (fun (s10 : ((List Int) × (Int × (List Int)))) => (cond (decide (s10.2.1 ≥ (0 : Int))) (bindO (getI x.2.2.2.2 s10.2.1) (fun (a11 : ((Int × Int) × ((Int × Int) × ((List Int) × ((List Int) × (List Int)))))) => (bindO (M_S_dTag ((x.1.1, (x.1.2.1, x.1.2.2)), (x.2.1, (x.2.2.1, (a11.1.1, a11.1.2))))) (fun (a12 : Int) => (bindO (getI x.2.2.2.2 s10.2.1) (fun (a13 : ((Int × Int) × ((Int × Int) × ((List Int) × ((List Int) × (List Int)))))) => (bindO (M_S_dVerify ((x.1.1, (x.1.2.1, x.1.2.2)), ((a13.1.1, a13.1.2), ((a13.2.1.1, a13.2.1.2), (a13.2.2.1, (a13.2.2.2.1, a13.2.2.2.2)))))) (fun (a14 : Bool) => (cond (not a14) (bindO (getI s10.2.2 s10.2.1) (fun (a15 : Int) => (bindO (some (List.set s10.2.2 (Int.toNat s10.2.1) ((1 : Nat) : Int))) (fun (a16 : (List Int)) => (bindO (some (IntKind.wrap .i64 (s10.2.1 - (1 : Int)))) (fun (a17 : Int) => (again9 (s10.1, (a17, a16))))))))) (bindO (M_S_l1Has (s1.1, a12)) (fun (a18 : Bool) => (cond (not a18) (bindO (getI s10.2.2 s10.2.1) (fun (a19 : Int) => (bindO (some (List.set s10.2.2 (Int.toNat s10.2.1) ((2 : Nat) : Int))) (fun (a20 : (List Int)) => (bindO (some (IntKind.wrap .i64 (s10.2.1 - (1 : Int)))) (fun (a21 : Int) => (again9 (s10.1, (a21, a20))))))))) (bindO (M_S_l1Has (s10.1, a12)) (fun (a22 : Bool) => (cond a22 (bindO (getI s10.2.2 s10.2.1) (fun (a23 : Int) => (bindO (some (List.set s10.2.2 (Int.toNat s10.2.1) ((3 : Nat) : Int))) (fun (a24 : (List Int)) => (bindO (some (IntKind.wrap .i64 (s10.2.1 - (1 : Int)))) (fun (a25 : Int) => (again9 (s10.1, (a25, a24))))))))) (bindO (guardO (lenOk ((List.length s10.1) + (List.length (a12 :: ([] : List Int)))))) (fun (a26 : Unit) => (bindO (some (s10.1 ++ (a12 :: ([] : List Int)))) (fun (a27 : (List Int)) => (bindO (some (IntKind.wrap .i64 (s10.2.1 - (1 : Int)))) (fun (a28 : Int) => (again9 (a27, (a28, s10.2.2)))))))))))))))))))))))) (some s10.2.2)))) (([] : List Int), (a8, (List.replicate (Int.toNat (((List.length x.2.2.2.2) : Nat) : Int)) (0 : Int)))))))))))) (([] : List Int), (0 : Int)))

noncomputable def c_S_dWeed : Con0 := ⟨pk_S_dWeed, rk_S_dWeed, M_S_dWeed⟩

set_option maxRecDepth 100000 in
theorem eq_S_dWeed (x : In pk_S_dWeed) : semF (mkE [(80, c_S_dTag), (81, c_S_dVerify), (82, c_S_l1Has)]) h_S_dWeed (info Tryz.f33) pk_S_dWeed rk_S_dWeed x = M_S_dWeed x := (semFF_eq _ _ _ _ _ _).symm.trans (by kernel_rfl)

set_option maxRecDepth 100000 in
theorem m_S_dWeed : ConOK Tryz.prog 33 c_S_dWeed := fn_ok (tyOK _) (E := mkE [(80, c_S_dTag), (81, c_S_dVerify), (82, c_S_l1Has)]) (consOK_cons m_S_dTag (consOK_cons m_S_dVerify (consOK_cons m_S_l1Has (consOK_nil rfl)))) Tryz.func33 (h := h_S_dWeed) (by kernel_rfl) eq_S_dWeed

/-- S_mMessages -/
def pk_S_mMessages : List PK := [.data (.cons (.int .i64) (.cons (.int .i64) (.one (.int .i64)))), .data (.int .i64), .data (.sl (.cons (.int .i64) (.one (.int .i64))))]
def rk_S_mMessages : List (Ty × Bool) := [((.sl (.int .i64)), true)]
def h_S_mMessages : Hints := { loops := [(0, { items := [.slot 7 (.own (.int .i64) true), .slot 14 (.data (.int .i64) [])], kill := [0, 2, 4, 5, 6, 8, 9, 10, 11, 15, 16, 17, 18, 19, 20, 21, 22, 23, 24, 25, 26, 27, 28, 29, 30, 31, 32, 33, 34, 35, 36, 37, 38, 39, 40, 41, 42, 43, 44, 45, 46, 47, 48, 49, 50, 51, 52, 53, 54] }), (2, { items := [.slot 11 (.data (.int .i64) []), .arr 7 (.int .i64) true], kill := [0, 2, 4, 5, 6, 8, 9, 15, 16, 17, 18, 19, 20, 21, 22, 23, 24, 25, 26, 27, 28, 29, 30, 31, 32, 33, 34, 35, 36, 37, 38, 39, 40, 41, 42, 43, 44, 45, 46, 47, 48, 49, 50, 51, 52, 53, 54] })] }
noncomputable def M_S_mMessages (x : ((Int × (Int × Int)) × (Int × (List (Int × Int))))) : (Option (List Int)) :=
  (loopO (fun (again0 : (((List Int) × Int) → (Option (List Int)))) => (fun (s1 : ((List Int) × Int)) => (cond (decide (s1.2 < (((List.length x.2.2) : Nat) : Int))) (bindO (getI x.2.2 s1.2) (fun (a2 : (Int × Int)) => (bindO (M_S_eDec ((x.1.1, (x.1.2.1, x.1.2.2)), (x.2.1, (a2.1, a2.2)))) (fun (a3 : Int) => (bindO (guardO (lenOk ((List.length s1.1) + (List.length (a3 :: ([] : List Int)))))) (fun (a4 : Unit) => (bindO (some (s1.1 ++ (a3 :: ([] : List Int)))) (fun (a5 : (List Int)) => (loopO (fun (again6 : ((Int × (List Int)) → (Option (List Int)))) => (fun (s7 : (Int × (List Int))) => (cond (decide (s7.1 > (0 : Int))) (bindO (some (IntKind.wrap .i64 (s7.1 - (1 : Int)))) (fun (a8 : Int) => (bindO (getI s7.2 a8) (fun (a9 : Int) => (cond (decide (a9 > a3)) (bindO (some (IntKind.wrap .i64 (s7.1 - (1 : Int)))) (fun (a10 : Int) => (bindO (getI s7.2 a10) (fun (a11 : Int) => (bindO (getI s7.2 s7.1) (fun (a12 : Int) => (bindO (some (List.set s7.2 (Int.toNat s7.1) a11)) (fun (a13 : (List Int)) => (bindO (some (IntKind.wrap .i64 (s7.1 - (1 : Int)))) (fun (a14 : Int) => (again6 (a14, a13)))))))))))) (bindO (getI s7.2 s7.1) (fun (a15 : Int) => (bindO (some (List.set s7.2 (Int.toNat s7.1) a3)) (fun (a16 : (List Int)) => (bindO (some (IntKind.wrap .i64 (s1.2 + (1 : Int)))) (fun (a17 : Int) => (again0 (a16, a17))))))))))))) (bindO (getI s7.2 s7.1) (fun (a18 : Int) => (bindO (some (List.set s7.2 (Int.toNat s7.1) a3)) (fun (a19 : (List Int)) => (bindO (some (IntKind.wrap .i64 (s1.2 + (1 : Int)))) (fun (a20 : Int) => (again0 (a19, a20))))))))))) ((((List.length s1.1) : Nat) : Int), a5)))))))))) (some s1.1)))) (([] : List Int), (0 : Int)))

noncomputable def c_S_mMessages : Con0 := ⟨pk_S_mMessages, rk_S_mMessages, M_S_mMessages⟩

set_option maxRecDepth 100000 in
theorem eq_S_mMessages (x : In pk_S_mMessages) : semF (mkE [(83, c_S_eDec)]) h_S_mMessages (info Tryz.f34) pk_S_mMessages rk_S_mMessages x = M_S_mMessages x := (semFF_eq _ _ _ _ _ _).symm.trans (by kernel_rfl)

set_option maxRecDepth 100000 in
theorem m_S_mMessages : ConOK Tryz.prog 34 c_S_mMessages := fn_ok (tyOK _) (E := mkE [(83, c_S_eDec)]) (consOK_cons m_S_eDec (consOK_nil rfl)) Tryz.func34 (h := h_S_mMessages) (by kernel_rfl) eq_S_mMessages

/-- S_CountedVotes -/
def pk_S_CountedVotes : List PK := [.data (.cons (.int .i64) (.cons (.int .i64) (.one (.int .i64)))), .data (.int .i64), .data (.int .i64), .data (.sl (.cons (.int .i64) (.one (.int .i64)))), .data (.sl (.cons (.cons (.int .i64) (.one (.int .i64))) (.cons (.cons (.int .i64) (.one (.int .i64))) (.one (.cons (.sl (.int .i64)) (.cons (.sl (.int .i64)) (.one (.sl (.int .i64)))))))))]
def rk_S_CountedVotes : List (Ty × Bool) := [((.sl (.int .i64)), true), (.bool, false)]
def h_S_CountedVotes : Hints := { loops := [(0, { items := [.slot 12 (.own (.cons (.int .i64) (.one (.int .i64))) true), .slot 29 (.data (.int .i64) [])], kill := [0, 2, 3, 6, 7, 8, 9, 10, 11, 13, 14, 15, 16, 17, 18, 19, 20, 21, 22, 23, 24, 25, 26, 30, 31, 32, 33, 34, 35, 36, 37, 38, 39, 40, 41, 42, 43, 44, 45, 46, 47, 48] })] }
noncomputable def M_S_CountedVotes (x : ((Int × (Int × Int)) × (Int × (Int × ((List (Int × Int)) × (List ((Int × Int) × ((Int × Int) × ((List Int) × ((List Int) × (List Int))))))))))) : (Option ((List Int) × Bool)) :=
  (bindO (M_S_dInput ((x.1.1, (x.1.2.1, x.1.2.2)), (x.2.1, (x.2.2.1, (x.2.2.2.1, x.2.2.2.2))))) (fun (a0 : Bool) => (cond (not a0) (some (([] : List Int), false)) (bindO (M_S_dWeed ((x.1.1, (x.1.2.1, x.1.2.2)), (x.2.1, (x.2.2.1, (x.2.2.2.1, x.2.2.2.2))))) (fun (a1 : (List Int)) => (loopO (fun (again2 : (((List (Int × Int)) × Int) → (Option ((List Int) × Bool)))) => (fun (s3 : ((List (Int × Int)) × Int)) => (cond (decide (s3.2 < (((List.length a1) : Nat) : Int))) (bindO (getI a1 s3.2) (fun (a4 : Int) => (cond (a4 == (0 : Int)) (bindO (getI x.2.2.2.2 s3.2) (fun (a5 : ((Int × Int) × ((Int × Int) × ((List Int) × ((List Int) × (List Int)))))) => (bindO (guardO (lenOk ((List.length s3.1) + (List.length ((a5.2.1.1, a5.2.1.2) :: ([] : List (Int × Int))))))) (fun (a6 : Unit) => (bindO (some (s3.1 ++ ((a5.2.1.1, a5.2.1.2) :: ([] : List (Int × Int))))) (fun (a7 : (List (Int × Int))) => (bindO (some (IntKind.wrap .i64 (s3.2 + (1 : Int)))) (fun (a8 : Int) => (again2 (a7, a8)))))))))) (bindO (some (IntKind.wrap .i64 (s3.2 + (1 : Int)))) (fun (a9 : Int) => (again2 (s3.1, a9))))))) (bindO (M_S_mMessages ((x.1.1, (x.1.2.1, x.1.2.2)), (x.2.1, s3.1))) (fun (a10 : (List Int)) => (some (a10, true))))))) (([] : List (Int × Int)), (0 : Int))))))))

noncomputable def c_S_CountedVotes : Con0 := ⟨pk_S_CountedVotes, rk_S_CountedVotes, M_S_CountedVotes⟩

set_option maxRecDepth 100000 in
theorem eq_S_CountedVotes (x : In pk_S_CountedVotes) : semF (mkE [(32, c_S_dInput), (33, c_S_dWeed), (34, c_S_mMessages)]) h_S_CountedVotes (info Tryz.f7) pk_S_CountedVotes rk_S_CountedVotes x = M_S_CountedVotes x := (semFF_eq _ _ _ _ _ _).symm.trans (by kernel_rfl)

set_option maxRecDepth 100000 in
theorem m_S_CountedVotes : ConOK Tryz.prog 7 c_S_CountedVotes := fn_ok (tyOK _) (E := mkE [(32, c_S_dInput), (33, c_S_dWeed), (34, c_S_mMessages)]) (consOK_cons m_S_dInput (consOK_cons m_S_dWeed (consOK_cons m_S_mMessages (consOK_nil rfl)))) Tryz.func7 (h := h_S_CountedVotes) (by kernel_rfl) eq_S_CountedVotes

/-- I_within -/
def pk_I_within : List PK := [.data (.int .i64), .data (.int .i64), .data (.int .i64)]
def rk_I_within : List (Ty × Bool) := [(.bool, false)]
def h_I_within : Hints := { loops := [] }
noncomputable def M_I_within (x : (Int × (Int × Int))) : (Option Bool) :=
  (cond (decide (x.1 ≥ x.2.1)) (some (decide (x.1 ≤ x.2.2))) (some false))

noncomputable def c_I_within : Con0 := ⟨pk_I_within, rk_I_within, M_I_within⟩

set_option maxRecDepth 100000 in
theorem eq_I_within (x : In pk_I_within) : semF (mkE []) h_I_within (info Tryz.f60) pk_I_within rk_I_within x = M_I_within x := (semFF_eq _ _ _ _ _ _).symm.trans (by kernel_rfl)

set_option maxRecDepth 100000 in
theorem m_I_within : ConOK Tryz.prog 60 c_I_within := fn_ok (tyOK _) (E := mkE []) (consOK_nil rfl) Tryz.func60 (h := h_I_within) (by kernel_rfl) eq_I_within

/-- I_isModulus -/
def pk_I_isModulus : List PK := [.data (.int .i64)]
def rk_I_isModulus : List (Ty × Bool) := [(.bool, false)]
def h_I_isModulus : Hints := { loops := [] }
noncomputable def M_I_isModulus (x : Int) : (Option Bool) :=
  (bindO (M_I_within (x, ((2 : Int), (2000000000 : Int)))) (fun (a0 : Bool) => (some a0)))

noncomputable def c_I_isModulus : Con0 := ⟨pk_I_isModulus, rk_I_isModulus, M_I_isModulus⟩

set_option maxRecDepth 100000 in
theorem eq_I_isModulus (x : In pk_I_isModulus) : semF (mkE [(60, c_I_within)]) h_I_isModulus (info Tryz.f156) pk_I_isModulus rk_I_isModulus x = M_I_isModulus x := (semFF_eq _ _ _ _ _ _).symm.trans (by kernel_rfl)

set_option maxRecDepth 100000 in
theorem m_I_isModulus : ConOK Tryz.prog 156 c_I_isModulus := fn_ok (tyOK _) (E := mkE [(60, c_I_within)]) (consOK_cons m_I_within (consOK_nil rfl)) Tryz.func156 (h := h_I_isModulus) (by kernel_rfl) eq_I_isModulus

/-- I_isPrime -/
def pk_I_isPrime : List PK := [.data (.int .i64)]
def rk_I_isPrime : List (Ty × Bool) := [(.bool, false)]
def h_I_isPrime : Hints := { loops := [(0, { items := [.slot 3 (.data (.int .i64) [])], kill := [1, 2, 4, 5, 6, 7, 8, 9, 10, 11, 12, 13, 14, 15, 16, 17, 18, 19, 20, 21, 22, 23, 24, 25, 26] })] }
noncomputable def M_I_isPrime (x : Int) : (Option Bool) :=
  (bindO (M_I_isModulus x) (fun (a0 : Bool) => (cond (not a0) (some false) (bindO (guardO ((2 : Int) != (0 : Int))) (fun (a1 : Unit) => (bindO (some (Int.tmod x (2 : Int))) (fun (a2 : Int) => (cond (a2 == (0 : Int)) (cond (x != (2 : Int)) (some false) (loopO (fun (again3 : (Int → (Option Bool))) => (fun (s4 : Int) => (bindO (some (IntKind.wrap .i64 (s4 * s4))) (fun (a5 : Int) => (cond (decide (a5 ≤ x)) (bindO (guardO (s4 != (0 : Int))) (fun (a6 : Unit) => (bindO (some (Int.tmod x s4)) (fun (a7 : Int) => (cond (a7 == (0 : Int)) (some false) (bindO (some (IntKind.wrap .i64 (s4 + (2 : Int)))) (fun (a8 : Int) => (again3 a8)))))))) (some true)))))) (3 : Int))) (loopO (fun (again9 : (Int → (Option Bool))) => (fun (s10 : Int) => (bindO (some (IntKind.wrap .i64 (s10 * s10))) (fun (a11 : Int) => (cond (decide (a11 ≤ x)) (bindO (guardO (s10 != (0 : Int))) (fun (a12 : Unit) => (bindO (some (Int.tmod x s10)) (fun (a13 : Int) => (cond (a13 == (0 : Int)) (some false) (bindO (some (IntKind.wrap .i64 (s10 + (2 : Int)))) (fun (a14 : Int) => (again9 a14)))))))) (some true)))))) (3 : Int))))))))))

noncomputable def c_I_isPrime : Con0 := ⟨pk_I_isPrime, rk_I_isPrime, M_I_isPrime⟩

set_option maxRecDepth 100000 in
theorem eq_I_isPrime (x : In pk_I_isPrime) : semF (mkE [(156, c_I_isModulus)]) h_I_isPrime (info Tryz.f113) pk_I_isPrime rk_I_isPrime x = M_I_isPrime x := (semFF_eq _ _ _ _ _ _).symm.trans (by kernel_rfl)

set_option maxRecDepth 100000 in
theorem m_I_isPrime : ConOK Tryz.prog 113 c_I_isPrime := fn_ok (tyOK _) (E := mkE [(156, c_I_isModulus)]) (consOK_cons m_I_isModulus (consOK_nil rfl)) Tryz.func113 (h := h_I_isPrime) (by kernel_rfl) eq_I_isPrime

/-- I_power -/
def pk_I_power : List PK := [.data (.int .i64), .data (.int .i64), .data (.int .i64)]
def rk_I_power : List (Ty × Bool) := [((.int .i64), false)]
def h_I_power : Hints := { loops := [(0, { items := [.slot 0 (.data (.int .i64) []), .slot 1 (.data (.int .i64) []), .slot 7 (.data (.int .i64) [])], kill := [3, 4, 5, 6, 8, 9, 10, 11, 12, 13, 14, 15, 16, 17, 18, 19, 20, 21, 22, 23, 24, 25, 26, 27] })] }
noncomputable def M_I_power (x : (Int × (Int × Int))) : (Option Int) :=
  (bindO (guardO (x.2.2 != (0 : Int))) (fun (a0 : Unit) => (bindO (some (Int.tmod (1 : Int) x.2.2)) (fun (a1 : Int) => (loopO (fun (again2 : ((Int × (Int × Int)) → (Option Int))) => (fun (s3 : (Int × (Int × Int))) => (cond (decide (s3.2.1 > (0 : Int))) (bindO (some (bits .and .i64 s3.2.1 (1 : Int))) (fun (a4 : Int) => (cond (a4 == (1 : Int)) (bindO (some (IntKind.wrap .i64 (s3.2.2 * s3.1))) (fun (a5 : Int) => (bindO (guardO (x.2.2 != (0 : Int))) (fun (a6 : Unit) => (bindO (some (Int.tmod a5 x.2.2)) (fun (a7 : Int) => (bindO (some (IntKind.wrap .i64 (s3.1 * s3.1))) (fun (a8 : Int) => (bindO (guardO (x.2.2 != (0 : Int))) (fun (a9 : Unit) => (bindO (some (Int.tmod a8 x.2.2)) (fun (a10 : Int) => (bindO (guardO (decide ((0 : Int) ≤ (1 : Int)))) (fun (a11 : Unit) => (bindO (some (shr .i64 s3.2.1 (1 : Int))) (fun (a12 : Int) => (again2 (a10, (a12, a7))))))))))))))))))) (bindO (some (IntKind.wrap .i64 (s3.1 * s3.1))) (fun (a13 : Int) => (bindO (guardO (x.2.2 != (0 : Int))) (fun (a14 : Unit) => (bindO (some (Int.tmod a13 x.2.2)) (fun (a15 : Int) => (bindO (guardO (decide ((0 : Int) ≤ (1 : Int)))) (fun (a16 : Unit) => (bindO (some (shr .i64 s3.2.1 (1 : Int))) (fun (a17 : Int) => (again2 (a15, (a17, s3.2.2)))))))))))))))) (some s3.2.2)))) (x.1, (x.2.1, a1)))))))

noncomputable def c_I_power : Con0 := ⟨pk_I_power, rk_I_power, M_I_power⟩

set_option maxRecDepth 100000 in
theorem eq_I_power (x : In pk_I_power) : semF (mkE []) h_I_power (info Tryz.f114) pk_I_power rk_I_power x = M_I_power x := (semFF_eq _ _ _ _ _ _).symm.trans (by kernel_rfl)

set_option maxRecDepth 100000 in
theorem m_I_power : ConOK Tryz.prog 114 c_I_power := fn_ok (tyOK _) (E := mkE []) (consOK_nil rfl) Tryz.func114 (h := h_I_power) (by kernel_rfl) eq_I_power

/-- I_IsValidGroup -/
def pk_I_IsValidGroup : List PK := [.data (.cons (.int .i64) (.cons (.int .i64) (.one (.int .i64))))]
def rk_I_IsValidGroup : List (Ty × Bool) := [(.bool, false)]
def h_I_IsValidGroup : Hints := { loops := [] }
noncomputable def M_I_IsValidGroup (x : (Int × (Int × Int))) : (Option Bool) :=
  (bindO (M_I_within (x.1, ((3 : Int), (2000000000 : Int)))) (fun (a0 : Bool) => (cond a0 (bindO (some (IntKind.wrap .i64 (x.1 - (1 : Int)))) (fun (a1 : Int) => (bindO (M_I_within (x.2.1, ((2 : Int), a1))) (fun (a2 : Bool) => (cond a2 (bindO (some (IntKind.wrap .i64 (x.1 - (1 : Int)))) (fun (a3 : Int) => (bindO (guardO (x.2.1 != (0 : Int))) (fun (a4 : Unit) => (bindO (some (Int.tmod a3 x.2.1)) (fun (a5 : Int) => (cond (a5 == (0 : Int)) (bindO (some (IntKind.wrap .i64 (x.1 - (1 : Int)))) (fun (a6 : Int) => (bindO (M_I_within (x.2.2, ((2 : Int), a6))) (fun (a7 : Bool) => (cond a7 (bindO (M_I_isPrime x.1) (fun (a8 : Bool) => (cond a8 (bindO (M_I_isPrime x.2.1) (fun (a9 : Bool) => (cond a9 (bindO (M_I_power (x.2.2, (x.2.1, x.1))) (fun (a10 : Int) => (some (a10 == (1 : Int))))) (some false)))) (some false)))) (some false)))))) (some false)))))))) (some false)))))) (some false))))

noncomputable def c_I_IsValidGroup : Con0 := ⟨pk_I_IsValidGroup, rk_I_IsValidGroup, M_I_IsValidGroup⟩

set_option maxRecDepth 100000 in
theorem eq_I_IsValidGroup (x : In pk_I_IsValidGroup) : semF (mkE [(60, c_I_within), (113, c_I_isPrime), (114, c_I_power)]) h_I_IsValidGroup (info Tryz.f59) pk_I_IsValidGroup rk_I_IsValidGroup x = M_I_IsValidGroup x := (semFF_eq _ _ _ _ _ _).symm.trans (by kernel_rfl)

set_option maxRecDepth 100000 in
theorem m_I_IsValidGroup : ConOK Tryz.prog 59 c_I_IsValidGroup := fn_ok (tyOK _) (E := mkE [(60, c_I_within), (113, c_I_isPrime), (114, c_I_power)]) (consOK_cons m_I_within (consOK_cons m_I_isPrime (consOK_cons m_I_power (consOK_nil rfl)))) Tryz.func59 (h := h_I_IsValidGroup) (by kernel_rfl) eq_I_IsValidGroup

/-- slices_IndexFunc_sint_int -/
def pk_slices_IndexFunc_sint_int : List PK := [.data (.sl (.int .i64)), .fn [(.int .i64)] .bool]
def rk_slices_IndexFunc_sint_int : List (Ty × Bool) := [((.int .i64), false)]
def h_slices_IndexFunc_sint_int : Hints := { loops := [(0, { items := [.slot 8 (.data (.int .i64) [])], kill := [2, 3, 4, 5, 6, 9, 10, 11, 12, 13, 14, 15, 16, 17, 18] })] }
noncomputable def M_slices_IndexFunc_sint_int (x : ((List Int) × (Int → (Option Bool)))) : (Option Int) :=
  (loopO (fun (again0 : (Int → (Option Int))) => (fun (s1 : Int) => (cond (decide (s1 < (((List.length x.1) : Nat) : Int))) (bindO (getI x.1 s1) (fun (a2 : Int) => (bindO (x.2 a2) (fun (a3 : Bool) => (cond a3 (some s1) (bindO (some (IntKind.wrap .i64 (s1 + (1 : Int)))) (fun (a4 : Int) => (again0 a4)))))))) (some (- (1 : Int)))))) (0 : Int))

noncomputable def c_slices_IndexFunc_sint_int : Con0 := ⟨pk_slices_IndexFunc_sint_int, rk_slices_IndexFunc_sint_int, M_slices_IndexFunc_sint_int⟩

set_option maxRecDepth 100000 in
theorem eq_slices_IndexFunc_sint_int (x : In pk_slices_IndexFunc_sint_int) : semF (mkE []) h_slices_IndexFunc_sint_int (info Tryz.f172) pk_slices_IndexFunc_sint_int rk_slices_IndexFunc_sint_int x = M_slices_IndexFunc_sint_int x := (semFF_eq _ _ _ _ _ _).symm.trans (by kernel_rfl)

set_option maxRecDepth 100000 in
theorem m_slices_IndexFunc_sint_int : ConOK Tryz.prog 172 c_slices_IndexFunc_sint_int := fn_ok (tyOK _) (E := mkE []) (consOK_nil rfl) Tryz.func172 (h := h_slices_IndexFunc_sint_int) (by kernel_rfl) eq_slices_IndexFunc_sint_int

/-- slices_ContainsFunc_sint_int -/
def pk_slices_ContainsFunc_sint_int : List PK := [.data (.sl (.int .i64)), .fn [(.int .i64)] .bool]
def rk_slices_ContainsFunc_sint_int : List (Ty × Bool) := [(.bool, false)]
def h_slices_ContainsFunc_sint_int : Hints := { loops := [] }
noncomputable def M_slices_ContainsFunc_sint_int (x : ((List Int) × (Int → (Option Bool)))) : (Option Bool) :=
  (bindO (M_slices_IndexFunc_sint_int (x.1, x.2)) (fun (a0 : Int) => (some (decide (a0 ≥ (0 : Int))))))

noncomputable def c_slices_ContainsFunc_sint_int : Con0 := ⟨pk_slices_ContainsFunc_sint_int, rk_slices_ContainsFunc_sint_int, M_slices_ContainsFunc_sint_int⟩

set_option maxRecDepth 100000 in
theorem eq_slices_ContainsFunc_sint_int (x : In pk_slices_ContainsFunc_sint_int) : semF (mkE [(172, c_slices_IndexFunc_sint_int)]) h_slices_ContainsFunc_sint_int (info Tryz.f146) pk_slices_ContainsFunc_sint_int rk_slices_ContainsFunc_sint_int x = M_slices_ContainsFunc_sint_int x := (semFF_eq _ _ _ _ _ _).symm.trans (by kernel_rfl)

set_option maxRecDepth 100000 in
theorem m_slices_ContainsFunc_sint_int : ConOK Tryz.prog 146 c_slices_ContainsFunc_sint_int := fn_ok (tyOK _) (E := mkE [(172, c_slices_IndexFunc_sint_int)]) (consOK_cons m_slices_IndexFunc_sint_int (consOK_nil rfl)) Tryz.func146 (h := h_slices_ContainsFunc_sint_int) (by kernel_rfl) eq_slices_ContainsFunc_sint_int

/-- I_areAll_1 -/
def pk_I_areAll_1 : List PK := [.data (.int .i64), .rfn [(.int .i64)] .bool]
def rk_I_areAll_1 : List (Ty × Bool) := [(.bool, false)]
def h_I_areAll_1 : Hints := { loops := [] }
noncomputable def M_I_areAll_1 (x : (Int × (Int → (Option Bool)))) : (Option Bool) :=
  (bindO (x.2 x.1) (fun (a0 : Bool) => (some (not a0))))

noncomputable def c_I_areAll_1 : Con0 := ⟨pk_I_areAll_1, rk_I_areAll_1, M_I_areAll_1⟩

set_option maxRecDepth 100000 in
theorem eq_I_areAll_1 (x : In pk_I_areAll_1) : semF (mkE []) h_I_areAll_1 (info Tryz.f147) pk_I_areAll_1 rk_I_areAll_1 x = M_I_areAll_1 x := (semFF_eq _ _ _ _ _ _).symm.trans (by kernel_rfl)

set_option maxRecDepth 100000 in
theorem m_I_areAll_1 : ConOK Tryz.prog 147 c_I_areAll_1 := fn_ok (tyOK _) (E := mkE []) (consOK_nil rfl) Tryz.func147 (h := h_I_areAll_1) (by kernel_rfl) eq_I_areAll_1

/-- I_areAll -/
def pk_I_areAll : List PK := [.data (.sl (.int .i64)), .fn [(.int .i64)] .bool]
def rk_I_areAll : List (Ty × Bool) := [(.bool, false)]
def h_I_areAll : Hints := { loops := [] }
noncomputable def M_I_areAll (x : ((List Int) × (Int → (Option Bool)))) : (Option Bool) :=
  (bindO (M_slices_ContainsFunc_sint_int (x.1, (fun (a0 : Int) => (bindO (M_I_areAll_1 (a0, x.2)) (fun (a1 : Bool) => (some a1)))))) (fun (a2 : Bool) => (some (not a2))))

noncomputable def c_I_areAll : Con0 := ⟨pk_I_areAll, rk_I_areAll, M_I_areAll⟩

set_option maxRecDepth 100000 in
theorem eq_I_areAll (x : In pk_I_areAll) : semF (mkE [(146, c_slices_ContainsFunc_sint_int), (147, c_I_areAll_1)]) h_I_areAll (info Tryz.f101) pk_I_areAll rk_I_areAll x = M_I_areAll x := (semFF_eq _ _ _ _ _ _).symm.trans (by kernel_rfl)

set_option maxRecDepth 100000 in
theorem m_I_areAll : ConOK Tryz.prog 101 c_I_areAll := fn_ok (tyOK _) (E := mkE [(146, c_slices_ContainsFunc_sint_int), (147, c_I_areAll_1)]) (consOK_cons m_slices_ContainsFunc_sint_int (consOK_cons m_I_areAll_1 (consOK_nil rfl))) Tryz.func101 (h := h_I_areAll) (by kernel_rfl) eq_I_areAll

/-- I_Group_isExp -/
def pk_I_Group_isExp : List PK := [.data (.cons (.int .i64) (.cons (.int .i64) (.one (.int .i64)))), .data (.int .i64)]
def rk_I_Group_isExp : List (Ty × Bool) := [(.bool, false)]
def h_I_Group_isExp : Hints := { loops := [] }
noncomputable def M_I_Group_isExp (x : ((Int × (Int × Int)) × Int)) : (Option Bool) :=
  (bindO (some (IntKind.wrap .i64 (x.1.2.1 - (1 : Int)))) (fun (a0 : Int) => (bindO (M_I_within (x.2, ((0 : Int), a0))) (fun (a1 : Bool) => (some a1)))))

noncomputable def c_I_Group_isExp : Con0 := ⟨pk_I_Group_isExp, rk_I_Group_isExp, M_I_Group_isExp⟩

set_option maxRecDepth 100000 in
theorem eq_I_Group_isExp (x : In pk_I_Group_isExp) : semF (mkE [(60, c_I_within)]) h_I_Group_isExp (info Tryz.f164) pk_I_Group_isExp rk_I_Group_isExp x = M_I_Group_isExp x := (semFF_eq _ _ _ _ _ _).symm.trans (by kernel_rfl)

set_option maxRecDepth 100000 in
theorem m_I_Group_isExp : ConOK Tryz.prog 164 c_I_Group_isExp := fn_ok (tyOK _) (E := mkE [(60, c_I_within)]) (consOK_cons m_I_within (consOK_nil rfl)) Tryz.func164 (h := h_I_Group_isExp) (by kernel_rfl) eq_I_Group_isExp

/-- I_Group_areExps -/
def pk_I_Group_areExps : List PK := [.data (.cons (.int .i64) (.cons (.int .i64) (.one (.int .i64)))), .data (.sl (.int .i64))]
def rk_I_Group_areExps : List (Ty × Bool) := [(.bool, false)]
def h_I_Group_areExps : Hints := { loops := [] }
noncomputable def M_I_Group_areExps (x : ((Int × (Int × Int)) × (List Int))) : (Option Bool) :=
  (bindO (M_I_areAll (x.2, (fun (a0 : Int) => (bindO (M_I_Group_isExp ((x.1.1, (x.1.2.1, x.1.2.2)), a0)) (fun (a1 : Bool) => (some a1)))))) (fun (a2 : Bool) => (some a2)))

noncomputable def c_I_Group_areExps : Con0 := ⟨pk_I_Group_areExps, rk_I_Group_areExps, M_I_Group_areExps⟩

set_option maxRecDepth 100000 in
theorem eq_I_Group_areExps (x : In pk_I_Group_areExps) : semF (mkE [(101, c_I_areAll), (164, c_I_Group_isExp)]) h_I_Group_areExps (info Tryz.f128) pk_I_Group_areExps rk_I_Group_areExps x = M_I_Group_areExps x := (semFF_eq _ _ _ _ _ _).symm.trans (by kernel_rfl)

set_option maxRecDepth 100000 in
theorem m_I_Group_areExps : ConOK Tryz.prog 128 c_I_Group_areExps := fn_ok (tyOK _) (E := mkE [(101, c_I_areAll), (164, c_I_Group_isExp)]) (consOK_cons m_I_areAll (consOK_cons m_I_Group_isExp (consOK_nil rfl))) Tryz.func128 (h := h_I_Group_areExps) (by kernel_rfl) eq_I_Group_areExps

/-- I_isTagging -/
def pk_I_isTagging : List PK := [.data (.cons (.int .i64) (.cons (.int .i64) (.one (.int .i64)))), .data (.int .i64), .data (.int .i64)]
def rk_I_isTagging : List (Ty × Bool) := [(.bool, false)]
def h_I_isTagging : Hints := { loops := [] }
noncomputable def M_I_isTagging (x : ((Int × (Int × Int)) × (Int × Int))) : (Option Bool) :=
  (bindO (M_I_IsValidGroup (x.1.1, (x.1.2.1, x.1.2.2))) (fun (a0 : Bool) => (cond a0 (bindO (M_I_Group_areExps ((x.1.1, (x.1.2.1, x.1.2.2)), (x.2.1 :: (x.2.2 :: ([] : List Int))))) (fun (a1 : Bool) => (cond a1 (some (x.2.2 != (0 : Int))) (some false)))) (some false))))

noncomputable def c_I_isTagging : Con0 := ⟨pk_I_isTagging, rk_I_isTagging, M_I_isTagging⟩

set_option maxRecDepth 100000 in
theorem eq_I_isTagging (x : In pk_I_isTagging) : semF (mkE [(59, c_I_IsValidGroup), (128, c_I_Group_areExps)]) h_I_isTagging (info Tryz.f85) pk_I_isTagging rk_I_isTagging x = M_I_isTagging x := (semFF_eq _ _ _ _ _ _).symm.trans (by kernel_rfl)

set_option maxRecDepth 100000 in
theorem m_I_isTagging : ConOK Tryz.prog 85 c_I_isTagging := fn_ok (tyOK _) (E := mkE [(59, c_I_IsValidGroup), (128, c_I_Group_areExps)]) (consOK_cons m_I_IsValidGroup (consOK_cons m_I_Group_areExps (consOK_nil rfl))) Tryz.func85 (h := h_I_isTagging) (by kernel_rfl) eq_I_isTagging

/-- slices_IndexFunc_sI_Cipher_I_Cipher -/
def pk_slices_IndexFunc_sI_Cipher_I_Cipher : List PK := [.data (.sl (.cons (.int .i64) (.one (.int .i64)))), .fn [(.cons (.int .i64) (.one (.int .i64)))] .bool]
def rk_slices_IndexFunc_sI_Cipher_I_Cipher : List (Ty × Bool) := [((.int .i64), false)]
def h_slices_IndexFunc_sI_Cipher_I_Cipher : Hints := { loops := [(0, { items := [.slot 8 (.data (.int .i64) [])], kill := [2, 3, 4, 5, 6, 9, 10, 11, 12, 13, 14, 15, 16, 17, 18] })] }
noncomputable def M_slices_IndexFunc_sI_Cipher_I_Cipher (x : ((List (Int × Int)) × ((Int × Int) → (Option Bool)))) : (Option Int) :=
  (loopO (fun (again0 : (Int → (Option Int))) => (fun (s1 : Int) => (cond (decide (s1 < (((List.length x.1) : Nat) : Int))) (bindO (getI x.1 s1) (fun (a2 : (Int × Int)) => (bindO (x.2 (a2.1, a2.2)) (fun (a3 : Bool) => (cond a3 (some s1) (bindO (some (IntKind.wrap .i64 (s1 + (1 : Int)))) (fun (a4 : Int) => (again0 a4)))))))) (some (- (1 : Int)))))) (0 : Int))

noncomputable def c_slices_IndexFunc_sI_Cipher_I_Cipher : Con0 := ⟨pk_slices_IndexFunc_sI_Cipher_I_Cipher, rk_slices_IndexFunc_sI_Cipher_I_Cipher, M_slices_IndexFunc_sI_Cipher_I_Cipher⟩

set_option maxRecDepth 100000 in
theorem eq_slices_IndexFunc_sI_Cipher_I_Cipher (x : In pk_slices_IndexFunc_sI_Cipher_I_Cipher) : semF (mkE []) h_slices_IndexFunc_sI_Cipher_I_Cipher (info Tryz.f159) pk_slices_IndexFunc_sI_Cipher_I_Cipher rk_slices_IndexFunc_sI_Cipher_I_Cipher x = M_slices_IndexFunc_sI_Cipher_I_Cipher x := (semFF_eq _ _ _ _ _ _).symm.trans (by kernel_rfl)

set_option maxRecDepth 100000 in
theorem m_slices_IndexFunc_sI_Cipher_I_Cipher : ConOK Tryz.prog 159 c_slices_IndexFunc_sI_Cipher_I_Cipher := fn_ok (tyOK _) (E := mkE []) (consOK_nil rfl) Tryz.func159 (h := h_slices_IndexFunc_sI_Cipher_I_Cipher) (by kernel_rfl) eq_slices_IndexFunc_sI_Cipher_I_Cipher

/-- slices_ContainsFunc_sI_Cipher_I_Cipher -/
def pk_slices_ContainsFunc_sI_Cipher_I_Cipher : List PK := [.data (.sl (.cons (.int .i64) (.one (.int .i64)))), .fn [(.cons (.int .i64) (.one (.int .i64)))] .bool]
def rk_slices_ContainsFunc_sI_Cipher_I_Cipher : List (Ty × Bool) := [(.bool, false)]
def h_slices_ContainsFunc_sI_Cipher_I_Cipher : Hints := { loops := [] }
noncomputable def M_slices_ContainsFunc_sI_Cipher_I_Cipher (x : ((List (Int × Int)) × ((Int × Int) → (Option Bool)))) : (Option Bool) :=
  (bindO (M_slices_IndexFunc_sI_Cipher_I_Cipher (x.1, x.2)) (fun (a0 : Int) => (some (decide (a0 ≥ (0 : Int))))))

noncomputable def c_slices_ContainsFunc_sI_Cipher_I_Cipher : Con0 := ⟨pk_slices_ContainsFunc_sI_Cipher_I_Cipher, rk_slices_ContainsFunc_sI_Cipher_I_Cipher, M_slices_ContainsFunc_sI_Cipher_I_Cipher⟩

set_option maxRecDepth 100000 in
theorem eq_slices_ContainsFunc_sI_Cipher_I_Cipher (x : In pk_slices_ContainsFunc_sI_Cipher_I_Cipher) : semF (mkE [(159, c_slices_IndexFunc_sI_Cipher_I_Cipher)]) h_slices_ContainsFunc_sI_Cipher_I_Cipher (info Tryz.f116) pk_slices_ContainsFunc_sI_Cipher_I_Cipher rk_slices_ContainsFunc_sI_Cipher_I_Cipher x = M_slices_ContainsFunc_sI_Cipher_I_Cipher x := (semFF_eq _ _ _ _ _ _).symm.trans (by kernel_rfl)

set_option maxRecDepth 100000 in
theorem m_slices_ContainsFunc_sI_Cipher_I_Cipher : ConOK Tryz.prog 116 c_slices_ContainsFunc_sI_Cipher_I_Cipher := fn_ok (tyOK _) (E := mkE [(159, c_slices_IndexFunc_sI_Cipher_I_Cipher)]) (consOK_cons m_slices_IndexFunc_sI_Cipher_I_Cipher (consOK_nil rfl)) Tryz.func116 (h := h_slices_ContainsFunc_sI_Cipher_I_Cipher) (by kernel_rfl) eq_slices_ContainsFunc_sI_Cipher_I_Cipher

/-- I_Group_has -/
def pk_I_Group_has : List PK := [.data (.cons (.int .i64) (.cons (.int .i64) (.one (.int .i64)))), .data (.int .i64)]
def rk_I_Group_has : List (Ty × Bool) := [(.bool, false)]
def h_I_Group_has : Hints := { loops := [] }
noncomputable def M_I_Group_has (x : ((Int × (Int × Int)) × Int)) : (Option Bool) :=
  (bindO (some (IntKind.wrap .i64 (x.1.1 - (1 : Int)))) (fun (a0 : Int) => (bindO (M_I_within (x.2, ((1 : Int), a0))) (fun (a1 : Bool) => (cond a1 (bindO (M_I_power (x.2, (x.1.2.1, x.1.1))) (fun (a2 : Int) => (some (a2 == (1 : Int))))) (some false))))))

noncomputable def c_I_Group_has : Con0 := ⟨pk_I_Group_has, rk_I_Group_has, M_I_Group_has⟩

set_option maxRecDepth 100000 in
theorem eq_I_Group_has (x : In pk_I_Group_has) : semF (mkE [(60, c_I_within), (114, c_I_power)]) h_I_Group_has (info Tryz.f122) pk_I_Group_has rk_I_Group_has x = M_I_Group_has x := (semFF_eq _ _ _ _ _ _).symm.trans (by kernel_rfl)

set_option maxRecDepth 100000 in
theorem m_I_Group_has : ConOK Tryz.prog 122 c_I_Group_has := fn_ok (tyOK _) (E := mkE [(60, c_I_within), (114, c_I_power)]) (consOK_cons m_I_within (consOK_cons m_I_power (consOK_nil rfl))) Tryz.func122 (h := h_I_Group_has) (by kernel_rfl) eq_I_Group_has

/-- I_Group_hasCipher -/
def pk_I_Group_hasCipher : List PK := [.data (.cons (.int .i64) (.cons (.int .i64) (.one (.int .i64)))), .data (.cons (.int .i64) (.one (.int .i64)))]
def rk_I_Group_hasCipher : List (Ty × Bool) := [(.bool, false)]
def h_I_Group_hasCipher : Hints := { loops := [] }
noncomputable def M_I_Group_hasCipher (x : ((Int × (Int × Int)) × (Int × Int))) : (Option Bool) :=
  (bindO (M_I_Group_has ((x.1.1, (x.1.2.1, x.1.2.2)), x.2.1)) (fun (a0 : Bool) => (cond a0 (bindO (M_I_Group_has ((x.1.1, (x.1.2.1, x.1.2.2)), x.2.2)) (fun (a1 : Bool) => (some a1))) (some false))))

noncomputable def c_I_Group_hasCipher : Con0 := ⟨pk_I_Group_hasCipher, rk_I_Group_hasCipher, M_I_Group_hasCipher⟩

set_option maxRecDepth 100000 in
theorem eq_I_Group_hasCipher (x : In pk_I_Group_hasCipher) : semF (mkE [(122, c_I_Group_has)]) h_I_Group_hasCipher (info Tryz.f118) pk_I_Group_hasCipher rk_I_Group_hasCipher x = M_I_Group_hasCipher x := (semFF_eq _ _ _ _ _ _).symm.trans (by kernel_rfl)

set_option maxRecDepth 100000 in
theorem m_I_Group_hasCipher : ConOK Tryz.prog 118 c_I_Group_hasCipher := fn_ok (tyOK _) (E := mkE [(122, c_I_Group_has)]) (consOK_cons m_I_Group_has (consOK_nil rfl)) Tryz.func118 (h := h_I_Group_hasCipher) (by kernel_rfl) eq_I_Group_hasCipher

/-- I_Group_hasCiphers_1 -/
def pk_I_Group_hasCiphers_1 : List PK := [.data (.cons (.int .i64) (.one (.int .i64))), .rp (.cons (.int .i64) (.cons (.int .i64) (.one (.int .i64))))]
def rk_I_Group_hasCiphers_1 : List (Ty × Bool) := [(.bool, false)]
def h_I_Group_hasCiphers_1 : Hints := { loops := [] }
noncomputable def M_I_Group_hasCiphers_1 (x : ((Int × Int) × (Int × (Int × Int)))) : (Option Bool) :=
  (bindO (M_I_Group_hasCipher ((x.2.1, (x.2.2.1, x.2.2.2)), (x.1.1, x.1.2))) (fun (a0 : Bool) => (some (not a0))))

noncomputable def c_I_Group_hasCiphers_1 : Con0 := ⟨pk_I_Group_hasCiphers_1, rk_I_Group_hasCiphers_1, M_I_Group_hasCiphers_1⟩

set_option maxRecDepth 100000 in
theorem eq_I_Group_hasCiphers_1 (x : In pk_I_Group_hasCiphers_1) : semF (mkE [(118, c_I_Group_hasCipher)]) h_I_Group_hasCiphers_1 (info Tryz.f117) pk_I_Group_hasCiphers_1 rk_I_Group_hasCiphers_1 x = M_I_Group_hasCiphers_1 x := (semFF_eq _ _ _ _ _ _).symm.trans (by kernel_rfl)

set_option maxRecDepth 100000 in
theorem m_I_Group_hasCiphers_1 : ConOK Tryz.prog 117 c_I_Group_hasCiphers_1 := fn_ok (tyOK _) (E := mkE [(118, c_I_Group_hasCipher)]) (consOK_cons m_I_Group_hasCipher (consOK_nil rfl)) Tryz.func117 (h := h_I_Group_hasCiphers_1) (by kernel_rfl) eq_I_Group_hasCiphers_1

/-- I_Group_hasCiphers -/
def pk_I_Group_hasCiphers : List PK := [.data (.cons (.int .i64) (.cons (.int .i64) (.one (.int .i64)))), .data (.sl (.cons (.int .i64) (.one (.int .i64))))]
def rk_I_Group_hasCiphers : List (Ty × Bool) := [(.bool, false)]
def h_I_Group_hasCiphers : Hints := { loops := [] }
noncomputable def M_I_Group_hasCiphers (x : ((Int × (Int × Int)) × (List (Int × Int)))) : (Option Bool) :=
  (cond (decide ((((List.length x.2) : Nat) : Int) ≤ (24 : Int))) (bindO (M_slices_ContainsFunc_sI_Cipher_I_Cipher (x.2, (fun (a0 : (Int × Int)) => (bindO (M_I_Group_hasCiphers_1 (a0, (x.1.1, (x.1.2.1, x.1.2.2)))) (fun (a1 : Bool) => (some a1)))))) (fun (a2 : Bool) => (some (not a2)))) (some false))

noncomputable def c_I_Group_hasCiphers : Con0 := ⟨pk_I_Group_hasCiphers, rk_I_Group_hasCiphers, M_I_Group_hasCiphers⟩

set_option maxRecDepth 100000 in
theorem eq_I_Group_hasCiphers (x : In pk_I_Group_hasCiphers) : semF (mkE [(116, c_slices_ContainsFunc_sI_Cipher_I_Cipher), (117, c_I_Group_hasCiphers_1)]) h_I_Group_hasCiphers (info Tryz.f62) pk_I_Group_hasCiphers rk_I_Group_hasCiphers x = M_I_Group_hasCiphers x := (semFF_eq _ _ _ _ _ _).symm.trans (by kernel_rfl)

set_option maxRecDepth 100000 in
theorem m_I_Group_hasCiphers : ConOK Tryz.prog 62 c_I_Group_hasCiphers := fn_ok (tyOK _) (E := mkE [(116, c_slices_ContainsFunc_sI_Cipher_I_Cipher), (117, c_I_Group_hasCiphers_1)]) (consOK_cons m_slices_ContainsFunc_sI_Cipher_I_Cipher (consOK_cons m_I_Group_hasCiphers_1 (consOK_nil rfl))) Tryz.func62 (h := h_I_Group_hasCiphers) (by kernel_rfl) eq_I_Group_hasCiphers

/-- slices_IndexFunc_sI_Cast_I_Cast -/
def pk_slices_IndexFunc_sI_Cast_I_Cast : List PK := [.data (.sl (.cons (.cons (.int .i64) (.one (.int .i64))) (.cons (.cons (.int .i64) (.one (.int .i64))) (.one (.cons (.sl (.int .i64)) (.cons (.sl (.int .i64)) (.one (.sl (.int .i64))))))))), .fn [(.cons (.cons (.int .i64) (.one (.int .i64))) (.cons (.cons (.int .i64) (.one (.int .i64))) (.one (.cons (.sl (.int .i64)) (.cons (.sl (.int .i64)) (.one (.sl (.int .i64))))))))] .bool]
def rk_slices_IndexFunc_sI_Cast_I_Cast : List (Ty × Bool) := [((.int .i64), false)]
def h_slices_IndexFunc_sI_Cast_I_Cast : Hints := { loops := [(0, { items := [.slot 8 (.data (.int .i64) [])], kill := [2, 3, 4, 5, 6, 9, 10, 11, 12, 13, 14, 15, 16, 17, 18] })] }
noncomputable def M_slices_IndexFunc_sI_Cast_I_Cast (x : ((List ((Int × Int) × ((Int × Int) × ((List Int) × ((List Int) × (List Int)))))) × (((Int × Int) × ((Int × Int) × ((List Int) × ((List Int) × (List Int))))) → (Option Bool)))) : (Option Int) :=
  (loopO (fun (again0 : (Int → (Option Int))) => (fun (s1 : Int) => (cond (decide (s1 < (((List.length x.1) : Nat) : Int))) (bindO (getI x.1 s1) (fun (a2 : ((Int × Int) × ((Int × Int) × ((List Int) × ((List Int) × (List Int)))))) => (bindO (x.2 ((a2.1.1, a2.1.2), ((a2.2.1.1, a2.2.1.2), (a2.2.2.1, (a2.2.2.2.1, a2.2.2.2.2))))) (fun (a3 : Bool) => (cond a3 (some s1) (bindO (some (IntKind.wrap .i64 (s1 + (1 : Int)))) (fun (a4 : Int) => (again0 a4)))))))) (some (- (1 : Int)))))) (0 : Int))

noncomputable def c_slices_IndexFunc_sI_Cast_I_Cast : Con0 := ⟨pk_slices_IndexFunc_sI_Cast_I_Cast, rk_slices_IndexFunc_sI_Cast_I_Cast, M_slices_IndexFunc_sI_Cast_I_Cast⟩

set_option maxRecDepth 100000 in
theorem eq_slices_IndexFunc_sI_Cast_I_Cast (x : In pk_slices_IndexFunc_sI_Cast_I_Cast) : semF (mkE []) h_slices_IndexFunc_sI_Cast_I_Cast (info Tryz.f129) pk_slices_IndexFunc_sI_Cast_I_Cast rk_slices_IndexFunc_sI_Cast_I_Cast x = M_slices_IndexFunc_sI_Cast_I_Cast x := (semFF_eq _ _ _ _ _ _).symm.trans (by kernel_rfl)

set_option maxRecDepth 100000 in
theorem m_slices_IndexFunc_sI_Cast_I_Cast : ConOK Tryz.prog 129 c_slices_IndexFunc_sI_Cast_I_Cast := fn_ok (tyOK _) (E := mkE []) (consOK_nil rfl) Tryz.func129 (h := h_slices_IndexFunc_sI_Cast_I_Cast) (by kernel_rfl) eq_slices_IndexFunc_sI_Cast_I_Cast

/-- slices_ContainsFunc_sI_Cast_I_Cast -/
def pk_slices_ContainsFunc_sI_Cast_I_Cast : List PK := [.data (.sl (.cons (.cons (.int .i64) (.one (.int .i64))) (.cons (.cons (.int .i64) (.one (.int .i64))) (.one (.cons (.sl (.int .i64)) (.cons (.sl (.int .i64)) (.one (.sl (.int .i64))))))))), .fn [(.cons (.cons (.int .i64) (.one (.int .i64))) (.cons (.cons (.int .i64) (.one (.int .i64))) (.one (.cons (.sl (.int .i64)) (.cons (.sl (.int .i64)) (.one (.sl (.int .i64))))))))] .bool]
def rk_slices_ContainsFunc_sI_Cast_I_Cast : List (Ty × Bool) := [(.bool, false)]
def h_slices_ContainsFunc_sI_Cast_I_Cast : Hints := { loops := [] }
noncomputable def M_slices_ContainsFunc_sI_Cast_I_Cast (x : ((List ((Int × Int) × ((Int × Int) × ((List Int) × ((List Int) × (List Int)))))) × (((Int × Int) × ((Int × Int) × ((List Int) × ((List Int) × (List Int))))) → (Option Bool)))) : (Option Bool) :=
  (bindO (M_slices_IndexFunc_sI_Cast_I_Cast (x.1, x.2)) (fun (a0 : Int) => (some (decide (a0 ≥ (0 : Int))))))

noncomputable def c_slices_ContainsFunc_sI_Cast_I_Cast : Con0 := ⟨pk_slices_ContainsFunc_sI_Cast_I_Cast, rk_slices_ContainsFunc_sI_Cast_I_Cast, M_slices_ContainsFunc_sI_Cast_I_Cast⟩

set_option maxRecDepth 100000 in
theorem eq_slices_ContainsFunc_sI_Cast_I_Cast (x : In pk_slices_ContainsFunc_sI_Cast_I_Cast) : semF (mkE [(129, c_slices_IndexFunc_sI_Cast_I_Cast)]) h_slices_ContainsFunc_sI_Cast_I_Cast (info Tryz.f86) pk_slices_ContainsFunc_sI_Cast_I_Cast rk_slices_ContainsFunc_sI_Cast_I_Cast x = M_slices_ContainsFunc_sI_Cast_I_Cast x := (semFF_eq _ _ _ _ _ _).symm.trans (by kernel_rfl)

set_option maxRecDepth 100000 in
theorem m_slices_ContainsFunc_sI_Cast_I_Cast : ConOK Tryz.prog 86 c_slices_ContainsFunc_sI_Cast_I_Cast := fn_ok (tyOK _) (E := mkE [(129, c_slices_IndexFunc_sI_Cast_I_Cast)]) (consOK_cons m_slices_IndexFunc_sI_Cast_I_Cast (consOK_nil rfl)) Tryz.func86 (h := h_slices_ContainsFunc_sI_Cast_I_Cast) (by kernel_rfl) eq_slices_ContainsFunc_sI_Cast_I_Cast

/-- I_mod -/
def pk_I_mod : List PK := [.data (.int .i64), .data (.int .i64)]
def rk_I_mod : List (Ty × Bool) := [((.int .i64), false)]
def h_I_mod : Hints := { loops := [] }
noncomputable def M_I_mod (x : (Int × Int)) : (Option Int) :=
  (bindO (guardO (x.2 != (0 : Int))) (fun (a0 : Unit) => (bindO (some (Int.tmod x.1 x.2)) (fun (a1 : Int) => (bindO (some (IntKind.wrap .i64 (a1 + x.2))) (fun (a2 : Int) => (bindO (guardO (x.2 != (0 : Int))) (fun (a3 : Unit) => (bindO (some (Int.tmod a2 x.2)) (fun (a4 : Int) => (some a4)))))))))))

noncomputable def c_I_mod : Con0 := ⟨pk_I_mod, rk_I_mod, M_I_mod⟩

set_option maxRecDepth 100000 in
theorem eq_I_mod (x : In pk_I_mod) : semF (mkE []) h_I_mod (info Tryz.f132) pk_I_mod rk_I_mod x = M_I_mod x := (semFF_eq _ _ _ _ _ _).symm.trans (by kernel_rfl)

set_option maxRecDepth 100000 in
theorem m_I_mod : ConOK Tryz.prog 132 c_I_mod := fn_ok (tyOK _) (E := mkE []) (consOK_nil rfl) Tryz.func132 (h := h_I_mod) (by kernel_rfl) eq_I_mod

/-- I_Group_pow -/
def pk_I_Group_pow : List PK := [.data (.cons (.int .i64) (.cons (.int .i64) (.one (.int .i64)))), .data (.int .i64), .data (.int .i64)]
def rk_I_Group_pow : List (Ty × Bool) := [((.int .i64), false)]
def h_I_Group_pow : Hints := { loops := [] }
noncomputable def M_I_Group_pow (x : ((Int × (Int × Int)) × (Int × Int))) : (Option Int) :=
  (bindO (M_I_mod (x.2.2, x.1.2.1)) (fun (a0 : Int) => (bindO (M_I_power (x.2.1, (a0, x.1.1))) (fun (a1 : Int) => (some a1)))))

noncomputable def c_I_Group_pow : Con0 := ⟨pk_I_Group_pow, rk_I_Group_pow, M_I_Group_pow⟩

set_option maxRecDepth 100000 in
theorem eq_I_Group_pow (x : In pk_I_Group_pow) : semF (mkE [(132, c_I_mod), (114, c_I_power)]) h_I_Group_pow (info Tryz.f94) pk_I_Group_pow rk_I_Group_pow x = M_I_Group_pow x := (semFF_eq _ _ _ _ _ _).symm.trans (by kernel_rfl)

set_option maxRecDepth 100000 in
theorem m_I_Group_pow : ConOK Tryz.prog 94 c_I_Group_pow := fn_ok (tyOK _) (E := mkE [(132, c_I_mod), (114, c_I_power)]) (consOK_cons m_I_mod (consOK_cons m_I_power (consOK_nil rfl))) Tryz.func94 (h := h_I_Group_pow) (by kernel_rfl) eq_I_Group_pow

/-- I_Group_inv -/
def pk_I_Group_inv : List PK := [.data (.cons (.int .i64) (.cons (.int .i64) (.one (.int .i64)))), .data (.int .i64)]
def rk_I_Group_inv : List (Ty × Bool) := [((.int .i64), false)]
def h_I_Group_inv : Hints := { loops := [] }
noncomputable def M_I_Group_inv (x : ((Int × (Int × Int)) × Int)) : (Option Int) :=
  (bindO (M_I_Group_pow ((x.1.1, (x.1.2.1, x.1.2.2)), (x.2, (- (1 : Int))))) (fun (a0 : Int) => (some a0)))

noncomputable def c_I_Group_inv : Con0 := ⟨pk_I_Group_inv, rk_I_Group_inv, M_I_Group_inv⟩

set_option maxRecDepth 100000 in
theorem eq_I_Group_inv (x : In pk_I_Group_inv) : semF (mkE [(94, c_I_Group_pow)]) h_I_Group_inv (info Tryz.f93) pk_I_Group_inv rk_I_Group_inv x = M_I_Group_inv x := (semFF_eq _ _ _ _ _ _).symm.trans (by kernel_rfl)

set_option maxRecDepth 100000 in
theorem m_I_Group_inv : ConOK Tryz.prog 93 c_I_Group_inv := fn_ok (tyOK _) (E := mkE [(94, c_I_Group_pow)]) (consOK_cons m_I_Group_pow (consOK_nil rfl)) Tryz.func93 (h := h_I_Group_inv) (by kernel_rfl) eq_I_Group_inv

/-- I_Group_mul -/
def pk_I_Group_mul : List PK := [.data (.cons (.int .i64) (.cons (.int .i64) (.one (.int .i64)))), .data (.sl (.int .i64))]
def rk_I_Group_mul : List (Ty × Bool) := [((.int .i64), false)]
def h_I_Group_mul : Hints := { loops := [(0, { items := [.slot 5 (.data (.int .i64) []), .slot 10 (.data (.int .i64) [])], kill := [0, 1, 3, 4, 6, 7, 11, 12, 13, 14, 15, 16, 17, 18, 19, 20, 21] })] }
noncomputable def M_I_Group_mul (x : ((Int × (Int × Int)) × (List Int))) : (Option Int) :=
  (loopO (fun (again0 : ((Int × Int) → (Option Int))) => (fun (s1 : (Int × Int)) => (cond (decide (s1.2 < (((List.length x.2) : Nat) : Int))) (bindO (getI x.2 s1.2) (fun (a2 : Int) => (bindO (some (IntKind.wrap .i64 (s1.1 * a2))) (fun (a3 : Int) => (bindO (guardO (x.1.1 != (0 : Int))) (fun (a4 : Unit) => (bindO (some (Int.tmod a3 x.1.1)) (fun (a5 : Int) => (bindO (some (IntKind.wrap .i64 (s1.2 + (1 : Int)))) (fun (a6 : Int) => (again0 (a5, a6)))))))))))) (some s1.1)))) ((1 : Int), (0 : Int)))

noncomputable def c_I_Group_mul : Con0 := ⟨pk_I_Group_mul, rk_I_Group_mul, M_I_Group_mul⟩

set_option maxRecDepth 100000 in
theorem eq_I_Group_mul (x : In pk_I_Group_mul) : semF (mkE []) h_I_Group_mul (info Tryz.f92) pk_I_Group_mul rk_I_Group_mul x = M_I_Group_mul x := (semFF_eq _ _ _ _ _ _).symm.trans (by kernel_rfl)

set_option maxRecDepth 100000 in
theorem m_I_Group_mul : ConOK Tryz.prog 92 c_I_Group_mul := fn_ok (tyOK _) (E := mkE []) (consOK_nil rfl) Tryz.func92 (h := h_I_Group_mul) (by kernel_rfl) eq_I_Group_mul

/-- I_Group_decrypt -/
def pk_I_Group_decrypt : List PK := [.data (.cons (.int .i64) (.cons (.int .i64) (.one (.int .i64)))), .data (.int .i64), .data (.cons (.int .i64) (.one (.int .i64)))]
def rk_I_Group_decrypt : List (Ty × Bool) := [((.int .i64), false)]
def h_I_Group_decrypt : Hints := { loops := [] }
noncomputable def M_I_Group_decrypt (x : ((Int × (Int × Int)) × (Int × (Int × Int)))) : (Option Int) :=
  (bindO (M_I_Group_pow ((x.1.1, (x.1.2.1, x.1.2.2)), (x.2.2.1, x.2.1))) (fun (a0 : Int) => (bindO (M_I_Group_inv ((x.1.1, (x.1.2.1, x.1.2.2)), a0)) (fun (a1 : Int) => (bindO (M_I_Group_mul ((x.1.1, (x.1.2.1, x.1.2.2)), (x.2.2.2 :: (a1 :: ([] : List Int))))) (fun (a2 : Int) => (some a2)))))))

noncomputable def c_I_Group_decrypt : Con0 := ⟨pk_I_Group_decrypt, rk_I_Group_decrypt, M_I_Group_decrypt⟩

set_option maxRecDepth 100000 in
theorem eq_I_Group_decrypt (x : In pk_I_Group_decrypt) : semF (mkE [(94, c_I_Group_pow), (93, c_I_Group_inv), (92, c_I_Group_mul)]) h_I_Group_decrypt (info Tryz.f38) pk_I_Group_decrypt rk_I_Group_decrypt x = M_I_Group_decrypt x := (semFF_eq _ _ _ _ _ _).symm.trans (by kernel_rfl)

set_option maxRecDepth 100000 in
theorem m_I_Group_decrypt : ConOK Tryz.prog 38 c_I_Group_decrypt := fn_ok (tyOK _) (E := mkE [(94, c_I_Group_pow), (93, c_I_Group_inv), (92, c_I_Group_mul)]) (consOK_cons m_I_Group_pow (consOK_cons m_I_Group_inv (consOK_cons m_I_Group_mul (consOK_nil rfl)))) Tryz.func38 (h := h_I_Group_decrypt) (by kernel_rfl) eq_I_Group_decrypt

/-- I_Group_tags -/
def pk_I_Group_tags : List PK := [.data (.cons (.int .i64) (.cons (.int .i64) (.one (.int .i64)))), .data (.int .i64), .data (.int .i64), .data (.sl (.cons (.int .i64) (.one (.int .i64))))]
def rk_I_Group_tags : List (Ty × Bool) := [((.sl (.int .i64)), true)]
def h_I_Group_tags : Hints := { loops := [(0, { items := [.slot 9 (.own (.int .i64) true), .slot 15 (.data (.int .i64) [])], kill := [0, 3, 5, 6, 7, 8, 10, 11, 12, 16, 17, 18, 19, 20, 21, 22, 23, 24, 25, 26, 27, 28, 29, 30] })] }
noncomputable def M_I_Group_tags (x : ((Int × (Int × Int)) × (Int × (Int × (List (Int × Int)))))) : (Option (List Int)) :=
  (loopO (fun (again0 : (((List Int) × Int) → (Option (List Int)))) => (fun (s1 : ((List Int) × Int)) => (cond (decide (s1.2 < (((List.length x.2.2.2) : Nat) : Int))) (bindO (getI x.2.2.2 s1.2) (fun (a2 : (Int × Int)) => (bindO (M_I_Group_decrypt ((x.1.1, (x.1.2.1, x.1.2.2)), (x.2.1, (a2.1, a2.2)))) (fun (a3 : Int) => (bindO (M_I_Group_pow ((x.1.1, (x.1.2.1, x.1.2.2)), (a3, x.2.2.1))) (fun (a4 : Int) => (bindO (guardO (lenOk ((List.length s1.1) + (List.length (a4 :: ([] : List Int)))))) (fun (a5 : Unit) => (bindO (some (s1.1 ++ (a4 :: ([] : List Int)))) (fun (a6 : (List Int)) => (bindO (some (IntKind.wrap .i64 (s1.2 + (1 : Int)))) (fun (a7 : Int) => (again0 (a6, a7)))))))))))))) (some s1.1)))) (([] : List Int), (0 : Int)))

noncomputable def c_I_Group_tags : Con0 := ⟨pk_I_Group_tags, rk_I_Group_tags, M_I_Group_tags⟩

set_option maxRecDepth 100000 in
theorem eq_I_Group_tags (x : In pk_I_Group_tags) : semF (mkE [(38, c_I_Group_decrypt), (94, c_I_Group_pow)]) h_I_Group_tags (info Tryz.f89) pk_I_Group_tags rk_I_Group_tags x = M_I_Group_tags x := (semFF_eq _ _ _ _ _ _).symm.trans (by kernel_rfl)

set_option maxRecDepth 100000 in
theorem m_I_Group_tags : ConOK Tryz.prog 89 c_I_Group_tags := fn_ok (tyOK _) (E := mkE [(38, c_I_Group_decrypt), (94, c_I_Group_pow)]) (consOK_cons m_I_Group_decrypt (consOK_cons m_I_Group_pow (consOK_nil rfl))) Tryz.func89 (h := h_I_Group_tags) (by kernel_rfl) eq_I_Group_tags

/-- I_Group_hasAll -/
def pk_I_Group_hasAll : List PK := [.data (.cons (.int .i64) (.cons (.int .i64) (.one (.int .i64)))), .data (.sl (.int .i64))]
def rk_I_Group_hasAll : List (Ty × Bool) := [(.bool, false)]
def h_I_Group_hasAll : Hints := { loops := [] }
noncomputable def M_I_Group_hasAll (x : ((Int × (Int × Int)) × (List Int))) : (Option Bool) :=
  (bindO (M_I_areAll (x.2, (fun (a0 : Int) => (bindO (M_I_Group_has ((x.1.1, (x.1.2.1, x.1.2.2)), a0)) (fun (a1 : Bool) => (some a1)))))) (fun (a2 : Bool) => (some a2)))

noncomputable def c_I_Group_hasAll : Con0 := ⟨pk_I_Group_hasAll, rk_I_Group_hasAll, M_I_Group_hasAll⟩

set_option maxRecDepth 100000 in
theorem eq_I_Group_hasAll (x : In pk_I_Group_hasAll) : semF (mkE [(101, c_I_areAll), (122, c_I_Group_has)]) h_I_Group_hasAll (info Tryz.f73) pk_I_Group_hasAll rk_I_Group_hasAll x = M_I_Group_hasAll x := (semFF_eq _ _ _ _ _ _).symm.trans (by kernel_rfl)

set_option maxRecDepth 100000 in
theorem m_I_Group_hasAll : ConOK Tryz.prog 73 c_I_Group_hasAll := fn_ok (tyOK _) (E := mkE [(101, c_I_areAll), (122, c_I_Group_has)]) (consOK_cons m_I_areAll (consOK_cons m_I_Group_has (consOK_nil rfl))) Tryz.func73 (h := h_I_Group_hasAll) (by kernel_rfl) eq_I_Group_hasAll

/-- I_labelled -/
def pk_I_labelled : List PK := [.data .str, .data (.sl (.int .i64))]
def rk_I_labelled : List (Ty × Bool) := [((.sl (.int .i64)), true)]
def h_I_labelled : Hints := { loops := [(0, { items := [.slot 5 (.own (.int .i64) true), .slot 12 (.data (.int .i64) [])], kill := [2, 3, 4, 6, 7, 8, 9, 10, 13, 14, 15, 16, 17, 18, 19, 20, 21, 22, 23, 24, 25] })] }
noncomputable def M_I_labelled (x : (ByteArray × (List Int))) : (Option (List Int)) :=
  (loopO (fun (again0 : (((List Int) × Int) → (Option (List Int)))) => (fun (s1 : ((List Int) × Int)) => (cond (decide (s1.2 < (((ByteArray.size x.1) : Nat) : Int))) (bindO (if ((0 : Int) ≤ s1.2) then (x.1[(Int.toNat s1.2)]?) else (none : Option (UInt8))) (fun (a2 : (UInt8)) => (bindO (guardO (lenOk ((List.length s1.1) + (List.length ((IntKind.wrap .i64 (((UInt8.toNat a2) : Nat) : Int)) :: ([] : List Int)))))) (fun (a3 : Unit) => (bindO (some (s1.1 ++ ((IntKind.wrap .i64 (((UInt8.toNat a2) : Nat) : Int)) :: ([] : List Int)))) (fun (a4 : (List Int)) => (bindO (some (IntKind.wrap .i64 (s1.2 + (1 : Int)))) (fun (a5 : Int) => (again0 (a4, a5)))))))))) (bindO (guardO (lenOk ((List.length s1.1) + (List.length x.2)))) (fun (a6 : Unit) => (bindO (some (s1.1 ++ x.2)) (fun (a7 : (List Int)) => (some a7)))))))) (((((ByteArray.size x.1) : Nat) : Int) :: ([] : List Int)), (0 : Int)))

noncomputable def c_I_labelled : Con0 := ⟨pk_I_labelled, rk_I_labelled, M_I_labelled⟩

set_option maxRecDepth 100000 in
theorem eq_I_labelled (x : In pk_I_labelled) : semF (mkE []) h_I_labelled (info Tryz.f179) pk_I_labelled rk_I_labelled x = M_I_labelled x := (semFF_eq _ _ _ _ _ _).symm.trans (by kernel_rfl)

set_option maxRecDepth 100000 in
theorem m_I_labelled : ConOK Tryz.prog 179 c_I_labelled := fn_ok (tyOK _) (E := mkE []) (consOK_nil rfl) Tryz.func179 (h := h_I_labelled) (by kernel_rfl) eq_I_labelled

/-- I_isDigest -/
def pk_I_isDigest : List PK := [.data (.int .i64)]
def rk_I_isDigest : List (Ty × Bool) := [(.bool, false)]
def h_I_isDigest : Hints := { loops := [] }
noncomputable def M_I_isDigest (x : Int) : (Option Bool) :=
  (bindO (M_I_within (x, ((0 : Int), (4611686018427387903 : Int)))) (fun (a0 : Bool) => (some a0)))

noncomputable def c_I_isDigest : Con0 := ⟨pk_I_isDigest, rk_I_isDigest, M_I_isDigest⟩

set_option maxRecDepth 100000 in
theorem eq_I_isDigest (x : In pk_I_isDigest) : semF (mkE [(60, c_I_within)]) h_I_isDigest (info Tryz.f183) pk_I_isDigest rk_I_isDigest x = M_I_isDigest x := (semFF_eq _ _ _ _ _ _).symm.trans (by kernel_rfl)

set_option maxRecDepth 100000 in
theorem m_I_isDigest : ConOK Tryz.prog 183 c_I_isDigest := fn_ok (tyOK _) (E := mkE [(60, c_I_within)]) (consOK_cons m_I_within (consOK_nil rfl)) Tryz.func183 (h := h_I_isDigest) (by kernel_rfl) eq_I_isDigest

/-- I_areDigests -/
def pk_I_areDigests : List PK := [.data (.sl (.int .i64))]
def rk_I_areDigests : List (Ty × Bool) := [(.bool, false)]
def h_I_areDigests : Hints := { loops := [] }
noncomputable def M_I_areDigests (x : (List Int)) : (Option Bool) :=
  (cond (decide ((((List.length x) : Nat) : Int) ≤ (400 : Int))) (bindO (M_I_areAll (x, (fun (a0 : Int) => (bindO (M_I_isDigest a0) (fun (a1 : Bool) => (some a1)))))) (fun (a2 : Bool) => (some a2))) (some false))

noncomputable def c_I_areDigests : Con0 := ⟨pk_I_areDigests, rk_I_areDigests, M_I_areDigests⟩

set_option maxRecDepth 100000 in
theorem eq_I_areDigests (x : In pk_I_areDigests) : semF (mkE [(101, c_I_areAll), (183, c_I_isDigest)]) h_I_areDigests (info Tryz.f181) pk_I_areDigests rk_I_areDigests x = M_I_areDigests x := (semFF_eq _ _ _ _ _ _).symm.trans (by kernel_rfl)

set_option maxRecDepth 100000 in
theorem m_I_areDigests : ConOK Tryz.prog 181 c_I_areDigests := fn_ok (tyOK _) (E := mkE [(101, c_I_areAll), (183, c_I_isDigest)]) (consOK_cons m_I_areAll (consOK_cons m_I_isDigest (consOK_nil rfl))) Tryz.func181 (h := h_I_areDigests) (by kernel_rfl) eq_I_areDigests

/-- I_hash -/
def pk_I_hash : List PK := [.data (.sl (.int .i64))]
def rk_I_hash : List (Ty × Bool) := [((.int .i64), false)]
def h_I_hash : Hints := { loops := [(0, { items := [.slot 3 (.data (.int .i64) []), .slot 4 (.data (.int .i64) []), .slot 15 (.data (.int .i64) [])], kill := [0, 1, 2, 5, 6, 7, 8, 9, 10, 11, 12, 16, 17, 18, 19, 20, 21, 22, 23, 24, 25, 26, 27, 28, 29, 30, 31, 32, 33, 34, 35, 36, 37, 38, 39, 40, 41, 42, 43, 44, 45, 46, 47, 48, 49, 50, 51] })] }
noncomputable def M_I_hash (x : (List Int)) : (Option Int) :=
  (bindO (guardO (lenOk ((List.length ((((List.length x) : Nat) : Int) :: ([] : List Int))) + (List.length x)))) (fun (a0 : Unit) => (bindO (some (((((List.length x) : Nat) : Int) :: ([] : List Int)) ++ x)) (fun (a1 : (List Int)) => (loopO (fun (again2 : ((Int × (Int × Int)) → (Option Int))) => (fun (s3 : (Int × (Int × Int))) => (cond (decide (s3.2.2 < (((List.length a1) : Nat) : Int))) (bindO (getI a1 s3.2.2) (fun (a4 : Int) => (bindO (guardO (decide ((0 : Int) ≤ (31 : Int)))) (fun (a5 : Unit) => (bindO (some (shr .i64 a4 (31 : Int))) (fun (a6 : Int) => (bindO (some (bits .and .i64 a4 (2147483647 : Int))) (fun (a7 : Int) => (bindO (some (IntKind.wrap .i64 ((48271 : Int) * s3.1))) (fun (a8 : Int) => (bindO (some (IntKind.wrap .i64 (a8 + a7))) (fun (a9 : Int) => (bindO (some (IntKind.wrap .i64 (a9 + (1 : Int)))) (fun (a10 : Int) => (bindO (guardO ((2147483647 : Int) != (0 : Int))) (fun (a11 : Unit) => (bindO (some (Int.tmod a10 (2147483647 : Int))) (fun (a12 : Int) => (bindO (some (IntKind.wrap .i64 ((48271 : Int) * a12))) (fun (a13 : Int) => (bindO (some (IntKind.wrap .i64 (a13 + a6))) (fun (a14 : Int) => (bindO (some (IntKind.wrap .i64 (a14 + (1 : Int)))) (fun (a15 : Int) => (bindO (guardO ((2147483647 : Int) != (0 : Int))) (fun (a16 : Unit) => (bindO (some (Int.tmod a15 (2147483647 : Int))) (fun (a17 : Int) => (bindO (some (IntKind.wrap .i64 ((69621 : Int) * s3.2.1))) (fun (a18 : Int) => (bindO (some (IntKind.wrap .i64 (a18 + a7))) (fun (a19 : Int) => (bindO (some (IntKind.wrap .i64 (a19 + (1 : Int)))) (fun (a20 : Int) => (bindO (guardO ((2147483647 : Int) != (0 : Int))) (fun (a21 : Unit) => (bindO (some (Int.tmod a20 (2147483647 : Int))) (fun (a22 : Int) => (bindO (some (IntKind.wrap .i64 ((69621 : Int) * a22))) (fun (a23 : Int) => (bindO (some (IntKind.wrap .i64 (a23 + a6))) (fun (a24 : Int) => (bindO (some (IntKind.wrap .i64 (a24 + (1 : Int)))) (fun (a25 : Int) => (bindO (guardO ((2147483647 : Int) != (0 : Int))) (fun (a26 : Unit) => (bindO (some (Int.tmod a25 (2147483647 : Int))) (fun (a27 : Int) => (bindO (some (IntKind.wrap .i64 (s3.2.2 + (1 : Int)))) (fun (a28 : Int) => (again2 (a17, (a27, a28))))))))))))))))))))))))))))))))))))))))))))))))))))) (bindO (guardO (decide ((0 : Int) ≤ (31 : Int)))) (fun (a29 : Unit) => (bindO (some (shl .i64 s3.1 (31 : Int))) (fun (a30 : Int) => (bindO (some (IntKind.wrap .i64 (a30 + s3.2.1))) (fun (a31 : Int) => (some a31)))))))))) ((1 : Int), ((2 : Int), (0 : Int))))))))

noncomputable def c_I_hash : Con0 := ⟨pk_I_hash, rk_I_hash, M_I_hash⟩

set_option maxRecDepth 100000 in
theorem eq_I_hash (x : In pk_I_hash) : semF (mkE []) h_I_hash (info Tryz.f182) pk_I_hash rk_I_hash x = M_I_hash x := (semFF_eq _ _ _ _ _ _).symm.trans (by kernel_rfl)

set_option maxRecDepth 100000 in
theorem m_I_hash : ConOK Tryz.prog 182 c_I_hash := fn_ok (tyOK _) (E := mkE []) (consOK_nil rfl) Tryz.func182 (h := h_I_hash) (by kernel_rfl) eq_I_hash

/-- I_HashInts -/
def pk_I_HashInts : List PK := [.data (.sl (.int .i64))]
def rk_I_HashInts : List (Ty × Bool) := [((.int .i64), false), (.bool, false)]
def h_I_HashInts : Hints := { loops := [] }
noncomputable def M_I_HashInts (x : (List Int)) : (Option (Int × Bool)) :=
  (bindO (M_I_areDigests x) (fun (a0 : Bool) => (cond (not a0) (some ((0 : Int), false)) (bindO (M_I_hash x) (fun (a1 : Int) => (some (a1, true)))))))

noncomputable def c_I_HashInts : Con0 := ⟨pk_I_HashInts, rk_I_HashInts, M_I_HashInts⟩

set_option maxRecDepth 100000 in
theorem eq_I_HashInts (x : In pk_I_HashInts) : semF (mkE [(181, c_I_areDigests), (182, c_I_hash)]) h_I_HashInts (info Tryz.f178) pk_I_HashInts rk_I_HashInts x = M_I_HashInts x := (semFF_eq _ _ _ _ _ _).symm.trans (by kernel_rfl)

set_option maxRecDepth 100000 in
theorem m_I_HashInts : ConOK Tryz.prog 178 c_I_HashInts := fn_ok (tyOK _) (E := mkE [(181, c_I_areDigests), (182, c_I_hash)]) (consOK_cons m_I_areDigests (consOK_cons m_I_hash (consOK_nil rfl))) Tryz.func178 (h := h_I_HashInts) (by kernel_rfl) eq_I_HashInts

/-- I_HashLabelled -/
def pk_I_HashLabelled : List PK := [.data .str, .data (.sl (.int .i64))]
def rk_I_HashLabelled : List (Ty × Bool) := [((.int .i64), false), (.bool, false)]
def h_I_HashLabelled : Hints := { loops := [] }
noncomputable def M_I_HashLabelled (x : (ByteArray × (List Int))) : (Option (Int × Bool)) :=
  (cond (decide ((((ByteArray.size x.1) : Nat) : Int) > (40 : Int))) (some ((0 : Int), false)) (cond (decide ((((List.length x.2) : Nat) : Int) > (400 : Int))) (some ((0 : Int), false)) (bindO (M_I_labelled (x.1, x.2)) (fun (a0 : (List Int)) => (bindO (M_I_HashInts a0) (fun (a1 : (Int × Bool)) => (some (a1.1, a1.2))))))))

noncomputable def c_I_HashLabelled : Con0 := ⟨pk_I_HashLabelled, rk_I_HashLabelled, M_I_HashLabelled⟩

set_option maxRecDepth 100000 in
theorem eq_I_HashLabelled (x : In pk_I_HashLabelled) : semF (mkE [(179, c_I_labelled), (178, c_I_HashInts)]) h_I_HashLabelled (info Tryz.f174) pk_I_HashLabelled rk_I_HashLabelled x = M_I_HashLabelled x := (semFF_eq _ _ _ _ _ _).symm.trans (by kernel_rfl)

set_option maxRecDepth 100000 in
theorem m_I_HashLabelled : ConOK Tryz.prog 174 c_I_HashLabelled := fn_ok (tyOK _) (E := mkE [(179, c_I_labelled), (178, c_I_HashInts)]) (consOK_cons m_I_labelled (consOK_cons m_I_HashInts (consOK_nil rfl))) Tryz.func174 (h := h_I_HashLabelled) (by kernel_rfl) eq_I_HashLabelled

/-- I_Group_challenge -/
def pk_I_Group_challenge : List PK := [.data (.cons (.int .i64) (.cons (.int .i64) (.one (.int .i64)))), .data .str, .data (.sl (.int .i64))]
def rk_I_Group_challenge : List (Ty × Bool) := [((.int .i64), false), (.bool, false)]
def h_I_Group_challenge : Hints := { loops := [] }
noncomputable def M_I_Group_challenge (x : ((Int × (Int × Int)) × (ByteArray × (List Int)))) : (Option (Int × Bool)) :=
  (bindO (guardO (lenOk ((List.length (x.1.1 :: (x.1.2.1 :: (x.1.2.2 :: ([] : List Int))))) + (List.length x.2.2)))) (fun (a0 : Unit) => (bindO (some ((x.1.1 :: (x.1.2.1 :: (x.1.2.2 :: ([] : List Int)))) ++ x.2.2)) (fun (a1 : (List Int)) => (bindO (M_I_HashLabelled (x.2.1, a1)) (fun (a2 : (Int × Bool)) => (cond (not a2.2) (some ((0 : Int), false)) (bindO (guardO (x.1.2.1 != (0 : Int))) (fun (a3 : Unit) => (bindO (some (Int.tmod a2.1 x.1.2.1)) (fun (a4 : Int) => (some (a4, true)))))))))))))

noncomputable def c_I_Group_challenge : Con0 := ⟨pk_I_Group_challenge, rk_I_Group_challenge, M_I_Group_challenge⟩

set_option maxRecDepth 100000 in
theorem eq_I_Group_challenge (x : In pk_I_Group_challenge) : semF (mkE [(174, c_I_HashLabelled)]) h_I_Group_challenge (info Tryz.f165) pk_I_Group_challenge rk_I_Group_challenge x = M_I_Group_challenge x := (semFF_eq _ _ _ _ _ _).symm.trans (by kernel_rfl)

set_option maxRecDepth 100000 in
theorem m_I_Group_challenge : ConOK Tryz.prog 165 c_I_Group_challenge := fn_ok (tyOK _) (E := mkE [(174, c_I_HashLabelled)]) (consOK_cons m_I_HashLabelled (consOK_nil rfl)) Tryz.func165 (h := h_I_Group_challenge) (by kernel_rfl) eq_I_Group_challenge

/-- I_Group_castChallenge -/
def pk_I_Group_castChallenge : List PK := [.data (.cons (.int .i64) (.cons (.int .i64) (.one (.int .i64)))), .data (.cons (.cons (.int .i64) (.one (.int .i64))) (.cons (.cons (.int .i64) (.one (.int .i64))) (.one (.cons (.sl (.int .i64)) (.cons (.sl (.int .i64)) (.one (.sl (.int .i64)))))))), .data (.sl (.int .i64))]
def rk_I_Group_castChallenge : List (Ty × Bool) := [((.int .i64), false)]
def h_I_Group_castChallenge : Hints := { loops := [] }
noncomputable def M_I_Group_castChallenge (x : ((Int × (Int × Int)) × (((Int × Int) × ((Int × Int) × ((List Int) × ((List Int) × (List Int))))) × (List Int)))) : (Option Int) :=
  (bindO (guardO (lenOk ((List.length (x.2.1.1.1 :: (x.2.1.1.2 :: (x.2.1.2.1.1 :: (x.2.1.2.1.2 :: ([] : List Int)))))) + (List.length x.2.2)))) (fun (a0 : Unit) => (bindO (some ((x.2.1.1.1 :: (x.2.1.1.2 :: (x.2.1.2.1.1 :: (x.2.1.2.1.2 :: ([] : List Int))))) ++ x.2.2)) (fun (a1 : (List Int)) => (bindO (M_I_Group_challenge ((x.1.1, (x.1.2.1, x.1.2.2)), ((bytesOf [99, 97, 115, 116]), a1))) (fun (a2 : (Int × Bool)) => (some a2.1)))))))

noncomputable def c_I_Group_castChallenge : Con0 := ⟨pk_I_Group_castChallenge, rk_I_Group_castChallenge, M_I_Group_castChallenge⟩

set_option maxRecDepth 100000 in
theorem eq_I_Group_castChallenge (x : In pk_I_Group_castChallenge) : semF (mkE [(165, c_I_Group_challenge)]) h_I_Group_castChallenge (info Tryz.f130) pk_I_Group_castChallenge rk_I_Group_castChallenge x = M_I_Group_castChallenge x := (semFF_eq _ _ _ _ _ _).symm.trans (by kernel_rfl)

set_option maxRecDepth 100000 in
theorem m_I_Group_castChallenge : ConOK Tryz.prog 130 c_I_Group_castChallenge := fn_ok (tyOK _) (E := mkE [(165, c_I_Group_challenge)]) (consOK_cons m_I_Group_challenge (consOK_nil rfl)) Tryz.func130 (h := h_I_Group_castChallenge) (by kernel_rfl) eq_I_Group_castChallenge

/-- I_Group_isCast -/
def pk_I_Group_isCast : List PK := [.data (.cons (.int .i64) (.cons (.int .i64) (.one (.int .i64)))), .data (.cons (.cons (.int .i64) (.one (.int .i64))) (.cons (.cons (.int .i64) (.one (.int .i64))) (.one (.cons (.sl (.int .i64)) (.cons (.sl (.int .i64)) (.one (.sl (.int .i64))))))))]
def rk_I_Group_isCast : List (Ty × Bool) := [(.bool, false)]
def h_I_Group_isCast : Hints := { loops := [] }
noncomputable def M_I_Group_isCast (x : ((Int × (Int × Int)) × ((Int × Int) × ((Int × Int) × ((List Int) × ((List Int) × (List Int))))))) : (Option Bool) :=
  (cond ((((List.length x.2.2.2.1) : Nat) : Int) != (2 : Int)) (some false) (cond ((((List.length x.2.2.2.2.1) : Nat) : Int) != (1 : Int)) (some false) (cond ((((List.length x.2.2.2.2.2) : Nat) : Int) != (2 : Int)) (some false) (bindO (M_I_Group_hasAll ((x.1.1, (x.1.2.1, x.1.2.2)), x.2.2.2.1)) (fun (a0 : Bool) => (cond (not a0) (some false) (bindO (M_I_Group_areExps ((x.1.1, (x.1.2.1, x.1.2.2)), x.2.2.2.2.2)) (fun (a1 : Bool) => (cond (not a1) (some false) (bindO (M_I_Group_castChallenge ((x.1.1, (x.1.2.1, x.1.2.2)), (((x.2.1.1, x.2.1.2), ((x.2.2.1.1, x.2.2.1.2), (x.2.2.2.1, (x.2.2.2.2.1, x.2.2.2.2.2)))), x.2.2.2.1))) (fun (a2 : Int) => (bindO (getI x.2.2.2.2.1 (0 : Int)) (fun (a3 : Int) => (cond (a3 == a2) (bindO (getI x.2.2.2.2.2 (0 : Int)) (fun (a4 : Int) => (bindO (M_I_Group_pow ((x.1.1, (x.1.2.1, x.1.2.2)), (x.1.2.2, a4))) (fun (a5 : Int) => (bindO (getI x.2.2.2.1 (0 : Int)) (fun (a6 : Int) => (bindO (M_I_Group_pow ((x.1.1, (x.1.2.1, x.1.2.2)), (x.2.1.1, a2))) (fun (a7 : Int) => (bindO (M_I_Group_mul ((x.1.1, (x.1.2.1, x.1.2.2)), (a6 :: (a7 :: ([] : List Int))))) (fun (a8 : Int) => (cond (a5 == a8) (bindO (getI x.2.2.2.2.2 (1 : Int)) (fun (a9 : Int) => (bindO (M_I_Group_pow ((x.1.1, (x.1.2.1, x.1.2.2)), (x.1.2.2, a9))) (fun (a10 : Int) => (bindO (getI x.2.2.2.1 (1 : Int)) (fun (a11 : Int) => (bindO (M_I_Group_pow ((x.1.1, (x.1.2.1, x.1.2.2)), (x.2.2.1.1, a2))) (fun (a12 : Int) => (bindO (M_I_Group_mul ((x.1.1, (x.1.2.1, x.1.2.2)), (a11 :: (a12 :: ([] : List Int))))) (fun (a13 : Int) => (some (a10 == a13)))))))))))) (some false)))))))))))) (some false)))))))))))))))

noncomputable def c_I_Group_isCast : Con0 := ⟨pk_I_Group_isCast, rk_I_Group_isCast, M_I_Group_isCast⟩

set_option maxRecDepth 100000 in
theorem eq_I_Group_isCast (x : In pk_I_Group_isCast) : semF (mkE [(73, c_I_Group_hasAll), (128, c_I_Group_areExps), (130, c_I_Group_castChallenge), (94, c_I_Group_pow), (92, c_I_Group_mul)]) h_I_Group_isCast (info Tryz.f90) pk_I_Group_isCast rk_I_Group_isCast x = M_I_Group_isCast x := (semFF_eq _ _ _ _ _ _).symm.trans (by kernel_rfl)

set_option maxRecDepth 100000 in
theorem m_I_Group_isCast : ConOK Tryz.prog 90 c_I_Group_isCast := fn_ok (tyOK _) (E := mkE [(73, c_I_Group_hasAll), (128, c_I_Group_areExps), (130, c_I_Group_castChallenge), (94, c_I_Group_pow), (92, c_I_Group_mul)]) (consOK_cons m_I_Group_hasAll (consOK_cons m_I_Group_areExps (consOK_cons m_I_Group_castChallenge (consOK_cons m_I_Group_pow (consOK_cons m_I_Group_mul (consOK_nil rfl)))))) Tryz.func90 (h := h_I_Group_isCast) (by kernel_rfl) eq_I_Group_isCast

/-- slices_Index_sint_int -/
def pk_slices_Index_sint_int : List PK := [.data (.sl (.int .i64)), .data (.int .i64)]
def rk_slices_Index_sint_int : List (Ty × Bool) := [((.int .i64), false)]
def h_slices_Index_sint_int : Hints := { loops := [(0, { items := [.slot 8 (.data (.int .i64) [])], kill := [2, 3, 4, 5, 6, 9, 10, 11, 12, 13, 14, 15, 16, 17, 18] })] }
noncomputable def M_slices_Index_sint_int (x : ((List Int) × Int)) : (Option Int) :=
  (loopO (fun (again0 : (Int → (Option Int))) => (fun (s1 : Int) => (cond (decide (s1 < (((List.length x.1) : Nat) : Int))) (bindO (getI x.1 s1) (fun (a2 : Int) => (cond (x.2 == a2) (some s1) (bindO (some (IntKind.wrap .i64 (s1 + (1 : Int)))) (fun (a3 : Int) => (again0 a3)))))) (some (- (1 : Int)))))) (0 : Int))

noncomputable def c_slices_Index_sint_int : Con0 := ⟨pk_slices_Index_sint_int, rk_slices_Index_sint_int, M_slices_Index_sint_int⟩

set_option maxRecDepth 100000 in
theorem eq_slices_Index_sint_int (x : In pk_slices_Index_sint_int) : semF (mkE []) h_slices_Index_sint_int (info Tryz.f131) pk_slices_Index_sint_int rk_slices_Index_sint_int x = M_slices_Index_sint_int x := (semFF_eq _ _ _ _ _ _).symm.trans (by kernel_rfl)

set_option maxRecDepth 100000 in
theorem m_slices_Index_sint_int : ConOK Tryz.prog 131 c_slices_Index_sint_int := fn_ok (tyOK _) (E := mkE []) (consOK_nil rfl) Tryz.func131 (h := h_slices_Index_sint_int) (by kernel_rfl) eq_slices_Index_sint_int

/-- slices_Contains_sint_int -/
def pk_slices_Contains_sint_int : List PK := [.data (.sl (.int .i64)), .data (.int .i64)]
def rk_slices_Contains_sint_int : List (Ty × Bool) := [(.bool, false)]
def h_slices_Contains_sint_int : Hints := { loops := [] }
noncomputable def M_slices_Contains_sint_int (x : ((List Int) × Int)) : (Option Bool) :=
  (bindO (M_slices_Index_sint_int (x.1, x.2)) (fun (a0 : Int) => (some (decide (a0 ≥ (0 : Int))))))

noncomputable def c_slices_Contains_sint_int : Con0 := ⟨pk_slices_Contains_sint_int, rk_slices_Contains_sint_int, M_slices_Contains_sint_int⟩

set_option maxRecDepth 100000 in
theorem eq_slices_Contains_sint_int (x : In pk_slices_Contains_sint_int) : semF (mkE [(131, c_slices_Index_sint_int)]) h_slices_Contains_sint_int (info Tryz.f91) pk_slices_Contains_sint_int rk_slices_Contains_sint_int x = M_slices_Contains_sint_int x := (semFF_eq _ _ _ _ _ _).symm.trans (by kernel_rfl)

set_option maxRecDepth 100000 in
theorem m_slices_Contains_sint_int : ConOK Tryz.prog 91 c_slices_Contains_sint_int := fn_ok (tyOK _) (E := mkE [(131, c_slices_Index_sint_int)]) (consOK_cons m_slices_Index_sint_int (consOK_nil rfl)) Tryz.func91 (h := h_slices_Contains_sint_int) (by kernel_rfl) eq_slices_Contains_sint_int

/-- I_Group_hasCast -/
def pk_I_Group_hasCast : List PK := [.data (.cons (.int .i64) (.cons (.int .i64) (.one (.int .i64)))), .data (.cons (.cons (.int .i64) (.one (.int .i64))) (.cons (.cons (.int .i64) (.one (.int .i64))) (.one (.cons (.sl (.int .i64)) (.cons (.sl (.int .i64)) (.one (.sl (.int .i64))))))))]
def rk_I_Group_hasCast : List (Ty × Bool) := [(.bool, false)]
def h_I_Group_hasCast : Hints := { loops := [] }
noncomputable def M_I_Group_hasCast (x : ((Int × (Int × Int)) × ((Int × Int) × ((Int × Int) × ((List Int) × ((List Int) × (List Int))))))) : (Option Bool) :=
  (bindO (M_I_Group_hasCipher ((x.1.1, (x.1.2.1, x.1.2.2)), (x.2.1.1, x.2.1.2))) (fun (a0 : Bool) => (cond a0 (bindO (M_I_Group_hasCipher ((x.1.1, (x.1.2.1, x.1.2.2)), (x.2.2.1.1, x.2.2.1.2))) (fun (a1 : Bool) => (some a1))) (some false))))

noncomputable def c_I_Group_hasCast : Con0 := ⟨pk_I_Group_hasCast, rk_I_Group_hasCast, M_I_Group_hasCast⟩

set_option maxRecDepth 100000 in
theorem eq_I_Group_hasCast (x : In pk_I_Group_hasCast) : semF (mkE [(118, c_I_Group_hasCipher)]) h_I_Group_hasCast (info Tryz.f88) pk_I_Group_hasCast rk_I_Group_hasCast x = M_I_Group_hasCast x := (semFF_eq _ _ _ _ _ _).symm.trans (by kernel_rfl)

set_option maxRecDepth 100000 in
theorem m_I_Group_hasCast : ConOK Tryz.prog 88 c_I_Group_hasCast := fn_ok (tyOK _) (E := mkE [(118, c_I_Group_hasCipher)]) (consOK_cons m_I_Group_hasCipher (consOK_nil rfl)) Tryz.func88 (h := h_I_Group_hasCast) (by kernel_rfl) eq_I_Group_hasCast

/-- I_WeedCasts_1 -/
def pk_I_WeedCasts_1 : List PK := [.data (.cons (.cons (.int .i64) (.one (.int .i64))) (.cons (.cons (.int .i64) (.one (.int .i64))) (.one (.cons (.sl (.int .i64)) (.cons (.sl (.int .i64)) (.one (.sl (.int .i64)))))))), .rp (.cons (.int .i64) (.cons (.int .i64) (.one (.int .i64))))]
def rk_I_WeedCasts_1 : List (Ty × Bool) := [(.bool, false)]
def h_I_WeedCasts_1 : Hints := { loops := [] }
noncomputable def M_I_WeedCasts_1 (x : (((Int × Int) × ((Int × Int) × ((List Int) × ((List Int) × (List Int))))) × (Int × (Int × Int)))) : (Option Bool) :=
  (bindO (M_I_Group_hasCast ((x.2.1, (x.2.2.1, x.2.2.2)), ((x.1.1.1, x.1.1.2), ((x.1.2.1.1, x.1.2.1.2), (x.1.2.2.1, (x.1.2.2.2.1, x.1.2.2.2.2)))))) (fun (a0 : Bool) => (some (not a0))))

noncomputable def c_I_WeedCasts_1 : Con0 := ⟨pk_I_WeedCasts_1, rk_I_WeedCasts_1, M_I_WeedCasts_1⟩

set_option maxRecDepth 100000 in
theorem eq_I_WeedCasts_1 (x : In pk_I_WeedCasts_1) : semF (mkE [(88, c_I_Group_hasCast)]) h_I_WeedCasts_1 (info Tryz.f87) pk_I_WeedCasts_1 rk_I_WeedCasts_1 x = M_I_WeedCasts_1 x := (semFF_eq _ _ _ _ _ _).symm.trans (by kernel_rfl)

set_option maxRecDepth 100000 in
theorem m_I_WeedCasts_1 : ConOK Tryz.prog 87 c_I_WeedCasts_1 := fn_ok (tyOK _) (E := mkE [(88, c_I_Group_hasCast)]) (consOK_cons m_I_Group_hasCast (consOK_nil rfl)) Tryz.func87 (h := h_I_WeedCasts_1) (by kernel_rfl) eq_I_WeedCasts_1

/-- I_WeedCasts -/
def pk_I_WeedCasts : List PK := [.data (.cons (.int .i64) (.cons (.int .i64) (.one (.int .i64)))), .data (.int .i64), .data (.int .i64), .data (.sl (.cons (.int .i64) (.one (.int .i64)))), .data (.sl (.cons (.cons (.int .i64) (.one (.int .i64))) (.cons (.cons (.int .i64) (.one (.int .i64))) (.one (.cons (.sl (.int .i64)) (.cons (.sl (.int .i64)) (.one (.sl (.int .i64)))))))))]
def rk_I_WeedCasts : List (Ty × Bool) := [((.sl (.int .i64)), true), (.bool, false)]
def h_I_WeedCasts : Hints := { loops := [(0, { items := [.slot 13 (.own (.int .i64) true), .slot 15 (.data (.int .i64) []), .arr 14 (.int .i64) true], kill := [0, 3, 6, 7, 8, 9, 10, 11, 16, 17, 18, 19, 20, 21, 22, 23, 24, 25, 26, 27, 28, 29, 30, 31, 32, 33, 34, 35, 36, 37, 38, 39, 40, 41, 42, 43, 44, 45, 46, 47, 48, 49, 50, 51, 52, 53, 54, 55, 56, 57, 58, 59, 60, 61, 62, 63, 64, 65, 66, 67, 68, 69, 70, 71, 72, 73, 74, 75, 76, 77, 78, 79, 80, 81, 82, 83, 84, 85, 86, 87, 88, 89, 90, 91, 92, 93, 94, 95, 96, 97, 98, 99] })] }
noncomputable def M_I_WeedCasts (x : ((Int × (Int × Int)) × (Int × (Int × ((List (Int × Int)) × (List ((Int × Int) × ((Int × Int) × ((List Int) × ((List Int) × (List Int))))))))))) : (Option ((List Int) × Bool)) :=
  (bindO (M_I_isTagging ((x.1.1, (x.1.2.1, x.1.2.2)), (x.2.1, x.2.2.1))) (fun (a0 : Bool) => (cond (not a0) (some (([] : List Int), false)) (bindO (M_I_Group_hasCiphers ((x.1.1, (x.1.2.1, x.1.2.2)), x.2.2.2.1)) (fun (a1 : Bool) => (cond (not a1) (some (([] : List Int), false)) (cond (decide ((((List.length x.2.2.2.2) : Nat) : Int) > (24 : Int))) (some (([] : List Int), false)) (bindO (M_slices_ContainsFunc_sI_Cast_I_Cast (x.2.2.2.2, (fun (a2 : ((Int × Int) × ((Int × Int) × ((List Int) × ((List Int) × (List Int)))))) => (bindO (M_I_WeedCasts_1 (a2, (x.1.1, (x.1.2.1, x.1.2.2)))) (fun (a3 : Bool) => (some a3)))))) (fun (a4 : Bool) => (cond a4 (some (([] : List Int), false)) (bindO (M_I_Group_tags ((x.1.1, (x.1.2.1, x.1.2.2)), (x.2.1, (x.2.2.1, x.2.2.2.1)))) (fun (a5 : (List Int)) => (bindO (guardO (((decide ((0 : Int) ≤ (((List.length x.2.2.2.2) : Nat) : Int))) && (decide ((((List.length x.2.2.2.2) : Nat) : Int) ≤ (((List.length x.2.2.2.2) : Nat) : Int)))) && (decide ((((List.length x.2.2.2.2) : Nat) : Int) ≤ ((lim : Nat) : Int))))) (fun (a6 : Unit) => (bindO (some (IntKind.wrap .i64 ((((List.length x.2.2.2.2) : Nat) : Int) - (1 : Int)))) (fun (a7 : Int) => (loopO (fun (again8 : (((List Int) × (Int × (List Int))) → (Option ((List Int) × Bool)))) => (fun (s9 : ((List Int) × (Int × (List Int)))) => (cond (decide (s9.2.1 ≥ (0 : Int))) (bindO (getI x.2.2.2.2 s9.2.1) (fun (a10 : ((Int × Int) × ((Int × Int) × ((List Int) × ((List Int) × (List Int)))))) => (bindO (M_I_Group_tags ((x.1.1, (x.1.2.1, x.1.2.2)), (x.2.1, (x.2.2.1, ((a10.1.1, a10.1.2) :: ([] : List (Int × Int))))))) (fun (a11 : (List Int)) => (bindO (getI a11 (0 : Int)) (fun (a12 : Int) => (bindO (getI x.2.2.2.2 s9.2.1) (fun (a13 : ((Int × Int) × ((Int × Int) × ((List Int) × ((List Int) × (List Int)))))) => (bindO (M_I_Group_isCast ((x.1.1, (x.1.2.1, x.1.2.2)), ((a13.1.1, a13.1.2), ((a13.2.1.1, a13.2.1.2), (a13.2.2.1, (a13.2.2.2.1, a13.2.2.2.2)))))) (fun (a14 : Bool) => (cond (not a14) (bindO (getI s9.2.2 s9.2.1) (fun (a15 : Int) => (bindO (some (List.set s9.2.2 (Int.toNat s9.2.1) (1 : Int))) (fun (a16 : (List Int)) => (bindO (some (IntKind.wrap .i64 (s9.2.1 - (1 : Int)))) (fun (a17 : Int) => (again8 (s9.1, (a17, a16))))))))) (bindO (M_slices_Contains_sint_int (a5, a12)) (fun (a18 : Bool) => (cond (not a18) (bindO (getI s9.2.2 s9.2.1) (fun (a19 : Int) => (bindO (some (List.set s9.2.2 (Int.toNat s9.2.1) (2 : Int))) (fun (a20 : (List Int)) => (bindO (some (IntKind.wrap .i64 (s9.2.1 - (1 : Int)))) (fun (a21 : Int) => (again8 (s9.1, (a21, a20))))))))) (bindO (M_slices_Contains_sint_int (s9.1, a12)) (fun (a22 : Bool) => (cond a22 (bindO (getI s9.2.2 s9.2.1) (fun (a23 : Int) => (bindO (some (List.set s9.2.2 (Int.toNat s9.2.1) (3 : Int))) (fun (a24 : (List Int)) => (bindO (some (IntKind.wrap .i64 (s9.2.1 - (1 : Int)))) (fun (a25 : Int) => (again8 (s9.1, (a25, a24))))))))) (bindO (getI s9.2.2 s9.2.1) (fun (a26 : Int) => (bindO (some (List.set s9.2.2 (Int.toNat s9.2.1) (0 : Int))) (fun (a27 : (List Int)) => (bindO (guardO (lenOk ((List.length s9.1) + (List.length (a12 :: ([] : List Int)))))) (fun (a28 : Unit) => (bindO (some (s9.1 ++ (a12 :: ([] : List Int)))) (fun (a29 : (List Int)) => (bindO (some (IntKind.wrap .i64 (s9.2.1 - (1 : Int)))) (fun (a30 : Int) => (again8 (a29, (a30, a27)))))))))))))))))))))))))))))) (some (s9.2.2, true))))) (([] : List Int), (a7, (List.replicate (Int.toNat (((List.length x.2.2.2.2) : Nat) : Int)) (0 : Int)))))))))))))))))))))

noncomputable def c_I_WeedCasts : Con0 := ⟨pk_I_WeedCasts, rk_I_WeedCasts, M_I_WeedCasts⟩

set_option maxRecDepth 100000 in
theorem eq_I_WeedCasts (x : In pk_I_WeedCasts) : semF (mkE [(85, c_I_isTagging), (62, c_I_Group_hasCiphers), (86, c_slices_ContainsFunc_sI_Cast_I_Cast), (89, c_I_Group_tags), (90, c_I_Group_isCast), (91, c_slices_Contains_sint_int), (87, c_I_WeedCasts_1)]) h_I_WeedCasts (info Tryz.f37) pk_I_WeedCasts rk_I_WeedCasts x = M_I_WeedCasts x := (semFF_eq _ _ _ _ _ _).symm.trans (by kernel_rfl)

set_option maxRecDepth 100000 in
theorem m_I_WeedCasts : ConOK Tryz.prog 37 c_I_WeedCasts := fn_ok (tyOK _) (E := mkE [(85, c_I_isTagging), (62, c_I_Group_hasCiphers), (86, c_slices_ContainsFunc_sI_Cast_I_Cast), (89, c_I_Group_tags), (90, c_I_Group_isCast), (91, c_slices_Contains_sint_int), (87, c_I_WeedCasts_1)]) (consOK_cons m_I_isTagging (consOK_cons m_I_Group_hasCiphers (consOK_cons m_slices_ContainsFunc_sI_Cast_I_Cast (consOK_cons m_I_Group_tags (consOK_cons m_I_Group_isCast (consOK_cons m_slices_Contains_sint_int (consOK_cons m_I_WeedCasts_1 (consOK_nil rfl)))))))) Tryz.func37 (h := h_I_WeedCasts) (by kernel_rfl) eq_I_WeedCasts

/-- slices_Sort_sint_int -/
def pk_slices_Sort_sint_int : List PK := [.mv (.sl (.int .i64))]
def rk_slices_Sort_sint_int : List (Ty × Bool) := []
noncomputable def M_slices_Sort_sint_int (x : (List Int)) : (Option (List Int)) :=
  (if x.length < 4611686018427387904 then some (List.mergeSort x (fun x y => decide (x ≤ y))) else Option.none)

noncomputable def c_slices_Sort_sint_int : Con0 := ⟨pk_slices_Sort_sint_int, rk_slices_Sort_sint_int, M_slices_Sort_sint_int⟩

def srt_ren : Go.Shelf.Ren := ⟨fun | 189 => 39 | 125 => 96 | 257 => 95 | 128 => 142 | 129 => 143 | 294 => 133 | 295 => 134 | 296 => 135 | 297 => 136 | 298 => 137 | 299 => 138 | 216 => 139 | 300 => 140 | 301 => 141 | 328 => 166 | 329 => 167 | 330 => 168 | 331 => 169 | 332 => 170 | 215 => 171 | 343 => 175 | n => n, fun | 28 => 28 | 3 => 3 | 46 => 131 | 0 => 0 | 51 => 154 | 53 => 84 | 4 => 4 | 183 => 148 | 182 => 147 | 131 => 60 | 5 => 5 | 9 => 9 | 218 => 167 | 222 => 171 | 228 => 175 | 229 => 176 | n => n, fun n => n⟩
set_option maxRecDepth 100000 in
theorem srt_lays : Go.Proofs.Lays.n189 Tryz.prog srt_ren where
  mixed := by kernel_rfl
  f125 := Tryz.func96.trans (congrArg some (by kernel_rfl))
  f128 := Tryz.func142.trans (congrArg some (by kernel_rfl))
  f129 := Tryz.func143.trans (congrArg some (by kernel_rfl))
  f189 := Tryz.func39.trans (congrArg some (by kernel_rfl))
  f215 := Tryz.func171.trans (congrArg some (by kernel_rfl))
  f216 := Tryz.func139.trans (congrArg some (by kernel_rfl))
  f257 := Tryz.func95.trans (congrArg some (by kernel_rfl))
  f294 := Tryz.func133.trans (congrArg some (by kernel_rfl))
  f295 := Tryz.func134.trans (congrArg some (by kernel_rfl))
  f296 := Tryz.func135.trans (congrArg some (by kernel_rfl))
  f297 := Tryz.func136.trans (congrArg some (by kernel_rfl))
  f298 := Tryz.func137.trans (congrArg some (by kernel_rfl))
  f299 := Tryz.func138.trans (congrArg some (by kernel_rfl))
  f300 := Tryz.func140.trans (congrArg some (by kernel_rfl))
  f301 := Tryz.func141.trans (congrArg some (by kernel_rfl))
  f328 := Tryz.func166.trans (congrArg some (by kernel_rfl))
  f329 := Tryz.func167.trans (congrArg some (by kernel_rfl))
  f330 := Tryz.func168.trans (congrArg some (by kernel_rfl))
  f331 := Tryz.func169.trans (congrArg some (by kernel_rfl))
  f332 := Tryz.func170.trans (congrArg some (by kernel_rfl))
  f343 := Tryz.func175.trans (congrArg some (by kernel_rfl))
  t0 := Tryz.underlying0
  a0 := Tryz.isAgg0
  z0 := Tryz.sizeOf0
  v0 := Tryz.zeroValue0
  t3 := Tryz.underlying3
  a3 := Tryz.isAgg3
  z3 := Tryz.sizeOf3
  v3 := Tryz.zeroValue3
  t4 := Tryz.underlying4
  a4 := Tryz.isAgg4
  z4 := Tryz.sizeOf4
  v4 := Tryz.zeroValue4
  t5 := Tryz.underlying5
  a5 := Tryz.isAgg5
  z5 := Tryz.sizeOf5
  v5 := Tryz.zeroValue5
  t9 := Tryz.underlying9
  a9 := Tryz.isAgg9
  z9 := Tryz.sizeOf9
  v9 := Tryz.zeroValue9
  t28 := Tryz.underlying28
  a28 := Tryz.isAgg28
  z28 := Tryz.sizeOf28
  v28 := Tryz.zeroValue28
  t46 := Tryz.underlying131
  a46 := Tryz.isAgg131
  z46 := Tryz.sizeOf131
  v46 := Tryz.zeroValue131
  t51 := Tryz.underlying154
  a51 := Tryz.isAgg154
  z51 := Tryz.sizeOf154
  v51 := Tryz.zeroValue154
  t53 := Tryz.underlying84
  a53 := Tryz.isAgg84
  z53 := Tryz.sizeOf84
  v53 := Tryz.zeroValue84
  t131 := Tryz.underlying60
  a131 := Tryz.isAgg60
  z131 := Tryz.sizeOf60
  v131 := Tryz.zeroValue60
  t182 := Tryz.underlying147
  a182 := Tryz.isAgg147
  z182 := Tryz.sizeOf147
  v182 := Tryz.zeroValue147
  t183 := Tryz.underlying148
  a183 := Tryz.isAgg148
  z183 := Tryz.sizeOf148
  v183 := Tryz.zeroValue148
  t218 := Tryz.underlying167
  a218 := Tryz.isAgg167
  z218 := Tryz.sizeOf167
  v218 := Tryz.zeroValue167
  t222 := Tryz.underlying171
  a222 := Tryz.isAgg171
  z222 := Tryz.sizeOf171
  v222 := Tryz.zeroValue171
  t228 := Tryz.underlying175
  a228 := Tryz.isAgg175
  z228 := Tryz.sizeOf175
  v228 := Tryz.zeroValue175
  t229 := Tryz.underlying176
  a229 := Tryz.isAgg176
  z229 := Tryz.sizeOf176
  v229 := Tryz.zeroValue176

theorem m_slices_Sort_sint_int : ConOK Tryz.prog 39 c_slices_Sort_sint_int := srt_ok ⟨Tryz.f39, Tryz.func39, of_decide_eq_true (by kernel_rfl), by kernel_rfl⟩ (srt_law srt_lays) (srt_none srt_lays)

/-- I_CountedVotes -/
def pk_I_CountedVotes : List PK := [.data (.cons (.int .i64) (.cons (.int .i64) (.one (.int .i64)))), .data (.int .i64), .data (.int .i64), .data (.sl (.cons (.int .i64) (.one (.int .i64)))), .data (.sl (.cons (.cons (.int .i64) (.one (.int .i64))) (.cons (.cons (.int .i64) (.one (.int .i64))) (.one (.cons (.sl (.int .i64)) (.cons (.sl (.int .i64)) (.one (.sl (.int .i64)))))))))]
def rk_I_CountedVotes : List (Ty × Bool) := [((.sl (.int .i64)), true), (.bool, false)]
def h_I_CountedVotes : Hints := { loops := [(0, { items := [.slot 14 (.own (.int .i64) true), .slot 31 (.data (.int .i64) [])], kill := [0, 2, 3, 6, 7, 8, 9, 10, 11, 12, 13, 15, 16, 17, 18, 19, 20, 21, 22, 23, 24, 25, 26, 27, 28, 32, 33, 34, 35, 36, 37, 38, 39, 40, 41, 42, 43, 44, 45, 46, 47, 48, 49, 50, 51, 52] })] }
noncomputable def M_I_CountedVotes (x : ((Int × (Int × Int)) × (Int × (Int × ((List (Int × Int)) × (List ((Int × Int) × ((Int × Int) × ((List Int) × ((List Int) × (List Int))))))))))) : (Option ((List Int) × Bool)) :=
  (bindO (M_I_WeedCasts ((x.1.1, (x.1.2.1, x.1.2.2)), (x.2.1, (x.2.2.1, (x.2.2.2.1, x.2.2.2.2))))) (fun (a0 : ((List Int) × Bool)) => (cond (not a0.2) (some (([] : List Int), false)) (loopO (fun (again1 : (((List Int) × Int) → (Option ((List Int) × Bool)))) => (fun (s2 : ((List Int) × Int)) => (cond (decide (s2.2 < (((List.length a0.1) : Nat) : Int))) (bindO (getI a0.1 s2.2) (fun (a3 : Int) => (cond (a3 == (0 : Int)) (bindO (getI x.2.2.2.2 s2.2) (fun (a4 : ((Int × Int) × ((Int × Int) × ((List Int) × ((List Int) × (List Int)))))) => (bindO (M_I_Group_decrypt ((x.1.1, (x.1.2.1, x.1.2.2)), (x.2.1, (a4.2.1.1, a4.2.1.2)))) (fun (a5 : Int) => (bindO (guardO (lenOk ((List.length s2.1) + (List.length (a5 :: ([] : List Int)))))) (fun (a6 : Unit) => (bindO (some (s2.1 ++ (a5 :: ([] : List Int)))) (fun (a7 : (List Int)) => (bindO (some (IntKind.wrap .i64 (s2.2 + (1 : Int)))) (fun (a8 : Int) => (again1 (a7, a8)))))))))))) (bindO (some (IntKind.wrap .i64 (s2.2 + (1 : Int)))) (fun (a9 : Int) => (again1 (s2.1, a9))))))) (bindO (M_slices_Sort_sint_int s2.1) (fun (a10 : (List Int)) => (some (a10, true))))))) (([] : List Int), (0 : Int))))))

noncomputable def c_I_CountedVotes : Con0 := ⟨pk_I_CountedVotes, rk_I_CountedVotes, M_I_CountedVotes⟩

set_option maxRecDepth 100000 in
theorem eq_I_CountedVotes (x : In pk_I_CountedVotes) : semF (mkE [(37, c_I_WeedCasts), (38, c_I_Group_decrypt), (39, c_slices_Sort_sint_int)]) h_I_CountedVotes (info Tryz.f11) pk_I_CountedVotes rk_I_CountedVotes x = M_I_CountedVotes x := (semFF_eq _ _ _ _ _ _).symm.trans (by kernel_rfl)

set_option maxRecDepth 100000 in
theorem m_I_CountedVotes : ConOK Tryz.prog 11 c_I_CountedVotes := fn_ok (tyOK _) (E := mkE [(37, c_I_WeedCasts), (38, c_I_Group_decrypt), (39, c_slices_Sort_sint_int)]) (consOK_cons m_I_WeedCasts (consOK_cons m_I_Group_decrypt (consOK_cons m_slices_Sort_sint_int (consOK_nil rfl)))) Tryz.func11 (h := h_I_CountedVotes) (by kernel_rfl) eq_I_CountedVotes

/-- L_eqIntS -/
def pk_L_eqIntS : List PK := [.data (.sl (.int .i64)), .data (.sl (.int .i64))]
def rk_L_eqIntS : List (Ty × Bool) := [(.bool, false)]
def h_L_eqIntS : Hints := { loops := [(0, { items := [.slot 5 (.data (.int .i64) [])], kill := [2, 3, 4, 6, 7, 8, 9, 10, 11, 12, 13, 14, 15, 16, 17, 18, 19, 20, 21, 22, 23, 24, 25] })] }
noncomputable def M_L_eqIntS (x : ((List Int) × (List Int))) : (Option Bool) :=
  (cond ((((List.length x.1) : Nat) : Int) != (((List.length x.2) : Nat) : Int)) (some false) (loopO (fun (again0 : (Int → (Option Bool))) => (fun (s1 : Int) => (cond (decide (s1 < (((List.length x.1) : Nat) : Int))) (bindO (getI x.1 s1) (fun (a2 : Int) => (bindO (getI x.2 s1) (fun (a3 : Int) => (cond (a2 != a3) (some false) (bindO (some (IntKind.wrap .i64 (s1 + (1 : Int)))) (fun (a4 : Int) => (again0 a4)))))))) (some true)))) (0 : Int)))

noncomputable def c_L_eqIntS : Con0 := ⟨pk_L_eqIntS, rk_L_eqIntS, M_L_eqIntS⟩

set_option maxRecDepth 100000 in
theorem eq_L_eqIntS (x : In pk_L_eqIntS) : semF (mkE []) h_L_eqIntS (info Tryz.f12) pk_L_eqIntS rk_L_eqIntS x = M_L_eqIntS x := (semFF_eq _ _ _ _ _ _).symm.trans (by kernel_rfl)

set_option maxRecDepth 100000 in
theorem m_L_eqIntS : ConOK Tryz.prog 12 c_L_eqIntS := fn_ok (tyOK _) (E := mkE []) (consOK_nil rfl) Tryz.func12 (h := h_L_eqIntS) (by kernel_rfl) eq_L_eqIntS

/-- L_eqCipher -/
def pk_L_eqCipher : List PK := [.data (.cons (.int .i64) (.one (.int .i64))), .data (.cons (.int .i64) (.one (.int .i64)))]
def rk_L_eqCipher : List (Ty × Bool) := [(.bool, false)]
def h_L_eqCipher : Hints := { loops := [] }
noncomputable def M_L_eqCipher (x : ((Int × Int) × (Int × Int))) : (Option Bool) :=
  (cond (x.1.1 != x.2.1) (some false) (cond (x.1.2 != x.2.2) (some false) (some true)))

noncomputable def c_L_eqCipher : Con0 := ⟨pk_L_eqCipher, rk_L_eqCipher, M_L_eqCipher⟩

set_option maxRecDepth 100000 in
theorem eq_L_eqCipher (x : In pk_L_eqCipher) : semF (mkE []) h_L_eqCipher (info Tryz.f40) pk_L_eqCipher rk_L_eqCipher x = M_L_eqCipher x := (semFF_eq _ _ _ _ _ _).symm.trans (by kernel_rfl)

set_option maxRecDepth 100000 in
theorem m_L_eqCipher : ConOK Tryz.prog 40 c_L_eqCipher := fn_ok (tyOK _) (E := mkE []) (consOK_nil rfl) Tryz.func40 (h := h_L_eqCipher) (by kernel_rfl) eq_L_eqCipher

/-- L_eqCipherS -/
def pk_L_eqCipherS : List PK := [.data (.sl (.cons (.int .i64) (.one (.int .i64)))), .data (.sl (.cons (.int .i64) (.one (.int .i64))))]
def rk_L_eqCipherS : List (Ty × Bool) := [(.bool, false)]
def h_L_eqCipherS : Hints := { loops := [(0, { items := [.slot 5 (.data (.int .i64) [])], kill := [2, 3, 4, 6, 7, 8, 9, 10, 11, 12, 13, 14, 15, 16, 17, 18, 19, 20, 21, 22, 23, 24, 25, 26] })] }
noncomputable def M_L_eqCipherS (x : ((List (Int × Int)) × (List (Int × Int)))) : (Option Bool) :=
  (cond ((((List.length x.1) : Nat) : Int) != (((List.length x.2) : Nat) : Int)) (some false) (loopO (fun (again0 : (Int → (Option Bool))) => (fun (s1 : Int) => (cond (decide (s1 < (((List.length x.1) : Nat) : Int))) (bindO (getI x.1 s1) (fun (a2 : (Int × Int)) => (bindO (getI x.2 s1) (fun (a3 : (Int × Int)) => (bindO (M_L_eqCipher ((a2.1, a2.2), (a3.1, a3.2))) (fun (a4 : Bool) => (cond (not a4) (some false) (bindO (some (IntKind.wrap .i64 (s1 + (1 : Int)))) (fun (a5 : Int) => (again0 a5)))))))))) (some true)))) (0 : Int)))

noncomputable def c_L_eqCipherS : Con0 := ⟨pk_L_eqCipherS, rk_L_eqCipherS, M_L_eqCipherS⟩

set_option maxRecDepth 100000 in
theorem eq_L_eqCipherS (x : In pk_L_eqCipherS) : semF (mkE [(40, c_L_eqCipher)]) h_L_eqCipherS (info Tryz.f13) pk_L_eqCipherS rk_L_eqCipherS x = M_L_eqCipherS x := (semFF_eq _ _ _ _ _ _).symm.trans (by kernel_rfl)

set_option maxRecDepth 100000 in
theorem m_L_eqCipherS : ConOK Tryz.prog 13 c_L_eqCipherS := fn_ok (tyOK _) (E := mkE [(40, c_L_eqCipher)]) (consOK_cons m_L_eqCipher (consOK_nil rfl)) Tryz.func13 (h := h_L_eqCipherS) (by kernel_rfl) eq_L_eqCipherS

/-- L_eqProof -/
def pk_L_eqProof : List PK := [.data (.cons (.sl (.int .i64)) (.cons (.sl (.int .i64)) (.one (.sl (.int .i64))))), .data (.cons (.sl (.int .i64)) (.cons (.sl (.int .i64)) (.one (.sl (.int .i64)))))]
def rk_L_eqProof : List (Ty × Bool) := [(.bool, false)]
def h_L_eqProof : Hints := { loops := [] }
noncomputable def M_L_eqProof (x : (((List Int) × ((List Int) × (List Int))) × ((List Int) × ((List Int) × (List Int))))) : (Option Bool) :=
  (bindO (M_L_eqIntS (x.1.1, x.2.1)) (fun (a0 : Bool) => (cond (not a0) (some false) (bindO (M_L_eqIntS (x.1.2.1, x.2.2.1)) (fun (a1 : Bool) => (cond (not a1) (some false) (bindO (M_L_eqIntS (x.1.2.2, x.2.2.2)) (fun (a2 : Bool) => (cond (not a2) (some false) (some true))))))))))

noncomputable def c_L_eqProof : Con0 := ⟨pk_L_eqProof, rk_L_eqProof, M_L_eqProof⟩

set_option maxRecDepth 100000 in
theorem eq_L_eqProof (x : In pk_L_eqProof) : semF (mkE [(12, c_L_eqIntS)]) h_L_eqProof (info Tryz.f97) pk_L_eqProof rk_L_eqProof x = M_L_eqProof x := (semFF_eq _ _ _ _ _ _).symm.trans (by kernel_rfl)

set_option maxRecDepth 100000 in
theorem m_L_eqProof : ConOK Tryz.prog 97 c_L_eqProof := fn_ok (tyOK _) (E := mkE [(12, c_L_eqIntS)]) (consOK_cons m_L_eqIntS (consOK_nil rfl)) Tryz.func97 (h := h_L_eqProof) (by kernel_rfl) eq_L_eqProof

/-- L_eqCast -/
def pk_L_eqCast : List PK := [.data (.cons (.cons (.int .i64) (.one (.int .i64))) (.cons (.cons (.int .i64) (.one (.int .i64))) (.one (.cons (.sl (.int .i64)) (.cons (.sl (.int .i64)) (.one (.sl (.int .i64)))))))), .data (.cons (.cons (.int .i64) (.one (.int .i64))) (.cons (.cons (.int .i64) (.one (.int .i64))) (.one (.cons (.sl (.int .i64)) (.cons (.sl (.int .i64)) (.one (.sl (.int .i64))))))))]
def rk_L_eqCast : List (Ty × Bool) := [(.bool, false)]
def h_L_eqCast : Hints := { loops := [] }
noncomputable def M_L_eqCast (x : (((Int × Int) × ((Int × Int) × ((List Int) × ((List Int) × (List Int))))) × ((Int × Int) × ((Int × Int) × ((List Int) × ((List Int) × (List Int))))))) : (Option Bool) :=
  (bindO (M_L_eqCipher ((x.1.1.1, x.1.1.2), (x.2.1.1, x.2.1.2))) (fun (a0 : Bool) => (cond (not a0) (some false) (bindO (M_L_eqCipher ((x.1.2.1.1, x.1.2.1.2), (x.2.2.1.1, x.2.2.1.2))) (fun (a1 : Bool) => (cond (not a1) (some false) (bindO (M_L_eqProof ((x.1.2.2.1, (x.1.2.2.2.1, x.1.2.2.2.2)), (x.2.2.2.1, (x.2.2.2.2.1, x.2.2.2.2.2)))) (fun (a2 : Bool) => (cond (not a2) (some false) (some true))))))))))

noncomputable def c_L_eqCast : Con0 := ⟨pk_L_eqCast, rk_L_eqCast, M_L_eqCast⟩

set_option maxRecDepth 100000 in
theorem eq_L_eqCast (x : In pk_L_eqCast) : semF (mkE [(40, c_L_eqCipher), (97, c_L_eqProof)]) h_L_eqCast (info Tryz.f41) pk_L_eqCast rk_L_eqCast x = M_L_eqCast x := (semFF_eq _ _ _ _ _ _).symm.trans (by kernel_rfl)

set_option maxRecDepth 100000 in
theorem m_L_eqCast : ConOK Tryz.prog 41 c_L_eqCast := fn_ok (tyOK _) (E := mkE [(40, c_L_eqCipher), (97, c_L_eqProof)]) (consOK_cons m_L_eqCipher (consOK_cons m_L_eqProof (consOK_nil rfl))) Tryz.func41 (h := h_L_eqCast) (by kernel_rfl) eq_L_eqCast

/-- L_eqCastS -/
def pk_L_eqCastS : List PK := [.data (.sl (.cons (.cons (.int .i64) (.one (.int .i64))) (.cons (.cons (.int .i64) (.one (.int .i64))) (.one (.cons (.sl (.int .i64)) (.cons (.sl (.int .i64)) (.one (.sl (.int .i64))))))))), .data (.sl (.cons (.cons (.int .i64) (.one (.int .i64))) (.cons (.cons (.int .i64) (.one (.int .i64))) (.one (.cons (.sl (.int .i64)) (.cons (.sl (.int .i64)) (.one (.sl (.int .i64)))))))))]
def rk_L_eqCastS : List (Ty × Bool) := [(.bool, false)]
def h_L_eqCastS : Hints := { loops := [(0, { items := [.slot 5 (.data (.int .i64) [])], kill := [2, 3, 4, 6, 7, 8, 9, 10, 11, 12, 13, 14, 15, 16, 17, 18, 19, 20, 21, 22, 23, 24, 25, 26] })] }
noncomputable def M_L_eqCastS (x : ((List ((Int × Int) × ((Int × Int) × ((List Int) × ((List Int) × (List Int)))))) × (List ((Int × Int) × ((Int × Int) × ((List Int) × ((List Int) × (List Int)))))))) : (Option Bool) :=
  (cond ((((List.length x.1) : Nat) : Int) != (((List.length x.2) : Nat) : Int)) (some false) (loopO (fun (again0 : (Int → (Option Bool))) => (fun (s1 : Int) => (cond (decide (s1 < (((List.length x.1) : Nat) : Int))) (bindO (getI x.1 s1) (fun (a2 : ((Int × Int) × ((Int × Int) × ((List Int) × ((List Int) × (List Int)))))) => (bindO (getI x.2 s1) (fun (a3 : ((Int × Int) × ((Int × Int) × ((List Int) × ((List Int) × (List Int)))))) => (bindO (M_L_eqCast (((a2.1.1, a2.1.2), ((a2.2.1.1, a2.2.1.2), (a2.2.2.1, (a2.2.2.2.1, a2.2.2.2.2)))), ((a3.1.1, a3.1.2), ((a3.2.1.1, a3.2.1.2), (a3.2.2.1, (a3.2.2.2.1, a3.2.2.2.2)))))) (fun (a4 : Bool) => (cond (not a4) (some false) (bindO (some (IntKind.wrap .i64 (s1 + (1 : Int)))) (fun (a5 : Int) => (again0 a5)))))))))) (some true)))) (0 : Int)))

noncomputable def c_L_eqCastS : Con0 := ⟨pk_L_eqCastS, rk_L_eqCastS, M_L_eqCastS⟩

set_option maxRecDepth 100000 in
theorem eq_L_eqCastS (x : In pk_L_eqCastS) : semF (mkE [(41, c_L_eqCast)]) h_L_eqCastS (info Tryz.f14) pk_L_eqCastS rk_L_eqCastS x = M_L_eqCastS x := (semFF_eq _ _ _ _ _ _).symm.trans (by kernel_rfl)

set_option maxRecDepth 100000 in
theorem m_L_eqCastS : ConOK Tryz.prog 14 c_L_eqCastS := fn_ok (tyOK _) (E := mkE [(41, c_L_eqCast)]) (consOK_cons m_L_eqCast (consOK_nil rfl)) Tryz.func14 (h := h_L_eqCastS) (by kernel_rfl) eq_L_eqCastS

/-- L_markCipherS -/
def pk_L_markCipherS : List PK := [.mv (.sl (.cons (.int .i64) (.one (.int .i64)))), .data (.int .i64)]
def rk_L_markCipherS : List (Ty × Bool) := [((.int .i64), false)]
def h_L_markCipherS : Hints := { loops := [(0, { items := [.slot 1 (.data (.int .i64) []), .slot 5 (.data (.int .i64) []), .arr 0 (.cons (.int .i64) (.one (.int .i64))) true], kill := [2, 3, 4, 6, 7, 8, 9, 10, 11, 12, 13, 14, 15, 16, 17, 18, 19, 20, 21, 22, 23, 24, 25, 26] })] }
noncomputable def M_L_markCipherS (x : ((List (Int × Int)) × Int)) : (Option (Int × (List (Int × Int)))) :=
  (loopO (fun (again0 : ((Int × (Int × (List (Int × Int)))) → (Option (Int × (List (Int × Int)))))) => (fun (s1 : (Int × (Int × (List (Int × Int))))) => (cond (decide (s1.2.1 < (((List.length s1.2.2) : Nat) : Int))) (bindO (getI s1.2.2 s1.2.1) (fun (a2 : (Int × Int)) => (bindO (some (List.set s1.2.2 (Int.toNat s1.2.1) (s1.1, a2.2))) (fun (a3 : (List (Int × Int))) => (bindO (some (IntKind.wrap .i64 (s1.1 + (1 : Int)))) (fun (a4 : Int) => (bindO (getI a3 s1.2.1) (fun (a5 : (Int × Int)) => (bindO (some (List.set a3 (Int.toNat s1.2.1) (a5.1, a4))) (fun (a6 : (List (Int × Int))) => (bindO (some (IntKind.wrap .i64 (a4 + (1 : Int)))) (fun (a7 : Int) => (bindO (some (IntKind.wrap .i64 (s1.2.1 + (1 : Int)))) (fun (a8 : Int) => (again0 (a7, (a8, a6))))))))))))))))) (some (s1.1, s1.2.2))))) (x.2, ((0 : Int), x.1)))

noncomputable def c_L_markCipherS : Con0 := ⟨pk_L_markCipherS, rk_L_markCipherS, M_L_markCipherS⟩

set_option maxRecDepth 100000 in
theorem eq_L_markCipherS (x : In pk_L_markCipherS) : semF (mkE []) h_L_markCipherS (info Tryz.f15) pk_L_markCipherS rk_L_markCipherS x = M_L_markCipherS x := (semFF_eq _ _ _ _ _ _).symm.trans (by kernel_rfl)

set_option maxRecDepth 100000 in
theorem m_L_markCipherS : ConOK Tryz.prog 15 c_L_markCipherS := fn_ok (tyOK _) (E := mkE []) (consOK_nil rfl) Tryz.func15 (h := h_L_markCipherS) (by kernel_rfl) eq_L_markCipherS

/-- L_markIntS -/
def pk_L_markIntS : List PK := [.mv (.sl (.int .i64)), .data (.int .i64)]
def rk_L_markIntS : List (Ty × Bool) := [((.int .i64), false)]
def h_L_markIntS : Hints := { loops := [(0, { items := [.slot 1 (.data (.int .i64) []), .slot 5 (.data (.int .i64) []), .arr 0 (.int .i64) true], kill := [2, 3, 4, 6, 7, 8, 9, 10, 11, 12, 13, 14, 15, 16, 17, 18] })] }
noncomputable def M_L_markIntS (x : ((List Int) × Int)) : (Option (Int × (List Int))) :=
  (loopO (fun (again0 : ((Int × (Int × (List Int))) → (Option (Int × (List Int))))) => (fun (s1 : (Int × (Int × (List Int)))) => (cond (decide (s1.2.1 < (((List.length s1.2.2) : Nat) : Int))) (bindO (getI s1.2.2 s1.2.1) (fun (a2 : Int) => (bindO (some (List.set s1.2.2 (Int.toNat s1.2.1) s1.1)) (fun (a3 : (List Int)) => (bindO (some (IntKind.wrap .i64 (s1.1 + (1 : Int)))) (fun (a4 : Int) => (bindO (some (IntKind.wrap .i64 (s1.2.1 + (1 : Int)))) (fun (a5 : Int) => (again0 (a4, (a5, a3))))))))))) (some (s1.1, s1.2.2))))) (x.2, ((0 : Int), x.1)))

noncomputable def c_L_markIntS : Con0 := ⟨pk_L_markIntS, rk_L_markIntS, M_L_markIntS⟩

set_option maxRecDepth 100000 in
theorem eq_L_markIntS (x : In pk_L_markIntS) : semF (mkE []) h_L_markIntS (info Tryz.f17) pk_L_markIntS rk_L_markIntS x = M_L_markIntS x := (semFF_eq _ _ _ _ _ _).symm.trans (by kernel_rfl)

set_option maxRecDepth 100000 in
theorem m_L_markIntS : ConOK Tryz.prog 17 c_L_markIntS := fn_ok (tyOK _) (E := mkE []) (consOK_nil rfl) Tryz.func17 (h := h_L_markIntS) (by kernel_rfl) eq_L_markIntS

/-- L_markCastS -/
def pk_L_markCastS : List PK := [.mv (.sl (.cons (.cons (.int .i64) (.one (.int .i64))) (.cons (.cons (.int .i64) (.one (.int .i64))) (.one (.cons (.sl (.int .i64)) (.cons (.sl (.int .i64)) (.one (.sl (.int .i64))))))))), .data (.int .i64)]
def rk_L_markCastS : List (Ty × Bool) := [((.int .i64), false)]
def h_L_markCastS : Hints := { loops := [(0, { items := [.slot 1 (.data (.int .i64) []), .slot 5 (.data (.int .i64) []), .arr 0 (.cons (.cons (.int .i64) (.one (.int .i64))) (.cons (.cons (.int .i64) (.one (.int .i64))) (.one (.cons (.sl (.int .i64)) (.cons (.sl (.int .i64)) (.one (.sl (.int .i64)))))))) true], kill := [2, 3, 4, 6, 7, 8, 9, 10, 11, 12, 13, 14, 15, 16, 17, 18, 19, 20, 21, 22, 23, 24, 25, 26, 27, 28, 29, 30, 31, 32, 33, 34, 35, 36, 37, 38, 39, 40, 41, 42, 43, 44, 45, 46, 47, 48, 49, 50, 51, 52, 53, 54, 55, 56, 57, 58, 59, 60, 61, 62, 63, 64, 65, 66, 67, 68] })] }
noncomputable def M_L_markCastS (x : ((List ((Int × Int) × ((Int × Int) × ((List Int) × ((List Int) × (List Int)))))) × Int)) : (Option (Int × (List ((Int × Int) × ((Int × Int) × ((List Int) × ((List Int) × (List Int)))))))) :=
  (loopO (fun (again0 : ((Int × (Int × (List ((Int × Int) × ((Int × Int) × ((List Int) × ((List Int) × (List Int)))))))) → (Option (Int × (List ((Int × Int) × ((Int × Int) × ((List Int) × ((List Int) × (List Int)))))))))) => (fun (s1 : (Int × (Int × (List ((Int × Int) × ((Int × Int) × ((List Int) × ((List Int) × (List Int))))))))) => (cond (decide (s1.2.1 < (((List.length s1.2.2) : Nat) : Int))) (bindO (getI s1.2.2 s1.2.1) (fun (a2 : ((Int × Int) × ((Int × Int) × ((List Int) × ((List Int) × (List Int)))))) => (bindO (some (List.set s1.2.2 (Int.toNat s1.2.1) ((s1.1, a2.1.2), a2.2))) (fun (a3 : (List ((Int × Int) × ((Int × Int) × ((List Int) × ((List Int) × (List Int))))))) => (bindO (some (IntKind.wrap .i64 (s1.1 + (1 : Int)))) (fun (a4 : Int) => (bindO (getI a3 s1.2.1) (fun (a5 : ((Int × Int) × ((Int × Int) × ((List Int) × ((List Int) × (List Int)))))) => (bindO (some (List.set a3 (Int.toNat s1.2.1) ((a5.1.1, a4), a5.2))) (fun (a6 : (List ((Int × Int) × ((Int × Int) × ((List Int) × ((List Int) × (List Int))))))) => (bindO (some (IntKind.wrap .i64 (a4 + (1 : Int)))) (fun (a7 : Int) => (bindO (getI a6 s1.2.1) (fun (a8 : ((Int × Int) × ((Int × Int) × ((List Int) × ((List Int) × (List Int)))))) => (bindO (some (List.set a6 (Int.toNat s1.2.1) (a8.1, ((a7, a8.2.1.2), a8.2.2)))) (fun (a9 : (List ((Int × Int) × ((Int × Int) × ((List Int) × ((List Int) × (List Int))))))) => (bindO (some (IntKind.wrap .i64 (a7 + (1 : Int)))) (fun (a10 : Int) => (bindO (getI a9 s1.2.1) (fun (a11 : ((Int × Int) × ((Int × Int) × ((List Int) × ((List Int) × (List Int)))))) => (bindO (some (List.set a9 (Int.toNat s1.2.1) (a11.1, ((a11.2.1.1, a10), a11.2.2)))) (fun (a12 : (List ((Int × Int) × ((Int × Int) × ((List Int) × ((List Int) × (List Int))))))) => (bindO (some (IntKind.wrap .i64 (a10 + (1 : Int)))) (fun (a13 : Int) => (bindO (getI a12 s1.2.1) (fun (a14 : ((Int × Int) × ((Int × Int) × ((List Int) × ((List Int) × (List Int)))))) => (bindO (M_L_markIntS (a14.2.2.1, a13)) (fun (a15 : (Int × (List Int))) => (bindO (getI (List.modify a12 (Int.toNat s1.2.1) (fun (a16 : ((Int × Int) × ((Int × Int) × ((List Int) × ((List Int) × (List Int)))))) => (a16.1, (a16.2.1, (a15.2, a16.2.2.2))))) s1.2.1) (fun (a17 : ((Int × Int) × ((Int × Int) × ((List Int) × ((List Int) × (List Int)))))) => (bindO (M_L_markIntS (a17.2.2.2.1, a15.1)) (fun (a18 : (Int × (List Int))) => (bindO (getI (List.modify (List.modify a12 (Int.toNat s1.2.1) (fun (a19 : ((Int × Int) × ((Int × Int) × ((List Int) × ((List Int) × (List Int)))))) => (a19.1, (a19.2.1, (a15.2, a19.2.2.2))))) (Int.toNat s1.2.1) (fun (a20 : ((Int × Int) × ((Int × Int) × ((List Int) × ((List Int) × (List Int)))))) => (a20.1, (a20.2.1, (a20.2.2.1, (a18.2, a20.2.2.2.2)))))) s1.2.1) (fun (a21 : ((Int × Int) × ((Int × Int) × ((List Int) × ((List Int) × (List Int)))))) => (bindO (M_L_markIntS (a21.2.2.2.2, a18.1)) (fun (a22 : (Int × (List Int))) => (bindO (some (IntKind.wrap .i64 (s1.2.1 + (1 : Int)))) (fun (a23 : Int) => (again0 (a22.1, (a23, (List.modify (List.modify (List.modify a12 (Int.toNat s1.2.1) (fun (a24 : ((Int × Int) × ((Int × Int) × ((List Int) × ((List Int) × (List Int)))))) => (a24.1, (a24.2.1, (a15.2, a24.2.2.2))))) (Int.toNat s1.2.1) (fun (a25 : ((Int × Int) × ((Int × Int) × ((List Int) × ((List Int) × (List Int)))))) => (a25.1, (a25.2.1, (a25.2.2.1, (a18.2, a25.2.2.2.2)))))) (Int.toNat s1.2.1) (fun (a26 : ((Int × Int) × ((Int × Int) × ((List Int) × ((List Int) × (List Int)))))) => (a26.1, (a26.2.1, (a26.2.2.1, (a26.2.2.2.1, a22.2))))))))))))))))))))))))))))))))))))))))))))))) (some (s1.1, s1.2.2))))) (x.2, ((0 : Int), x.1)))

noncomputable def c_L_markCastS : Con0 := ⟨pk_L_markCastS, rk_L_markCastS, M_L_markCastS⟩

set_option maxRecDepth 100000 in
theorem eq_L_markCastS (x : In pk_L_markCastS) : semF (mkE [(17, c_L_markIntS)]) h_L_markCastS (info Tryz.f16) pk_L_markCastS rk_L_markCastS x = M_L_markCastS x := (semFF_eq _ _ _ _ _ _).symm.trans (by kernel_rfl)

set_option maxRecDepth 100000 in
theorem m_L_markCastS : ConOK Tryz.prog 16 c_L_markCastS := fn_ok (tyOK _) (E := mkE [(17, c_L_markIntS)]) (consOK_cons m_L_markIntS (consOK_nil rfl)) Tryz.func16 (h := h_L_markCastS) (by kernel_rfl) eq_L_markCastS

/-- L_heldIntS -/
def pk_L_heldIntS : List PK := [.data (.sl (.int .i64)), .data (.int .i64)]
def rk_L_heldIntS : List (Ty × Bool) := [((.int .i64), false)]
def h_L_heldIntS : Hints := { loops := [(0, { items := [.slot 1 (.data (.int .i64) []), .slot 5 (.data (.int .i64) [])], kill := [2, 3, 4, 6, 7, 8, 9, 10, 11, 12, 13, 14, 15, 16, 17, 18, 19, 20] })] }
noncomputable def M_L_heldIntS (x : ((List Int) × Int)) : (Option Int) :=
  (loopO (fun (again0 : ((Int × Int) → (Option Int))) => (fun (s1 : (Int × Int)) => (cond (decide (s1.2 < (((List.length x.1) : Nat) : Int))) (bindO (getI x.1 s1.2) (fun (a2 : Int) => (cond (a2 != s1.1) (some (- (1 : Int))) (bindO (some (IntKind.wrap .i64 (s1.1 + (1 : Int)))) (fun (a3 : Int) => (bindO (some (IntKind.wrap .i64 (s1.2 + (1 : Int)))) (fun (a4 : Int) => (again0 (a3, a4))))))))) (some s1.1)))) (x.2, (0 : Int)))

noncomputable def c_L_heldIntS : Con0 := ⟨pk_L_heldIntS, rk_L_heldIntS, M_L_heldIntS⟩

set_option maxRecDepth 100000 in
theorem eq_L_heldIntS (x : In pk_L_heldIntS) : semF (mkE []) h_L_heldIntS (info Tryz.f18) pk_L_heldIntS rk_L_heldIntS x = M_L_heldIntS x := (semFF_eq _ _ _ _ _ _).symm.trans (by kernel_rfl)

set_option maxRecDepth 100000 in
theorem m_L_heldIntS : ConOK Tryz.prog 18 c_L_heldIntS := fn_ok (tyOK _) (E := mkE []) (consOK_nil rfl) Tryz.func18 (h := h_L_heldIntS) (by kernel_rfl) eq_L_heldIntS

/-- L_FnExactCountedVotes -/
def pk_L_FnExactCountedVotes : List PK := [.data (.cons (.int .i64) (.cons (.int .i64) (.one (.int .i64)))), .data (.int .i64), .data (.int .i64), .data (.sl (.cons (.int .i64) (.one (.int .i64)))), .data (.sl (.cons (.cons (.int .i64) (.one (.int .i64))) (.cons (.cons (.int .i64) (.one (.int .i64))) (.one (.cons (.sl (.int .i64)) (.cons (.sl (.int .i64)) (.one (.sl (.int .i64)))))))))]
def rk_L_FnExactCountedVotes : List (Ty × Bool) := [(.bool, false)]
def h_L_FnExactCountedVotes : Hints := { loops := [] }
noncomputable def M_L_FnExactCountedVotes (x : ((Int × (Int × Int)) × (Int × (Int × ((List (Int × Int)) × (List ((Int × Int) × ((Int × Int) × ((List Int) × ((List Int) × (List Int))))))))))) : (Option Bool) :=
  (bindO (M_L_szCipherS (x.2.2.2.1, (1048576 : Int))) (fun (a0 : Int) => (cond (decide (a0 < (0 : Int))) (some true) (bindO (M_L_szCastS (x.2.2.2.2, a0)) (fun (a1 : Int) => (cond (decide (a1 < (0 : Int))) (some true) (bindO (M_L_toGroup (x.1.1, (x.1.2.1, x.1.2.2))) (fun (a2 : (Int × (Int × Int))) => (bindO (M_L_toCipherS x.2.2.2.1) (fun (a3 : (List (Int × Int))) => (bindO (M_L_toCastS x.2.2.2.2) (fun (a4 : (List ((Int × Int) × ((Int × Int) × ((List Int) × ((List Int) × (List Int))))))) => (bindO (M_S_CountedVotes ((a2.1, (a2.2.1, a2.2.2)), (x.2.1, (x.2.2.1, (a3, a4))))) (fun (a5 : ((List Int) × Bool)) => (bindO (M_L_toCipherS x.2.2.2.1) (fun (a6 : (List (Int × Int))) => (bindO (M_L_toCastS x.2.2.2.2) (fun (a7 : (List ((Int × Int) × ((Int × Int) × ((List Int) × ((List Int) × (List Int))))))) => (bindO (M_L_toGroup (x.1.1, (x.1.2.1, x.1.2.2))) (fun (a8 : (Int × (Int × Int))) => (bindO (M_I_CountedVotes ((a8.1, (a8.2.1, a8.2.2)), (x.2.1, (x.2.2.1, (a6, a7))))) (fun (a9 : ((List Int) × Bool)) => (bindO (M_L_eqIntS (a9.1, a5.1)) (fun (a10 : Bool) => (cond (not a10) (some false) (cond (not (a9.2 == a5.2)) (some false) (bindO (M_L_toCipherS x.2.2.2.1) (fun (a11 : (List (Int × Int))) => (bindO (M_L_eqCipherS (a6, a11)) (fun (a12 : Bool) => (cond (not a12) (some false) (bindO (M_L_toCastS x.2.2.2.2) (fun (a13 : (List ((Int × Int) × ((Int × Int) × ((List Int) × ((List Int) × (List Int))))))) => (bindO (M_L_eqCastS (a7, a13)) (fun (a14 : Bool) => (cond (not a14) (some false) (bindO (M_L_markCipherS (a6, (1 : Int))) (fun (a15 : (Int × (List (Int × Int)))) => (bindO (M_L_markCastS (a7, a15.1)) (fun (a16 : (Int × (List ((Int × Int) × ((Int × Int) × ((List Int) × ((List Int) × (List Int)))))))) => (cond (decide (a16.1 < (0 : Int))) (some false) (bindO (M_L_eqIntS (a9.1, a5.1)) (fun (a17 : Bool) => (cond (not a17) (some false) (cond (not (a9.2 == a5.2)) (some false) (bindO (M_L_markIntS (a9.1, (1 : Int))) (fun (a18 : (Int × (List Int))) => (bindO (M_L_heldIntS (a18.2, (1 : Int))) (fun (a19 : Int) => (cond (decide (a19 < (0 : Int))) (some false) (cond (a19 != a18.1) (some false) (bindO (M_L_toGroup (x.1.1, (x.1.2.1, x.1.2.2))) (fun (a20 : (Int × (Int × Int))) => (bindO (M_L_toCipherS x.2.2.2.1) (fun (a21 : (List (Int × Int))) => (bindO (M_L_toCastS x.2.2.2.2) (fun (a22 : (List ((Int × Int) × ((Int × Int) × ((List Int) × ((List Int) × (List Int))))))) => (bindO (M_I_CountedVotes ((a20.1, (a20.2.1, a20.2.2)), (x.2.1, (x.2.2.1, (a21, a22))))) (fun (a23 : ((List Int) × Bool)) => (bindO (M_L_eqIntS (a23.1, a5.1)) (fun (a24 : Bool) => (cond (not a24) (some false) (cond (not (a23.2 == a5.2)) (some false) (bindO (M_L_heldIntS (a18.2, (1 : Int))) (fun (a25 : Int) => (cond (decide (a25 < (0 : Int))) (some false) (cond (a25 != a18.1) (some false) (some true))))))))))))))))))))))))))))))))))))))))))))))))))))))))))))))))))))

noncomputable def c_L_FnExactCountedVotes : Con0 := ⟨pk_L_FnExactCountedVotes, rk_L_FnExactCountedVotes, M_L_FnExactCountedVotes⟩

set_option maxRecDepth 100000 in
theorem eq_L_FnExactCountedVotes (x : In pk_L_FnExactCountedVotes) : semF (mkE [(5, c_L_szCipherS), (6, c_L_szCastS), (8, c_L_toGroup), (9, c_L_toCipherS), (10, c_L_toCastS), (7, c_S_CountedVotes), (11, c_I_CountedVotes), (12, c_L_eqIntS), (13, c_L_eqCipherS), (14, c_L_eqCastS), (15, c_L_markCipherS), (16, c_L_markCastS), (17, c_L_markIntS), (18, c_L_heldIntS)]) h_L_FnExactCountedVotes (info Tryz.f3) pk_L_FnExactCountedVotes rk_L_FnExactCountedVotes x = M_L_FnExactCountedVotes x := (semFF_eq _ _ _ _ _ _).symm.trans (by kernel_rfl)

set_option maxRecDepth 100000 in
theorem m_L_FnExactCountedVotes : ConOK Tryz.prog 3 c_L_FnExactCountedVotes := fn_ok (tyOK _) (E := mkE [(5, c_L_szCipherS), (6, c_L_szCastS), (8, c_L_toGroup), (9, c_L_toCipherS), (10, c_L_toCastS), (7, c_S_CountedVotes), (11, c_I_CountedVotes), (12, c_L_eqIntS), (13, c_L_eqCipherS), (14, c_L_eqCastS), (15, c_L_markCipherS), (16, c_L_markCastS), (17, c_L_markIntS), (18, c_L_heldIntS)]) (consOK_cons m_L_szCipherS (consOK_cons m_L_szCastS (consOK_cons m_L_toGroup (consOK_cons m_L_toCipherS (consOK_cons m_L_toCastS (consOK_cons m_S_CountedVotes (consOK_cons m_I_CountedVotes (consOK_cons m_L_eqIntS (consOK_cons m_L_eqCipherS (consOK_cons m_L_eqCastS (consOK_cons m_L_markCipherS (consOK_cons m_L_markCastS (consOK_cons m_L_markIntS (consOK_cons m_L_heldIntS (consOK_nil rfl))))))))))))))) Tryz.func3 (h := h_L_FnExactCountedVotes) (by kernel_rfl) eq_L_FnExactCountedVotes

end Go.Proofs.YtgjneigkkgaaiaaGreat.Vd
