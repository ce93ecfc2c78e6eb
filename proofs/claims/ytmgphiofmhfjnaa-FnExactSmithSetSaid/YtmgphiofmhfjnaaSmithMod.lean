/- The functions of the law as plain functions on data, and that the program's functions are these. No conditions. -/
import Derived.Test.YtmgphiofmhfjnaaVd3
import Derived.Test.YtmgphiofmhfjnaaChecked
import Derived.KernelRfl
set_option linter.unusedVariables false
namespace Go.Proofs.Ytmgphiofmhfjnaa.Vd
def tys : List (Option Ty) := [none, none, some (.int .i64), some (.int .i64), some .bool, some (.int .u8), some (.int .u8), some (.cons (.int .i64) (.cons (.int .i64) (.cons .bool (.one (.int .u8))))), some (.cons (.int .i64) (.cons (.int .i64) (.cons .bool (.one (.int .u8))))), some .str, some .str, some .str, some (.int .u64), some (.cons .str (.one (.int .u64))), some (.cons .str (.one (.int .u64))), none, none, none, none, none, none, some (.int .i32), some (.sl (.sl (.int .i64))), none, none, none, none, none, none, some (.cons (.int .i64) (.cons (.int .i64) (.one (.int .i64)))), some (.cons (.int .i64) (.cons (.int .i64) (.one (.int .i64)))), some (.sl (.int .i64)), none, none, some (.cons (.int .i64) (.cons (.int .i64) (.one (.int .i64)))), none, none, none, none, none, none, none, none, none, none, none, none, none, none, none, some (.sl (.cons (.int .i64) (.one (.int .i64)))), none, none, none, none, none, some (.sl (.cons (.int .i64) (.one (.int .i64)))), none, none, none, none, none, none, none, some (.int .u64), none, none, none, none, none, none, none, none, none, none, none, none, none, none, some (.cons (.int .i64) (.one (.int .i64))), some (.cons (.int .i64) (.one (.int .i64))), none, none, none, none, none, none, none, none, none, none, none, none, some (.cons (.int .i64) (.one (.int .i64))), none, none, none, none, none, none, none, none, none, none, none, none, some (.int .u32), none, some (.int .u64), none, none, none, none, none, none, none, none, some (.cons (.int .i64) (.one (.int .i64))), some (.cons (.int .i64) (.one (.int .i64))), none, none, none, none, none, none, none, none, some (.int .u8), some (.int .u8), none, none, some (.int .i32), some (.int .i32), none, none, none]
def others : List Nat := [1, 15, 16, 17, 23, 25, 26, 27, 28, 33, 35, 36, 37, 38, 39, 40, 41, 42, 43, 45, 46, 47, 49, 52, 53, 54, 55, 57, 58, 59, 60, 61, 62, 63, 65, 66, 67, 68, 69, 70, 71, 72, 73, 74, 75, 76, 77, 78, 81, 82, 83, 84, 85, 86, 87, 88, 89, 90, 91, 92, 94, 95, 96, 97, 98, 99, 100, 101, 102, 103, 104, 105, 107, 109, 110, 111, 112, 113, 114, 115, 116, 119, 120, 126, 129, 130]
def pairs : List Nat := [79, 80, 93, 117, 118]
noncomputable def mkE (con : List (Nat × Con0)) : Env := ⟨[], tys, others, pairs, con⟩

set_option maxRecDepth 100000 in
theorem tyOK (con : List (Nat × Con0)) : TyOK Try.prog (mkE con) := tyOK_of (E := mkE con) (by kernel_rfl) (by kernel_rfl) (by kernel_rfl)

/-- L_szIntS -/
def pk_L_szIntS : List PK := [.data (.sl (.int .i64)), .data (.int .i64)]
def rk_L_szIntS : List (Ty × Bool) := [((.int .i64), false)]
def h_L_szIntS : Hints := { loops := [] }
noncomputable def M_L_szIntS (x : ((List Int) × Int)) : (Option Int) :=
  (bindO (some (IntKind.wrap .i64 (x.2 - (((List.length x.1) : Nat) : Int)))) (fun (a0 : Int) => (cond (decide (a0 < (0 : Int))) (some (- (1 : Int))) (some a0))))

noncomputable def c_L_szIntS : Con0 := ⟨pk_L_szIntS, rk_L_szIntS, M_L_szIntS⟩

set_option maxRecDepth 100000 in
theorem eq_L_szIntS (x : In pk_L_szIntS) : semF (mkE []) h_L_szIntS (info Try.f54) pk_L_szIntS rk_L_szIntS x = M_L_szIntS x := by kernel_rfl

set_option maxRecDepth 100000 in
theorem m_L_szIntS : ConOK Try.prog 54 c_L_szIntS := fn_ok (tyOK _) (E := mkE []) (consOK_nil rfl) Try.func54 (h := h_L_szIntS) (by kernel_rfl) eq_L_szIntS

/-- L_szIntSS -/
def pk_L_szIntSS : List PK := [.data (.sl (.sl (.int .i64))), .data (.int .i64)]
def rk_L_szIntSS : List (Ty × Bool) := [((.int .i64), false)]
def h_L_szIntSS : Hints := { loops := [(0, { items := [.slot 1 (.data (.int .i64) []), .slot 5 (.data (.int .i64) [])], kill := [2, 3, 4, 6, 7, 8, 9, 10, 11, 12, 13, 14, 15, 16, 17, 18, 19, 20, 21, 22, 23, 24, 25, 26] })] }
noncomputable def M_L_szIntSS (x : ((List (List Int)) × Int)) : (Option Int) :=
  (bindO (some (IntKind.wrap .i64 (x.2 - (((List.length x.1) : Nat) : Int)))) (fun (a0 : Int) => (cond (decide (a0 < (0 : Int))) (some (- (1 : Int))) (loopO (fun (again1 : ((Int × Int) → (Option Int))) => (fun (s2 : (Int × Int)) => (cond (decide (s2.2 < (((List.length x.1) : Nat) : Int))) (bindO (getI x.1 s2.2) (fun (a3 : (List Int)) => (bindO (M_L_szIntS (a3, s2.1)) (fun (a4 : Int) => (cond (decide (a4 < (0 : Int))) (some (- (1 : Int))) (bindO (some (IntKind.wrap .i64 (s2.2 + (1 : Int)))) (fun (a5 : Int) => (again1 (a4, a5))))))))) (some s2.1)))) (a0, (0 : Int))))))

noncomputable def c_L_szIntSS : Con0 := ⟨pk_L_szIntSS, rk_L_szIntSS, M_L_szIntSS⟩

set_option maxRecDepth 100000 in
theorem eq_L_szIntSS (x : In pk_L_szIntSS) : semF (mkE [(54, c_L_szIntS)]) h_L_szIntSS (info Try.f15) pk_L_szIntSS rk_L_szIntSS x = M_L_szIntSS x := by kernel_rfl

set_option maxRecDepth 100000 in
theorem m_L_szIntSS : ConOK Try.prog 15 c_L_szIntSS := fn_ok (tyOK _) (E := mkE [(54, c_L_szIntS)]) (consOK_cons m_L_szIntS (consOK_nil rfl)) Try.func15 (h := h_L_szIntSS) (by kernel_rfl) eq_L_szIntSS

/-- L_toIntS -/
def pk_L_toIntS : List PK := [.data (.sl (.int .i64))]
def rk_L_toIntS : List (Ty × Bool) := [((.sl (.int .i64)), true)]
def h_L_toIntS : Hints := { loops := [(0, { items := [.slot 4 (.data (.int .i64) []), .arr 3 (.int .i64) true], kill := [1, 2, 5, 6, 7, 8, 9, 10, 11, 12, 13, 14, 15, 16, 17, 18, 19, 20, 21] })] }
noncomputable def M_L_toIntS (x : (List Int)) : (Option (List Int)) :=
  (bindO (guardO (((decide ((0 : Int) ≤ (((List.length x) : Nat) : Int))) && (decide ((((List.length x) : Nat) : Int) ≤ (((List.length x) : Nat) : Int)))) && (decide ((((List.length x) : Nat) : Int) ≤ ((lim : Nat) : Int))))) (fun (a0 : Unit) => (loopO (fun (again1 : ((Int × (List Int)) → (Option (List Int)))) => (fun (s2 : (Int × (List Int))) => (cond (decide (s2.1 < (((List.length x) : Nat) : Int))) (bindO (getI x s2.1) (fun (a3 : Int) => (bindO (getI s2.2 s2.1) (fun (a4 : Int) => (bindO (some (List.set s2.2 (Int.toNat s2.1) a3)) (fun (a5 : (List Int)) => (bindO (some (IntKind.wrap .i64 (s2.1 + (1 : Int)))) (fun (a6 : Int) => (again1 (a6, a5)))))))))) (some s2.2)))) ((0 : Int), (List.replicate (Int.toNat (((List.length x) : Nat) : Int)) (0 : Int))))))

noncomputable def c_L_toIntS : Con0 := ⟨pk_L_toIntS, rk_L_toIntS, M_L_toIntS⟩

set_option maxRecDepth 100000 in
theorem eq_L_toIntS (x : In pk_L_toIntS) : semF (mkE []) h_L_toIntS (info Try.f22) pk_L_toIntS rk_L_toIntS x = M_L_toIntS x := by kernel_rfl

set_option maxRecDepth 100000 in
theorem m_L_toIntS : ConOK Try.prog 22 c_L_toIntS := fn_ok (tyOK _) (E := mkE []) (consOK_nil rfl) Try.func22 (h := h_L_toIntS) (by kernel_rfl) eq_L_toIntS

/-- L_toIntSS -/
def pk_L_toIntSS : List PK := [.data (.sl (.sl (.int .i64)))]
def rk_L_toIntSS : List (Ty × Bool) := [((.sl (.sl (.int .i64))), true)]
def h_L_toIntSS : Hints := { loops := [(0, { items := [.slot 4 (.data (.int .i64) []), .arr 3 (.sl (.int .i64)) true], kill := [1, 2, 5, 6, 7, 8, 9, 10, 11, 12, 13, 14, 15, 16, 17, 18, 19, 20, 21, 22] })] }
noncomputable def M_L_toIntSS (x : (List (List Int))) : (Option (List (List Int))) :=
  (bindO (guardO (((decide ((0 : Int) ≤ (((List.length x) : Nat) : Int))) && (decide ((((List.length x) : Nat) : Int) ≤ (((List.length x) : Nat) : Int)))) && (decide ((((List.length x) : Nat) : Int) ≤ ((lim : Nat) : Int))))) (fun (a0 : Unit) => (loopO (fun (again1 : ((Int × (List (List Int))) → (Option (List (List Int))))) => (fun (s2 : (Int × (List (List Int)))) => (cond (decide (s2.1 < (((List.length x) : Nat) : Int))) (bindO (getI x s2.1) (fun (a3 : (List Int)) => (bindO (M_L_toIntS a3) (fun (a4 : (List Int)) => (bindO (getI s2.2 s2.1) (fun (a5 : (List Int)) => (bindO (some (List.set s2.2 (Int.toNat s2.1) a4)) (fun (a6 : (List (List Int))) => (bindO (some (IntKind.wrap .i64 (s2.1 + (1 : Int)))) (fun (a7 : Int) => (again1 (a7, a6)))))))))))) (some s2.2)))) ((0 : Int), (List.replicate (Int.toNat (((List.length x) : Nat) : Int)) ([] : List Int))))))

noncomputable def c_L_toIntSS : Con0 := ⟨pk_L_toIntSS, rk_L_toIntSS, M_L_toIntSS⟩

set_option maxRecDepth 100000 in
theorem eq_L_toIntSS (x : In pk_L_toIntSS) : semF (mkE [(22, c_L_toIntS)]) h_L_toIntSS (info Try.f17) pk_L_toIntSS rk_L_toIntSS x = M_L_toIntSS x := by kernel_rfl

set_option maxRecDepth 100000 in
theorem m_L_toIntSS : ConOK Try.prog 17 c_L_toIntSS := fn_ok (tyOK _) (E := mkE [(22, c_L_toIntS)]) (consOK_cons m_L_toIntS (consOK_nil rfl)) Try.func17 (h := h_L_toIntSS) (by kernel_rfl) eq_L_toIntSS

/-- S_l1In -/
def pk_S_l1In : List PK := [.data (.int .i64), .data (.int .i64), .data (.int .i64)]
def rk_S_l1In : List (Ty × Bool) := [(.bool, false)]
def h_S_l1In : Hints := { loops := [] }
noncomputable def M_S_l1In (x : (Int × (Int × Int))) : (Option Bool) :=
  (cond (decide (x.1 ≥ x.2.1)) (some (decide (x.1 ≤ x.2.2))) (some false))

noncomputable def c_S_l1In : Con0 := ⟨pk_S_l1In, rk_S_l1In, M_S_l1In⟩

set_option maxRecDepth 100000 in
theorem eq_S_l1In (x : In pk_S_l1In) : semF (mkE []) h_S_l1In (info Try.f61) pk_S_l1In rk_S_l1In x = M_S_l1In x := by kernel_rfl

set_option maxRecDepth 100000 in
theorem m_S_l1In : ConOK Try.prog 61 c_S_l1In := fn_ok (tyOK _) (E := mkE []) (consOK_nil rfl) Try.func61 (h := h_S_l1In) (by kernel_rfl) eq_S_l1In

/-- S_l1All -/
def pk_S_l1All : List PK := [.data (.sl (.int .i64)), .data (.int .i64), .data (.int .i64)]
def rk_S_l1All : List (Ty × Bool) := [(.bool, false)]
def h_S_l1All : Hints := { loops := [(0, { items := [.slot 11 (.data (.int .i64) [])], kill := [0, 3, 4, 5, 6, 7, 8, 12, 13, 14, 15, 16, 17, 18, 19, 20] })] }
noncomputable def M_S_l1All (x : ((List Int) × (Int × Int))) : (Option Bool) :=
  (loopO (fun (again0 : (Int → (Option Bool))) => (fun (s1 : Int) => (cond (decide (s1 < (((List.length x.1) : Nat) : Int))) (bindO (getI x.1 s1) (fun (a2 : Int) => (bindO (M_S_l1In (a2, (x.2.1, x.2.2))) (fun (a3 : Bool) => (cond (not a3) (some false) (bindO (some (IntKind.wrap .i64 (s1 + (1 : Int)))) (fun (a4 : Int) => (again0 a4)))))))) (some true)))) (0 : Int))

noncomputable def c_S_l1All : Con0 := ⟨pk_S_l1All, rk_S_l1All, M_S_l1All⟩

set_option maxRecDepth 100000 in
theorem eq_S_l1All (x : In pk_S_l1All) : semF (mkE [(61, c_S_l1In)]) h_S_l1All (info Try.f73) pk_S_l1All rk_S_l1All x = M_S_l1All x := by kernel_rfl

set_option maxRecDepth 100000 in
theorem m_S_l1All : ConOK Try.prog 73 c_S_l1All := fn_ok (tyOK _) (E := mkE [(61, c_S_l1In)]) (consOK_cons m_S_l1In (consOK_nil rfl)) Try.func73 (h := h_S_l1All) (by kernel_rfl) eq_S_l1All

/-- S_tMatrix -/
def pk_S_tMatrix : List PK := [.data (.sl (.sl (.int .i64)))]
def rk_S_tMatrix : List (Ty × Bool) := [(.bool, false)]
def h_S_tMatrix : Hints := { loops := [(0, { items := [.slot 11 (.data (.int .i64) [])], kill := [1, 2, 3, 4, 5, 6, 7, 8, 12, 13, 14, 15, 16, 17, 18, 19, 20, 21, 22, 23, 24, 25] })] }
noncomputable def M_S_tMatrix (x : (List (List Int))) : (Option Bool) :=
  (bindO (M_S_l1In ((((List.length x) : Nat) : Int), ((1 : Int), (8 : Int)))) (fun (a0 : Bool) => (cond (not a0) (some false) (loopO (fun (again1 : (Int → (Option Bool))) => (fun (s2 : Int) => (cond (decide (s2 < (((List.length x) : Nat) : Int))) (bindO (getI x s2) (fun (a3 : (List Int)) => (cond ((((List.length a3) : Nat) : Int) != (((List.length x) : Nat) : Int)) (some false) (bindO (M_S_l1All (a3, ((0 : Int), (1000000 : Int)))) (fun (a4 : Bool) => (cond (not a4) (some false) (bindO (some (IntKind.wrap .i64 (s2 + (1 : Int)))) (fun (a5 : Int) => (again1 a5))))))))) (some true)))) (0 : Int)))))

noncomputable def c_S_tMatrix : Con0 := ⟨pk_S_tMatrix, rk_S_tMatrix, M_S_tMatrix⟩

set_option maxRecDepth 100000 in
theorem eq_S_tMatrix (x : In pk_S_tMatrix) : semF (mkE [(61, c_S_l1In), (73, c_S_l1All)]) h_S_tMatrix (info Try.f55) pk_S_tMatrix rk_S_tMatrix x = M_S_tMatrix x := by kernel_rfl

set_option maxRecDepth 100000 in
theorem m_S_tMatrix : ConOK Try.prog 55 c_S_tMatrix := fn_ok (tyOK _) (E := mkE [(61, c_S_l1In), (73, c_S_l1All)]) (consOK_cons m_S_l1In (consOK_cons m_S_l1All (consOK_nil rfl))) Try.func55 (h := h_S_tMatrix) (by kernel_rfl) eq_S_tMatrix

/-- S_tBeats -/
def pk_S_tBeats : List PK := [.data (.sl (.sl (.int .i64))), .data (.int .i64)]
def rk_S_tBeats : List (Ty × Bool) := [(.bool, false)]
def h_S_tBeats : Hints := { loops := [(0, { items := [.slot 9 (.data (.int .i64) [])], kill := [2, 3, 4, 5, 6, 7, 10, 11, 12, 13, 14, 15, 16, 17, 18, 19, 20, 21, 22, 23, 24, 25, 26, 27, 28, 29, 30, 31, 32, 33, 34, 35, 36, 37, 38, 39, 40, 41, 42, 43, 44, 45, 46, 47, 48, 49] }), (2, { items := [.slot 14 (.data (.int .i64) [])], kill := [2, 3, 4, 6, 7, 10, 11, 12, 15, 16, 17, 18, 19, 20, 21, 22, 23, 24, 25, 26, 27, 28, 29, 30, 31, 32, 33, 34, 35, 36, 37, 38, 39, 40, 41, 42, 43, 44, 45, 46, 47, 48, 49] })] }
noncomputable def M_S_tBeats (x : ((List (List Int)) × Int)) : (Option Bool) :=
  (loopO (fun (again0 : (Int → (Option Bool))) => (fun (s1 : Int) => (cond (decide (s1 < (((List.length x.1) : Nat) : Int))) (loopO (fun (again2 : (Int → (Option Bool))) => (fun (s3 : Int) => (cond (decide (s3 < (((List.length x.1) : Nat) : Int))) (bindO (guardO (decide ((0 : Int) ≤ (IntKind.wrap .u64 s1)))) (fun (a4 : Unit) => (bindO (some (shr .i64 x.2 (IntKind.wrap .u64 s1))) (fun (a5 : Int) => (bindO (some (bits .and .i64 a5 (1 : Int))) (fun (a6 : Int) => (cond (a6 == (1 : Int)) (bindO (guardO (decide ((0 : Int) ≤ (IntKind.wrap .u64 s3)))) (fun (a7 : Unit) => (bindO (some (shr .i64 x.2 (IntKind.wrap .u64 s3))) (fun (a8 : Int) => (bindO (some (bits .and .i64 a8 (1 : Int))) (fun (a9 : Int) => (cond (a9 == (0 : Int)) (bindO (getI x.1 s1) (fun (a10 : (List Int)) => (bindO (getI a10 s3) (fun (a11 : Int) => (bindO (getI x.1 s3) (fun (a12 : (List Int)) => (bindO (getI a12 s1) (fun (a13 : Int) => (cond (decide (a11 ≤ a13)) (some false) (bindO (some (IntKind.wrap .i64 (s3 + (1 : Int)))) (fun (a14 : Int) => (again2 a14)))))))))))) (bindO (some (IntKind.wrap .i64 (s3 + (1 : Int)))) (fun (a15 : Int) => (again2 a15)))))))))) (bindO (some (IntKind.wrap .i64 (s3 + (1 : Int)))) (fun (a16 : Int) => (again2 a16)))))))))) (bindO (some (IntKind.wrap .i64 (s1 + (1 : Int)))) (fun (a17 : Int) => (again0 a17)))))) (0 : Int)) (some true)))) (0 : Int))

noncomputable def c_S_tBeats : Con0 := ⟨pk_S_tBeats, rk_S_tBeats, M_S_tBeats⟩

set_option maxRecDepth 100000 in
theorem eq_S_tBeats (x : In pk_S_tBeats) : semF (mkE []) h_S_tBeats (info Try.f56) pk_S_tBeats rk_S_tBeats x = M_S_tBeats x := by kernel_rfl

set_option maxRecDepth 100000 in
theorem m_S_tBeats : ConOK Try.prog 56 c_S_tBeats := fn_ok (tyOK _) (E := mkE []) (consOK_nil rfl) Try.func56 (h := h_S_tBeats) (by kernel_rfl) eq_S_tBeats

/-- S_kOnes -/
def pk_S_kOnes : List PK := [.data (.int .i64)]
def rk_S_kOnes : List (Ty × Bool) := [((.int .i64), false)]
def h_S_kOnes : Hints := { loops := [(0, { items := [.slot 0 (.data (.int .i64) []), .slot 3 (.data (.int .i64) [])], kill := [1, 2, 4, 5, 6, 7, 8, 9, 10, 11, 12] })] }
noncomputable def M_S_kOnes (x : Int) : (Option Int) :=
  (loopO (fun (again0 : ((Int × Int) → (Option Int))) => (fun (s1 : (Int × Int)) => (cond (decide (s1.1 > (0 : Int))) (bindO (guardO ((2 : Int) != (0 : Int))) (fun (a2 : Unit) => (bindO (some (Int.tmod s1.1 (2 : Int))) (fun (a3 : Int) => (bindO (some (IntKind.wrap .i64 (s1.2 + a3))) (fun (a4 : Int) => (bindO (guardO ((2 : Int) != (0 : Int))) (fun (a5 : Unit) => (bindO (some (IntKind.wrap .i64 (Int.tdiv s1.1 (2 : Int)))) (fun (a6 : Int) => (again0 (a6, a4)))))))))))) (some s1.2)))) (x, (0 : Int)))

noncomputable def c_S_kOnes : Con0 := ⟨pk_S_kOnes, rk_S_kOnes, M_S_kOnes⟩

set_option maxRecDepth 100000 in
theorem eq_S_kOnes (x : In pk_S_kOnes) : semF (mkE []) h_S_kOnes (info Try.f98) pk_S_kOnes rk_S_kOnes x = M_S_kOnes x := by kernel_rfl

set_option maxRecDepth 100000 in
theorem m_S_kOnes : ConOK Try.prog 98 c_S_kOnes := fn_ok (tyOK _) (E := mkE []) (consOK_nil rfl) Try.func98 (h := h_S_kOnes) (by kernel_rfl) eq_S_kOnes

/-- S_SmithSet -/
def pk_S_SmithSet : List PK := [.data (.sl (.sl (.int .i64)))]
def rk_S_SmithSet : List (Ty × Bool) := [((.sl (.int .i64)), true), (.bool, false)]
def h_S_SmithSet : Hints := { loops := [(0, { items := [.slot 4 (.data (.int .i64) []), .slot 5 (.data (.int .i64) [])], kill := [1, 2, 3, 6, 7, 8, 9, 10, 11, 12, 13, 14, 15, 16, 17, 18, 19, 20, 21, 22, 23, 24, 25, 26, 27, 28, 29, 30, 31, 32, 33, 34, 35, 36, 37, 38, 39, 40, 41, 42, 43, 44, 45, 46, 47, 48, 49, 50, 51] }), (2, { items := [.slot 6 (.own (.int .i64) true), .slot 37 (.data (.int .i64) [])], kill := [0, 1, 2, 3, 5, 7, 8, 9, 10, 11, 12, 13, 14, 15, 16, 17, 18, 19, 20, 21, 22, 23, 24, 25, 26, 27, 28, 29, 30, 31, 32, 33, 34, 35, 38, 39, 40, 41, 42, 43, 44, 45, 46, 47, 48, 49, 50, 51] })] }
noncomputable def M_S_SmithSet (x : (List (List Int))) : (Option ((List Int) × Bool)) :=
  (bindO (M_S_tMatrix x) (fun (a0 : Bool) => (cond (not a0) (some (([] : List Int), false)) (bindO (guardO (decide ((0 : Int) ≤ (IntKind.wrap .u64 (((List.length x) : Nat) : Int))))) (fun (a1 : Unit) => (bindO (some (shl .i64 (1 : Int) (IntKind.wrap .u64 (((List.length x) : Nat) : Int)))) (fun (a2 : Int) => (bindO (some (IntKind.wrap .i64 (a2 - (1 : Int)))) (fun (a3 : Int) => (loopO (fun (again4 : ((Int × Int) → (Option ((List Int) × Bool)))) => (fun (s5 : (Int × Int)) => (bindO (guardO (decide ((0 : Int) ≤ (IntKind.wrap .u64 (((List.length x) : Nat) : Int))))) (fun (a6 : Unit) => (bindO (some (shl .i64 (1 : Int) (IntKind.wrap .u64 (((List.length x) : Nat) : Int)))) (fun (a7 : Int) => (cond (decide (s5.2 < a7)) (bindO (M_S_tBeats (x, s5.2)) (fun (a8 : Bool) => (cond a8 (bindO (M_S_kOnes s5.2) (fun (a9 : Int) => (bindO (M_S_kOnes s5.1) (fun (a10 : Int) => (cond (decide (a9 < a10)) (bindO (some (IntKind.wrap .i64 (s5.2 + (1 : Int)))) (fun (a11 : Int) => (again4 (s5.2, a11)))) (bindO (some (IntKind.wrap .i64 (s5.2 + (1 : Int)))) (fun (a12 : Int) => (again4 (s5.1, a12))))))))) (bindO (some (IntKind.wrap .i64 (s5.2 + (1 : Int)))) (fun (a13 : Int) => (again4 (s5.1, a13))))))) (loopO (fun (again14 : (((List Int) × Int) → (Option ((List Int) × Bool)))) => (fun (s15 : ((List Int) × Int)) => (cond (decide (s15.2 < (((List.length x) : Nat) : Int))) (bindO (guardO (decide ((0 : Int) ≤ (IntKind.wrap .u64 s15.2)))) (fun (a16 : Unit) => (bindO (some (shr .i64 s5.1 (IntKind.wrap .u64 s15.2))) (fun (a17 : Int) => (bindO (some (bits .and .i64 a17 (1 : Int))) (fun (a18 : Int) => (cond (a18 == (1 : Int)) (bindO (guardO (lenOk ((List.length s15.1) + (List.length (s15.2 :: ([] : List Int)))))) (fun (a19 : Unit) => (bindO (some (s15.1 ++ (s15.2 :: ([] : List Int)))) (fun (a20 : (List Int)) => (bindO (some (IntKind.wrap .i64 (s15.2 + (1 : Int)))) (fun (a21 : Int) => (again14 (a20, a21)))))))) (bindO (some (IntKind.wrap .i64 (s15.2 + (1 : Int)))) (fun (a22 : Int) => (again14 (s15.1, a22))))))))))) (some (s15.1, true))))) (([] : List Int), (0 : Int)))))))))) (a3, (1 : Int))))))))))))

noncomputable def c_S_SmithSet : Con0 := ⟨pk_S_SmithSet, rk_S_SmithSet, M_S_SmithSet⟩

set_option maxRecDepth 100000 in
theorem eq_S_SmithSet (x : In pk_S_SmithSet) : semF (mkE [(55, c_S_tMatrix), (56, c_S_tBeats), (98, c_S_kOnes)]) h_S_SmithSet (info Try.f46) pk_S_SmithSet rk_S_SmithSet x = M_S_SmithSet x := by kernel_rfl

set_option maxRecDepth 100000 in
theorem m_S_SmithSet : ConOK Try.prog 46 c_S_SmithSet := fn_ok (tyOK _) (E := mkE [(55, c_S_tMatrix), (56, c_S_tBeats), (98, c_S_kOnes)]) (consOK_cons m_S_tMatrix (consOK_cons m_S_tBeats (consOK_cons m_S_kOnes (consOK_nil rfl)))) Try.func46 (h := h_S_SmithSet) (by kernel_rfl) eq_S_SmithSet

/-- I_within -/
def pk_I_within : List PK := [.data (.int .i64), .data (.int .i64), .data (.int .i64)]
def rk_I_within : List (Ty × Bool) := [(.bool, false)]
def h_I_within : Hints := { loops := [] }
noncomputable def M_I_within (x : (Int × (Int × Int))) : (Option Bool) :=
  (cond (decide (x.1 ≥ x.2.1)) (some (decide (x.1 ≤ x.2.2))) (some false))

noncomputable def c_I_within : Con0 := ⟨pk_I_within, rk_I_within, M_I_within⟩

set_option maxRecDepth 100000 in
theorem eq_I_within (x : In pk_I_within) : semF (mkE []) h_I_within (info Try.f65) pk_I_within rk_I_within x = M_I_within x := by kernel_rfl

set_option maxRecDepth 100000 in
theorem m_I_within : ConOK Try.prog 65 c_I_within := fn_ok (tyOK _) (E := mkE []) (consOK_nil rfl) Try.func65 (h := h_I_within) (by kernel_rfl) eq_I_within

/-- slices_IndexFunc_ssint_sint -/
def pk_slices_IndexFunc_ssint_sint : List PK := [.data (.sl (.sl (.int .i64))), .fn [(.sl (.int .i64))] .bool]
def rk_slices_IndexFunc_ssint_sint : List (Ty × Bool) := [((.int .i64), false)]
def h_slices_IndexFunc_ssint_sint : Hints := { loops := [(0, { items := [.slot 8 (.data (.int .i64) [])], kill := [2, 3, 4, 5, 6, 9, 10, 11, 12, 13, 14, 15, 16, 17, 18] })] }
noncomputable def M_slices_IndexFunc_ssint_sint (x : ((List (List Int)) × ((List Int) → (Option Bool)))) : (Option Int) :=
  (loopO (fun (again0 : (Int → (Option Int))) => (fun (s1 : Int) => (cond (decide (s1 < (((List.length x.1) : Nat) : Int))) (bindO (getI x.1 s1) (fun (a2 : (List Int)) => (bindO (x.2 a2) (fun (a3 : Bool) => (cond a3 (some s1) (bindO (some (IntKind.wrap .i64 (s1 + (1 : Int)))) (fun (a4 : Int) => (again0 a4)))))))) (some (- (1 : Int)))))) (0 : Int))

noncomputable def c_slices_IndexFunc_ssint_sint : Con0 := ⟨pk_slices_IndexFunc_ssint_sint, rk_slices_IndexFunc_ssint_sint, M_slices_IndexFunc_ssint_sint⟩

set_option maxRecDepth 100000 in
theorem eq_slices_IndexFunc_ssint_sint (x : In pk_slices_IndexFunc_ssint_sint) : semF (mkE []) h_slices_IndexFunc_ssint_sint (info Try.f144) pk_slices_IndexFunc_ssint_sint rk_slices_IndexFunc_ssint_sint x = M_slices_IndexFunc_ssint_sint x := by kernel_rfl

set_option maxRecDepth 100000 in
theorem m_slices_IndexFunc_ssint_sint : ConOK Try.prog 144 c_slices_IndexFunc_ssint_sint := fn_ok (tyOK _) (E := mkE []) (consOK_nil rfl) Try.func144 (h := h_slices_IndexFunc_ssint_sint) (by kernel_rfl) eq_slices_IndexFunc_ssint_sint

/-- slices_ContainsFunc_ssint_sint -/
def pk_slices_ContainsFunc_ssint_sint : List PK := [.data (.sl (.sl (.int .i64))), .fn [(.sl (.int .i64))] .bool]
def rk_slices_ContainsFunc_ssint_sint : List (Ty × Bool) := [(.bool, false)]
def h_slices_ContainsFunc_ssint_sint : Hints := { loops := [] }
noncomputable def M_slices_ContainsFunc_ssint_sint (x : ((List (List Int)) × ((List Int) → (Option Bool)))) : (Option Bool) :=
  (bindO (M_slices_IndexFunc_ssint_sint (x.1, x.2)) (fun (a0 : Int) => (some (decide (a0 ≥ (0 : Int))))))

noncomputable def c_slices_ContainsFunc_ssint_sint : Con0 := ⟨pk_slices_ContainsFunc_ssint_sint, rk_slices_ContainsFunc_ssint_sint, M_slices_ContainsFunc_ssint_sint⟩

set_option maxRecDepth 100000 in
theorem eq_slices_ContainsFunc_ssint_sint (x : In pk_slices_ContainsFunc_ssint_sint) : semF (mkE [(144, c_slices_IndexFunc_ssint_sint)]) h_slices_ContainsFunc_ssint_sint (info Try.f111) pk_slices_ContainsFunc_ssint_sint rk_slices_ContainsFunc_ssint_sint x = M_slices_ContainsFunc_ssint_sint x := by kernel_rfl

set_option maxRecDepth 100000 in
theorem m_slices_ContainsFunc_ssint_sint : ConOK Try.prog 111 c_slices_ContainsFunc_ssint_sint := fn_ok (tyOK _) (E := mkE [(144, c_slices_IndexFunc_ssint_sint)]) (consOK_cons m_slices_IndexFunc_ssint_sint (consOK_nil rfl)) Try.func111 (h := h_slices_ContainsFunc_ssint_sint) (by kernel_rfl) eq_slices_ContainsFunc_ssint_sint

/-- slices_IndexFunc_sint_int -/
def pk_slices_IndexFunc_sint_int : List PK := [.data (.sl (.int .i64)), .fn [(.int .i64)] .bool]
def rk_slices_IndexFunc_sint_int : List (Ty × Bool) := [((.int .i64), false)]
def h_slices_IndexFunc_sint_int : Hints := { loops := [(0, { items := [.slot 8 (.data (.int .i64) [])], kill := [2, 3, 4, 5, 6, 9, 10, 11, 12, 13, 14, 15, 16, 17, 18] })] }
noncomputable def M_slices_IndexFunc_sint_int (x : ((List Int) × (Int → (Option Bool)))) : (Option Int) :=
  (loopO (fun (again0 : (Int → (Option Int))) => (fun (s1 : Int) => (cond (decide (s1 < (((List.length x.1) : Nat) : Int))) (bindO (getI x.1 s1) (fun (a2 : Int) => (bindO (x.2 a2) (fun (a3 : Bool) => (cond a3 (some s1) (bindO (some (IntKind.wrap .i64 (s1 + (1 : Int)))) (fun (a4 : Int) => (again0 a4)))))))) (some (- (1 : Int)))))) (0 : Int))

noncomputable def c_slices_IndexFunc_sint_int : Con0 := ⟨pk_slices_IndexFunc_sint_int, rk_slices_IndexFunc_sint_int, M_slices_IndexFunc_sint_int⟩

set_option maxRecDepth 100000 in
theorem eq_slices_IndexFunc_sint_int (x : In pk_slices_IndexFunc_sint_int) : semF (mkE []) h_slices_IndexFunc_sint_int (info Try.f154) pk_slices_IndexFunc_sint_int rk_slices_IndexFunc_sint_int x = M_slices_IndexFunc_sint_int x := by kernel_rfl

set_option maxRecDepth 100000 in
theorem m_slices_IndexFunc_sint_int : ConOK Try.prog 154 c_slices_IndexFunc_sint_int := fn_ok (tyOK _) (E := mkE []) (consOK_nil rfl) Try.func154 (h := h_slices_IndexFunc_sint_int) (by kernel_rfl) eq_slices_IndexFunc_sint_int

/-- slices_ContainsFunc_sint_int -/
def pk_slices_ContainsFunc_sint_int : List PK := [.data (.sl (.int .i64)), .fn [(.int .i64)] .bool]
def rk_slices_ContainsFunc_sint_int : List (Ty × Bool) := [(.bool, false)]
def h_slices_ContainsFunc_sint_int : Hints := { loops := [] }
noncomputable def M_slices_ContainsFunc_sint_int (x : ((List Int) × (Int → (Option Bool)))) : (Option Bool) :=
  (bindO (M_slices_IndexFunc_sint_int (x.1, x.2)) (fun (a0 : Int) => (some (decide (a0 ≥ (0 : Int))))))

noncomputable def c_slices_ContainsFunc_sint_int : Con0 := ⟨pk_slices_ContainsFunc_sint_int, rk_slices_ContainsFunc_sint_int, M_slices_ContainsFunc_sint_int⟩

set_option maxRecDepth 100000 in
theorem eq_slices_ContainsFunc_sint_int (x : In pk_slices_ContainsFunc_sint_int) : semF (mkE [(154, c_slices_IndexFunc_sint_int)]) h_slices_ContainsFunc_sint_int (info Try.f130) pk_slices_ContainsFunc_sint_int rk_slices_ContainsFunc_sint_int x = M_slices_ContainsFunc_sint_int x := by kernel_rfl

set_option maxRecDepth 100000 in
theorem m_slices_ContainsFunc_sint_int : ConOK Try.prog 130 c_slices_ContainsFunc_sint_int := fn_ok (tyOK _) (E := mkE [(154, c_slices_IndexFunc_sint_int)]) (consOK_cons m_slices_IndexFunc_sint_int (consOK_nil rfl)) Try.func130 (h := h_slices_ContainsFunc_sint_int) (by kernel_rfl) eq_slices_ContainsFunc_sint_int

/-- I_areAll_1 -/
def pk_I_areAll_1 : List PK := [.data (.int .i64), .rfn [(.int .i64)] .bool]
def rk_I_areAll_1 : List (Ty × Bool) := [(.bool, false)]
def h_I_areAll_1 : Hints := { loops := [] }
noncomputable def M_I_areAll_1 (x : (Int × (Int → (Option Bool)))) : (Option Bool) :=
  (bindO (x.2 x.1) (fun (a0 : Bool) => (some (not a0))))

noncomputable def c_I_areAll_1 : Con0 := ⟨pk_I_areAll_1, rk_I_areAll_1, M_I_areAll_1⟩

set_option maxRecDepth 100000 in
theorem eq_I_areAll_1 (x : In pk_I_areAll_1) : semF (mkE []) h_I_areAll_1 (info Try.f131) pk_I_areAll_1 rk_I_areAll_1 x = M_I_areAll_1 x := by kernel_rfl

set_option maxRecDepth 100000 in
theorem m_I_areAll_1 : ConOK Try.prog 131 c_I_areAll_1 := fn_ok (tyOK _) (E := mkE []) (consOK_nil rfl) Try.func131 (h := h_I_areAll_1) (by kernel_rfl) eq_I_areAll_1

/-- I_areAll -/
def pk_I_areAll : List PK := [.data (.sl (.int .i64)), .fn [(.int .i64)] .bool]
def rk_I_areAll : List (Ty × Bool) := [(.bool, false)]
def h_I_areAll : Hints := { loops := [] }
noncomputable def M_I_areAll (x : ((List Int) × (Int → (Option Bool)))) : (Option Bool) :=
  (bindO (M_slices_ContainsFunc_sint_int (x.1, (fun (a0 : Int) => (bindO (M_I_areAll_1 (a0, x.2)) (fun (a1 : Bool) => (some a1)))))) (fun (a2 : Bool) => (some (not a2))))

noncomputable def c_I_areAll : Con0 := ⟨pk_I_areAll, rk_I_areAll, M_I_areAll⟩

set_option maxRecDepth 100000 in
theorem eq_I_areAll (x : In pk_I_areAll) : semF (mkE [(130, c_slices_ContainsFunc_sint_int), (131, c_I_areAll_1)]) h_I_areAll (info Try.f76) pk_I_areAll rk_I_areAll x = M_I_areAll x := by kernel_rfl

set_option maxRecDepth 100000 in
theorem m_I_areAll : ConOK Try.prog 76 c_I_areAll := fn_ok (tyOK _) (E := mkE [(130, c_slices_ContainsFunc_sint_int), (131, c_I_areAll_1)]) (consOK_cons m_slices_ContainsFunc_sint_int (consOK_cons m_I_areAll_1 (consOK_nil rfl))) Try.func76 (h := h_I_areAll) (by kernel_rfl) eq_I_areAll

/-- I_areCounts_1 -/
def pk_I_areCounts_1 : List PK := [.data (.int .i64)]
def rk_I_areCounts_1 : List (Ty × Bool) := [(.bool, false)]
def h_I_areCounts_1 : Hints := { loops := [] }
noncomputable def M_I_areCounts_1 (x : Int) : (Option Bool) :=
  (bindO (M_I_within (x, ((0 : Int), (1000000 : Int)))) (fun (a0 : Bool) => (some a0)))

noncomputable def c_I_areCounts_1 : Con0 := ⟨pk_I_areCounts_1, rk_I_areCounts_1, M_I_areCounts_1⟩

set_option maxRecDepth 100000 in
theorem eq_I_areCounts_1 (x : In pk_I_areCounts_1) : semF (mkE [(65, c_I_within)]) h_I_areCounts_1 (info Try.f145) pk_I_areCounts_1 rk_I_areCounts_1 x = M_I_areCounts_1 x := by kernel_rfl

set_option maxRecDepth 100000 in
theorem m_I_areCounts_1 : ConOK Try.prog 145 c_I_areCounts_1 := fn_ok (tyOK _) (E := mkE [(65, c_I_within)]) (consOK_cons m_I_within (consOK_nil rfl)) Try.func145 (h := h_I_areCounts_1) (by kernel_rfl) eq_I_areCounts_1

/-- I_areCounts -/
def pk_I_areCounts : List PK := [.data (.sl (.int .i64))]
def rk_I_areCounts : List (Ty × Bool) := [(.bool, false)]
def h_I_areCounts : Hints := { loops := [] }
noncomputable def M_I_areCounts (x : (List Int)) : (Option Bool) :=
  (bindO (M_I_within ((((List.length x) : Nat) : Int), ((1 : Int), (8 : Int)))) (fun (a0 : Bool) => (cond a0 (bindO (M_I_areAll (x, (fun (a1 : Int) => (bindO (M_I_areCounts_1 a1) (fun (a2 : Bool) => (some a2)))))) (fun (a3 : Bool) => (some a3))) (some false))))

noncomputable def c_I_areCounts : Con0 := ⟨pk_I_areCounts, rk_I_areCounts, M_I_areCounts⟩

set_option maxRecDepth 100000 in
theorem eq_I_areCounts (x : In pk_I_areCounts) : semF (mkE [(65, c_I_within), (76, c_I_areAll), (145, c_I_areCounts_1)]) h_I_areCounts (info Try.f113) pk_I_areCounts rk_I_areCounts x = M_I_areCounts x := by kernel_rfl

set_option maxRecDepth 100000 in
theorem m_I_areCounts : ConOK Try.prog 113 c_I_areCounts := fn_ok (tyOK _) (E := mkE [(65, c_I_within), (76, c_I_areAll), (145, c_I_areCounts_1)]) (consOK_cons m_I_within (consOK_cons m_I_areAll (consOK_cons m_I_areCounts_1 (consOK_nil rfl)))) Try.func113 (h := h_I_areCounts) (by kernel_rfl) eq_I_areCounts

/-- I_isPairwise_1 -/
def pk_I_isPairwise_1 : List PK := [.data (.sl (.int .i64)), .rp (.sl (.sl (.int .i64)))]
def rk_I_isPairwise_1 : List (Ty × Bool) := [(.bool, false)]
def h_I_isPairwise_1 : Hints := { loops := [] }
noncomputable def M_I_isPairwise_1 (x : ((List Int) × (List (List Int)))) : (Option Bool) :=
  (cond ((((List.length x.1) : Nat) : Int) != (((List.length x.2) : Nat) : Int)) (some true) (bindO (M_I_areCounts x.1) (fun (a0 : Bool) => (some (not a0)))))

noncomputable def c_I_isPairwise_1 : Con0 := ⟨pk_I_isPairwise_1, rk_I_isPairwise_1, M_I_isPairwise_1⟩

set_option maxRecDepth 100000 in
theorem eq_I_isPairwise_1 (x : In pk_I_isPairwise_1) : semF (mkE [(113, c_I_areCounts)]) h_I_isPairwise_1 (info Try.f112) pk_I_isPairwise_1 rk_I_isPairwise_1 x = M_I_isPairwise_1 x := by kernel_rfl

set_option maxRecDepth 100000 in
theorem m_I_isPairwise_1 : ConOK Try.prog 112 c_I_isPairwise_1 := fn_ok (tyOK _) (E := mkE [(113, c_I_areCounts)]) (consOK_cons m_I_areCounts (consOK_nil rfl)) Try.func112 (h := h_I_isPairwise_1) (by kernel_rfl) eq_I_isPairwise_1

/-- I_isPairwise -/
def pk_I_isPairwise : List PK := [.data (.sl (.sl (.int .i64)))]
def rk_I_isPairwise : List (Ty × Bool) := [(.bool, false)]
def h_I_isPairwise : Hints := { loops := [] }
noncomputable def M_I_isPairwise (x : (List (List Int))) : (Option Bool) :=
  (bindO (M_I_within ((((List.length x) : Nat) : Int), ((1 : Int), (8 : Int)))) (fun (a0 : Bool) => (cond a0 (bindO (M_slices_ContainsFunc_ssint_sint (x, (fun (a1 : (List Int)) => (bindO (M_I_isPairwise_1 (a1, x)) (fun (a2 : Bool) => (some a2)))))) (fun (a3 : Bool) => (some (not a3)))) (some false))))

noncomputable def c_I_isPairwise : Con0 := ⟨pk_I_isPairwise, rk_I_isPairwise, M_I_isPairwise⟩

set_option maxRecDepth 100000 in
theorem eq_I_isPairwise (x : In pk_I_isPairwise) : semF (mkE [(65, c_I_within), (111, c_slices_ContainsFunc_ssint_sint), (112, c_I_isPairwise_1)]) h_I_isPairwise (info Try.f57) pk_I_isPairwise rk_I_isPairwise x = M_I_isPairwise x := by kernel_rfl

set_option maxRecDepth 100000 in
theorem m_I_isPairwise : ConOK Try.prog 57 c_I_isPairwise := fn_ok (tyOK _) (E := mkE [(65, c_I_within), (111, c_slices_ContainsFunc_ssint_sint), (112, c_I_isPairwise_1)]) (consOK_cons m_I_within (consOK_cons m_slices_ContainsFunc_ssint_sint (consOK_cons m_I_isPairwise_1 (consOK_nil rfl)))) Try.func57 (h := h_I_isPairwise) (by kernel_rfl) eq_I_isPairwise

/-- math_bits_OnesCount32 -/
def pk_math_bits_OnesCount32 : List PK := [.data (.int .u32)]
def rk_math_bits_OnesCount32 : List (Ty × Bool) := [((.int .i64), false)]
def h_math_bits_OnesCount32 : Hints := { loops := [] }
noncomputable def M_math_bits_OnesCount32 (x : Int) : (Option Int) :=
  (bindO (guardO (decide ((0 : Int) ≤ (24 : Int)))) (fun (a0 : Unit) => (bindO (some (shr .u32 x (24 : Int))) (fun (a1 : Int) => (bindO (if ((0 : Int) ≤ a1) then ((bytesOf [0, 1, 1, 2, 1, 2, 2, 3, 1, 2, 2, 3, 2, 3, 3, 4, 1, 2, 2, 3, 2, 3, 3, 4, 2, 3, 3, 4, 3, 4, 4, 5, 1, 2, 2, 3, 2, 3, 3, 4, 2, 3, 3, 4, 3, 4, 4, 5, 2, 3, 3, 4, 3, 4, 4, 5, 3, 4, 4, 5, 4, 5, 5, 6, 1, 2, 2, 3, 2, 3, 3, 4, 2, 3, 3, 4, 3, 4, 4, 5, 2, 3, 3, 4, 3, 4, 4, 5, 3, 4, 4, 5, 4, 5, 5, 6, 2, 3, 3, 4, 3, 4, 4, 5, 3, 4, 4, 5, 4, 5, 5, 6, 3, 4, 4, 5, 4, 5, 5, 6, 4, 5, 5, 6, 5, 6, 6, 7, 1, 2, 2, 3, 2, 3, 3, 4, 2, 3, 3, 4, 3, 4, 4, 5, 2, 3, 3, 4, 3, 4, 4, 5, 3, 4, 4, 5, 4, 5, 5, 6, 2, 3, 3, 4, 3, 4, 4, 5, 3, 4, 4, 5, 4, 5, 5, 6, 3, 4, 4, 5, 4, 5, 5, 6, 4, 5, 5, 6, 5, 6, 6, 7, 2, 3, 3, 4, 3, 4, 4, 5, 3, 4, 4, 5, 4, 5, 5, 6, 3, 4, 4, 5, 4, 5, 5, 6, 4, 5, 5, 6, 5, 6, 6, 7, 3, 4, 4, 5, 4, 5, 5, 6, 4, 5, 5, 6, 5, 6, 6, 7, 4, 5, 5, 6, 5, 6, 6, 7, 5, 6, 6, 7, 6, 7, 7, 8])[(Int.toNat a1)]?) else (none : Option (UInt8))) (fun (a2 : (UInt8)) => (bindO (guardO (decide ((0 : Int) ≤ (16 : Int)))) (fun (a3 : Unit) => (bindO (some (shr .u32 x (16 : Int))) (fun (a4 : Int) => (bindO (some (bits .and .u32 a4 (255 : Int))) (fun (a5 : Int) => (bindO (if ((0 : Int) ≤ a5) then ((bytesOf [0, 1, 1, 2, 1, 2, 2, 3, 1, 2, 2, 3, 2, 3, 3, 4, 1, 2, 2, 3, 2, 3, 3, 4, 2, 3, 3, 4, 3, 4, 4, 5, 1, 2, 2, 3, 2, 3, 3, 4, 2, 3, 3, 4, 3, 4, 4, 5, 2, 3, 3, 4, 3, 4, 4, 5, 3, 4, 4, 5, 4, 5, 5, 6, 1, 2, 2, 3, 2, 3, 3, 4, 2, 3, 3, 4, 3, 4, 4, 5, 2, 3, 3, 4, 3, 4, 4, 5, 3, 4, 4, 5, 4, 5, 5, 6, 2, 3, 3, 4, 3, 4, 4, 5, 3, 4, 4, 5, 4, 5, 5, 6, 3, 4, 4, 5, 4, 5, 5, 6, 4, 5, 5, 6, 5, 6, 6, 7, 1, 2, 2, 3, 2, 3, 3, 4, 2, 3, 3, 4, 3, 4, 4, 5, 2, 3, 3, 4, 3, 4, 4, 5, 3, 4, 4, 5, 4, 5, 5, 6, 2, 3, 3, 4, 3, 4, 4, 5, 3, 4, 4, 5, 4, 5, 5, 6, 3, 4, 4, 5, 4, 5, 5, 6, 4, 5, 5, 6, 5, 6, 6, 7, 2, 3, 3, 4, 3, 4, 4, 5, 3, 4, 4, 5, 4, 5, 5, 6, 3, 4, 4, 5, 4, 5, 5, 6, 4, 5, 5, 6, 5, 6, 6, 7, 3, 4, 4, 5, 4, 5, 5, 6, 4, 5, 5, 6, 5, 6, 6, 7, 4, 5, 5, 6, 5, 6, 6, 7, 5, 6, 6, 7, 6, 7, 7, 8])[(Int.toNat a5)]?) else (none : Option (UInt8))) (fun (a6 : (UInt8)) => (bindO (some (IntKind.wrap .u8 ((((UInt8.toNat a2) : Nat) : Int) + (((UInt8.toNat a6) : Nat) : Int)))) (fun (a7 : Int) => (bindO (guardO (decide ((0 : Int) ≤ (8 : Int)))) (fun (a8 : Unit) => (bindO (some (shr .u32 x (8 : Int))) (fun (a9 : Int) => (bindO (some (bits .and .u32 a9 (255 : Int))) (fun (a10 : Int) => (bindO (if ((0 : Int) ≤ a10) then ((bytesOf [0, 1, 1, 2, 1, 2, 2, 3, 1, 2, 2, 3, 2, 3, 3, 4, 1, 2, 2, 3, 2, 3, 3, 4, 2, 3, 3, 4, 3, 4, 4, 5, 1, 2, 2, 3, 2, 3, 3, 4, 2, 3, 3, 4, 3, 4, 4, 5, 2, 3, 3, 4, 3, 4, 4, 5, 3, 4, 4, 5, 4, 5, 5, 6, 1, 2, 2, 3, 2, 3, 3, 4, 2, 3, 3, 4, 3, 4, 4, 5, 2, 3, 3, 4, 3, 4, 4, 5, 3, 4, 4, 5, 4, 5, 5, 6, 2, 3, 3, 4, 3, 4, 4, 5, 3, 4, 4, 5, 4, 5, 5, 6, 3, 4, 4, 5, 4, 5, 5, 6, 4, 5, 5, 6, 5, 6, 6, 7, 1, 2, 2, 3, 2, 3, 3, 4, 2, 3, 3, 4, 3, 4, 4, 5, 2, 3, 3, 4, 3, 4, 4, 5, 3, 4, 4, 5, 4, 5, 5, 6, 2, 3, 3, 4, 3, 4, 4, 5, 3, 4, 4, 5, 4, 5, 5, 6, 3, 4, 4, 5, 4, 5, 5, 6, 4, 5, 5, 6, 5, 6, 6, 7, 2, 3, 3, 4, 3, 4, 4, 5, 3, 4, 4, 5, 4, 5, 5, 6, 3, 4, 4, 5, 4, 5, 5, 6, 4, 5, 5, 6, 5, 6, 6, 7, 3, 4, 4, 5, 4, 5, 5, 6, 4, 5, 5, 6, 5, 6, 6, 7, 4, 5, 5, 6, 5, 6, 6, 7, 5, 6, 6, 7, 6, 7, 7, 8])[(Int.toNat a10)]?) else (none : Option (UInt8))) (fun (a11 : (UInt8)) => (bindO (some (IntKind.wrap .u8 (a7 + (((UInt8.toNat a11) : Nat) : Int)))) (fun (a12 : Int) => (bindO (some (bits .and .u32 x (255 : Int))) (fun (a13 : Int) => (bindO (if ((0 : Int) ≤ a13) then ((bytesOf [0, 1, 1, 2, 1, 2, 2, 3, 1, 2, 2, 3, 2, 3, 3, 4, 1, 2, 2, 3, 2, 3, 3, 4, 2, 3, 3, 4, 3, 4, 4, 5, 1, 2, 2, 3, 2, 3, 3, 4, 2, 3, 3, 4, 3, 4, 4, 5, 2, 3, 3, 4, 3, 4, 4, 5, 3, 4, 4, 5, 4, 5, 5, 6, 1, 2, 2, 3, 2, 3, 3, 4, 2, 3, 3, 4, 3, 4, 4, 5, 2, 3, 3, 4, 3, 4, 4, 5, 3, 4, 4, 5, 4, 5, 5, 6, 2, 3, 3, 4, 3, 4, 4, 5, 3, 4, 4, 5, 4, 5, 5, 6, 3, 4, 4, 5, 4, 5, 5, 6, 4, 5, 5, 6, 5, 6, 6, 7, 1, 2, 2, 3, 2, 3, 3, 4, 2, 3, 3, 4, 3, 4, 4, 5, 2, 3, 3, 4, 3, 4, 4, 5, 3, 4, 4, 5, 4, 5, 5, 6, 2, 3, 3, 4, 3, 4, 4, 5, 3, 4, 4, 5, 4, 5, 5, 6, 3, 4, 4, 5, 4, 5, 5, 6, 4, 5, 5, 6, 5, 6, 6, 7, 2, 3, 3, 4, 3, 4, 4, 5, 3, 4, 4, 5, 4, 5, 5, 6, 3, 4, 4, 5, 4, 5, 5, 6, 4, 5, 5, 6, 5, 6, 6, 7, 3, 4, 4, 5, 4, 5, 5, 6, 4, 5, 5, 6, 5, 6, 6, 7, 4, 5, 5, 6, 5, 6, 6, 7, 5, 6, 6, 7, 6, 7, 7, 8])[(Int.toNat a13)]?) else (none : Option (UInt8))) (fun (a14 : (UInt8)) => (bindO (some (IntKind.wrap .u8 (a12 + (((UInt8.toNat a14) : Nat) : Int)))) (fun (a15 : Int) => (some (IntKind.wrap .i64 a15))))))))))))))))))))))))))))))))))

noncomputable def c_math_bits_OnesCount32 : Con0 := ⟨pk_math_bits_OnesCount32, rk_math_bits_OnesCount32, M_math_bits_OnesCount32⟩

set_option maxRecDepth 100000 in
theorem eq_math_bits_OnesCount32 (x : In pk_math_bits_OnesCount32) : semF (mkE []) h_math_bits_OnesCount32 (info Try.f137) pk_math_bits_OnesCount32 rk_math_bits_OnesCount32 x = M_math_bits_OnesCount32 x := by kernel_rfl

set_option maxRecDepth 100000 in
theorem m_math_bits_OnesCount32 : ConOK Try.prog 137 c_math_bits_OnesCount32 := fn_ok (tyOK _) (E := mkE []) (consOK_nil rfl) Try.func137 (h := h_math_bits_OnesCount32) (by kernel_rfl) eq_math_bits_OnesCount32

/-- math_bits_OnesCount64 -/
def pk_math_bits_OnesCount64 : List PK := [.data (.int .u64)]
def rk_math_bits_OnesCount64 : List (Ty × Bool) := [((.int .i64), false)]
def h_math_bits_OnesCount64 : Hints := { loops := [] }
noncomputable def M_math_bits_OnesCount64 (x : Int) : (Option Int) :=
  (bindO (guardO (decide ((0 : Int) ≤ (1 : Int)))) (fun (a0 : Unit) => (bindO (some (shr .u64 x (1 : Int))) (fun (a1 : Int) => (bindO (some (bits .and .u64 a1 (6148914691236517205 : Int))) (fun (a2 : Int) => (bindO (some (bits .and .u64 x (6148914691236517205 : Int))) (fun (a3 : Int) => (bindO (some (IntKind.wrap .u64 (a2 + a3))) (fun (a4 : Int) => (bindO (guardO (decide ((0 : Int) ≤ (2 : Int)))) (fun (a5 : Unit) => (bindO (some (shr .u64 a4 (2 : Int))) (fun (a6 : Int) => (bindO (some (bits .and .u64 a6 (3689348814741910323 : Int))) (fun (a7 : Int) => (bindO (some (bits .and .u64 a4 (3689348814741910323 : Int))) (fun (a8 : Int) => (bindO (some (IntKind.wrap .u64 (a7 + a8))) (fun (a9 : Int) => (bindO (guardO (decide ((0 : Int) ≤ (4 : Int)))) (fun (a10 : Unit) => (bindO (some (shr .u64 a9 (4 : Int))) (fun (a11 : Int) => (bindO (some (IntKind.wrap .u64 (a11 + a9))) (fun (a12 : Int) => (bindO (some (bits .and .u64 a12 (1085102592571150095 : Int))) (fun (a13 : Int) => (bindO (guardO (decide ((0 : Int) ≤ (8 : Int)))) (fun (a14 : Unit) => (bindO (some (shr .u64 a13 (8 : Int))) (fun (a15 : Int) => (bindO (some (IntKind.wrap .u64 (a13 + a15))) (fun (a16 : Int) => (bindO (guardO (decide ((0 : Int) ≤ (16 : Int)))) (fun (a17 : Unit) => (bindO (some (shr .u64 a16 (16 : Int))) (fun (a18 : Int) => (bindO (some (IntKind.wrap .u64 (a16 + a18))) (fun (a19 : Int) => (bindO (guardO (decide ((0 : Int) ≤ (32 : Int)))) (fun (a20 : Unit) => (bindO (some (shr .u64 a19 (32 : Int))) (fun (a21 : Int) => (bindO (some (IntKind.wrap .u64 (a19 + a21))) (fun (a22 : Int) => (bindO (some (bits .and .i64 (IntKind.wrap .i64 a22) (127 : Int))) (fun (a23 : Int) => (some a23)))))))))))))))))))))))))))))))))))))))))))))))))

noncomputable def c_math_bits_OnesCount64 : Con0 := ⟨pk_math_bits_OnesCount64, rk_math_bits_OnesCount64, M_math_bits_OnesCount64⟩

set_option maxRecDepth 100000 in
theorem eq_math_bits_OnesCount64 (x : In pk_math_bits_OnesCount64) : semF (mkE []) h_math_bits_OnesCount64 (info Try.f138) pk_math_bits_OnesCount64 rk_math_bits_OnesCount64 x = M_math_bits_OnesCount64 x := by kernel_rfl

set_option maxRecDepth 100000 in
theorem m_math_bits_OnesCount64 : ConOK Try.prog 138 c_math_bits_OnesCount64 := fn_ok (tyOK _) (E := mkE []) (consOK_nil rfl) Try.func138 (h := h_math_bits_OnesCount64) (by kernel_rfl) eq_math_bits_OnesCount64

/-- math_bits_OnesCount -/
def pk_math_bits_OnesCount : List PK := [.data (.int .u64)]
def rk_math_bits_OnesCount : List (Ty × Bool) := [((.int .i64), false)]
def h_math_bits_OnesCount : Hints := { loops := [] }
noncomputable def M_math_bits_OnesCount (x : Int) : (Option Int) :=
  (bindO (M_math_bits_OnesCount64 x) (fun (a0 : Int) => (some a0)))

noncomputable def c_math_bits_OnesCount : Con0 := ⟨pk_math_bits_OnesCount, rk_math_bits_OnesCount, M_math_bits_OnesCount⟩

set_option maxRecDepth 100000 in
theorem eq_math_bits_OnesCount (x : In pk_math_bits_OnesCount) : semF (mkE [(137, c_math_bits_OnesCount32), (138, c_math_bits_OnesCount64)]) h_math_bits_OnesCount (info Try.f99) pk_math_bits_OnesCount rk_math_bits_OnesCount x = M_math_bits_OnesCount x := by kernel_rfl

set_option maxRecDepth 100000 in
theorem m_math_bits_OnesCount : ConOK Try.prog 99 c_math_bits_OnesCount := fn_ok (tyOK _) (E := mkE [(137, c_math_bits_OnesCount32), (138, c_math_bits_OnesCount64)]) (consOK_cons m_math_bits_OnesCount32 (consOK_cons m_math_bits_OnesCount64 (consOK_nil rfl))) Try.func99 (h := h_math_bits_OnesCount) (by kernel_rfl) eq_math_bits_OnesCount

/-- I_dominates -/
def pk_I_dominates : List PK := [.data (.sl (.sl (.int .i64))), .data (.int .i64)]
def rk_I_dominates : List (Ty × Bool) := [(.bool, false)]
def h_I_dominates : Hints := { loops := [(0, { items := [.slot 9 (.data (.int .i64) [])], kill := [2, 3, 4, 5, 6, 7, 10, 11, 12, 13, 14, 15, 16, 17, 18, 19, 20, 21, 22, 23, 24, 25, 26, 27, 28, 29, 30, 31, 32, 33, 34, 35, 36, 37, 38, 39, 40, 41, 42, 43, 44, 45, 46, 47, 48, 49] }), (2, { items := [.slot 14 (.data (.int .i64) [])], kill := [2, 3, 4, 6, 7, 10, 11, 12, 15, 16, 17, 18, 19, 20, 21, 22, 23, 24, 25, 26, 27, 28, 29, 30, 31, 32, 33, 34, 35, 36, 37, 38, 39, 40, 41, 42, 43, 44, 45, 46, 47, 48, 49] })] }
noncomputable def M_I_dominates (x : ((List (List Int)) × Int)) : (Option Bool) :=
  (loopO (fun (again0 : (Int → (Option Bool))) => (fun (s1 : Int) => (cond (decide (s1 < (((List.length x.1) : Nat) : Int))) (loopO (fun (again2 : (Int → (Option Bool))) => (fun (s3 : Int) => (cond (decide (s3 < (((List.length x.1) : Nat) : Int))) (bindO (guardO (decide ((0 : Int) ≤ (IntKind.wrap .u64 s1)))) (fun (a4 : Unit) => (bindO (some (shr .i64 x.2 (IntKind.wrap .u64 s1))) (fun (a5 : Int) => (bindO (some (bits .and .i64 a5 (1 : Int))) (fun (a6 : Int) => (cond (a6 == (1 : Int)) (bindO (guardO (decide ((0 : Int) ≤ (IntKind.wrap .u64 s3)))) (fun (a7 : Unit) => (bindO (some (shr .i64 x.2 (IntKind.wrap .u64 s3))) (fun (a8 : Int) => (bindO (some (bits .and .i64 a8 (1 : Int))) (fun (a9 : Int) => (cond (a9 == (0 : Int)) (bindO (getI x.1 s1) (fun (a10 : (List Int)) => (bindO (getI a10 s3) (fun (a11 : Int) => (bindO (getI x.1 s3) (fun (a12 : (List Int)) => (bindO (getI a12 s1) (fun (a13 : Int) => (cond (decide (a11 ≤ a13)) (some false) (bindO (some (IntKind.wrap .i64 (s3 + (1 : Int)))) (fun (a14 : Int) => (again2 a14)))))))))))) (bindO (some (IntKind.wrap .i64 (s3 + (1 : Int)))) (fun (a15 : Int) => (again2 a15)))))))))) (bindO (some (IntKind.wrap .i64 (s3 + (1 : Int)))) (fun (a16 : Int) => (again2 a16)))))))))) (bindO (some (IntKind.wrap .i64 (s1 + (1 : Int)))) (fun (a17 : Int) => (again0 a17)))))) (0 : Int)) (some true)))) (0 : Int))

noncomputable def c_I_dominates : Con0 := ⟨pk_I_dominates, rk_I_dominates, M_I_dominates⟩

set_option maxRecDepth 100000 in
theorem eq_I_dominates (x : In pk_I_dominates) : semF (mkE []) h_I_dominates (info Try.f58) pk_I_dominates rk_I_dominates x = M_I_dominates x := by kernel_rfl

set_option maxRecDepth 100000 in
theorem m_I_dominates : ConOK Try.prog 58 c_I_dominates := fn_ok (tyOK _) (E := mkE []) (consOK_nil rfl) Try.func58 (h := h_I_dominates) (by kernel_rfl) eq_I_dominates

/-- I_SmithSet -/
def pk_I_SmithSet : List PK := [.data (.sl (.sl (.int .i64)))]
def rk_I_SmithSet : List (Ty × Bool) := [((.sl (.int .i64)), true), (.bool, false)]
def h_I_SmithSet : Hints := { loops := [(0, { items := [.slot 4 (.data (.int .i64) []), .slot 5 (.data (.int .i64) [])], kill := [1, 2, 3, 6, 7, 8, 9, 10, 11, 12, 13, 14, 15, 16, 17, 18, 19, 20, 21, 22, 23, 24, 25, 26, 27, 28, 29, 30, 31, 32, 33, 34, 35, 36, 37, 38, 39, 40, 41, 42, 43, 44, 45, 46, 47, 48, 49, 50, 51, 52, 53, 54] }), (2, { items := [.slot 6 (.own (.int .i64) true), .slot 40 (.data (.int .i64) [])], kill := [0, 1, 2, 3, 5, 7, 8, 9, 10, 11, 12, 13, 14, 15, 16, 17, 18, 19, 20, 21, 22, 23, 24, 25, 26, 27, 28, 29, 30, 31, 32, 33, 34, 35, 36, 37, 38, 41, 42, 43, 44, 45, 46, 47, 48, 49, 50, 51, 52, 53, 54] })] }
noncomputable def M_I_SmithSet (x : (List (List Int))) : (Option ((List Int) × Bool)) :=
  (bindO (M_I_isPairwise x) (fun (a0 : Bool) => (cond (not a0) (some (([] : List Int), false)) (bindO (guardO (decide ((0 : Int) ≤ (IntKind.wrap .u64 (((List.length x) : Nat) : Int))))) (fun (a1 : Unit) => (bindO (some (shl .i64 (1 : Int) (IntKind.wrap .u64 (((List.length x) : Nat) : Int)))) (fun (a2 : Int) => (bindO (some (IntKind.wrap .i64 (a2 - (1 : Int)))) (fun (a3 : Int) => (loopO (fun (again4 : ((Int × Int) → (Option ((List Int) × Bool)))) => (fun (s5 : (Int × Int)) => (bindO (guardO (decide ((0 : Int) ≤ (IntKind.wrap .u64 (((List.length x) : Nat) : Int))))) (fun (a6 : Unit) => (bindO (some (shl .i64 (1 : Int) (IntKind.wrap .u64 (((List.length x) : Nat) : Int)))) (fun (a7 : Int) => (cond (decide (s5.2 < a7)) (bindO (M_math_bits_OnesCount (IntKind.wrap .u64 s5.2)) (fun (a8 : Int) => (bindO (M_math_bits_OnesCount (IntKind.wrap .u64 s5.1)) (fun (a9 : Int) => (cond (decide (a8 < a9)) (bindO (M_I_dominates (x, s5.2)) (fun (a10 : Bool) => (cond a10 (bindO (some (IntKind.wrap .i64 (s5.2 + (1 : Int)))) (fun (a11 : Int) => (again4 (s5.2, a11)))) (bindO (some (IntKind.wrap .i64 (s5.2 + (1 : Int)))) (fun (a12 : Int) => (again4 (s5.1, a12))))))) (bindO (some (IntKind.wrap .i64 (s5.2 + (1 : Int)))) (fun (a13 : Int) => (again4 (s5.1, a13))))))))) (loopO (fun (again14 : (((List Int) × Int) → (Option ((List Int) × Bool)))) => (fun (s15 : ((List Int) × Int)) => (cond (decide (s15.2 < (((List.length x) : Nat) : Int))) (bindO (guardO (decide ((0 : Int) ≤ (IntKind.wrap .u64 s15.2)))) (fun (a16 : Unit) => (bindO (some (shr .i64 s5.1 (IntKind.wrap .u64 s15.2))) (fun (a17 : Int) => (bindO (some (bits .and .i64 a17 (1 : Int))) (fun (a18 : Int) => (cond (a18 == (1 : Int)) (bindO (guardO (lenOk ((List.length s15.1) + (List.length (s15.2 :: ([] : List Int)))))) (fun (a19 : Unit) => (bindO (some (s15.1 ++ (s15.2 :: ([] : List Int)))) (fun (a20 : (List Int)) => (bindO (some (IntKind.wrap .i64 (s15.2 + (1 : Int)))) (fun (a21 : Int) => (again14 (a20, a21)))))))) (bindO (some (IntKind.wrap .i64 (s15.2 + (1 : Int)))) (fun (a22 : Int) => (again14 (s15.1, a22))))))))))) (some (s15.1, true))))) (([] : List Int), (0 : Int)))))))))) (a3, (1 : Int))))))))))))

noncomputable def c_I_SmithSet : Con0 := ⟨pk_I_SmithSet, rk_I_SmithSet, M_I_SmithSet⟩

set_option maxRecDepth 100000 in
theorem eq_I_SmithSet (x : In pk_I_SmithSet) : semF (mkE [(57, c_I_isPairwise), (99, c_math_bits_OnesCount), (58, c_I_dominates)]) h_I_SmithSet (info Try.f47) pk_I_SmithSet rk_I_SmithSet x = M_I_SmithSet x := by kernel_rfl

set_option maxRecDepth 100000 in
theorem m_I_SmithSet : ConOK Try.prog 47 c_I_SmithSet := fn_ok (tyOK _) (E := mkE [(57, c_I_isPairwise), (99, c_math_bits_OnesCount), (58, c_I_dominates)]) (consOK_cons m_I_isPairwise (consOK_cons m_math_bits_OnesCount (consOK_cons m_I_dominates (consOK_nil rfl)))) Try.func47 (h := h_I_SmithSet) (by kernel_rfl) eq_I_SmithSet

/-- L_eqIntS -/
def pk_L_eqIntS : List PK := [.data (.sl (.int .i64)), .data (.sl (.int .i64))]
def rk_L_eqIntS : List (Ty × Bool) := [(.bool, false)]
def h_L_eqIntS : Hints := { loops := [(0, { items := [.slot 5 (.data (.int .i64) [])], kill := [2, 3, 4, 6, 7, 8, 9, 10, 11, 12, 13, 14, 15, 16, 17, 18, 19, 20, 21, 22, 23, 24, 25] })] }
noncomputable def M_L_eqIntS (x : ((List Int) × (List Int))) : (Option Bool) :=
  (cond ((((List.length x.1) : Nat) : Int) != (((List.length x.2) : Nat) : Int)) (some false) (loopO (fun (again0 : (Int → (Option Bool))) => (fun (s1 : Int) => (cond (decide (s1 < (((List.length x.1) : Nat) : Int))) (bindO (getI x.1 s1) (fun (a2 : Int) => (bindO (getI x.2 s1) (fun (a3 : Int) => (cond (a2 != a3) (some false) (bindO (some (IntKind.wrap .i64 (s1 + (1 : Int)))) (fun (a4 : Int) => (again0 a4)))))))) (some true)))) (0 : Int)))

noncomputable def c_L_eqIntS : Con0 := ⟨pk_L_eqIntS, rk_L_eqIntS, M_L_eqIntS⟩

set_option maxRecDepth 100000 in
theorem eq_L_eqIntS (x : In pk_L_eqIntS) : semF (mkE []) h_L_eqIntS (info Try.f24) pk_L_eqIntS rk_L_eqIntS x = M_L_eqIntS x := by kernel_rfl

set_option maxRecDepth 100000 in
theorem m_L_eqIntS : ConOK Try.prog 24 c_L_eqIntS := fn_ok (tyOK _) (E := mkE []) (consOK_nil rfl) Try.func24 (h := h_L_eqIntS) (by kernel_rfl) eq_L_eqIntS

/-- L_eqIntSS -/
def pk_L_eqIntSS : List PK := [.data (.sl (.sl (.int .i64))), .data (.sl (.sl (.int .i64)))]
def rk_L_eqIntSS : List (Ty × Bool) := [(.bool, false)]
def h_L_eqIntSS : Hints := { loops := [(0, { items := [.slot 5 (.data (.int .i64) [])], kill := [2, 3, 4, 6, 7, 8, 9, 10, 11, 12, 13, 14, 15, 16, 17, 18, 19, 20, 21, 22, 23, 24, 25, 26] })] }
noncomputable def M_L_eqIntSS (x : ((List (List Int)) × (List (List Int)))) : (Option Bool) :=
  (cond ((((List.length x.1) : Nat) : Int) != (((List.length x.2) : Nat) : Int)) (some false) (loopO (fun (again0 : (Int → (Option Bool))) => (fun (s1 : Int) => (cond (decide (s1 < (((List.length x.1) : Nat) : Int))) (bindO (getI x.1 s1) (fun (a2 : (List Int)) => (bindO (getI x.2 s1) (fun (a3 : (List Int)) => (bindO (M_L_eqIntS (a2, a3)) (fun (a4 : Bool) => (cond (not a4) (some false) (bindO (some (IntKind.wrap .i64 (s1 + (1 : Int)))) (fun (a5 : Int) => (again0 a5)))))))))) (some true)))) (0 : Int)))

noncomputable def c_L_eqIntSS : Con0 := ⟨pk_L_eqIntSS, rk_L_eqIntSS, M_L_eqIntSS⟩

set_option maxRecDepth 100000 in
theorem eq_L_eqIntSS (x : In pk_L_eqIntSS) : semF (mkE [(24, c_L_eqIntS)]) h_L_eqIntSS (info Try.f19) pk_L_eqIntSS rk_L_eqIntSS x = M_L_eqIntSS x := by kernel_rfl

set_option maxRecDepth 100000 in
theorem m_L_eqIntSS : ConOK Try.prog 19 c_L_eqIntSS := fn_ok (tyOK _) (E := mkE [(24, c_L_eqIntS)]) (consOK_cons m_L_eqIntS (consOK_nil rfl)) Try.func19 (h := h_L_eqIntSS) (by kernel_rfl) eq_L_eqIntSS

/-- L_markIntS -/
def pk_L_markIntS : List PK := [.mv (.sl (.int .i64)), .data (.int .i64)]
def rk_L_markIntS : List (Ty × Bool) := [((.int .i64), false)]
def h_L_markIntS : Hints := { loops := [(0, { items := [.slot 1 (.data (.int .i64) []), .slot 5 (.data (.int .i64) []), .arr 0 (.int .i64) true], kill := [2, 3, 4, 6, 7, 8, 9, 10, 11, 12, 13, 14, 15, 16, 17, 18] })] }
noncomputable def M_L_markIntS (x : ((List Int) × Int)) : (Option (Int × (List Int))) :=
  (loopO (fun (again0 : ((Int × (Int × (List Int))) → (Option (Int × (List Int))))) => (fun (s1 : (Int × (Int × (List Int)))) => (cond (decide (s1.2.1 < (((List.length s1.2.2) : Nat) : Int))) (bindO (getI s1.2.2 s1.2.1) (fun (a2 : Int) => (bindO (some (List.set s1.2.2 (Int.toNat s1.2.1) s1.1)) (fun (a3 : (List Int)) => (bindO (some (IntKind.wrap .i64 (s1.1 + (1 : Int)))) (fun (a4 : Int) => (bindO (some (IntKind.wrap .i64 (s1.2.1 + (1 : Int)))) (fun (a5 : Int) => (again0 (a4, (a5, a3))))))))))) (some (s1.1, s1.2.2))))) (x.2, ((0 : Int), x.1)))

noncomputable def c_L_markIntS : Con0 := ⟨pk_L_markIntS, rk_L_markIntS, M_L_markIntS⟩

set_option maxRecDepth 100000 in
theorem eq_L_markIntS (x : In pk_L_markIntS) : semF (mkE []) h_L_markIntS (info Try.f25) pk_L_markIntS rk_L_markIntS x = M_L_markIntS x := by kernel_rfl

set_option maxRecDepth 100000 in
theorem m_L_markIntS : ConOK Try.prog 25 c_L_markIntS := fn_ok (tyOK _) (E := mkE []) (consOK_nil rfl) Try.func25 (h := h_L_markIntS) (by kernel_rfl) eq_L_markIntS

/-- L_markIntSS -/
def pk_L_markIntSS : List PK := [.mv (.sl (.sl (.int .i64))), .data (.int .i64)]
def rk_L_markIntSS : List (Ty × Bool) := [((.int .i64), false)]
def h_L_markIntSS : Hints := { loops := [(0, { items := [.slot 1 (.data (.int .i64) []), .slot 5 (.data (.int .i64) []), .arr 0 (.sl (.int .i64)) true], kill := [2, 3, 4, 6, 7, 8, 9, 10, 11, 12, 13, 14, 15, 16, 17, 18] })] }
noncomputable def M_L_markIntSS (x : ((List (List Int)) × Int)) : (Option (Int × (List (List Int)))) :=
  (loopO (fun (again0 : ((Int × (Int × (List (List Int)))) → (Option (Int × (List (List Int)))))) => (fun (s1 : (Int × (Int × (List (List Int))))) => (cond (decide (s1.2.1 < (((List.length s1.2.2) : Nat) : Int))) (bindO (getI s1.2.2 s1.2.1) (fun (a2 : (List Int)) => (bindO (M_L_markIntS (a2, s1.1)) (fun (a3 : (Int × (List Int))) => (bindO (some (IntKind.wrap .i64 (s1.2.1 + (1 : Int)))) (fun (a4 : Int) => (again0 (a3.1, (a4, (List.modify s1.2.2 (Int.toNat s1.2.1) (fun (a5 : (List Int)) => a3.2))))))))))) (some (s1.1, s1.2.2))))) (x.2, ((0 : Int), x.1)))

noncomputable def c_L_markIntSS : Con0 := ⟨pk_L_markIntSS, rk_L_markIntSS, M_L_markIntSS⟩

set_option maxRecDepth 100000 in
theorem eq_L_markIntSS (x : In pk_L_markIntSS) : semF (mkE [(25, c_L_markIntS)]) h_L_markIntSS (info Try.f29) pk_L_markIntSS rk_L_markIntSS x = M_L_markIntSS x := by kernel_rfl

set_option maxRecDepth 100000 in
theorem m_L_markIntSS : ConOK Try.prog 29 c_L_markIntSS := fn_ok (tyOK _) (E := mkE [(25, c_L_markIntS)]) (consOK_cons m_L_markIntS (consOK_nil rfl)) Try.func29 (h := h_L_markIntSS) (by kernel_rfl) eq_L_markIntSS

/-- L_heldIntS -/
def pk_L_heldIntS : List PK := [.data (.sl (.int .i64)), .data (.int .i64)]
def rk_L_heldIntS : List (Ty × Bool) := [((.int .i64), false)]
def h_L_heldIntS : Hints := { loops := [(0, { items := [.slot 1 (.data (.int .i64) []), .slot 5 (.data (.int .i64) [])], kill := [2, 3, 4, 6, 7, 8, 9, 10, 11, 12, 13, 14, 15, 16, 17, 18, 19, 20] })] }
noncomputable def M_L_heldIntS (x : ((List Int) × Int)) : (Option Int) :=
  (loopO (fun (again0 : ((Int × Int) → (Option Int))) => (fun (s1 : (Int × Int)) => (cond (decide (s1.2 < (((List.length x.1) : Nat) : Int))) (bindO (getI x.1 s1.2) (fun (a2 : Int) => (cond (a2 != s1.1) (some (- (1 : Int))) (bindO (some (IntKind.wrap .i64 (s1.1 + (1 : Int)))) (fun (a3 : Int) => (bindO (some (IntKind.wrap .i64 (s1.2 + (1 : Int)))) (fun (a4 : Int) => (again0 (a3, a4))))))))) (some s1.1)))) (x.2, (0 : Int)))

noncomputable def c_L_heldIntS : Con0 := ⟨pk_L_heldIntS, rk_L_heldIntS, M_L_heldIntS⟩

set_option maxRecDepth 100000 in
theorem eq_L_heldIntS (x : In pk_L_heldIntS) : semF (mkE []) h_L_heldIntS (info Try.f26) pk_L_heldIntS rk_L_heldIntS x = M_L_heldIntS x := by kernel_rfl

set_option maxRecDepth 100000 in
theorem m_L_heldIntS : ConOK Try.prog 26 c_L_heldIntS := fn_ok (tyOK _) (E := mkE []) (consOK_nil rfl) Try.func26 (h := h_L_heldIntS) (by kernel_rfl) eq_L_heldIntS

/-- L_FnExactSmithSet -/
def pk_L_FnExactSmithSet : List PK := [.data (.sl (.sl (.int .i64)))]
def rk_L_FnExactSmithSet : List (Ty × Bool) := [(.bool, false)]
def h_L_FnExactSmithSet : Hints := { loops := [] }
noncomputable def M_L_FnExactSmithSet (x : (List (List Int))) : (Option Bool) :=
  (bindO (M_L_szIntSS (x, (1048576 : Int))) (fun (a0 : Int) => (cond (decide (a0 < (0 : Int))) (some true) (bindO (M_L_toIntSS x) (fun (a1 : (List (List Int))) => (bindO (M_S_SmithSet a1) (fun (a2 : ((List Int) × Bool)) => (bindO (M_L_toIntSS x) (fun (a3 : (List (List Int))) => (bindO (M_I_SmithSet a3) (fun (a4 : ((List Int) × Bool)) => (bindO (M_L_eqIntS (a4.1, a2.1)) (fun (a5 : Bool) => (cond (not a5) (some false) (cond (not (a4.2 == a2.2)) (some false) (bindO (M_L_toIntSS x) (fun (a6 : (List (List Int))) => (bindO (M_L_eqIntSS (a3, a6)) (fun (a7 : Bool) => (cond (not a7) (some false) (bindO (M_L_markIntSS (a3, (1 : Int))) (fun (a8 : (Int × (List (List Int)))) => (cond (decide (a8.1 < (0 : Int))) (some false) (bindO (M_L_eqIntS (a4.1, a2.1)) (fun (a9 : Bool) => (cond (not a9) (some false) (cond (not (a4.2 == a2.2)) (some false) (bindO (M_L_markIntS (a4.1, (1 : Int))) (fun (a10 : (Int × (List Int))) => (bindO (M_L_heldIntS (a10.2, (1 : Int))) (fun (a11 : Int) => (cond (decide (a11 < (0 : Int))) (some false) (cond (a11 != a10.1) (some false) (bindO (M_L_toIntSS x) (fun (a12 : (List (List Int))) => (bindO (M_I_SmithSet a12) (fun (a13 : ((List Int) × Bool)) => (bindO (M_L_eqIntS (a13.1, a2.1)) (fun (a14 : Bool) => (cond (not a14) (some false) (cond (not (a13.2 == a2.2)) (some false) (bindO (M_L_heldIntS (a10.2, (1 : Int))) (fun (a15 : Int) => (cond (decide (a15 < (0 : Int))) (some false) (cond (a15 != a10.1) (some false) (some true))))))))))))))))))))))))))))))))))))))))))))))

noncomputable def c_L_FnExactSmithSet : Con0 := ⟨pk_L_FnExactSmithSet, rk_L_FnExactSmithSet, M_L_FnExactSmithSet⟩

set_option maxRecDepth 100000 in
theorem eq_L_FnExactSmithSet (x : In pk_L_FnExactSmithSet) : semF (mkE [(15, c_L_szIntSS), (17, c_L_toIntSS), (46, c_S_SmithSet), (47, c_I_SmithSet), (24, c_L_eqIntS), (19, c_L_eqIntSS), (29, c_L_markIntSS), (25, c_L_markIntS), (26, c_L_heldIntS)]) h_L_FnExactSmithSet (info Try.f12) pk_L_FnExactSmithSet rk_L_FnExactSmithSet x = M_L_FnExactSmithSet x := by kernel_rfl

set_option maxRecDepth 100000 in
theorem m_L_FnExactSmithSet : ConOK Try.prog 12 c_L_FnExactSmithSet := fn_ok (tyOK _) (E := mkE [(15, c_L_szIntSS), (17, c_L_toIntSS), (46, c_S_SmithSet), (47, c_I_SmithSet), (24, c_L_eqIntS), (19, c_L_eqIntSS), (29, c_L_markIntSS), (25, c_L_markIntS), (26, c_L_heldIntS)]) (consOK_cons m_L_szIntSS (consOK_cons m_L_toIntSS (consOK_cons m_S_SmithSet (consOK_cons m_I_SmithSet (consOK_cons m_L_eqIntS (consOK_cons m_L_eqIntSS (consOK_cons m_L_markIntSS (consOK_cons m_L_markIntS (consOK_cons m_L_heldIntS (consOK_nil rfl)))))))))) Try.func12 (h := h_L_FnExactSmithSet) (by kernel_rfl) eq_L_FnExactSmithSet

end Go.Proofs.Ytmgphiofmhfjnaa.Vd
