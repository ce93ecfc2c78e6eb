/- The functions of the law as plain functions on data: part 2. No conditions. -/
import Derived.Test.YtjmpdejigkjaoaaGreatRstMod
set_option linter.unusedVariables false
namespace Go.Proofs.YtjmpdejigkjaoaaGreat.Vd
/-- I_ProveMatrix -/
def pk_I_ProveMatrix : List PK := [.data (.cons (.int .i64) (.cons (.int .i64) (.one (.int .i64)))), .data (.int .i64), .data (.sl (.cons (.int .i64) (.one (.int .i64)))), .data (.sl (.int .i64)), .data (.sl (.int .i64)), .data (.sl (.int .i64))]
def rk_I_ProveMatrix : List (Ty × Bool) := [((.cons (.sl (.int .i64)) (.cons (.sl (.int .i64)) (.one (.cons (.sl (.int .i64)) (.cons (.sl (.int .i64)) (.one (.sl (.int .i64)))))))), true), (.bool, false)]
def h_I_ProveMatrix : Hints := { loops := [] }
noncomputable def M_I_ProveMatrix (x : ((Int × (Int × Int)) × (Int × ((List (Int × Int)) × ((List Int) × ((List Int) × (List Int))))))) : (Option (((List Int) × ((List Int) × ((List Int) × ((List Int) × (List Int))))) × Bool)) :=
  (bindO (M_I_mixBases ((x.1.1, (x.1.2.1, x.1.2.2)), (x.2.1, x.2.2.1))) (fun (a0 : ((Int × (List Int)) × Bool)) => (cond (not a0.2) (some ((([] : List Int), (([] : List Int), (([] : List Int), (([] : List Int), ([] : List Int))))), false)) (bindO (M_I_Group_isMixing ((x.1.1, (x.1.2.1, x.1.2.2)), (x.2.2.2.1, (x.2.2.2.2.1, (((List.length x.2.2.1) : Nat) : Int))))) (fun (a1 : Bool) => (cond (not a1) (some ((([] : List Int), (([] : List Int), (([] : List Int), (([] : List Int), ([] : List Int))))), false)) (bindO (some (IntKind.wrap .i64 ((4 : Int) * (((List.length x.2.2.1) : Nat) : Int)))) (fun (a2 : Int) => (bindO (some (IntKind.wrap .i64 (a2 + (4 : Int)))) (fun (a3 : Int) => (cond ((((List.length x.2.2.2.2.2) : Nat) : Int) != a3) (some ((([] : List Int), (([] : List Int), (([] : List Int), (([] : List Int), ([] : List Int))))), false)) (bindO (M_I_Group_areExps ((x.1.1, (x.1.2.1, x.1.2.2)), x.2.2.2.2.2)) (fun (a4 : Bool) => (cond (not a4) (some ((([] : List Int), (([] : List Int), (([] : List Int), (([] : List Int), ([] : List Int))))), false)) (bindO (M_I_Group_proveMatrix ((x.1.1, (x.1.2.1, x.1.2.2)), ((a0.1.1, a0.1.2), (x.2.1, (x.2.2.1, (x.2.2.2.1, (x.2.2.2.2.1, x.2.2.2.2.2))))))) (fun (a5 : (((List Int) × ((List Int) × ((List Int) × ((List Int) × (List Int))))) × Bool)) => (some ((a5.1.1, (a5.1.2.1, (a5.1.2.2.1, (a5.1.2.2.2.1, a5.1.2.2.2.2)))), a5.2))))))))))))))))))

noncomputable def c_I_ProveMatrix : Con0 := ⟨pk_I_ProveMatrix, rk_I_ProveMatrix, M_I_ProveMatrix⟩

set_option maxRecDepth 100000 in
theorem eq_I_ProveMatrix (x : In pk_I_ProveMatrix) : semF (mkE [(63, c_I_mixBases), (66, c_I_Group_isMixing), (100, c_I_Group_areExps), (102, c_I_Group_proveMatrix)]) h_I_ProveMatrix (info Tryz.f68) pk_I_ProveMatrix rk_I_ProveMatrix x = M_I_ProveMatrix x := (semFF_eq _ _ _ _ _ _).symm.trans (by kernel_rfl)

set_option maxRecDepth 100000 in
theorem m_I_ProveMatrix : ConOK Tryz.prog 68 c_I_ProveMatrix := fn_ok (tyOK _) (E := mkE [(63, c_I_mixBases), (66, c_I_Group_isMixing), (100, c_I_Group_areExps), (102, c_I_Group_proveMatrix)]) (consOK_cons m_I_mixBases (consOK_cons m_I_Group_isMixing (consOK_cons m_I_Group_areExps (consOK_cons m_I_Group_proveMatrix (consOK_nil rfl))))) Tryz.func68 (h := h_I_ProveMatrix) (by kernel_rfl) eq_I_ProveMatrix

/-- I_polyBases -/
def pk_I_polyBases : List PK := [.data (.cons (.int .i64) (.cons (.int .i64) (.one (.int .i64)))), .data (.int .i64), .data (.sl (.cons (.int .i64) (.one (.int .i64))))]
def rk_I_polyBases : List (Ty × Bool) := [((.cons (.int .i64) (.one (.sl (.int .i64)))), true), (.bool, false)]
def h_I_polyBases : Hints := { loops := [] }
noncomputable def M_I_polyBases (x : ((Int × (Int × Int)) × (Int × (List (Int × Int))))) : (Option ((Int × (List Int)) × Bool)) :=
  (bindO (M_I_mixBases ((x.1.1, (x.1.2.1, x.1.2.2)), (x.2.1, x.2.2))) (fun (a0 : ((Int × (List Int)) × Bool)) => (cond (not a0.2) (some (((0 : Int), ([] : List Int)), false)) (bindO (M_I_Group_basesOf ((x.1.1, (x.1.2.1, x.1.2.2)), (0 : Int))) (fun (a1 : ((Int × (List Int)) × Bool)) => (some ((a1.1.1, a1.1.2), a1.2)))))))

noncomputable def c_I_polyBases : Con0 := ⟨pk_I_polyBases, rk_I_polyBases, M_I_polyBases⟩

set_option maxRecDepth 100000 in
theorem eq_I_polyBases (x : In pk_I_polyBases) : semF (mkE [(63, c_I_mixBases), (82, c_I_Group_basesOf)]) h_I_polyBases (info Tryz.f45) pk_I_polyBases rk_I_polyBases x = M_I_polyBases x := (semFF_eq _ _ _ _ _ _).symm.trans (by kernel_rfl)

set_option maxRecDepth 100000 in
theorem m_I_polyBases : ConOK Tryz.prog 45 c_I_polyBases := fn_ok (tyOK _) (E := mkE [(63, c_I_mixBases), (82, c_I_Group_basesOf)]) (consOK_cons m_I_mixBases (consOK_cons m_I_Group_basesOf (consOK_nil rfl))) Tryz.func45 (h := h_I_polyBases) (by kernel_rfl) eq_I_polyBases

/-- I_Group_commit -/
def pk_I_Group_commit : List PK := [.data (.cons (.int .i64) (.cons (.int .i64) (.one (.int .i64)))), .data (.cons (.int .i64) (.one (.sl (.int .i64)))), .data (.int .i64), .data (.int .i64)]
def rk_I_Group_commit : List (Ty × Bool) := [((.int .i64), false)]
def h_I_Group_commit : Hints := { loops := [] }
noncomputable def M_I_Group_commit (x : ((Int × (Int × Int)) × ((Int × (List Int)) × (Int × Int)))) : (Option Int) :=
  (bindO (M_I_Group_pow ((x.1.1, (x.1.2.1, x.1.2.2)), (x.1.2.2, x.2.2.1))) (fun (a0 : Int) => (bindO (M_I_Group_pow ((x.1.1, (x.1.2.1, x.1.2.2)), (x.2.1.1, x.2.2.2))) (fun (a1 : Int) => (bindO (M_I_Group_mul ((x.1.1, (x.1.2.1, x.1.2.2)), (a0 :: (a1 :: ([] : List Int))))) (fun (a2 : Int) => (some a2)))))))

noncomputable def c_I_Group_commit : Con0 := ⟨pk_I_Group_commit, rk_I_Group_commit, M_I_Group_commit⟩

set_option maxRecDepth 100000 in
theorem eq_I_Group_commit (x : In pk_I_Group_commit) : semF (mkE [(128, c_I_Group_pow), (127, c_I_Group_mul)]) h_I_Group_commit (info Tryz.f138) pk_I_Group_commit rk_I_Group_commit x = M_I_Group_commit x := (semFF_eq _ _ _ _ _ _).symm.trans (by kernel_rfl)

set_option maxRecDepth 100000 in
theorem m_I_Group_commit : ConOK Tryz.prog 138 c_I_Group_commit := fn_ok (tyOK _) (E := mkE [(128, c_I_Group_pow), (127, c_I_Group_mul)]) (consOK_cons m_I_Group_pow (consOK_cons m_I_Group_mul (consOK_nil rfl))) Tryz.func138 (h := h_I_Group_commit) (by kernel_rfl) eq_I_Group_commit

/-- I_Group_placeCommits -/
def pk_I_Group_placeCommits : List PK := [.data (.cons (.int .i64) (.cons (.int .i64) (.one (.int .i64)))), .data (.cons (.int .i64) (.one (.sl (.int .i64)))), .data (.sl (.int .i64)), .data (.sl (.int .i64))]
def rk_I_Group_placeCommits : List (Ty × Bool) := [((.sl (.int .i64)), true)]
def h_I_Group_placeCommits : Hints := { loops := [(0, { items := [.slot 9 (.own (.int .i64) true), .slot 15 (.data (.int .i64) [])], kill := [0, 1, 2, 6, 7, 8, 10, 11, 12] ++ (sgN 16 18) })] }
noncomputable def M_I_Group_placeCommits (x : ((Int × (Int × Int)) × ((Int × (List Int)) × ((List Int) × (List Int))))) : (Option (List Int)) :=
  (loopO (fun (again0 : (((List Int) × Int) → (Option (List Int)))) => (fun (s1 : ((List Int) × Int)) => (cond (decide (s1.2 < (((List.length x.2.2.1) : Nat) : Int))) (bindO (getI x.2.2.1 s1.2) (fun (a2 : Int) => (bindO (some (IntKind.wrap .i64 (a2 + (1 : Int)))) (fun (a3 : Int) => (bindO (getI x.2.2.2 s1.2) (fun (a4 : Int) => (bindO (M_I_Group_commit ((x.1.1, (x.1.2.1, x.1.2.2)), ((x.2.1.1, x.2.1.2), (a3, a4)))) (fun (a5 : Int) => (bindO (guardO (lenOk ((List.length s1.1) + (List.length (a5 :: ([] : List Int)))))) (fun (a6 : Unit) => (bindO (some (s1.1 ++ (a5 :: ([] : List Int)))) (fun (a7 : (List Int)) => (bindO (some (IntKind.wrap .i64 (s1.2 + (1 : Int)))) (fun (a8 : Int) => (again0 (a7, a8)))))))))))))))) (some s1.1)))) (([] : List Int), (0 : Int)))

noncomputable def c_I_Group_placeCommits : Con0 := ⟨pk_I_Group_placeCommits, rk_I_Group_placeCommits, M_I_Group_placeCommits⟩

set_option maxRecDepth 100000 in
theorem eq_I_Group_placeCommits (x : In pk_I_Group_placeCommits) : semF (mkE [(138, c_I_Group_commit)]) h_I_Group_placeCommits (info Tryz.f157) pk_I_Group_placeCommits rk_I_Group_placeCommits x = M_I_Group_placeCommits x := (semFF_eq _ _ _ _ _ _).symm.trans (by kernel_rfl)

set_option maxRecDepth 100000 in
theorem m_I_Group_placeCommits : ConOK Tryz.prog 157 c_I_Group_placeCommits := fn_ok (tyOK _) (E := mkE [(138, c_I_Group_commit)]) (consOK_cons m_I_Group_commit (consOK_nil rfl)) Tryz.func157 (h := h_I_Group_placeCommits) (by kernel_rfl) eq_I_Group_placeCommits

/-- I_Group_points -/
def pk_I_Group_points : List PK := [.data (.cons (.int .i64) (.cons (.int .i64) (.one (.int .i64)))), .data (.sl (.int .i64))]
def rk_I_Group_points : List (Ty × Bool) := [((.int .i64), false), ((.int .i64), false), (.bool, false)]
def h_I_Group_points : Hints := { loops := [] }
noncomputable def M_I_Group_points (x : ((Int × (Int × Int)) × (List Int))) : (Option (Int × (Int × Bool))) :=
  (bindO (M_I_Group_challenge ((x.1.1, (x.1.2.1, x.1.2.2)), ((bytesOf [109, 105, 120, 32, 121]), x.2))) (fun (a0 : (Int × Bool)) => (bindO (M_I_Group_challenge ((x.1.1, (x.1.2.1, x.1.2.2)), ((bytesOf [109, 105, 120, 32, 122]), x.2))) (fun (a1 : (Int × Bool)) => (cond (not a0.2) (some ((0 : Int), ((0 : Int), false))) (cond (not a1.2) (some ((0 : Int), ((0 : Int), false))) (some (a0.1, (a1.1, true)))))))))

noncomputable def c_I_Group_points : Con0 := ⟨pk_I_Group_points, rk_I_Group_points, M_I_Group_points⟩

set_option maxRecDepth 100000 in
theorem eq_I_Group_points (x : In pk_I_Group_points) : semF (mkE [(122, c_I_Group_challenge)]) h_I_Group_points (info Tryz.f133) pk_I_Group_points rk_I_Group_points x = M_I_Group_points x := (semFF_eq _ _ _ _ _ _).symm.trans (by kernel_rfl)

set_option maxRecDepth 100000 in
theorem m_I_Group_points : ConOK Tryz.prog 133 c_I_Group_points := fn_ok (tyOK _) (E := mkE [(122, c_I_Group_challenge)]) (consOK_cons m_I_Group_challenge (consOK_nil rfl)) Tryz.func133 (h := h_I_Group_points) (by kernel_rfl) eq_I_Group_points

/-- I_Group_provePoly -/
def pk_I_Group_provePoly : List PK := [.data (.cons (.int .i64) (.cons (.int .i64) (.one (.int .i64)))), .data (.cons (.int .i64) (.one (.sl (.int .i64)))), .data (.int .i64), .data (.sl (.cons (.int .i64) (.one (.int .i64)))), .data (.sl (.int .i64)), .data (.sl (.int .i64)), .data (.sl (.int .i64))]
def rk_I_Group_provePoly : List (Ty × Bool) := [((.cons (.sl (.int .i64)) (.cons (.sl (.int .i64)) (.cons (.sl (.int .i64)) (.one (.cons (.sl (.int .i64)) (.cons (.sl (.int .i64)) (.one (.sl (.int .i64))))))))), true), (.bool, false)]
def h_I_Group_provePoly : Hints := { loops := [(0, { items := [.slot 32 (.own (.int .i64) true), .slot 115 (.data (.int .i64) []), .cell 29 0 (.own (.int .i64) true), .cell 29 1 (.own (.int .i64) true), .cell 29 2 (.own (.int .i64) true), .cell 29 3 (.own (.int .i64) true), .cell 29 4 (.own (.int .i64) true), .cell 29 5 (.own (.int .i64) true)], kill := [0, 1, 6] ++ (sgN 9 5 ++ ([15, 17] ++ (sgN 33 80 ++ (sgN 116 412)))) }), (2, { items := [.slot 39 (.own (.int .i64) true), .slot 40 (.data (.int .i64) []), .slot 41 (.own (.int .i64) true), .slot 167 (.data (.int .i64) []), .cell 29 0 (.own (.int .i64) true), .cell 29 1 (.own (.int .i64) true), .cell 29 2 (.own (.int .i64) true), .cell 29 3 (.own (.int .i64) true), .cell 29 4 (.own (.int .i64) true), .cell 29 5 (.own (.int .i64) true)], kill := [0, 1, 3, 4, 6] ++ (sgN 9 5 ++ ([15, 17, 30, 33, 34] ++ (sgN 42 123 ++ (sgN 168 360)))) }), (4, { items := [.slot 46 (.own (.int .i64) true), .slot 247 (.data (.int .i64) [])], kill := [0, 1, 3, 4, 6] ++ (sgN 9 5 ++ ([15, 17, 30, 33, 34, 37, 40, 42, 43, 44] ++ (sgN 47 199 ++ (sgN 248 280)))) }), (6, { items := [.slot 46 (.own (.int .i64) true), .slot 266 (.data (.int .i64) [])], kill := [0, 1, 3, 4, 6] ++ (sgN 9 5 ++ ([15, 17, 30, 33, 34, 37, 40, 42, 43, 44] ++ (sgN 47 218 ++ (sgN 267 261)))) }), (8, { items := [.slot 46 (.own (.int .i64) true), .slot 303 (.data (.int .i64) [])], kill := [0, 1, 3, 4, 6] ++ (sgN 9 5 ++ ([15, 17, 30, 33, 34, 37, 40] ++ (sgN 42 4 ++ (sgN 47 255 ++ (sgN 304 224))))) }), (10, { items := [.slot 386 (.data (.int .i64) []), .cell 54 0 (.own (.int .i64) true), .cell 54 1 (.own (.int .i64) true), .cell 54 2 (.own (.int .i64) true), .cell 54 3 (.own (.int .i64) true), .cell 54 4 (.own (.int .i64) true)], kill := sgN 0 5 ++ ([6] ++ (sgN 8 6 ++ ([15, 17, 28, 30, 31, 33, 34, 35, 37, 38, 40] ++ (sgN 42 10 ++ ([53] ++ (sgN 55 330 ++ (sgN 387 141))))))) })] }
noncomputable def M_I_Group_provePoly (x : ((Int × (Int × Int)) × ((Int × (List Int)) × (Int × ((List (Int × Int)) × ((List Int) × ((List Int) × (List Int)))))))) : (Option (((List Int) × ((List Int) × ((List Int) × ((List Int) × ((List Int) × (List Int)))))) × Bool)) :=
  (bindO (M_I_taker_take (x.2.2.2.2.2.2, (((List.length x.2.2.2.1) : Nat) : Int))) (fun (a0 : ((List Int) × (List Int))) => (bindO (M_I_taker_take (a0.2, (((List.length x.2.2.2.1) : Nat) : Int))) (fun (a1 : ((List Int) × (List Int))) => (bindO (M_I_taker_take (a1.2, (((List.length x.2.2.2.1) : Nat) : Int))) (fun (a2 : ((List Int) × (List Int))) => (bindO (M_I_taker_take (a2.2, (((List.length x.2.2.2.1) : Nat) : Int))) (fun (a3 : ((List Int) × (List Int))) => (bindO (M_I_taker_take (a3.2, (((List.length x.2.2.2.1) : Nat) : Int))) (fun (a4 : ((List Int) × (List Int))) => (bindO (M_I_taker_take (a4.2, (((List.length x.2.2.2.1) : Nat) : Int))) (fun (a5 : ((List Int) × (List Int))) => (bindO (M_I_taker_one a5.2) (fun (a6 : (Int × (List Int))) => (bindO (M_I_taker_take (a6.2, (((List.length x.2.2.2.1) : Nat) : Int))) (fun (a7 : ((List Int) × (List Int))) => (bindO (M_I_taker_take (a7.2, (((List.length x.2.2.2.1) : Nat) : Int))) (fun (a8 : ((List Int) × (List Int))) => (bindO (M_I_taker_one a8.2) (fun (a9 : (Int × (List Int))) => (bindO (M_I_Group_mix (x.1, (x.2.2.1, (x.2.2.2.1, (x.2.2.2.2.1, x.2.2.2.2.2.1))))) (fun (a10 : (List (Int × Int))) => (bindO (M_I_Group_placeCommits (x.1, (x.2.1, (x.2.2.2.2.1, a0.1)))) (fun (a11 : (List Int)) => (bindO (M_I_mixList (x.2.2.1, (x.2.2.2.1, (a10, a11)))) (fun (a12 : (List Int)) => (bindO (M_I_Group_challenge (x.1, ((bytesOf [109, 105, 120, 32, 120]), a12))) (fun (a13 : (Int × Bool)) => (loopO (fun (again14 : (((List Int) × (Int × ((List Int) × ((List Int) × ((List Int) × ((List Int) × ((List Int) × (List Int)))))))) → (Option (((List Int) × ((List Int) × ((List Int) × ((List Int) × ((List Int) × (List Int)))))) × Bool)))) => (fun (s15 : ((List Int) × (Int × ((List Int) × ((List Int) × ((List Int) × ((List Int) × ((List Int) × (List Int))))))))) => (cond (decide (s15.2.1 < (((List.length x.2.2.2.2.1) : Nat) : Int))) (bindO (getI x.2.2.2.2.1 s15.2.1) (fun (a16 : Int) => (bindO (some (IntKind.wrap .i64 (a16 + (1 : Int)))) (fun (a17 : Int) => (bindO (M_I_power (a13.1, (a17, x.1.2.1))) (fun (a18 : Int) => (bindO (guardO (lenOk ((List.length s15.1) + (List.length (a18 :: ([] : List Int)))))) (fun (a19 : Unit) => (bindO (some (s15.1 ++ (a18 :: ([] : List Int)))) (fun (a20 : (List Int)) => (bindO (getI a20 s15.2.1) (fun (a21 : Int) => (bindO (getI a1.1 s15.2.1) (fun (a22 : Int) => (bindO (M_I_Group_commit (x.1, (x.2.1, (a21, a22)))) (fun (a23 : Int) => (bindO (guardO (lenOk ((List.length s15.2.2.2.1) + (List.length (a23 :: ([] : List Int)))))) (fun (a24 : Unit) => (bindO (some (s15.2.2.2.1 ++ (a23 :: ([] : List Int)))) (fun (a25 : (List Int)) => (bindO (some (IntKind.wrap .i64 (s15.2.1 + (1 : Int)))) (fun (a26 : Int) => (again14 (a20, (a26, (s15.2.2.1, (a25, s15.2.2.2.2))))))))))))))))))))))))))) (bindO (M_slices_Clone_sint_int s15.2.2.1) (fun (a27 : (List Int)) => (bindO (guardO (lenOk ((List.length a27) + (List.length s15.2.2.2.1)))) (fun (a28 : Unit) => (bindO (some (a27 ++ s15.2.2.2.1)) (fun (a29 : (List Int)) => (bindO (M_I_mixList (x.2.2.1, (x.2.2.2.1, (a10, a29)))) (fun (a30 : (List Int)) => (bindO (M_I_Group_points (x.1, a30)) (fun (a31 : (Int × (Int × Bool))) => (loopO (fun (again32 : (((List Int) × (Int × ((List Int) × (Int × ((List Int) × ((List Int) × ((List Int) × ((List Int) × ((List Int) × (List Int)))))))))) → (Option (((List Int) × ((List Int) × ((List Int) × ((List Int) × ((List Int) × (List Int)))))) × Bool)))) => (fun (s33 : ((List Int) × (Int × ((List Int) × (Int × ((List Int) × ((List Int) × ((List Int) × ((List Int) × ((List Int) × (List Int))))))))))) => (cond (decide (s33.2.2.2.1 < (((List.length x.2.2.2.2.1) : Nat) : Int))) (bindO (getI x.2.2.2.2.1 s33.2.2.2.1) (fun (a34 : Int) => (bindO (some (IntKind.wrap .i64 (a34 + (1 : Int)))) (fun (a35 : Int) => (bindO (some (IntKind.wrap .i64 (a31.1 * a35))) (fun (a36 : Int) => (bindO (getI s15.1 s33.2.2.2.1) (fun (a37 : Int) => (bindO (some (IntKind.wrap .i64 (a36 + a37))) (fun (a38 : Int) => (bindO (some (IntKind.wrap .i64 (a38 - a31.2.1))) (fun (a39 : Int) => (bindO (M_I_Group_exp (x.1, a39)) (fun (a40 : Int) => (bindO (guardO (lenOk ((List.length s33.1) + (List.length (a40 :: ([] : List Int)))))) (fun (a41 : Unit) => (bindO (some (s33.1 ++ (a40 :: ([] : List Int)))) (fun (a42 : (List Int)) => (bindO (getI a42 s33.2.2.2.1) (fun (a43 : Int) => (bindO (some (IntKind.wrap .i64 (s33.2.1 * a43))) (fun (a44 : Int) => (bindO (M_I_Group_exp (x.1, a44)) (fun (a45 : Int) => (bindO (getI a2.1 s33.2.2.2.1) (fun (a46 : Int) => (bindO (M_I_Group_commit (x.1, (x.2.1, (a45, a46)))) (fun (a47 : Int) => (bindO (guardO (lenOk ((List.length s33.2.2.2.2.2.2.1) + (List.length (a47 :: ([] : List Int)))))) (fun (a48 : Unit) => (bindO (some (s33.2.2.2.2.2.2.1 ++ (a47 :: ([] : List Int)))) (fun (a49 : (List Int)) => (bindO (getI a2.1 s33.2.2.2.1) (fun (a50 : Int) => (cond (decide (s33.2.2.2.1 > (0 : Int))) (bindO (getI a2.1 s33.2.2.2.1) (fun (a51 : Int) => (bindO (some (IntKind.wrap .i64 (s33.2.2.2.1 - (1 : Int)))) (fun (a52 : Int) => (bindO (getI a2.1 a52) (fun (a53 : Int) => (bindO (getI a42 s33.2.2.2.1) (fun (a54 : Int) => (bindO (some (IntKind.wrap .i64 (a53 * a54))) (fun (a55 : Int) => (bindO (M_I_Group_exp (x.1, a55)) (fun (a56 : Int) => (bindO (some (IntKind.wrap .i64 (a51 - a56))) (fun (a57 : Int) => (bindO (M_I_Group_exp (x.1, a57)) (fun (a58 : Int) => (bindO (guardO (lenOk ((List.length s33.2.2.1) + (List.length (a58 :: ([] : List Int)))))) (fun (a59 : Unit) => (bindO (some (s33.2.2.1 ++ (a58 :: ([] : List Int)))) (fun (a60 : (List Int)) => (bindO (some (IntKind.wrap .i64 (s33.2.2.2.1 + (1 : Int)))) (fun (a61 : Int) => (again32 (a42, (a45, (a60, (a61, (s33.2.2.2.2.1, (s33.2.2.2.2.2.1, (a49, s33.2.2.2.2.2.2.2)))))))))))))))))))))))))))))) (bindO (guardO (lenOk ((List.length s33.2.2.1) + (List.length (a50 :: ([] : List Int)))))) (fun (a62 : Unit) => (bindO (some (s33.2.2.1 ++ (a50 :: ([] : List Int)))) (fun (a63 : (List Int)) => (bindO (some (IntKind.wrap .i64 (s33.2.2.2.1 + (1 : Int)))) (fun (a64 : Int) => (again32 (a42, (a45, (a63, (a64, (s33.2.2.2.2.1, (s33.2.2.2.2.2.1, (a49, s33.2.2.2.2.2.2.2))))))))))))))))))))))))))))))))))))))))))))))))) (bindO (guardO (lenOk ((List.length (x.1.2.2 :: ([] : List Int))) + (List.length s33.2.2.2.2.2.2.1)))) (fun (a65 : Unit) => (bindO (some ((x.1.2.2 :: ([] : List Int)) ++ s33.2.2.2.2.2.2.1)) (fun (a66 : (List Int)) => (loopO (fun (again67 : (((List Int) × Int) → (Option (((List Int) × ((List Int) × ((List Int) × ((List Int) × ((List Int) × (List Int)))))) × Bool)))) => (fun (s68 : ((List Int) × Int)) => (cond (decide (s68.2 < (((List.length x.2.2.2.1) : Nat) : Int))) (bindO (getI a3.1 s68.2) (fun (a69 : Int) => (bindO (getI a4.1 s68.2) (fun (a70 : Int) => (bindO (M_I_Group_commit (x.1, (x.2.1, (a69, a70)))) (fun (a71 : Int) => (bindO (guardO (lenOk ((List.length s68.1) + (List.length (a71 :: ([] : List Int)))))) (fun (a72 : Unit) => (bindO (some (s68.1 ++ (a71 :: ([] : List Int)))) (fun (a73 : (List Int)) => (bindO (some (IntKind.wrap .i64 (s68.2 + (1 : Int)))) (fun (a74 : Int) => (again67 (a73, a74)))))))))))))) (loopO (fun (again75 : (((List Int) × Int) → (Option (((List Int) × ((List Int) × ((List Int) × ((List Int) × ((List Int) × (List Int)))))) × Bool)))) => (fun (s76 : ((List Int) × Int)) => (cond (decide (s76.2 < (((List.length x.2.2.2.1) : Nat) : Int))) (bindO (getI a66 s76.2) (fun (a77 : Int) => (bindO (getI a3.1 s76.2) (fun (a78 : Int) => (bindO (M_I_Group_pow (x.1, (a77, a78))) (fun (a79 : Int) => (bindO (getI a5.1 s76.2) (fun (a80 : Int) => (bindO (M_I_Group_pow (x.1, (x.2.1.1, a80))) (fun (a81 : Int) => (bindO (M_I_Group_mul (x.1, (a79 :: (a81 :: ([] : List Int))))) (fun (a82 : Int) => (bindO (guardO (lenOk ((List.length s76.1) + (List.length (a82 :: ([] : List Int)))))) (fun (a83 : Unit) => (bindO (some (s76.1 ++ (a82 :: ([] : List Int)))) (fun (a84 : (List Int)) => (bindO (some (IntKind.wrap .i64 (s76.2 + (1 : Int)))) (fun (a85 : Int) => (again75 (a84, a85)))))))))))))))))))) (bindO (M_I_Group_pow (x.1, (x.2.1.1, a6.1))) (fun (a86 : Int) => (bindO (guardO (lenOk ((List.length s76.1) + (List.length (a86 :: ([] : List Int)))))) (fun (a87 : Unit) => (bindO (some (s76.1 ++ (a86 :: ([] : List Int)))) (fun (a88 : (List Int)) => (loopO (fun (again89 : (((List Int) × Int) → (Option (((List Int) × ((List Int) × ((List Int) × ((List Int) × ((List Int) × (List Int)))))) × Bool)))) => (fun (s90 : ((List Int) × Int)) => (cond (decide (s90.2 < (((List.length x.2.2.2.1) : Nat) : Int))) (bindO (getI a7.1 s90.2) (fun (a91 : Int) => (bindO (getI a8.1 s90.2) (fun (a92 : Int) => (bindO (M_I_Group_commit (x.1, (x.2.1, (a91, a92)))) (fun (a93 : Int) => (bindO (guardO (lenOk ((List.length s90.1) + (List.length (a93 :: ([] : List Int)))))) (fun (a94 : Unit) => (bindO (some (s90.1 ++ (a93 :: ([] : List Int)))) (fun (a95 : (List Int)) => (bindO (some (IntKind.wrap .i64 (s90.2 + (1 : Int)))) (fun (a96 : Int) => (again89 (a95, a96)))))))))))))) (bindO (M_I_sides a10) (fun (a97 : ((List Int) × (List Int))) => (bindO (some (IntKind.wrap .i64 ((0 : Int) - a9.1))) (fun (a98 : Int) => (bindO (M_I_Group_pow (x.1, (x.1.2.2, a98))) (fun (a99 : Int) => (bindO (M_I_Group_powers (x.1, (a97.1, a7.1))) (fun (a100 : Int) => (bindO (M_I_Group_mul (x.1, (a99 :: (a100 :: ([] : List Int))))) (fun (a101 : Int) => (bindO (some (IntKind.wrap .i64 ((0 : Int) - a9.1))) (fun (a102 : Int) => (bindO (M_I_Group_pow (x.1, (x.2.2.1, a102))) (fun (a103 : Int) => (bindO (M_I_Group_powers (x.1, (a97.2, a7.1))) (fun (a104 : Int) => (bindO (M_I_Group_mul (x.1, (a103 :: (a104 :: ([] : List Int))))) (fun (a105 : Int) => (bindO (guardO (lenOk ((List.length s90.1) + (List.length (a101 :: (a105 :: ([] : List Int))))))) (fun (a106 : Unit) => (bindO (some (s90.1 ++ (a101 :: (a105 :: ([] : List Int))))) (fun (a107 : (List Int)) => (bindO (M_slices_Concat_sint_int (a30 :: (s33.2.2.2.2.2.2.1 :: (a107 :: ([] : List (List Int)))))) (fun (a108 : (List Int)) => (bindO (M_I_Group_challenge (x.1, ((bytesOf [109, 105, 120, 32, 101, 110, 100]), a108))) (fun (a109 : (Int × Bool)) => (cond (not a13.2) (some ((([] : List Int), (([] : List Int), (([] : List Int), (([] : List Int), (([] : List Int), ([] : List Int)))))), false)) (cond (not a31.2.2) (some ((([] : List Int), (([] : List Int), (([] : List Int), (([] : List Int), (([] : List Int), ([] : List Int)))))), false)) (cond (not a109.2) (some ((([] : List Int), (([] : List Int), (([] : List Int), (([] : List Int), (([] : List Int), ([] : List Int)))))), false)) (loopO (fun (again110 : ((Int × ((List Int) × ((List Int) × ((List Int) × ((List Int) × (List Int)))))) → (Option (((List Int) × ((List Int) × ((List Int) × ((List Int) × ((List Int) × (List Int)))))) × Bool)))) => (fun (s111 : (Int × ((List Int) × ((List Int) × ((List Int) × ((List Int) × (List Int))))))) => (cond (decide (s111.1 < (((List.length x.2.2.2.1) : Nat) : Int))) (bindO (getI a3.1 s111.1) (fun (a112 : Int) => (bindO (getI s33.1 s111.1) (fun (a113 : Int) => (bindO (some (IntKind.wrap .i64 (a109.1 * a113))) (fun (a114 : Int) => (bindO (some (IntKind.wrap .i64 (a112 + a114))) (fun (a115 : Int) => (bindO (M_I_Group_exp (x.1, a115)) (fun (a116 : Int) => (bindO (guardO (lenOk ((List.length s111.2.1) + (List.length (a116 :: ([] : List Int)))))) (fun (a117 : Unit) => (bindO (some (s111.2.1 ++ (a116 :: ([] : List Int)))) (fun (a118 : (List Int)) => (bindO (getI a4.1 s111.1) (fun (a119 : Int) => (bindO (getI a0.1 s111.1) (fun (a120 : Int) => (bindO (some (IntKind.wrap .i64 (a31.1 * a120))) (fun (a121 : Int) => (bindO (getI a1.1 s111.1) (fun (a122 : Int) => (bindO (some (IntKind.wrap .i64 (a121 + a122))) (fun (a123 : Int) => (bindO (M_I_Group_exp (x.1, a123)) (fun (a124 : Int) => (bindO (some (IntKind.wrap .i64 (a109.1 * a124))) (fun (a125 : Int) => (bindO (some (IntKind.wrap .i64 (a119 + a125))) (fun (a126 : Int) => (bindO (M_I_Group_exp (x.1, a126)) (fun (a127 : Int) => (bindO (guardO (lenOk ((List.length s111.2.2.1) + (List.length (a127 :: ([] : List Int)))))) (fun (a128 : Unit) => (bindO (some (s111.2.2.1 ++ (a127 :: ([] : List Int)))) (fun (a129 : (List Int)) => (bindO (getI a5.1 s111.1) (fun (a130 : Int) => (bindO (getI s33.2.2.1 s111.1) (fun (a131 : Int) => (bindO (some (IntKind.wrap .i64 (a109.1 * a131))) (fun (a132 : Int) => (bindO (some (IntKind.wrap .i64 (a130 + a132))) (fun (a133 : Int) => (bindO (M_I_Group_exp (x.1, a133)) (fun (a134 : Int) => (bindO (guardO (lenOk ((List.length s111.2.2.2.1) + (List.length (a134 :: ([] : List Int)))))) (fun (a135 : Unit) => (bindO (some (s111.2.2.2.1 ++ (a134 :: ([] : List Int)))) (fun (a136 : (List Int)) => (bindO (getI a7.1 s111.1) (fun (a137 : Int) => (bindO (getI s15.1 s111.1) (fun (a138 : Int) => (bindO (some (IntKind.wrap .i64 (a109.1 * a138))) (fun (a139 : Int) => (bindO (some (IntKind.wrap .i64 (a137 + a139))) (fun (a140 : Int) => (bindO (M_I_Group_exp (x.1, a140)) (fun (a141 : Int) => (bindO (guardO (lenOk ((List.length s111.2.2.2.2.1) + (List.length (a141 :: ([] : List Int)))))) (fun (a142 : Unit) => (bindO (some (s111.2.2.2.2.1 ++ (a141 :: ([] : List Int)))) (fun (a143 : (List Int)) => (bindO (getI a8.1 s111.1) (fun (a144 : Int) => (bindO (getI a1.1 s111.1) (fun (a145 : Int) => (bindO (some (IntKind.wrap .i64 (a109.1 * a145))) (fun (a146 : Int) => (bindO (some (IntKind.wrap .i64 (a144 + a146))) (fun (a147 : Int) => (bindO (M_I_Group_exp (x.1, a147)) (fun (a148 : Int) => (bindO (guardO (lenOk ((List.length s111.2.2.2.2.2) + (List.length (a148 :: ([] : List Int)))))) (fun (a149 : Unit) => (bindO (some (s111.2.2.2.2.2 ++ (a148 :: ([] : List Int)))) (fun (a150 : (List Int)) => (bindO (some (IntKind.wrap .i64 (s111.1 + (1 : Int)))) (fun (a151 : Int) => (again110 (a151, (a118, (a129, (a136, (a143, a150)))))))))))))))))))))))))))))))))))))))))))))))))))))))))))))))))))))))))))))))))))))) (bindO (some (IntKind.wrap .i64 ((((List.length x.2.2.2.1) : Nat) : Int) - (1 : Int)))) (fun (a152 : Int) => (bindO (getI a2.1 a152) (fun (a153 : Int) => (bindO (some (IntKind.wrap .i64 (a109.1 * a153))) (fun (a154 : Int) => (bindO (some (IntKind.wrap .i64 (a6.1 + a154))) (fun (a155 : Int) => (bindO (M_I_Group_exp (x.1, a155)) (fun (a156 : Int) => (bindO (M_I_dot (x.2.2.2.2.2.1, (s15.1, x.1.2.1))) (fun (a157 : Int) => (bindO (some (IntKind.wrap .i64 (a109.1 * a157))) (fun (a158 : Int) => (bindO (some (IntKind.wrap .i64 (a9.1 + a158))) (fun (a159 : Int) => (bindO (M_I_Group_exp (x.1, a159)) (fun (a160 : Int) => (bindO (M_slices_Concat_sint_int (s111.2.1 :: (s111.2.2.1 :: (s111.2.2.2.1 :: ((a156 :: ([] : List Int)) :: (s111.2.2.2.2.1 :: (s111.2.2.2.2.2 :: ((a160 :: ([] : List Int)) :: ([] : List (List Int)))))))))) (fun (a161 : (List Int)) => (some ((s33.2.2.2.2.1, (s33.2.2.2.2.2.1, (s33.2.2.2.2.2.2.1, (a107, ((a109.1 :: ([] : List Int)), a161))))), true))))))))))))))))))))))))) ((0 : Int), (([] : List Int), (([] : List Int), (([] : List Int), (([] : List Int), ([] : List Int))))))))))))))))))))))))))))))))))))))) (a88, (0 : Int)))))))))))) (s68.1, (0 : Int)))))) (([] : List Int), (0 : Int)))))))))) (([] : List Int), ((1 : Int), (([] : List Int), ((0 : Int), s15.2.2)))))))))))))))))) (([] : List Int), ((0 : Int), (a11, (([] : List Int), (([] : List Int), (([] : List Int), (([] : List Int), ([] : List Int)))))))))))))))))))))))))))))))))))))

noncomputable def c_I_Group_provePoly : Con0 := ⟨pk_I_Group_provePoly, rk_I_Group_provePoly, M_I_Group_provePoly⟩

set_option maxRecDepth 100000 in
theorem eq_I_Group_provePoly (x : In pk_I_Group_provePoly) : semF (mkE [(134, c_I_taker_take), (135, c_I_taker_one), (67, c_I_Group_mix), (157, c_I_Group_placeCommits), (120, c_I_mixList), (122, c_I_Group_challenge), (137, c_I_power), (138, c_I_Group_commit), (132, c_slices_Clone_sint_int), (133, c_I_Group_points), (124, c_I_Group_exp), (128, c_I_Group_pow), (127, c_I_Group_mul), (125, c_I_sides), (130, c_I_Group_powers), (123, c_slices_Concat_sint_int), (156, c_I_dot)]) h_I_Group_provePoly (info Tryz.f103) pk_I_Group_provePoly rk_I_Group_provePoly x = M_I_Group_provePoly x := (semFF_eq _ _ _ _ _ _).symm.trans (by kernel_rfl)

set_option maxRecDepth 100000 in
theorem m_I_Group_provePoly : ConOK Tryz.prog 103 c_I_Group_provePoly := fn_ok (tyOK _) (E := mkE [(134, c_I_taker_take), (135, c_I_taker_one), (67, c_I_Group_mix), (157, c_I_Group_placeCommits), (120, c_I_mixList), (122, c_I_Group_challenge), (137, c_I_power), (138, c_I_Group_commit), (132, c_slices_Clone_sint_int), (133, c_I_Group_points), (124, c_I_Group_exp), (128, c_I_Group_pow), (127, c_I_Group_mul), (125, c_I_sides), (130, c_I_Group_powers), (123, c_slices_Concat_sint_int), (156, c_I_dot)]) (consOK_cons m_I_taker_take (consOK_cons m_I_taker_one (consOK_cons m_I_Group_mix (consOK_cons m_I_Group_placeCommits (consOK_cons m_I_mixList (consOK_cons m_I_Group_challenge (consOK_cons m_I_power (consOK_cons m_I_Group_commit (consOK_cons m_slices_Clone_sint_int (consOK_cons m_I_Group_points (consOK_cons m_I_Group_exp (consOK_cons m_I_Group_pow (consOK_cons m_I_Group_mul (consOK_cons m_I_sides (consOK_cons m_I_Group_powers (consOK_cons m_slices_Concat_sint_int (consOK_cons m_I_dot (consOK_nil rfl)))))))))))))))))) Tryz.func103 (h := h_I_Group_provePoly) (by kernel_rfl) eq_I_Group_provePoly

/-- I_ProvePoly -/
def pk_I_ProvePoly : List PK := [.data (.cons (.int .i64) (.cons (.int .i64) (.one (.int .i64)))), .data (.int .i64), .data (.sl (.cons (.int .i64) (.one (.int .i64)))), .data (.sl (.int .i64)), .data (.sl (.int .i64)), .data (.sl (.int .i64))]
def rk_I_ProvePoly : List (Ty × Bool) := [((.cons (.sl (.int .i64)) (.cons (.sl (.int .i64)) (.cons (.sl (.int .i64)) (.one (.cons (.sl (.int .i64)) (.cons (.sl (.int .i64)) (.one (.sl (.int .i64))))))))), true), (.bool, false)]
def h_I_ProvePoly : Hints := { loops := [] }
noncomputable def M_I_ProvePoly (x : ((Int × (Int × Int)) × (Int × ((List (Int × Int)) × ((List Int) × ((List Int) × (List Int))))))) : (Option (((List Int) × ((List Int) × ((List Int) × ((List Int) × ((List Int) × (List Int)))))) × Bool)) :=
  (bindO (M_I_polyBases ((x.1.1, (x.1.2.1, x.1.2.2)), (x.2.1, x.2.2.1))) (fun (a0 : ((Int × (List Int)) × Bool)) => (cond (not a0.2) (some ((([] : List Int), (([] : List Int), (([] : List Int), (([] : List Int), (([] : List Int), ([] : List Int)))))), false)) (bindO (M_I_Group_isMixing ((x.1.1, (x.1.2.1, x.1.2.2)), (x.2.2.2.1, (x.2.2.2.2.1, (((List.length x.2.2.1) : Nat) : Int))))) (fun (a1 : Bool) => (cond (not a1) (some ((([] : List Int), (([] : List Int), (([] : List Int), (([] : List Int), (([] : List Int), ([] : List Int)))))), false)) (bindO (some (IntKind.wrap .i64 ((8 : Int) * (((List.length x.2.2.1) : Nat) : Int)))) (fun (a2 : Int) => (bindO (some (IntKind.wrap .i64 (a2 + (2 : Int)))) (fun (a3 : Int) => (cond ((((List.length x.2.2.2.2.2) : Nat) : Int) != a3) (some ((([] : List Int), (([] : List Int), (([] : List Int), (([] : List Int), (([] : List Int), ([] : List Int)))))), false)) (bindO (M_I_Group_areExps ((x.1.1, (x.1.2.1, x.1.2.2)), x.2.2.2.2.2)) (fun (a4 : Bool) => (cond (not a4) (some ((([] : List Int), (([] : List Int), (([] : List Int), (([] : List Int), (([] : List Int), ([] : List Int)))))), false)) (bindO (M_I_Group_provePoly ((x.1.1, (x.1.2.1, x.1.2.2)), ((a0.1.1, a0.1.2), (x.2.1, (x.2.2.1, (x.2.2.2.1, (x.2.2.2.2.1, x.2.2.2.2.2))))))) (fun (a5 : (((List Int) × ((List Int) × ((List Int) × ((List Int) × ((List Int) × (List Int)))))) × Bool)) => (some ((a5.1.1, (a5.1.2.1, (a5.1.2.2.1, (a5.1.2.2.2.1, (a5.1.2.2.2.2.1, a5.1.2.2.2.2.2))))), a5.2))))))))))))))))))

noncomputable def c_I_ProvePoly : Con0 := ⟨pk_I_ProvePoly, rk_I_ProvePoly, M_I_ProvePoly⟩

set_option maxRecDepth 100000 in
theorem eq_I_ProvePoly (x : In pk_I_ProvePoly) : semF (mkE [(45, c_I_polyBases), (66, c_I_Group_isMixing), (100, c_I_Group_areExps), (103, c_I_Group_provePoly)]) h_I_ProvePoly (info Tryz.f69) pk_I_ProvePoly rk_I_ProvePoly x = M_I_ProvePoly x := (semFF_eq _ _ _ _ _ _).symm.trans (by kernel_rfl)

set_option maxRecDepth 100000 in
theorem m_I_ProvePoly : ConOK Tryz.prog 69 c_I_ProvePoly := fn_ok (tyOK _) (E := mkE [(45, c_I_polyBases), (66, c_I_Group_isMixing), (100, c_I_Group_areExps), (103, c_I_Group_provePoly)]) (consOK_cons m_I_polyBases (consOK_cons m_I_Group_isMixing (consOK_cons m_I_Group_areExps (consOK_cons m_I_Group_provePoly (consOK_nil rfl))))) Tryz.func69 (h := h_I_ProvePoly) (by kernel_rfl) eq_I_ProvePoly

/-- I_RunStage -/
def pk_I_RunStage : List PK := [.data (.cons (.int .i64) (.cons (.int .i64) (.one (.int .i64)))), .data (.int .i64), .data (.sl (.cons (.int .i64) (.one (.int .i64)))), .data (.int .i64), .data (.sl (.int .i64)), .data (.sl (.int .i64))]
def rk_I_RunStage : List (Ty × Bool) := [((.cons (.int .i64) (.cons (.sl (.cons (.int .i64) (.one (.int .i64)))) (.cons (.cons (.sl (.int .i64)) (.cons (.sl (.int .i64)) (.one (.cons (.sl (.int .i64)) (.cons (.sl (.int .i64)) (.one (.sl (.int .i64)))))))) (.one (.cons (.sl (.int .i64)) (.cons (.sl (.int .i64)) (.cons (.sl (.int .i64)) (.one (.cons (.sl (.int .i64)) (.cons (.sl (.int .i64)) (.one (.sl (.int .i64))))))))))))), true), (.bool, false)]
def h_I_RunStage : Hints := { loops := [] }
noncomputable def M_I_RunStage (x : ((Int × (Int × Int)) × (Int × ((List (Int × Int)) × (Int × ((List Int) × (List Int))))))) : (Option ((Int × ((List (Int × Int)) × (((List Int) × ((List Int) × ((List Int) × ((List Int) × (List Int))))) × ((List Int) × ((List Int) × ((List Int) × ((List Int) × ((List Int) × (List Int))))))))) × Bool)) :=
  (bindO (M_I_mixBases ((x.1.1, (x.1.2.1, x.1.2.2)), (x.2.1, x.2.2.1))) (fun (a0 : ((Int × (List Int)) × Bool)) => (cond (not a0.2) (some (((0 : Int), (([] : List (Int × Int)), ((([] : List Int), (([] : List Int), (([] : List Int), (([] : List Int), ([] : List Int))))), (([] : List Int), (([] : List Int), (([] : List Int), (([] : List Int), (([] : List Int), ([] : List Int))))))))), false)) (bindO (M_I_isArgument x.2.2.2.1) (fun (a1 : Bool) => (cond (not a1) (some (((0 : Int), (([] : List (Int × Int)), ((([] : List Int), (([] : List Int), (([] : List Int), (([] : List Int), ([] : List Int))))), (([] : List Int), (([] : List Int), (([] : List Int), (([] : List Int), (([] : List Int), ([] : List Int))))))))), false)) (bindO (M_I_coinsForStage (x.2.2.2.1, (((List.length x.2.2.1) : Nat) : Int))) (fun (a2 : Int) => (cond ((((List.length x.2.2.2.2.2) : Nat) : Int) != a2) (some (((0 : Int), (([] : List (Int × Int)), ((([] : List Int), (([] : List Int), (([] : List Int), (([] : List Int), ([] : List Int))))), (([] : List Int), (([] : List Int), (([] : List Int), (([] : List Int), (([] : List Int), ([] : List Int))))))))), false)) (bindO (sliceNH (((List.length x.2.2.1) : Nat) : Int) (List.length x.2.2.2.2.2)) (fun (a3 : (Nat × Nat)) => (bindO (M_I_Group_isMixing ((x.1.1, (x.1.2.1, x.1.2.2)), (x.2.2.2.2.1, ((List.drop a3.1 (List.take a3.2 x.2.2.2.2.2)), (((List.length x.2.2.1) : Nat) : Int))))) (fun (a4 : Bool) => (cond (not a4) (some (((0 : Int), (([] : List (Int × Int)), ((([] : List Int), (([] : List Int), (([] : List Int), (([] : List Int), ([] : List Int))))), (([] : List Int), (([] : List Int), (([] : List Int), (([] : List Int), (([] : List Int), ([] : List Int))))))))), false)) (bindO (sliceNH (((List.length x.2.2.1) : Nat) : Int) (List.length x.2.2.2.2.2)) (fun (a5 : (Nat × Nat)) => (bindO (sliceLN (((List.length x.2.2.1) : Nat) : Int) (List.length x.2.2.2.2.2)) (fun (a6 : (Nat × Nat)) => (bindO (M_I_Group_mix ((x.1.1, (x.1.2.1, x.1.2.2)), (x.2.1, (x.2.2.1, (x.2.2.2.2.1, (List.drop a5.1 (List.take a5.2 x.2.2.2.2.2))))))) (fun (a7 : (List (Int × Int))) => (cond (x.2.2.2.1 == (1 : Int)) (bindO (M_I_ProveMatrix ((x.1.1, (x.1.2.1, x.1.2.2)), (x.2.1, (x.2.2.1, (x.2.2.2.2.1, ((List.drop a5.1 (List.take a5.2 x.2.2.2.2.2)), (List.drop a6.1 (List.take a6.2 x.2.2.2.2.2)))))))) (fun (a8 : (((List Int) × ((List Int) × ((List Int) × ((List Int) × (List Int))))) × Bool)) => (cond (not a8.2) (some (((0 : Int), (([] : List (Int × Int)), ((([] : List Int), (([] : List Int), (([] : List Int), (([] : List Int), ([] : List Int))))), (([] : List Int), (([] : List Int), (([] : List Int), (([] : List Int), (([] : List Int), ([] : List Int))))))))), false)) (some ((x.2.2.2.1, (a7, ((a8.1.1, (a8.1.2.1, (a8.1.2.2.1, (a8.1.2.2.2.1, a8.1.2.2.2.2)))), (([] : List Int), (([] : List Int), (([] : List Int), (([] : List Int), (([] : List Int), ([] : List Int))))))))), true))))) (bindO (M_I_ProvePoly ((x.1.1, (x.1.2.1, x.1.2.2)), (x.2.1, (x.2.2.1, (x.2.2.2.2.1, ((List.drop a5.1 (List.take a5.2 x.2.2.2.2.2)), (List.drop a6.1 (List.take a6.2 x.2.2.2.2.2)))))))) (fun (a9 : (((List Int) × ((List Int) × ((List Int) × ((List Int) × ((List Int) × (List Int)))))) × Bool)) => (cond (not a9.2) (some (((0 : Int), (([] : List (Int × Int)), ((([] : List Int), (([] : List Int), (([] : List Int), (([] : List Int), ([] : List Int))))), (([] : List Int), (([] : List Int), (([] : List Int), (([] : List Int), (([] : List Int), ([] : List Int))))))))), false)) (some ((x.2.2.2.1, (a7, ((([] : List Int), (([] : List Int), (([] : List Int), (([] : List Int), ([] : List Int))))), (a9.1.1, (a9.1.2.1, (a9.1.2.2.1, (a9.1.2.2.2.1, (a9.1.2.2.2.2.1, a9.1.2.2.2.2.2)))))))), true))))))))))))))))))))))))))

noncomputable def c_I_RunStage : Con0 := ⟨pk_I_RunStage, rk_I_RunStage, M_I_RunStage⟩

set_option maxRecDepth 100000 in
theorem eq_I_RunStage (x : In pk_I_RunStage) : semF (mkE [(63, c_I_mixBases), (64, c_I_isArgument), (65, c_I_coinsForStage), (66, c_I_Group_isMixing), (67, c_I_Group_mix), (68, c_I_ProveMatrix), (69, c_I_ProvePoly)]) h_I_RunStage (info Tryz.f32) pk_I_RunStage rk_I_RunStage x = M_I_RunStage x := (semFF_eq _ _ _ _ _ _).symm.trans (by kernel_rfl)

set_option maxRecDepth 100000 in
theorem m_I_RunStage : ConOK Tryz.prog 32 c_I_RunStage := fn_ok (tyOK _) (E := mkE [(63, c_I_mixBases), (64, c_I_isArgument), (65, c_I_coinsForStage), (66, c_I_Group_isMixing), (67, c_I_Group_mix), (68, c_I_ProveMatrix), (69, c_I_ProvePoly)]) (consOK_cons m_I_mixBases (consOK_cons m_I_isArgument (consOK_cons m_I_coinsForStage (consOK_cons m_I_Group_isMixing (consOK_cons m_I_Group_mix (consOK_cons m_I_ProveMatrix (consOK_cons m_I_ProvePoly (consOK_nil rfl)))))))) Tryz.func32 (h := h_I_RunStage) (by kernel_rfl) eq_I_RunStage

/-- L_eqCipher -/
def pk_L_eqCipher : List PK := [.data (.cons (.int .i64) (.one (.int .i64))), .data (.cons (.int .i64) (.one (.int .i64)))]
def rk_L_eqCipher : List (Ty × Bool) := [(.bool, false)]
def h_L_eqCipher : Hints := { loops := [] }
noncomputable def M_L_eqCipher (x : ((Int × Int) × (Int × Int))) : (Option Bool) :=
  (cond (x.1.1 != x.2.1) (some false) (cond (x.1.2 != x.2.2) (some false) (some true)))

noncomputable def c_L_eqCipher : Con0 := ⟨pk_L_eqCipher, rk_L_eqCipher, M_L_eqCipher⟩

set_option maxRecDepth 100000 in
theorem eq_L_eqCipher (x : In pk_L_eqCipher) : semF (mkE []) h_L_eqCipher (info Tryz.f47) pk_L_eqCipher rk_L_eqCipher x = M_L_eqCipher x := (semFF_eq _ _ _ _ _ _).symm.trans (by kernel_rfl)

set_option maxRecDepth 100000 in
theorem m_L_eqCipher : ConOK Tryz.prog 47 c_L_eqCipher := fn_ok (tyOK _) (E := mkE []) (consOK_nil rfl) Tryz.func47 (h := h_L_eqCipher) (by kernel_rfl) eq_L_eqCipher

/-- L_eqCipherS -/
def pk_L_eqCipherS : List PK := [.data (.sl (.cons (.int .i64) (.one (.int .i64)))), .data (.sl (.cons (.int .i64) (.one (.int .i64))))]
def rk_L_eqCipherS : List (Ty × Bool) := [(.bool, false)]
def h_L_eqCipherS : Hints := { loops := [(0, { items := [.slot 5 (.data (.int .i64) [])], kill := [2, 3, 4] ++ (sgN 6 21) })] }
noncomputable def M_L_eqCipherS (x : ((List (Int × Int)) × (List (Int × Int)))) : (Option Bool) :=
  (cond ((((List.length x.1) : Nat) : Int) != (((List.length x.2) : Nat) : Int)) (some false) (loopO (fun (again0 : (Int → (Option Bool))) => (fun (s1 : Int) => (cond (decide (s1 < (((List.length x.1) : Nat) : Int))) (bindO (getI x.1 s1) (fun (a2 : (Int × Int)) => (bindO (getI x.2 s1) (fun (a3 : (Int × Int)) => (bindO (M_L_eqCipher ((a2.1, a2.2), (a3.1, a3.2))) (fun (a4 : Bool) => (cond (not a4) (some false) (bindO (some (IntKind.wrap .i64 (s1 + (1 : Int)))) (fun (a5 : Int) => (again0 a5)))))))))) (some true)))) (0 : Int)))

noncomputable def c_L_eqCipherS : Con0 := ⟨pk_L_eqCipherS, rk_L_eqCipherS, M_L_eqCipherS⟩

set_option maxRecDepth 100000 in
theorem eq_L_eqCipherS (x : In pk_L_eqCipherS) : semF (mkE [(47, c_L_eqCipher)]) h_L_eqCipherS (info Tryz.f16) pk_L_eqCipherS rk_L_eqCipherS x = M_L_eqCipherS x := (semFF_eq _ _ _ _ _ _).symm.trans (by kernel_rfl)

set_option maxRecDepth 100000 in
theorem m_L_eqCipherS : ConOK Tryz.prog 16 c_L_eqCipherS := fn_ok (tyOK _) (E := mkE [(47, c_L_eqCipher)]) (consOK_cons m_L_eqCipher (consOK_nil rfl)) Tryz.func16 (h := h_L_eqCipherS) (by kernel_rfl) eq_L_eqCipherS

/-- L_eqIntS -/
def pk_L_eqIntS : List PK := [.data (.sl (.int .i64)), .data (.sl (.int .i64))]
def rk_L_eqIntS : List (Ty × Bool) := [(.bool, false)]
def h_L_eqIntS : Hints := { loops := [(0, { items := [.slot 5 (.data (.int .i64) [])], kill := [2, 3, 4] ++ (sgN 6 20) })] }
noncomputable def M_L_eqIntS (x : ((List Int) × (List Int))) : (Option Bool) :=
  (cond ((((List.length x.1) : Nat) : Int) != (((List.length x.2) : Nat) : Int)) (some false) (loopO (fun (again0 : (Int → (Option Bool))) => (fun (s1 : Int) => (cond (decide (s1 < (((List.length x.1) : Nat) : Int))) (bindO (getI x.1 s1) (fun (a2 : Int) => (bindO (getI x.2 s1) (fun (a3 : Int) => (cond (a2 != a3) (some false) (bindO (some (IntKind.wrap .i64 (s1 + (1 : Int)))) (fun (a4 : Int) => (again0 a4)))))))) (some true)))) (0 : Int)))

noncomputable def c_L_eqIntS : Con0 := ⟨pk_L_eqIntS, rk_L_eqIntS, M_L_eqIntS⟩

set_option maxRecDepth 100000 in
theorem eq_L_eqIntS (x : In pk_L_eqIntS) : semF (mkE []) h_L_eqIntS (info Tryz.f15) pk_L_eqIntS rk_L_eqIntS x = M_L_eqIntS x := (semFF_eq _ _ _ _ _ _).symm.trans (by kernel_rfl)

set_option maxRecDepth 100000 in
theorem m_L_eqIntS : ConOK Tryz.prog 15 c_L_eqIntS := fn_ok (tyOK _) (E := mkE []) (consOK_nil rfl) Tryz.func15 (h := h_L_eqIntS) (by kernel_rfl) eq_L_eqIntS

/-- L_eqProof -/
def pk_L_eqProof : List PK := [.data (.cons (.sl (.int .i64)) (.cons (.sl (.int .i64)) (.one (.sl (.int .i64))))), .data (.cons (.sl (.int .i64)) (.cons (.sl (.int .i64)) (.one (.sl (.int .i64)))))]
def rk_L_eqProof : List (Ty × Bool) := [(.bool, false)]
def h_L_eqProof : Hints := { loops := [] }
noncomputable def M_L_eqProof (x : (((List Int) × ((List Int) × (List Int))) × ((List Int) × ((List Int) × (List Int))))) : (Option Bool) :=
  (bindO (M_L_eqIntS (x.1.1, x.2.1)) (fun (a0 : Bool) => (cond (not a0) (some false) (bindO (M_L_eqIntS (x.1.2.1, x.2.2.1)) (fun (a1 : Bool) => (cond (not a1) (some false) (bindO (M_L_eqIntS (x.1.2.2, x.2.2.2)) (fun (a2 : Bool) => (cond (not a2) (some false) (some true))))))))))

noncomputable def c_L_eqProof : Con0 := ⟨pk_L_eqProof, rk_L_eqProof, M_L_eqProof⟩

set_option maxRecDepth 100000 in
theorem eq_L_eqProof (x : In pk_L_eqProof) : semF (mkE [(15, c_L_eqIntS)]) h_L_eqProof (info Tryz.f90) pk_L_eqProof rk_L_eqProof x = M_L_eqProof x := (semFF_eq _ _ _ _ _ _).symm.trans (by kernel_rfl)

set_option maxRecDepth 100000 in
theorem m_L_eqProof : ConOK Tryz.prog 90 c_L_eqProof := fn_ok (tyOK _) (E := mkE [(15, c_L_eqIntS)]) (consOK_cons m_L_eqIntS (consOK_nil rfl)) Tryz.func90 (h := h_L_eqProof) (by kernel_rfl) eq_L_eqProof

/-- L_eqMatrixProof -/
def pk_L_eqMatrixProof : List PK := [.data (.cons (.sl (.int .i64)) (.cons (.sl (.int .i64)) (.one (.cons (.sl (.int .i64)) (.cons (.sl (.int .i64)) (.one (.sl (.int .i64)))))))), .data (.cons (.sl (.int .i64)) (.cons (.sl (.int .i64)) (.one (.cons (.sl (.int .i64)) (.cons (.sl (.int .i64)) (.one (.sl (.int .i64))))))))]
def rk_L_eqMatrixProof : List (Ty × Bool) := [(.bool, false)]
def h_L_eqMatrixProof : Hints := { loops := [] }
noncomputable def M_L_eqMatrixProof (x : (((List Int) × ((List Int) × ((List Int) × ((List Int) × (List Int))))) × ((List Int) × ((List Int) × ((List Int) × ((List Int) × (List Int))))))) : (Option Bool) :=
  (bindO (M_L_eqIntS (x.1.1, x.2.1)) (fun (a0 : Bool) => (cond (not a0) (some false) (bindO (M_L_eqIntS (x.1.2.1, x.2.2.1)) (fun (a1 : Bool) => (cond (not a1) (some false) (bindO (M_L_eqProof ((x.1.2.2.1, (x.1.2.2.2.1, x.1.2.2.2.2)), (x.2.2.2.1, (x.2.2.2.2.1, x.2.2.2.2.2)))) (fun (a2 : Bool) => (cond (not a2) (some false) (some true))))))))))

noncomputable def c_L_eqMatrixProof : Con0 := ⟨pk_L_eqMatrixProof, rk_L_eqMatrixProof, M_L_eqMatrixProof⟩

set_option maxRecDepth 100000 in
theorem eq_L_eqMatrixProof (x : In pk_L_eqMatrixProof) : semF (mkE [(15, c_L_eqIntS), (90, c_L_eqProof)]) h_L_eqMatrixProof (info Tryz.f57) pk_L_eqMatrixProof rk_L_eqMatrixProof x = M_L_eqMatrixProof x := (semFF_eq _ _ _ _ _ _).symm.trans (by kernel_rfl)

set_option maxRecDepth 100000 in
theorem m_L_eqMatrixProof : ConOK Tryz.prog 57 c_L_eqMatrixProof := fn_ok (tyOK _) (E := mkE [(15, c_L_eqIntS), (90, c_L_eqProof)]) (consOK_cons m_L_eqIntS (consOK_cons m_L_eqProof (consOK_nil rfl))) Tryz.func57 (h := h_L_eqMatrixProof) (by kernel_rfl) eq_L_eqMatrixProof

/-- L_eqPolyProof -/
def pk_L_eqPolyProof : List PK := [.data (.cons (.sl (.int .i64)) (.cons (.sl (.int .i64)) (.cons (.sl (.int .i64)) (.one (.cons (.sl (.int .i64)) (.cons (.sl (.int .i64)) (.one (.sl (.int .i64))))))))), .data (.cons (.sl (.int .i64)) (.cons (.sl (.int .i64)) (.cons (.sl (.int .i64)) (.one (.cons (.sl (.int .i64)) (.cons (.sl (.int .i64)) (.one (.sl (.int .i64)))))))))]
def rk_L_eqPolyProof : List (Ty × Bool) := [(.bool, false)]
def h_L_eqPolyProof : Hints := { loops := [] }
noncomputable def M_L_eqPolyProof (x : (((List Int) × ((List Int) × ((List Int) × ((List Int) × ((List Int) × (List Int)))))) × ((List Int) × ((List Int) × ((List Int) × ((List Int) × ((List Int) × (List Int)))))))) : (Option Bool) :=
  (bindO (M_L_eqIntS (x.1.1, x.2.1)) (fun (a0 : Bool) => (cond (not a0) (some false) (bindO (M_L_eqIntS (x.1.2.1, x.2.2.1)) (fun (a1 : Bool) => (cond (not a1) (some false) (bindO (M_L_eqIntS (x.1.2.2.1, x.2.2.2.1)) (fun (a2 : Bool) => (cond (not a2) (some false) (bindO (M_L_eqProof ((x.1.2.2.2.1, (x.1.2.2.2.2.1, x.1.2.2.2.2.2)), (x.2.2.2.2.1, (x.2.2.2.2.2.1, x.2.2.2.2.2.2)))) (fun (a3 : Bool) => (cond (not a3) (some false) (some true)))))))))))))

noncomputable def c_L_eqPolyProof : Con0 := ⟨pk_L_eqPolyProof, rk_L_eqPolyProof, M_L_eqPolyProof⟩

set_option maxRecDepth 100000 in
theorem eq_L_eqPolyProof (x : In pk_L_eqPolyProof) : semF (mkE [(15, c_L_eqIntS), (90, c_L_eqProof)]) h_L_eqPolyProof (info Tryz.f58) pk_L_eqPolyProof rk_L_eqPolyProof x = M_L_eqPolyProof x := (semFF_eq _ _ _ _ _ _).symm.trans (by kernel_rfl)

set_option maxRecDepth 100000 in
theorem m_L_eqPolyProof : ConOK Tryz.prog 58 c_L_eqPolyProof := fn_ok (tyOK _) (E := mkE [(15, c_L_eqIntS), (90, c_L_eqProof)]) (consOK_cons m_L_eqIntS (consOK_cons m_L_eqProof (consOK_nil rfl))) Tryz.func58 (h := h_L_eqPolyProof) (by kernel_rfl) eq_L_eqPolyProof

/-- L_eqStage -/
def pk_L_eqStage : List PK := [.data (.cons (.int .i64) (.cons (.sl (.cons (.int .i64) (.one (.int .i64)))) (.cons (.cons (.sl (.int .i64)) (.cons (.sl (.int .i64)) (.one (.cons (.sl (.int .i64)) (.cons (.sl (.int .i64)) (.one (.sl (.int .i64)))))))) (.one (.cons (.sl (.int .i64)) (.cons (.sl (.int .i64)) (.cons (.sl (.int .i64)) (.one (.cons (.sl (.int .i64)) (.cons (.sl (.int .i64)) (.one (.sl (.int .i64))))))))))))), .data (.cons (.int .i64) (.cons (.sl (.cons (.int .i64) (.one (.int .i64)))) (.cons (.cons (.sl (.int .i64)) (.cons (.sl (.int .i64)) (.one (.cons (.sl (.int .i64)) (.cons (.sl (.int .i64)) (.one (.sl (.int .i64)))))))) (.one (.cons (.sl (.int .i64)) (.cons (.sl (.int .i64)) (.cons (.sl (.int .i64)) (.one (.cons (.sl (.int .i64)) (.cons (.sl (.int .i64)) (.one (.sl (.int .i64)))))))))))))]
def rk_L_eqStage : List (Ty × Bool) := [(.bool, false)]
def h_L_eqStage : Hints := { loops := [] }
noncomputable def M_L_eqStage (x : ((Int × ((List (Int × Int)) × (((List Int) × ((List Int) × ((List Int) × ((List Int) × (List Int))))) × ((List Int) × ((List Int) × ((List Int) × ((List Int) × ((List Int) × (List Int))))))))) × (Int × ((List (Int × Int)) × (((List Int) × ((List Int) × ((List Int) × ((List Int) × (List Int))))) × ((List Int) × ((List Int) × ((List Int) × ((List Int) × ((List Int) × (List Int))))))))))) : (Option Bool) :=
  (cond (x.1.1 != x.2.1) (some false) (bindO (M_L_eqCipherS (x.1.2.1, x.2.2.1)) (fun (a0 : Bool) => (cond (not a0) (some false) (bindO (M_L_eqMatrixProof ((x.1.2.2.1.1, (x.1.2.2.1.2.1, (x.1.2.2.1.2.2.1, (x.1.2.2.1.2.2.2.1, x.1.2.2.1.2.2.2.2)))), (x.2.2.2.1.1, (x.2.2.2.1.2.1, (x.2.2.2.1.2.2.1, (x.2.2.2.1.2.2.2.1, x.2.2.2.1.2.2.2.2)))))) (fun (a1 : Bool) => (cond (not a1) (some false) (bindO (M_L_eqPolyProof ((x.1.2.2.2.1, (x.1.2.2.2.2.1, (x.1.2.2.2.2.2.1, (x.1.2.2.2.2.2.2.1, (x.1.2.2.2.2.2.2.2.1, x.1.2.2.2.2.2.2.2.2))))), (x.2.2.2.2.1, (x.2.2.2.2.2.1, (x.2.2.2.2.2.2.1, (x.2.2.2.2.2.2.2.1, (x.2.2.2.2.2.2.2.2.1, x.2.2.2.2.2.2.2.2.2))))))) (fun (a2 : Bool) => (cond (not a2) (some false) (some true)))))))))))

noncomputable def c_L_eqStage : Con0 := ⟨pk_L_eqStage, rk_L_eqStage, M_L_eqStage⟩

set_option maxRecDepth 100000 in
theorem eq_L_eqStage (x : In pk_L_eqStage) : semF (mkE [(16, c_L_eqCipherS), (57, c_L_eqMatrixProof), (58, c_L_eqPolyProof)]) h_L_eqStage (info Tryz.f27) pk_L_eqStage rk_L_eqStage x = M_L_eqStage x := (semFF_eq _ _ _ _ _ _).symm.trans (by kernel_rfl)

set_option maxRecDepth 100000 in
theorem m_L_eqStage : ConOK Tryz.prog 27 c_L_eqStage := fn_ok (tyOK _) (E := mkE [(16, c_L_eqCipherS), (57, c_L_eqMatrixProof), (58, c_L_eqPolyProof)]) (consOK_cons m_L_eqCipherS (consOK_cons m_L_eqMatrixProof (consOK_cons m_L_eqPolyProof (consOK_nil rfl)))) Tryz.func27 (h := h_L_eqStage) (by kernel_rfl) eq_L_eqStage

/-- L_markCipherS -/
def pk_L_markCipherS : List PK := [.mv (.sl (.cons (.int .i64) (.one (.int .i64)))), .data (.int .i64)]
def rk_L_markCipherS : List (Ty × Bool) := [((.int .i64), false)]
def h_L_markCipherS : Hints := { loops := [(0, { items := [.slot 1 (.data (.int .i64) []), .slot 5 (.data (.int .i64) []), .arr 0 (.cons (.int .i64) (.one (.int .i64))) true], kill := [2, 3, 4] ++ (sgN 6 21) })] }
noncomputable def M_L_markCipherS (x : ((List (Int × Int)) × Int)) : (Option (Int × (List (Int × Int)))) :=
  (loopO (fun (again0 : ((Int × (Int × (List (Int × Int)))) → (Option (Int × (List (Int × Int)))))) => (fun (s1 : (Int × (Int × (List (Int × Int))))) => (cond (decide (s1.2.1 < (((List.length s1.2.2) : Nat) : Int))) (bindO (getI s1.2.2 s1.2.1) (fun (a2 : (Int × Int)) => (bindO (some (List.set s1.2.2 (Int.toNat s1.2.1) (s1.1, a2.2))) (fun (a3 : (List (Int × Int))) => (bindO (some (IntKind.wrap .i64 (s1.1 + (1 : Int)))) (fun (a4 : Int) => (bindO (getI a3 s1.2.1) (fun (a5 : (Int × Int)) => (bindO (some (List.set a3 (Int.toNat s1.2.1) (a5.1, a4))) (fun (a6 : (List (Int × Int))) => (bindO (some (IntKind.wrap .i64 (a4 + (1 : Int)))) (fun (a7 : Int) => (bindO (some (IntKind.wrap .i64 (s1.2.1 + (1 : Int)))) (fun (a8 : Int) => (again0 (a7, (a8, a6))))))))))))))))) (some (s1.1, s1.2.2))))) (x.2, ((0 : Int), x.1)))

noncomputable def c_L_markCipherS : Con0 := ⟨pk_L_markCipherS, rk_L_markCipherS, M_L_markCipherS⟩

set_option maxRecDepth 100000 in
theorem eq_L_markCipherS (x : In pk_L_markCipherS) : semF (mkE []) h_L_markCipherS (info Tryz.f18) pk_L_markCipherS rk_L_markCipherS x = M_L_markCipherS x := (semFF_eq _ _ _ _ _ _).symm.trans (by kernel_rfl)

set_option maxRecDepth 100000 in
theorem m_L_markCipherS : ConOK Tryz.prog 18 c_L_markCipherS := fn_ok (tyOK _) (E := mkE []) (consOK_nil rfl) Tryz.func18 (h := h_L_markCipherS) (by kernel_rfl) eq_L_markCipherS

/-- L_markIntS -/
def pk_L_markIntS : List PK := [.mv (.sl (.int .i64)), .data (.int .i64)]
def rk_L_markIntS : List (Ty × Bool) := [((.int .i64), false)]
def h_L_markIntS : Hints := { loops := [(0, { items := [.slot 1 (.data (.int .i64) []), .slot 5 (.data (.int .i64) []), .arr 0 (.int .i64) true], kill := [2, 3, 4] ++ (sgN 6 13) })] }
noncomputable def M_L_markIntS (x : ((List Int) × Int)) : (Option (Int × (List Int))) :=
  (loopO (fun (again0 : ((Int × (Int × (List Int))) → (Option (Int × (List Int))))) => (fun (s1 : (Int × (Int × (List Int)))) => (cond (decide (s1.2.1 < (((List.length s1.2.2) : Nat) : Int))) (bindO (getI s1.2.2 s1.2.1) (fun (a2 : Int) => (bindO (some (List.set s1.2.2 (Int.toNat s1.2.1) s1.1)) (fun (a3 : (List Int)) => (bindO (some (IntKind.wrap .i64 (s1.1 + (1 : Int)))) (fun (a4 : Int) => (bindO (some (IntKind.wrap .i64 (s1.2.1 + (1 : Int)))) (fun (a5 : Int) => (again0 (a4, (a5, a3))))))))))) (some (s1.1, s1.2.2))))) (x.2, ((0 : Int), x.1)))

noncomputable def c_L_markIntS : Con0 := ⟨pk_L_markIntS, rk_L_markIntS, M_L_markIntS⟩

set_option maxRecDepth 100000 in
theorem eq_L_markIntS (x : In pk_L_markIntS) : semF (mkE []) h_L_markIntS (info Tryz.f20) pk_L_markIntS rk_L_markIntS x = M_L_markIntS x := (semFF_eq _ _ _ _ _ _).symm.trans (by kernel_rfl)

set_option maxRecDepth 100000 in
theorem m_L_markIntS : ConOK Tryz.prog 20 c_L_markIntS := fn_ok (tyOK _) (E := mkE []) (consOK_nil rfl) Tryz.func20 (h := h_L_markIntS) (by kernel_rfl) eq_L_markIntS

/-- L_markProof -/
def pk_L_markProof : List PK := [.mv (.cons (.sl (.int .i64)) (.cons (.sl (.int .i64)) (.one (.sl (.int .i64))))), .data (.int .i64)]
def rk_L_markProof : List (Ty × Bool) := [((.int .i64), false)]
def h_L_markProof : Hints := { loops := [] }
noncomputable def M_L_markProof (x : (((List Int) × ((List Int) × (List Int))) × Int)) : (Option (Int × ((List Int) × ((List Int) × (List Int))))) :=
  (bindO (M_L_markIntS (x.1.1, x.2)) (fun (a0 : (Int × (List Int))) => (bindO (M_L_markIntS (x.1.2.1, a0.1)) (fun (a1 : (Int × (List Int))) => (bindO (M_L_markIntS (x.1.2.2, a1.1)) (fun (a2 : (Int × (List Int))) => (some (a2.1, (a0.2, (a1.2, a2.2))))))))))

noncomputable def c_L_markProof : Con0 := ⟨pk_L_markProof, rk_L_markProof, M_L_markProof⟩

set_option maxRecDepth 100000 in
theorem eq_L_markProof (x : In pk_L_markProof) : semF (mkE [(20, c_L_markIntS)]) h_L_markProof (info Tryz.f104) pk_L_markProof rk_L_markProof x = M_L_markProof x := (semFF_eq _ _ _ _ _ _).symm.trans (by kernel_rfl)

set_option maxRecDepth 100000 in
theorem m_L_markProof : ConOK Tryz.prog 104 c_L_markProof := fn_ok (tyOK _) (E := mkE [(20, c_L_markIntS)]) (consOK_cons m_L_markIntS (consOK_nil rfl)) Tryz.func104 (h := h_L_markProof) (by kernel_rfl) eq_L_markProof

/-- L_markMatrixProof -/
def pk_L_markMatrixProof : List PK := [.mv (.cons (.sl (.int .i64)) (.cons (.sl (.int .i64)) (.one (.cons (.sl (.int .i64)) (.cons (.sl (.int .i64)) (.one (.sl (.int .i64)))))))), .data (.int .i64)]
def rk_L_markMatrixProof : List (Ty × Bool) := [((.int .i64), false)]
def h_L_markMatrixProof : Hints := { loops := [] }
noncomputable def M_L_markMatrixProof (x : (((List Int) × ((List Int) × ((List Int) × ((List Int) × (List Int))))) × Int)) : (Option (Int × ((List Int) × ((List Int) × ((List Int) × ((List Int) × (List Int))))))) :=
  (bindO (M_L_markIntS (x.1.1, x.2)) (fun (a0 : (Int × (List Int))) => (bindO (M_L_markIntS (x.1.2.1, a0.1)) (fun (a1 : (Int × (List Int))) => (bindO (M_L_markProof ((x.1.2.2.1, (x.1.2.2.2.1, x.1.2.2.2.2)), a1.1)) (fun (a2 : (Int × ((List Int) × ((List Int) × (List Int))))) => (some (a2.1, (a0.2, (a1.2, (a2.2.1, (a2.2.2.1, a2.2.2.2))))))))))))

noncomputable def c_L_markMatrixProof : Con0 := ⟨pk_L_markMatrixProof, rk_L_markMatrixProof, M_L_markMatrixProof⟩

set_option maxRecDepth 100000 in
theorem eq_L_markMatrixProof (x : In pk_L_markMatrixProof) : semF (mkE [(20, c_L_markIntS), (104, c_L_markProof)]) h_L_markMatrixProof (info Tryz.f70) pk_L_markMatrixProof rk_L_markMatrixProof x = M_L_markMatrixProof x := (semFF_eq _ _ _ _ _ _).symm.trans (by kernel_rfl)

set_option maxRecDepth 100000 in
theorem m_L_markMatrixProof : ConOK Tryz.prog 70 c_L_markMatrixProof := fn_ok (tyOK _) (E := mkE [(20, c_L_markIntS), (104, c_L_markProof)]) (consOK_cons m_L_markIntS (consOK_cons m_L_markProof (consOK_nil rfl))) Tryz.func70 (h := h_L_markMatrixProof) (by kernel_rfl) eq_L_markMatrixProof

/-- L_markPolyProof -/
def pk_L_markPolyProof : List PK := [.mv (.cons (.sl (.int .i64)) (.cons (.sl (.int .i64)) (.cons (.sl (.int .i64)) (.one (.cons (.sl (.int .i64)) (.cons (.sl (.int .i64)) (.one (.sl (.int .i64))))))))), .data (.int .i64)]
def rk_L_markPolyProof : List (Ty × Bool) := [((.int .i64), false)]
def h_L_markPolyProof : Hints := { loops := [] }
noncomputable def M_L_markPolyProof (x : (((List Int) × ((List Int) × ((List Int) × ((List Int) × ((List Int) × (List Int)))))) × Int)) : (Option (Int × ((List Int) × ((List Int) × ((List Int) × ((List Int) × ((List Int) × (List Int)))))))) :=
  (bindO (M_L_markIntS (x.1.1, x.2)) (fun (a0 : (Int × (List Int))) => (bindO (M_L_markIntS (x.1.2.1, a0.1)) (fun (a1 : (Int × (List Int))) => (bindO (M_L_markIntS (x.1.2.2.1, a1.1)) (fun (a2 : (Int × (List Int))) => (bindO (M_L_markProof ((x.1.2.2.2.1, (x.1.2.2.2.2.1, x.1.2.2.2.2.2)), a2.1)) (fun (a3 : (Int × ((List Int) × ((List Int) × (List Int))))) => (some (a3.1, (a0.2, (a1.2, (a2.2, (a3.2.1, (a3.2.2.1, a3.2.2.2)))))))))))))))

noncomputable def c_L_markPolyProof : Con0 := ⟨pk_L_markPolyProof, rk_L_markPolyProof, M_L_markPolyProof⟩

set_option maxRecDepth 100000 in
theorem eq_L_markPolyProof (x : In pk_L_markPolyProof) : semF (mkE [(20, c_L_markIntS), (104, c_L_markProof)]) h_L_markPolyProof (info Tryz.f71) pk_L_markPolyProof rk_L_markPolyProof x = M_L_markPolyProof x := (semFF_eq _ _ _ _ _ _).symm.trans (by kernel_rfl)

set_option maxRecDepth 100000 in
theorem m_L_markPolyProof : ConOK Tryz.prog 71 c_L_markPolyProof := fn_ok (tyOK _) (E := mkE [(20, c_L_markIntS), (104, c_L_markProof)]) (consOK_cons m_L_markIntS (consOK_cons m_L_markProof (consOK_nil rfl))) Tryz.func71 (h := h_L_markPolyProof) (by kernel_rfl) eq_L_markPolyProof

/-- L_markStage -/
def pk_L_markStage : List PK := [.mv (.cons (.int .i64) (.cons (.sl (.cons (.int .i64) (.one (.int .i64)))) (.cons (.cons (.sl (.int .i64)) (.cons (.sl (.int .i64)) (.one (.cons (.sl (.int .i64)) (.cons (.sl (.int .i64)) (.one (.sl (.int .i64)))))))) (.one (.cons (.sl (.int .i64)) (.cons (.sl (.int .i64)) (.cons (.sl (.int .i64)) (.one (.cons (.sl (.int .i64)) (.cons (.sl (.int .i64)) (.one (.sl (.int .i64))))))))))))), .data (.int .i64)]
def rk_L_markStage : List (Ty × Bool) := [((.int .i64), false)]
def h_L_markStage : Hints := { loops := [] }
noncomputable def M_L_markStage (x : ((Int × ((List (Int × Int)) × (((List Int) × ((List Int) × ((List Int) × ((List Int) × (List Int))))) × ((List Int) × ((List Int) × ((List Int) × ((List Int) × ((List Int) × (List Int))))))))) × Int)) : (Option (Int × (Int × ((List (Int × Int)) × (((List Int) × ((List Int) × ((List Int) × ((List Int) × (List Int))))) × ((List Int) × ((List Int) × ((List Int) × ((List Int) × ((List Int) × (List Int))))))))))) :=
  (bindO (M_L_markCipherS (x.1.2.1, x.2)) (fun (a0 : (Int × (List (Int × Int)))) => (bindO (M_L_markMatrixProof ((x.1.2.2.1.1, (x.1.2.2.1.2.1, (x.1.2.2.1.2.2.1, (x.1.2.2.1.2.2.2.1, x.1.2.2.1.2.2.2.2)))), a0.1)) (fun (a1 : (Int × ((List Int) × ((List Int) × ((List Int) × ((List Int) × (List Int))))))) => (bindO (M_L_markPolyProof ((x.1.2.2.2.1, (x.1.2.2.2.2.1, (x.1.2.2.2.2.2.1, (x.1.2.2.2.2.2.2.1, (x.1.2.2.2.2.2.2.2.1, x.1.2.2.2.2.2.2.2.2))))), a1.1)) (fun (a2 : (Int × ((List Int) × ((List Int) × ((List Int) × ((List Int) × ((List Int) × (List Int)))))))) => (some (a2.1, (x.1.1, (a0.2, ((a1.2.1, (a1.2.2.1, (a1.2.2.2.1, (a1.2.2.2.2.1, a1.2.2.2.2.2)))), (a2.2.1, (a2.2.2.1, (a2.2.2.2.1, (a2.2.2.2.2.1, (a2.2.2.2.2.2.1, a2.2.2.2.2.2.2))))))))))))))))

noncomputable def c_L_markStage : Con0 := ⟨pk_L_markStage, rk_L_markStage, M_L_markStage⟩

set_option maxRecDepth 100000 in
theorem eq_L_markStage (x : In pk_L_markStage) : semF (mkE [(18, c_L_markCipherS), (70, c_L_markMatrixProof), (71, c_L_markPolyProof)]) h_L_markStage (info Tryz.f33) pk_L_markStage rk_L_markStage x = M_L_markStage x := (semFF_eq _ _ _ _ _ _).symm.trans (by kernel_rfl)

set_option maxRecDepth 100000 in
theorem m_L_markStage : ConOK Tryz.prog 33 c_L_markStage := fn_ok (tyOK _) (E := mkE [(18, c_L_markCipherS), (70, c_L_markMatrixProof), (71, c_L_markPolyProof)]) (consOK_cons m_L_markCipherS (consOK_cons m_L_markMatrixProof (consOK_cons m_L_markPolyProof (consOK_nil rfl)))) Tryz.func33 (h := h_L_markStage) (by kernel_rfl) eq_L_markStage

/-- L_heldCipherS -/
def pk_L_heldCipherS : List PK := [.data (.sl (.cons (.int .i64) (.one (.int .i64)))), .data (.int .i64)]
def rk_L_heldCipherS : List (Ty × Bool) := [((.int .i64), false)]
def h_L_heldCipherS : Hints := { loops := [(0, { items := [.slot 1 (.data (.int .i64) []), .slot 5 (.data (.int .i64) [])], kill := [2, 3, 4] ++ (sgN 6 25) })] }
noncomputable def M_L_heldCipherS (x : ((List (Int × Int)) × Int)) : (Option Int) :=
  (loopO (fun (again0 : ((Int × Int) → (Option Int))) => (fun (s1 : (Int × Int)) => (cond (decide (s1.2 < (((List.length x.1) : Nat) : Int))) (bindO (getI x.1 s1.2) (fun (a2 : (Int × Int)) => (cond (a2.1 != s1.1) (some (- (1 : Int))) (bindO (some (IntKind.wrap .i64 (s1.1 + (1 : Int)))) (fun (a3 : Int) => (bindO (getI x.1 s1.2) (fun (a4 : (Int × Int)) => (cond (a4.2 != a3) (some (- (1 : Int))) (bindO (some (IntKind.wrap .i64 (a3 + (1 : Int)))) (fun (a5 : Int) => (bindO (some (IntKind.wrap .i64 (s1.2 + (1 : Int)))) (fun (a6 : Int) => (again0 (a5, a6)))))))))))))) (some s1.1)))) (x.2, (0 : Int)))

noncomputable def c_L_heldCipherS : Con0 := ⟨pk_L_heldCipherS, rk_L_heldCipherS, M_L_heldCipherS⟩

set_option maxRecDepth 100000 in
theorem eq_L_heldCipherS (x : In pk_L_heldCipherS) : semF (mkE []) h_L_heldCipherS (info Tryz.f22) pk_L_heldCipherS rk_L_heldCipherS x = M_L_heldCipherS x := (semFF_eq _ _ _ _ _ _).symm.trans (by kernel_rfl)

set_option maxRecDepth 100000 in
theorem m_L_heldCipherS : ConOK Tryz.prog 22 c_L_heldCipherS := fn_ok (tyOK _) (E := mkE []) (consOK_nil rfl) Tryz.func22 (h := h_L_heldCipherS) (by kernel_rfl) eq_L_heldCipherS

/-- L_heldIntS -/
def pk_L_heldIntS : List PK := [.data (.sl (.int .i64)), .data (.int .i64)]
def rk_L_heldIntS : List (Ty × Bool) := [((.int .i64), false)]
def h_L_heldIntS : Hints := { loops := [(0, { items := [.slot 1 (.data (.int .i64) []), .slot 5 (.data (.int .i64) [])], kill := [2, 3, 4] ++ (sgN 6 15) })] }
noncomputable def M_L_heldIntS (x : ((List Int) × Int)) : (Option Int) :=
  (loopO (fun (again0 : ((Int × Int) → (Option Int))) => (fun (s1 : (Int × Int)) => (cond (decide (s1.2 < (((List.length x.1) : Nat) : Int))) (bindO (getI x.1 s1.2) (fun (a2 : Int) => (cond (a2 != s1.1) (some (- (1 : Int))) (bindO (some (IntKind.wrap .i64 (s1.1 + (1 : Int)))) (fun (a3 : Int) => (bindO (some (IntKind.wrap .i64 (s1.2 + (1 : Int)))) (fun (a4 : Int) => (again0 (a3, a4))))))))) (some s1.1)))) (x.2, (0 : Int)))

noncomputable def c_L_heldIntS : Con0 := ⟨pk_L_heldIntS, rk_L_heldIntS, M_L_heldIntS⟩

set_option maxRecDepth 100000 in
theorem eq_L_heldIntS (x : In pk_L_heldIntS) : semF (mkE []) h_L_heldIntS (info Tryz.f21) pk_L_heldIntS rk_L_heldIntS x = M_L_heldIntS x := (semFF_eq _ _ _ _ _ _).symm.trans (by kernel_rfl)

set_option maxRecDepth 100000 in
theorem m_L_heldIntS : ConOK Tryz.prog 21 c_L_heldIntS := fn_ok (tyOK _) (E := mkE []) (consOK_nil rfl) Tryz.func21 (h := h_L_heldIntS) (by kernel_rfl) eq_L_heldIntS

/-- L_heldProof -/
def pk_L_heldProof : List PK := [.data (.cons (.sl (.int .i64)) (.cons (.sl (.int .i64)) (.one (.sl (.int .i64))))), .data (.int .i64)]
def rk_L_heldProof : List (Ty × Bool) := [((.int .i64), false)]
def h_L_heldProof : Hints := { loops := [] }
noncomputable def M_L_heldProof (x : (((List Int) × ((List Int) × (List Int))) × Int)) : (Option Int) :=
  (bindO (M_L_heldIntS (x.1.1, x.2)) (fun (a0 : Int) => (cond (decide (a0 < (0 : Int))) (some (- (1 : Int))) (bindO (M_L_heldIntS (x.1.2.1, a0)) (fun (a1 : Int) => (cond (decide (a1 < (0 : Int))) (some (- (1 : Int))) (bindO (M_L_heldIntS (x.1.2.2, a1)) (fun (a2 : Int) => (cond (decide (a2 < (0 : Int))) (some (- (1 : Int))) (some a2))))))))))

noncomputable def c_L_heldProof : Con0 := ⟨pk_L_heldProof, rk_L_heldProof, M_L_heldProof⟩

set_option maxRecDepth 100000 in
theorem eq_L_heldProof (x : In pk_L_heldProof) : semF (mkE [(21, c_L_heldIntS)]) h_L_heldProof (info Tryz.f105) pk_L_heldProof rk_L_heldProof x = M_L_heldProof x := (semFF_eq _ _ _ _ _ _).symm.trans (by kernel_rfl)

set_option maxRecDepth 100000 in
theorem m_L_heldProof : ConOK Tryz.prog 105 c_L_heldProof := fn_ok (tyOK _) (E := mkE [(21, c_L_heldIntS)]) (consOK_cons m_L_heldIntS (consOK_nil rfl)) Tryz.func105 (h := h_L_heldProof) (by kernel_rfl) eq_L_heldProof

/-- L_heldMatrixProof -/
def pk_L_heldMatrixProof : List PK := [.data (.cons (.sl (.int .i64)) (.cons (.sl (.int .i64)) (.one (.cons (.sl (.int .i64)) (.cons (.sl (.int .i64)) (.one (.sl (.int .i64)))))))), .data (.int .i64)]
def rk_L_heldMatrixProof : List (Ty × Bool) := [((.int .i64), false)]
def h_L_heldMatrixProof : Hints := { loops := [] }
noncomputable def M_L_heldMatrixProof (x : (((List Int) × ((List Int) × ((List Int) × ((List Int) × (List Int))))) × Int)) : (Option Int) :=
  (bindO (M_L_heldIntS (x.1.1, x.2)) (fun (a0 : Int) => (cond (decide (a0 < (0 : Int))) (some (- (1 : Int))) (bindO (M_L_heldIntS (x.1.2.1, a0)) (fun (a1 : Int) => (cond (decide (a1 < (0 : Int))) (some (- (1 : Int))) (bindO (M_L_heldProof ((x.1.2.2.1, (x.1.2.2.2.1, x.1.2.2.2.2)), a1)) (fun (a2 : Int) => (cond (decide (a2 < (0 : Int))) (some (- (1 : Int))) (some a2))))))))))

noncomputable def c_L_heldMatrixProof : Con0 := ⟨pk_L_heldMatrixProof, rk_L_heldMatrixProof, M_L_heldMatrixProof⟩

set_option maxRecDepth 100000 in
theorem eq_L_heldMatrixProof (x : In pk_L_heldMatrixProof) : semF (mkE [(21, c_L_heldIntS), (105, c_L_heldProof)]) h_L_heldMatrixProof (info Tryz.f72) pk_L_heldMatrixProof rk_L_heldMatrixProof x = M_L_heldMatrixProof x := (semFF_eq _ _ _ _ _ _).symm.trans (by kernel_rfl)

set_option maxRecDepth 100000 in
theorem m_L_heldMatrixProof : ConOK Tryz.prog 72 c_L_heldMatrixProof := fn_ok (tyOK _) (E := mkE [(21, c_L_heldIntS), (105, c_L_heldProof)]) (consOK_cons m_L_heldIntS (consOK_cons m_L_heldProof (consOK_nil rfl))) Tryz.func72 (h := h_L_heldMatrixProof) (by kernel_rfl) eq_L_heldMatrixProof

/-- L_heldPolyProof -/
def pk_L_heldPolyProof : List PK := [.data (.cons (.sl (.int .i64)) (.cons (.sl (.int .i64)) (.cons (.sl (.int .i64)) (.one (.cons (.sl (.int .i64)) (.cons (.sl (.int .i64)) (.one (.sl (.int .i64))))))))), .data (.int .i64)]
def rk_L_heldPolyProof : List (Ty × Bool) := [((.int .i64), false)]
def h_L_heldPolyProof : Hints := { loops := [] }
noncomputable def M_L_heldPolyProof (x : (((List Int) × ((List Int) × ((List Int) × ((List Int) × ((List Int) × (List Int)))))) × Int)) : (Option Int) :=
  (bindO (M_L_heldIntS (x.1.1, x.2)) (fun (a0 : Int) => (cond (decide (a0 < (0 : Int))) (some (- (1 : Int))) (bindO (M_L_heldIntS (x.1.2.1, a0)) (fun (a1 : Int) => (cond (decide (a1 < (0 : Int))) (some (- (1 : Int))) (bindO (M_L_heldIntS (x.1.2.2.1, a1)) (fun (a2 : Int) => (cond (decide (a2 < (0 : Int))) (some (- (1 : Int))) (bindO (M_L_heldProof ((x.1.2.2.2.1, (x.1.2.2.2.2.1, x.1.2.2.2.2.2)), a2)) (fun (a3 : Int) => (cond (decide (a3 < (0 : Int))) (some (- (1 : Int))) (some a3)))))))))))))

noncomputable def c_L_heldPolyProof : Con0 := ⟨pk_L_heldPolyProof, rk_L_heldPolyProof, M_L_heldPolyProof⟩

set_option maxRecDepth 100000 in
theorem eq_L_heldPolyProof (x : In pk_L_heldPolyProof) : semF (mkE [(21, c_L_heldIntS), (105, c_L_heldProof)]) h_L_heldPolyProof (info Tryz.f73) pk_L_heldPolyProof rk_L_heldPolyProof x = M_L_heldPolyProof x := (semFF_eq _ _ _ _ _ _).symm.trans (by kernel_rfl)

set_option maxRecDepth 100000 in
theorem m_L_heldPolyProof : ConOK Tryz.prog 73 c_L_heldPolyProof := fn_ok (tyOK _) (E := mkE [(21, c_L_heldIntS), (105, c_L_heldProof)]) (consOK_cons m_L_heldIntS (consOK_cons m_L_heldProof (consOK_nil rfl))) Tryz.func73 (h := h_L_heldPolyProof) (by kernel_rfl) eq_L_heldPolyProof

/-- L_heldStage -/
def pk_L_heldStage : List PK := [.data (.cons (.int .i64) (.cons (.sl (.cons (.int .i64) (.one (.int .i64)))) (.cons (.cons (.sl (.int .i64)) (.cons (.sl (.int .i64)) (.one (.cons (.sl (.int .i64)) (.cons (.sl (.int .i64)) (.one (.sl (.int .i64)))))))) (.one (.cons (.sl (.int .i64)) (.cons (.sl (.int .i64)) (.cons (.sl (.int .i64)) (.one (.cons (.sl (.int .i64)) (.cons (.sl (.int .i64)) (.one (.sl (.int .i64))))))))))))), .data (.int .i64)]
def rk_L_heldStage : List (Ty × Bool) := [((.int .i64), false)]
def h_L_heldStage : Hints := { loops := [] }
noncomputable def M_L_heldStage (x : ((Int × ((List (Int × Int)) × (((List Int) × ((List Int) × ((List Int) × ((List Int) × (List Int))))) × ((List Int) × ((List Int) × ((List Int) × ((List Int) × ((List Int) × (List Int))))))))) × Int)) : (Option Int) :=
  (bindO (M_L_heldCipherS (x.1.2.1, x.2)) (fun (a0 : Int) => (cond (decide (a0 < (0 : Int))) (some (- (1 : Int))) (bindO (M_L_heldMatrixProof ((x.1.2.2.1.1, (x.1.2.2.1.2.1, (x.1.2.2.1.2.2.1, (x.1.2.2.1.2.2.2.1, x.1.2.2.1.2.2.2.2)))), a0)) (fun (a1 : Int) => (cond (decide (a1 < (0 : Int))) (some (- (1 : Int))) (bindO (M_L_heldPolyProof ((x.1.2.2.2.1, (x.1.2.2.2.2.1, (x.1.2.2.2.2.2.1, (x.1.2.2.2.2.2.2.1, (x.1.2.2.2.2.2.2.2.1, x.1.2.2.2.2.2.2.2.2))))), a1)) (fun (a2 : Int) => (cond (decide (a2 < (0 : Int))) (some (- (1 : Int))) (some a2))))))))))

noncomputable def c_L_heldStage : Con0 := ⟨pk_L_heldStage, rk_L_heldStage, M_L_heldStage⟩

set_option maxRecDepth 100000 in
theorem eq_L_heldStage (x : In pk_L_heldStage) : semF (mkE [(22, c_L_heldCipherS), (72, c_L_heldMatrixProof), (73, c_L_heldPolyProof)]) h_L_heldStage (info Tryz.f34) pk_L_heldStage rk_L_heldStage x = M_L_heldStage x := (semFF_eq _ _ _ _ _ _).symm.trans (by kernel_rfl)

set_option maxRecDepth 100000 in
theorem m_L_heldStage : ConOK Tryz.prog 34 c_L_heldStage := fn_ok (tyOK _) (E := mkE [(22, c_L_heldCipherS), (72, c_L_heldMatrixProof), (73, c_L_heldPolyProof)]) (consOK_cons m_L_heldCipherS (consOK_cons m_L_heldMatrixProof (consOK_cons m_L_heldPolyProof (consOK_nil rfl)))) Tryz.func34 (h := h_L_heldStage) (by kernel_rfl) eq_L_heldStage

/-- L_FnExactRunStage -/
def pk_L_FnExactRunStage : List PK := [.data (.cons (.int .i64) (.cons (.int .i64) (.one (.int .i64)))), .data (.int .i64), .data (.sl (.cons (.int .i64) (.one (.int .i64)))), .data (.int .i64), .data (.sl (.int .i64)), .data (.sl (.int .i64))]
def rk_L_FnExactRunStage : List (Ty × Bool) := [(.bool, false)]
def h_L_FnExactRunStage : Hints := { loops := [] }
noncomputable def M_L_FnExactRunStage (x : ((Int × (Int × Int)) × (Int × ((List (Int × Int)) × (Int × ((List Int) × (List Int))))))) : (Option Bool) :=
  (cond (decide ((((List.length x.2.2.2.2.1) : Nat) : Int) > (1048576 : Int))) (some true) (cond (decide ((((List.length x.2.2.2.2.2) : Nat) : Int) > (1048576 : Int))) (some true) (bindO (M_L_szCipherS (x.2.2.1, (1048576 : Int))) (fun (a0 : Int) => (cond (decide (a0 < (0 : Int))) (some true) (bindO (M_L_toGroup (x.1.1, (x.1.2.1, x.1.2.2))) (fun (a1 : (Int × (Int × Int))) => (bindO (M_L_toCipherS x.2.2.1) (fun (a2 : (List (Int × Int))) => (bindO (M_L_toIntS x.2.2.2.2.1) (fun (a3 : (List Int)) => (bindO (M_L_toIntS x.2.2.2.2.2) (fun (a4 : (List Int)) => (bindO (M_S_RunStage ((a1.1, (a1.2.1, a1.2.2)), (x.2.1, (a2, (x.2.2.2.1, (a3, a4)))))) (fun (a5 : ((Int × ((List (Int × Int)) × (((List Int) × ((List Int) × ((List Int) × ((List Int) × (List Int))))) × ((List Int) × ((List Int) × ((List Int) × ((List Int) × ((List Int) × (List Int))))))))) × Bool)) => (bindO (M_L_toCipherS x.2.2.1) (fun (a6 : (List (Int × Int))) => (bindO (M_L_toIntS x.2.2.2.2.1) (fun (a7 : (List Int)) => (bindO (M_L_toIntS x.2.2.2.2.2) (fun (a8 : (List Int)) => (bindO (M_L_toGroup (x.1.1, (x.1.2.1, x.1.2.2))) (fun (a9 : (Int × (Int × Int))) => (bindO (M_I_RunStage ((a9.1, (a9.2.1, a9.2.2)), (x.2.1, (a6, (x.2.2.2.1, (a7, a8)))))) (fun (a10 : ((Int × ((List (Int × Int)) × (((List Int) × ((List Int) × ((List Int) × ((List Int) × (List Int))))) × ((List Int) × ((List Int) × ((List Int) × ((List Int) × ((List Int) × (List Int))))))))) × Bool)) => (bindO (M_L_eqStage ((a10.1.1, (a10.1.2.1, ((a10.1.2.2.1.1, (a10.1.2.2.1.2.1, (a10.1.2.2.1.2.2.1, (a10.1.2.2.1.2.2.2.1, a10.1.2.2.1.2.2.2.2)))), (a10.1.2.2.2.1, (a10.1.2.2.2.2.1, (a10.1.2.2.2.2.2.1, (a10.1.2.2.2.2.2.2.1, (a10.1.2.2.2.2.2.2.2.1, a10.1.2.2.2.2.2.2.2.2)))))))), (a5.1.1, (a5.1.2.1, ((a5.1.2.2.1.1, (a5.1.2.2.1.2.1, (a5.1.2.2.1.2.2.1, (a5.1.2.2.1.2.2.2.1, a5.1.2.2.1.2.2.2.2)))), (a5.1.2.2.2.1, (a5.1.2.2.2.2.1, (a5.1.2.2.2.2.2.1, (a5.1.2.2.2.2.2.2.1, (a5.1.2.2.2.2.2.2.2.1, a5.1.2.2.2.2.2.2.2.2)))))))))) (fun (a11 : Bool) => (cond (not a11) (some false) (cond (not (a10.2 == a5.2)) (some false) (bindO (M_L_toCipherS x.2.2.1) (fun (a12 : (List (Int × Int))) => (bindO (M_L_eqCipherS (a6, a12)) (fun (a13 : Bool) => (cond (not a13) (some false) (bindO (M_L_toIntS x.2.2.2.2.1) (fun (a14 : (List Int)) => (bindO (M_L_eqIntS (a7, a14)) (fun (a15 : Bool) => (cond (not a15) (some false) (bindO (M_L_toIntS x.2.2.2.2.2) (fun (a16 : (List Int)) => (bindO (M_L_eqIntS (a8, a16)) (fun (a17 : Bool) => (cond (not a17) (some false) (bindO (M_L_markCipherS (a6, (1 : Int))) (fun (a18 : (Int × (List (Int × Int)))) => (bindO (M_L_markIntS (a7, a18.1)) (fun (a19 : (Int × (List Int))) => (bindO (M_L_markIntS (a8, a19.1)) (fun (a20 : (Int × (List Int))) => (cond (decide (a20.1 < (0 : Int))) (some false) (bindO (M_L_eqStage ((a10.1.1, (a10.1.2.1, ((a10.1.2.2.1.1, (a10.1.2.2.1.2.1, (a10.1.2.2.1.2.2.1, (a10.1.2.2.1.2.2.2.1, a10.1.2.2.1.2.2.2.2)))), (a10.1.2.2.2.1, (a10.1.2.2.2.2.1, (a10.1.2.2.2.2.2.1, (a10.1.2.2.2.2.2.2.1, (a10.1.2.2.2.2.2.2.2.1, a10.1.2.2.2.2.2.2.2.2)))))))), (a5.1.1, (a5.1.2.1, ((a5.1.2.2.1.1, (a5.1.2.2.1.2.1, (a5.1.2.2.1.2.2.1, (a5.1.2.2.1.2.2.2.1, a5.1.2.2.1.2.2.2.2)))), (a5.1.2.2.2.1, (a5.1.2.2.2.2.1, (a5.1.2.2.2.2.2.1, (a5.1.2.2.2.2.2.2.1, (a5.1.2.2.2.2.2.2.2.1, a5.1.2.2.2.2.2.2.2.2)))))))))) (fun (a21 : Bool) => (cond (not a21) (some false) (cond (not (a10.2 == a5.2)) (some false) (bindO (M_L_markStage ((a10.1.1, (a10.1.2.1, ((a10.1.2.2.1.1, (a10.1.2.2.1.2.1, (a10.1.2.2.1.2.2.1, (a10.1.2.2.1.2.2.2.1, a10.1.2.2.1.2.2.2.2)))), (a10.1.2.2.2.1, (a10.1.2.2.2.2.1, (a10.1.2.2.2.2.2.1, (a10.1.2.2.2.2.2.2.1, (a10.1.2.2.2.2.2.2.2.1, a10.1.2.2.2.2.2.2.2.2)))))))), (1 : Int))) (fun (a22 : (Int × (Int × ((List (Int × Int)) × (((List Int) × ((List Int) × ((List Int) × ((List Int) × (List Int))))) × ((List Int) × ((List Int) × ((List Int) × ((List Int) × ((List Int) × (List Int))))))))))) => (bindO (M_L_heldStage ((a10.1.1, (a22.2.2.1, ((a22.2.2.2.1.1, (a22.2.2.2.1.2.1, (a22.2.2.2.1.2.2.1, (a22.2.2.2.1.2.2.2.1, a22.2.2.2.1.2.2.2.2)))), (a22.2.2.2.2.1, (a22.2.2.2.2.2.1, (a22.2.2.2.2.2.2.1, (a22.2.2.2.2.2.2.2.1, (a22.2.2.2.2.2.2.2.2.1, a22.2.2.2.2.2.2.2.2.2)))))))), (1 : Int))) (fun (a23 : Int) => (cond (decide (a23 < (0 : Int))) (some false) (cond (a23 != a22.1) (some false) (bindO (M_L_toGroup (x.1.1, (x.1.2.1, x.1.2.2))) (fun (a24 : (Int × (Int × Int))) => (bindO (M_L_toCipherS x.2.2.1) (fun (a25 : (List (Int × Int))) => (bindO (M_L_toIntS x.2.2.2.2.1) (fun (a26 : (List Int)) => (bindO (M_L_toIntS x.2.2.2.2.2) (fun (a27 : (List Int)) => (bindO (M_I_RunStage ((a24.1, (a24.2.1, a24.2.2)), (x.2.1, (a25, (x.2.2.2.1, (a26, a27)))))) (fun (a28 : ((Int × ((List (Int × Int)) × (((List Int) × ((List Int) × ((List Int) × ((List Int) × (List Int))))) × ((List Int) × ((List Int) × ((List Int) × ((List Int) × ((List Int) × (List Int))))))))) × Bool)) => (bindO (M_L_eqStage ((a28.1.1, (a28.1.2.1, ((a28.1.2.2.1.1, (a28.1.2.2.1.2.1, (a28.1.2.2.1.2.2.1, (a28.1.2.2.1.2.2.2.1, a28.1.2.2.1.2.2.2.2)))), (a28.1.2.2.2.1, (a28.1.2.2.2.2.1, (a28.1.2.2.2.2.2.1, (a28.1.2.2.2.2.2.2.1, (a28.1.2.2.2.2.2.2.2.1, a28.1.2.2.2.2.2.2.2.2)))))))), (a5.1.1, (a5.1.2.1, ((a5.1.2.2.1.1, (a5.1.2.2.1.2.1, (a5.1.2.2.1.2.2.1, (a5.1.2.2.1.2.2.2.1, a5.1.2.2.1.2.2.2.2)))), (a5.1.2.2.2.1, (a5.1.2.2.2.2.1, (a5.1.2.2.2.2.2.1, (a5.1.2.2.2.2.2.2.1, (a5.1.2.2.2.2.2.2.2.1, a5.1.2.2.2.2.2.2.2.2)))))))))) (fun (a29 : Bool) => (cond (not a29) (some false) (cond (not (a28.2 == a5.2)) (some false) (bindO (M_L_heldStage ((a10.1.1, (a22.2.2.1, ((a22.2.2.2.1.1, (a22.2.2.2.1.2.1, (a22.2.2.2.1.2.2.1, (a22.2.2.2.1.2.2.2.1, a22.2.2.2.1.2.2.2.2)))), (a22.2.2.2.2.1, (a22.2.2.2.2.2.1, (a22.2.2.2.2.2.2.1, (a22.2.2.2.2.2.2.2.1, (a22.2.2.2.2.2.2.2.2.1, a22.2.2.2.2.2.2.2.2.2)))))))), (1 : Int))) (fun (a30 : Int) => (cond (decide (a30 < (0 : Int))) (some false) (cond (a30 != a22.1) (some false) (some true))))))))))))))))))))))))))))))))))))))))))))))))))))))))))))))))))))))))))))))))

noncomputable def c_L_FnExactRunStage : Con0 := ⟨pk_L_FnExactRunStage, rk_L_FnExactRunStage, M_L_FnExactRunStage⟩

set_option maxRecDepth 100000 in
theorem eq_L_FnExactRunStage (x : In pk_L_FnExactRunStage) : semF (mkE [(8, c_L_szCipherS), (11, c_L_toGroup), (12, c_L_toCipherS), (31, c_L_toIntS), (30, c_S_RunStage), (32, c_I_RunStage), (27, c_L_eqStage), (16, c_L_eqCipherS), (15, c_L_eqIntS), (18, c_L_markCipherS), (20, c_L_markIntS), (33, c_L_markStage), (34, c_L_heldStage)]) h_L_FnExactRunStage (info Tryz.f6) pk_L_FnExactRunStage rk_L_FnExactRunStage x = M_L_FnExactRunStage x := (semFF_eq _ _ _ _ _ _).symm.trans (by kernel_rfl)

set_option maxRecDepth 100000 in
theorem m_L_FnExactRunStage : ConOK Tryz.prog 6 c_L_FnExactRunStage := fn_ok (tyOK _) (E := mkE [(8, c_L_szCipherS), (11, c_L_toGroup), (12, c_L_toCipherS), (31, c_L_toIntS), (30, c_S_RunStage), (32, c_I_RunStage), (27, c_L_eqStage), (16, c_L_eqCipherS), (15, c_L_eqIntS), (18, c_L_markCipherS), (20, c_L_markIntS), (33, c_L_markStage), (34, c_L_heldStage)]) (consOK_cons m_L_szCipherS (consOK_cons m_L_toGroup (consOK_cons m_L_toCipherS (consOK_cons m_L_toIntS (consOK_cons m_S_RunStage (consOK_cons m_I_RunStage (consOK_cons m_L_eqStage (consOK_cons m_L_eqCipherS (consOK_cons m_L_eqIntS (consOK_cons m_L_markCipherS (consOK_cons m_L_markIntS (consOK_cons m_L_markStage (consOK_cons m_L_heldStage (consOK_nil rfl)))))))))))))) Tryz.func6 (h := h_L_FnExactRunStage) (by kernel_rfl) eq_L_FnExactRunStage

/-- I_inverse -/
noncomputable def M_I_inverse (x : (Int × Int)) : (Option Int) :=
  (loopO (fun (again0 : ((Int × (Int × (Int × Int))) → (Option Int))) => (fun (s1 : (Int × (Int × (Int × Int)))) => (cond (s1.2.1 != (0 : Int)) (bindO (guardO (s1.2.1 != (0 : Int))) (fun (a2 : Unit) => (bindO (some (IntKind.wrap .i64 (Int.tdiv s1.1 s1.2.1))) (fun (a3 : Int) => (bindO (some (IntKind.wrap .i64 (a3 * s1.2.1))) (fun (a4 : Int) => (bindO (some (IntKind.wrap .i64 (s1.1 - a4))) (fun (a5 : Int) => (bindO (some (IntKind.wrap .i64 (a3 * s1.2.2.2))) (fun (a6 : Int) => (bindO (some (IntKind.wrap .i64 (s1.2.2.1 - a6))) (fun (a7 : Int) => (again0 (s1.2.1, (a5, (s1.2.2.2, a7)))))))))))))))) (cond (s1.1 != (1 : Int)) (some (0 : Int)) (bindO (M_I_mod (s1.2.2.1, x.2)) (fun (a8 : Int) => (some a8))))))) (x.2, (x.1, ((0 : Int), (1 : Int)))))

/-- S_nInverse -/
noncomputable def M_S_nInverse (x : (Int × Int)) : (Option (Int × Bool)) :=
  (bindO (M_S_nMod (x.1, x.2)) (fun (a0 : Int) => (loopO (fun (again1 : ((Int × (Int × (Int × Int))) → (Option (Int × Bool)))) => (fun (s2 : (Int × (Int × (Int × Int)))) => (cond (s2.2.1 != (0 : Int)) (bindO (guardO (s2.2.1 != (0 : Int))) (fun (a3 : Unit) => (bindO (some (IntKind.wrap .i64 (Int.tdiv s2.1 s2.2.1))) (fun (a4 : Int) => (bindO (some (IntKind.wrap .i64 (a4 * s2.2.1))) (fun (a5 : Int) => (bindO (some (IntKind.wrap .i64 (s2.1 - a5))) (fun (a6 : Int) => (bindO (some (IntKind.wrap .i64 (a4 * s2.2.2.2))) (fun (a7 : Int) => (bindO (some (IntKind.wrap .i64 (s2.2.2.1 - a7))) (fun (a8 : Int) => (again1 (s2.2.1, (a6, (s2.2.2.2, a8)))))))))))))))) (bindO (M_S_nMod (s2.2.2.1, x.2)) (fun (a9 : Int) => (some (a9, (s2.1 == (1 : Int))))))))) (a0, (x.2, ((1 : Int), (0 : Int)))))))

end Go.Proofs.YtjmpdejigkjaoaaGreat.Vd
