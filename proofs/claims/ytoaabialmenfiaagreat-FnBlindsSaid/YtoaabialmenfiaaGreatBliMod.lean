/- The functions of the law as plain functions on data, and that the program's functions are these. No conditions. -/
import Derived.Test.YtoaabialmenfiaaGreatVdS
import Derived.Test.YtoaabialmenfiaaGreatChecked
import Derived.KernelRfl
set_option linter.unusedVariables false
namespace Go.Proofs.YtoaabialmenfiaaGreat.Vd
def tys : List (Option Ty) := [none, none, some (.int .i64), some (.int .i64), some .bool, some (.int .u8), some (.int .u8), some (.cons (.int .i64) (.cons (.int .i64) (.cons .bool (.one (.int .u8))))), some (.cons (.int .i64) (.cons (.int .i64) (.cons .bool (.one (.int .u8))))), some .str, some .str, some .str, some (.int .u64), some (.cons .str (.one (.int .u64))), some (.cons .str (.one (.int .u64))), none, none, none, none, none, none, some (.int .i32), some (.sl (.int .u8)), some (.cons (.int .i64) (.cons (.int .i64) (.one (.int .i64)))), some (.cons (.int .i64) (.cons (.int .i64) (.one (.int .i64)))), some (.cons (.int .i64) (.one (.int .i64))), some (.cons (.int .i64) (.one (.int .i64))), some (.sl (.cons (.int .i64) (.cons (.cons (.int .i64) (.one (.int .i64))) (.one (.cons (.sl (.int .i64)) (.cons (.sl (.int .i64)) (.one (.sl (.int .i64))))))))), none, none, some (.sl (.int .i64)), none, none, none, none, some (.cons (.sl (.int .i64)) (.cons (.sl (.int .i64)) (.one (.sl (.int .i64))))), some (.cons (.sl (.int .i64)) (.cons (.sl (.int .i64)) (.one (.sl (.int .i64))))), some (.cons (.int .i64) (.cons (.cons (.int .i64) (.one (.int .i64))) (.one (.cons (.sl (.int .i64)) (.cons (.sl (.int .i64)) (.one (.sl (.int .i64)))))))), some (.cons (.int .i64) (.cons (.cons (.int .i64) (.one (.int .i64))) (.one (.cons (.sl (.int .i64)) (.cons (.sl (.int .i64)) (.one (.sl (.int .i64)))))))), none, none, none, none, none, none, none, none, none, some (.sl (.cons (.int .i64) (.cons (.int .i64) (.cons (.int .i64) (.one (.int .i64)))))), some (.sl (.cons (.sl (.int .i64)) (.cons (.sl (.int .i64)) (.one (.sl (.int .i64)))))), none, none, none, some (.cons (.int .i64) (.cons (.int .i64) (.cons (.int .i64) (.one (.int .i64))))), some (.cons (.int .i64) (.cons (.int .i64) (.cons (.int .i64) (.one (.int .i64))))), none, none, none, none, none, none, none, some (.int .u64), some (.cons (.sl (.int .u8)) (.cons (.int .i64) (.one (.int .u64)))), some (.cons (.sl (.int .u8)) (.cons (.int .i64) (.one (.int .u64)))), none, none, none, none, none, none, none, none, none, none, none, none, none, none, none, none, none, none, none, none, none, none, none, none, none, none, none, none, none, none, none, none, none, none, none, none, some (.sl (.sl (.int .i64))), none, none, none, none, none, none, none, none, none, none, none, none, none, none, none, none, none, none, none, none, none, none, none, some (.sl (.cons (.int .i64) (.one (.int .i64)))), none, none, none, none, none, none, none, none, none, some (.sl .str), none, none, none, none, none, none, none, none, none, none, none, none, none, some (.int .u64), none, none, none, none, none, none, none, none, none, none, none, none, none, none, none, none, none, none, some (.cons (.int .i64) (.one (.int .i64))), some (.cons (.int .i64) (.one (.int .i64))), none, none, none, none, none, none, some (.int .u32), some (.int .u8), some (.int .u8), none, none, some (.int .i32), some (.int .i32), none, none, none, none]
def others : List Nat := [1, 15, 16, 17, 29, 32, 34, 40, 41, 42, 44, 46, 47, 51, 52, 55, 57, 59, 60, 61, 65, 66, 67, 68, 69, 70, 71, 72, 73, 74, 75, 77, 78, 79, 80, 82, 83, 84, 85, 86, 87, 89, 90, 91, 92, 93, 94, 95, 96, 97, 99, 100, 102, 103, 104, 105, 106, 107, 108, 110, 112, 113, 114, 115, 116, 117, 118, 119, 120, 121, 122, 123, 124, 126, 127, 128, 129, 130, 131, 132, 133, 134, 136, 137, 138, 139, 140, 141, 142, 144, 145, 146, 148, 150, 151, 152, 153, 154, 155, 156, 157, 158, 159, 160, 161, 162, 163, 164, 165, 166, 167, 170, 179, 180, 185]
def pairs : List Nat := [25, 26, 168, 169]
def sgN : Nat → Nat → List Nat
  | _, 0 => []
  | a, n + 1 => a :: sgN (a + 1) n

noncomputable def mkE (con : List (Nat × Con0)) : Env := ⟨[], tys, others, pairs, con⟩

set_option maxRecDepth 100000 in
theorem tyOK (con : List (Nat × Con0)) : TyOK Tryz.prog (mkE con) := tyOK_of (E := mkE con) (by kernel_rfl) (by kernel_rfl) (by kernel_rfl)

/-- S_l1Cur_next -/
def pk_S_l1Cur_next : List PK := [.mp (.cons (.sl (.int .u8)) (.cons (.int .i64) (.one (.int .u64)))) false]
def rk_S_l1Cur_next : List (Ty × Bool) := [((.int .i64), false)]
def h_S_l1Cur_next : Hints := { loops := [] }
noncomputable def M_S_l1Cur_next (x : ((List Int) × (Int × Int))) : (Option (Int × ((List Int) × (Int × Int)))) :=
  (cond (decide (x.2.1 < (((List.length x.1) : Nat) : Int))) (bindO (getI x.1 x.2.1) (fun (a0 : Int) => (bindO (some (IntKind.wrap .i64 (x.2.1 + (1 : Int)))) (fun (a1 : Int) => (bindO (some (IntKind.wrap .u64 (x.2.2 * (6364136223846793005 : Int)))) (fun (a2 : Int) => (bindO (some (IntKind.wrap .u64 (a2 + (IntKind.wrap .u64 (IntKind.wrap .i64 a0))))) (fun (a3 : Int) => (bindO (some (IntKind.wrap .u64 (a3 + (1442695040888963407 : Int)))) (fun (a4 : Int) => (cond (decide (a1 ≤ (((List.length x.1) : Nat) : Int))) (some ((IntKind.wrap .i64 a0), (x.1, (a1, a4)))) (bindO (guardO (decide ((0 : Int) ≤ (40 : Int)))) (fun (a5 : Unit) => (bindO (some (shr .u64 a4 (40 : Int))) (fun (a6 : Int) => (bindO (some (bits .and .u64 a6 (255 : Int))) (fun (a7 : Int) => (some ((IntKind.wrap .i64 a7), (x.1, (a1, a4))))))))))))))))))))) (bindO (some (IntKind.wrap .i64 (x.2.1 + (1 : Int)))) (fun (a8 : Int) => (bindO (some (IntKind.wrap .u64 (x.2.2 * (6364136223846793005 : Int)))) (fun (a9 : Int) => (bindO (some (IntKind.wrap .u64 (a9 + (IntKind.wrap .u64 (0 : Int))))) (fun (a10 : Int) => (bindO (some (IntKind.wrap .u64 (a10 + (1442695040888963407 : Int)))) (fun (a11 : Int) => (cond (decide (a8 ≤ (((List.length x.1) : Nat) : Int))) (some ((0 : Int), (x.1, (a8, a11)))) (bindO (guardO (decide ((0 : Int) ≤ (40 : Int)))) (fun (a12 : Unit) => (bindO (some (shr .u64 a11 (40 : Int))) (fun (a13 : Int) => (bindO (some (bits .and .u64 a13 (255 : Int))) (fun (a14 : Int) => (some ((IntKind.wrap .i64 a14), (x.1, (a8, a11))))))))))))))))))))

noncomputable def c_S_l1Cur_next : Con0 := ⟨pk_S_l1Cur_next, rk_S_l1Cur_next, M_S_l1Cur_next⟩

set_option maxRecDepth 100000 in
theorem eq_S_l1Cur_next (x : In pk_S_l1Cur_next) : semF (mkE []) h_S_l1Cur_next (info Tryz.f90) pk_S_l1Cur_next rk_S_l1Cur_next x = M_S_l1Cur_next x := (semFF_eq _ _ _ _ _ _).symm.trans (by kernel_rfl)

set_option maxRecDepth 100000 in
theorem m_S_l1Cur_next : ConOK Tryz.prog 90 c_S_l1Cur_next := fn_ok (tyOK _) (E := mkE []) (consOK_nil rfl) Tryz.func90 (h := h_S_l1Cur_next) (by kernel_rfl) eq_S_l1Cur_next

/-- S_l1Cur_pick -/
def pk_S_l1Cur_pick : List PK := [.mp (.cons (.sl (.int .u8)) (.cons (.int .i64) (.one (.int .u64)))) false, .data (.int .i64)]
def rk_S_l1Cur_pick : List (Ty × Bool) := [((.int .i64), false)]
def h_S_l1Cur_pick : Hints := { loops := [] }
noncomputable def M_S_l1Cur_pick (x : (((List Int) × (Int × Int)) × Int)) : (Option (Int × ((List Int) × (Int × Int)))) :=
  (cond (decide (x.2 ≤ (1 : Int))) (some ((0 : Int), (x.1.1, (x.1.2.1, x.1.2.2)))) (bindO (M_S_l1Cur_next (x.1.1, (x.1.2.1, x.1.2.2))) (fun (a0 : (Int × ((List Int) × (Int × Int)))) => (cond (decide (x.2 > (200 : Int))) (bindO (some (IntKind.wrap .i64 (a0.1 * (256 : Int)))) (fun (a1 : Int) => (bindO (M_S_l1Cur_next (a0.2.1, (a0.2.2.1, a0.2.2.2))) (fun (a2 : (Int × ((List Int) × (Int × Int)))) => (bindO (some (IntKind.wrap .i64 (a1 + a2.1))) (fun (a3 : Int) => (bindO (guardO (x.2 != (0 : Int))) (fun (a4 : Unit) => (bindO (some (Int.tmod a3 x.2)) (fun (a5 : Int) => (some (a5, (a2.2.1, (a2.2.2.1, a2.2.2.2)))))))))))))) (bindO (guardO (x.2 != (0 : Int))) (fun (a6 : Unit) => (bindO (some (Int.tmod a0.1 x.2)) (fun (a7 : Int) => (some (a7, (a0.2.1, (a0.2.2.1, a0.2.2.2))))))))))))

noncomputable def c_S_l1Cur_pick : Con0 := ⟨pk_S_l1Cur_pick, rk_S_l1Cur_pick, M_S_l1Cur_pick⟩

set_option maxRecDepth 100000 in
theorem eq_S_l1Cur_pick (x : In pk_S_l1Cur_pick) : semF (mkE [(90, c_S_l1Cur_next)]) h_S_l1Cur_pick (info Tryz.f30) pk_S_l1Cur_pick rk_S_l1Cur_pick x = M_S_l1Cur_pick x := (semFF_eq _ _ _ _ _ _).symm.trans (by kernel_rfl)

set_option maxRecDepth 100000 in
theorem m_S_l1Cur_pick : ConOK Tryz.prog 30 c_S_l1Cur_pick := fn_ok (tyOK _) (E := mkE [(90, c_S_l1Cur_next)]) (consOK_cons m_S_l1Cur_next (consOK_nil rfl)) Tryz.func30 (h := h_S_l1Cur_pick) (by kernel_rfl) eq_S_l1Cur_pick

/-- S_l1Cur_among -/
def pk_S_l1Cur_among : List PK := [.mp (.cons (.sl (.int .u8)) (.cons (.int .i64) (.one (.int .u64)))) false, .data (.sl (.int .i64))]
def rk_S_l1Cur_among : List (Ty × Bool) := [((.int .i64), false)]
def h_S_l1Cur_among : Hints := { loops := [] }
noncomputable def M_S_l1Cur_among (x : (((List Int) × (Int × Int)) × (List Int))) : (Option (Int × ((List Int) × (Int × Int)))) :=
  (bindO (M_S_l1Cur_pick ((x.1.1, (x.1.2.1, x.1.2.2)), (((List.length x.2) : Nat) : Int))) (fun (a0 : (Int × ((List Int) × (Int × Int)))) => (bindO (getI x.2 a0.1) (fun (a1 : Int) => (some (a1, (a0.2.1, (a0.2.2.1, a0.2.2.2))))))))

noncomputable def c_S_l1Cur_among : Con0 := ⟨pk_S_l1Cur_among, rk_S_l1Cur_among, M_S_l1Cur_among⟩

set_option maxRecDepth 100000 in
theorem eq_S_l1Cur_among (x : In pk_S_l1Cur_among) : semF (mkE [(30, c_S_l1Cur_pick)]) h_S_l1Cur_among (info Tryz.f88) pk_S_l1Cur_among rk_S_l1Cur_among x = M_S_l1Cur_among x := (semFF_eq _ _ _ _ _ _).symm.trans (by kernel_rfl)

set_option maxRecDepth 100000 in
theorem m_S_l1Cur_among : ConOK Tryz.prog 88 c_S_l1Cur_among := fn_ok (tyOK _) (E := mkE [(30, c_S_l1Cur_pick)]) (consOK_cons m_S_l1Cur_pick (consOK_nil rfl)) Tryz.func88 (h := h_S_l1Cur_among) (by kernel_rfl) eq_S_l1Cur_among

/-- S_l1In -/
def pk_S_l1In : List PK := [.data (.int .i64), .data (.int .i64), .data (.int .i64)]
def rk_S_l1In : List (Ty × Bool) := [(.bool, false)]
def h_S_l1In : Hints := { loops := [] }
noncomputable def M_S_l1In (x : (Int × (Int × Int))) : (Option Bool) :=
  (cond (decide (x.1 ≥ x.2.1)) (some (decide (x.1 ≤ x.2.2))) (some false))

noncomputable def c_S_l1In : Con0 := ⟨pk_S_l1In, rk_S_l1In, M_S_l1In⟩

set_option maxRecDepth 100000 in
theorem eq_S_l1In (x : In pk_S_l1In) : semF (mkE []) h_S_l1In (info Tryz.f46) pk_S_l1In rk_S_l1In x = M_S_l1In x := (semFF_eq _ _ _ _ _ _).symm.trans (by kernel_rfl)

set_option maxRecDepth 100000 in
theorem m_S_l1In : ConOK Tryz.prog 46 c_S_l1In := fn_ok (tyOK _) (E := mkE []) (consOK_nil rfl) Tryz.func46 (h := h_S_l1In) (by kernel_rfl) eq_S_l1In

/-- S_nPrime -/
def pk_S_nPrime : List PK := [.data (.int .i64)]
def rk_S_nPrime : List (Ty × Bool) := [(.bool, false)]
def h_S_nPrime : Hints := { loops := [(0, { items := [.slot 3 (.data (.int .i64) [])], kill := [1, 2] ++ (sgN 4 13) })] }
noncomputable def M_S_nPrime (x : Int) : (Option Bool) :=
  (cond (decide (x < (2 : Int))) (some false) (loopO (fun (again0 : (Int → (Option Bool))) => (fun (s1 : Int) => (bindO (some (IntKind.wrap .i64 (s1 * s1))) (fun (a2 : Int) => (cond (decide (a2 ≤ x)) (bindO (guardO (s1 != (0 : Int))) (fun (a3 : Unit) => (bindO (some (Int.tmod x s1)) (fun (a4 : Int) => (cond (a4 == (0 : Int)) (some false) (bindO (some (IntKind.wrap .i64 (s1 + (1 : Int)))) (fun (a5 : Int) => (again0 a5)))))))) (some true)))))) (2 : Int)))

noncomputable def c_S_nPrime : Con0 := ⟨pk_S_nPrime, rk_S_nPrime, M_S_nPrime⟩

set_option maxRecDepth 100000 in
theorem eq_S_nPrime (x : In pk_S_nPrime) : semF (mkE []) h_S_nPrime (info Tryz.f95) pk_S_nPrime rk_S_nPrime x = M_S_nPrime x := (semFF_eq _ _ _ _ _ _).symm.trans (by kernel_rfl)

set_option maxRecDepth 100000 in
theorem m_S_nPrime : ConOK Tryz.prog 95 c_S_nPrime := fn_ok (tyOK _) (E := mkE []) (consOK_nil rfl) Tryz.func95 (h := h_S_nPrime) (by kernel_rfl) eq_S_nPrime

/-- S_nPower -/
def pk_S_nPower : List PK := [.data (.int .i64), .data (.int .i64), .data (.int .i64)]
def rk_S_nPower : List (Ty × Bool) := [((.int .i64), false)]
def h_S_nPower : Hints := { loops := [(0, { items := [.slot 0 (.data (.int .i64) []), .slot 1 (.data (.int .i64) []), .slot 7 (.data (.int .i64) [])], kill := sgN 3 4 ++ (sgN 8 20) })] }
noncomputable def M_S_nPower (x : (Int × (Int × Int))) : (Option Int) :=
  (bindO (guardO (x.2.2 != (0 : Int))) (fun (a0 : Unit) => (bindO (some (Int.tmod (1 : Int) x.2.2)) (fun (a1 : Int) => (loopO (fun (again2 : ((Int × (Int × Int)) → (Option Int))) => (fun (s3 : (Int × (Int × Int))) => (cond (decide (s3.2.1 > (0 : Int))) (bindO (guardO ((2 : Int) != (0 : Int))) (fun (a4 : Unit) => (bindO (some (Int.tmod s3.2.1 (2 : Int))) (fun (a5 : Int) => (cond (a5 == (1 : Int)) (bindO (some (IntKind.wrap .i64 (s3.2.2 * s3.1))) (fun (a6 : Int) => (bindO (guardO (x.2.2 != (0 : Int))) (fun (a7 : Unit) => (bindO (some (Int.tmod a6 x.2.2)) (fun (a8 : Int) => (bindO (some (IntKind.wrap .i64 (s3.1 * s3.1))) (fun (a9 : Int) => (bindO (guardO (x.2.2 != (0 : Int))) (fun (a10 : Unit) => (bindO (some (Int.tmod a9 x.2.2)) (fun (a11 : Int) => (bindO (guardO ((2 : Int) != (0 : Int))) (fun (a12 : Unit) => (bindO (some (IntKind.wrap .i64 (Int.tdiv s3.2.1 (2 : Int)))) (fun (a13 : Int) => (again2 (a11, (a13, a8))))))))))))))))))) (bindO (some (IntKind.wrap .i64 (s3.1 * s3.1))) (fun (a14 : Int) => (bindO (guardO (x.2.2 != (0 : Int))) (fun (a15 : Unit) => (bindO (some (Int.tmod a14 x.2.2)) (fun (a16 : Int) => (bindO (guardO ((2 : Int) != (0 : Int))) (fun (a17 : Unit) => (bindO (some (IntKind.wrap .i64 (Int.tdiv s3.2.1 (2 : Int)))) (fun (a18 : Int) => (again2 (a16, (a18, s3.2.2)))))))))))))))))) (some s3.2.2)))) (x.1, (x.2.1, a1)))))))

noncomputable def c_S_nPower : Con0 := ⟨pk_S_nPower, rk_S_nPower, M_S_nPower⟩

set_option maxRecDepth 100000 in
theorem eq_S_nPower (x : In pk_S_nPower) : semF (mkE []) h_S_nPower (info Tryz.f66) pk_S_nPower rk_S_nPower x = M_S_nPower x := (semFF_eq _ _ _ _ _ _).symm.trans (by kernel_rfl)

set_option maxRecDepth 100000 in
theorem m_S_nPower : ConOK Tryz.prog 66 c_S_nPower := fn_ok (tyOK _) (E := mkE []) (consOK_nil rfl) Tryz.func66 (h := h_S_nPower) (by kernel_rfl) eq_S_nPower

/-- S_MakeGroup -/
def pk_S_MakeGroup : List PK := [.data (.int .i64)]
def rk_S_MakeGroup : List (Ty × Bool) := [((.cons (.int .i64) (.cons (.int .i64) (.one (.int .i64)))), false), (.bool, false)]
def h_S_MakeGroup : Hints := { loops := [(0, { items := [.slot 4 (.data (.int .i64) []), .cell 2 0 (.data (.int .i64) []), .cell 2 1 (.data (.int .i64) []), .cell 2 2 (.data (.int .i64) [])], kill := [1, 3] ++ (sgN 5 41) }), (2, { items := [.slot 5 (.data (.int .i64) [])], kill := [1, 3] ++ (sgN 6 40) })] }
noncomputable def M_S_MakeGroup (x : Int) : (Option ((Int × (Int × Int)) × Bool)) :=
  (bindO (M_S_l1In (x, ((2 : Int), (1000000 : Int)))) (fun (a0 : Bool) => (cond (not a0) (some (((0 : Int), ((0 : Int), (0 : Int))), false)) (bindO (M_S_nPrime x) (fun (a1 : Bool) => (cond (not a1) (some (((0 : Int), ((0 : Int), (0 : Int))), false)) (bindO (some (IntKind.wrap .i64 (x + (1 : Int)))) (fun (a2 : Int) => (loopO (fun (again3 : ((Int × (Int × (Int × Int))) → (Option ((Int × (Int × Int)) × Bool)))) => (fun (s4 : (Int × (Int × (Int × Int)))) => (cond (decide (s4.1 ≤ (2000000000 : Int))) (bindO (M_S_nPrime s4.1) (fun (a5 : Bool) => (cond (not a5) (bindO (some (IntKind.wrap .i64 (s4.1 + x))) (fun (a6 : Int) => (again3 (a6, (s4.2.1, (s4.2.2.1, s4.2.2.2)))))) (loopO (fun (again7 : (Int → (Option ((Int × (Int × Int)) × Bool)))) => (fun (s8 : Int) => (bindO (some (IntKind.wrap .i64 (s4.1 - (1 : Int)))) (fun (a9 : Int) => (bindO (guardO (x != (0 : Int))) (fun (a10 : Unit) => (bindO (some (IntKind.wrap .i64 (Int.tdiv a9 x))) (fun (a11 : Int) => (bindO (M_S_nPower (s8, (a11, s4.1))) (fun (a12 : Int) => (cond (a12 == (1 : Int)) (bindO (some (IntKind.wrap .i64 (s8 + (1 : Int)))) (fun (a13 : Int) => (again7 a13))) (bindO (some (IntKind.wrap .i64 (s4.1 - (1 : Int)))) (fun (a14 : Int) => (bindO (guardO (x != (0 : Int))) (fun (a15 : Unit) => (bindO (some (IntKind.wrap .i64 (Int.tdiv a14 x))) (fun (a16 : Int) => (bindO (M_S_nPower (s8, (a16, s4.1))) (fun (a17 : Int) => (some ((s4.1, (x, a17)), true))))))))))))))))))))) (2 : Int))))) (some (((0 : Int), ((0 : Int), (0 : Int))), false))))) (a2, ((0 : Int), ((0 : Int), (0 : Int)))))))))))))

noncomputable def c_S_MakeGroup : Con0 := ⟨pk_S_MakeGroup, rk_S_MakeGroup, M_S_MakeGroup⟩

set_option maxRecDepth 100000 in
theorem eq_S_MakeGroup (x : In pk_S_MakeGroup) : semF (mkE [(46, c_S_l1In), (95, c_S_nPrime), (66, c_S_nPower)]) h_S_MakeGroup (info Tryz.f124) pk_S_MakeGroup rk_S_MakeGroup x = M_S_MakeGroup x := (semFF_eq _ _ _ _ _ _).symm.trans (by kernel_rfl)

set_option maxRecDepth 100000 in
theorem m_S_MakeGroup : ConOK Tryz.prog 124 c_S_MakeGroup := fn_ok (tyOK _) (E := mkE [(46, c_S_l1In), (95, c_S_nPrime), (66, c_S_nPower)]) (consOK_cons m_S_l1In (consOK_cons m_S_nPrime (consOK_cons m_S_nPower (consOK_nil rfl)))) Tryz.func124 (h := h_S_MakeGroup) (by kernel_rfl) eq_S_MakeGroup

/-- S_l1Cur_tiny -/
def pk_S_l1Cur_tiny : List PK := [.mp (.cons (.sl (.int .u8)) (.cons (.int .i64) (.one (.int .u64)))) false]
def rk_S_l1Cur_tiny : List (Ty × Bool) := [((.cons (.int .i64) (.cons (.int .i64) (.one (.int .i64)))), false)]
def h_S_l1Cur_tiny : Hints := { loops := [] }
noncomputable def M_S_l1Cur_tiny (x : ((List Int) × (Int × Int))) : (Option ((Int × (Int × Int)) × ((List Int) × (Int × Int)))) :=
  (bindO (M_S_l1Cur_among ((x.1, (x.2.1, x.2.2)), ((3 : Int) :: ((5 : Int) :: ((5 : Int) :: ((7 : Int) :: ((11 : Int) :: ((11 : Int) :: ((13 : Int) :: ((23 : Int) :: ([] : List Int))))))))))) (fun (a0 : (Int × ((List Int) × (Int × Int)))) => (bindO (M_S_MakeGroup a0.1) (fun (a1 : ((Int × (Int × Int)) × Bool)) => (some ((a1.1.1, (a1.1.2.1, a1.1.2.2)), (a0.2.1, (a0.2.2.1, a0.2.2.2))))))))

noncomputable def c_S_l1Cur_tiny : Con0 := ⟨pk_S_l1Cur_tiny, rk_S_l1Cur_tiny, M_S_l1Cur_tiny⟩

set_option maxRecDepth 100000 in
theorem eq_S_l1Cur_tiny (x : In pk_S_l1Cur_tiny) : semF (mkE [(88, c_S_l1Cur_among), (124, c_S_MakeGroup)]) h_S_l1Cur_tiny (info Tryz.f125) pk_S_l1Cur_tiny rk_S_l1Cur_tiny x = M_S_l1Cur_tiny x := (semFF_eq _ _ _ _ _ _).symm.trans (by kernel_rfl)

set_option maxRecDepth 100000 in
theorem m_S_l1Cur_tiny : ConOK Tryz.prog 125 c_S_l1Cur_tiny := fn_ok (tyOK _) (E := mkE [(88, c_S_l1Cur_among), (124, c_S_MakeGroup)]) (consOK_cons m_S_l1Cur_among (consOK_cons m_S_MakeGroup (consOK_nil rfl))) Tryz.func125 (h := h_S_l1Cur_tiny) (by kernel_rfl) eq_S_l1Cur_tiny

/-- S_nMod -/
def pk_S_nMod : List PK := [.data (.int .i64), .data (.int .i64)]
def rk_S_nMod : List (Ty × Bool) := [((.int .i64), false)]
def h_S_nMod : Hints := { loops := [] }
noncomputable def M_S_nMod (x : (Int × Int)) : (Option Int) :=
  (bindO (guardO (x.2 != (0 : Int))) (fun (a0 : Unit) => (bindO (some (Int.tmod x.1 x.2)) (fun (a1 : Int) => (bindO (some (IntKind.wrap .i64 (a1 + x.2))) (fun (a2 : Int) => (bindO (guardO (x.2 != (0 : Int))) (fun (a3 : Unit) => (bindO (some (Int.tmod a2 x.2)) (fun (a4 : Int) => (some a4)))))))))))

noncomputable def c_S_nMod : Con0 := ⟨pk_S_nMod, rk_S_nMod, M_S_nMod⟩

set_option maxRecDepth 100000 in
theorem eq_S_nMod (x : In pk_S_nMod) : semF (mkE []) h_S_nMod (info Tryz.f67) pk_S_nMod rk_S_nMod x = M_S_nMod x := (semFF_eq _ _ _ _ _ _).symm.trans (by kernel_rfl)

set_option maxRecDepth 100000 in
theorem m_S_nMod : ConOK Tryz.prog 67 c_S_nMod := fn_ok (tyOK _) (E := mkE []) (consOK_nil rfl) Tryz.func67 (h := h_S_nMod) (by kernel_rfl) eq_S_nMod

/-- S_gExp -/
def pk_S_gExp : List PK := [.data (.cons (.int .i64) (.cons (.int .i64) (.one (.int .i64)))), .data (.int .i64), .data (.int .i64)]
def rk_S_gExp : List (Ty × Bool) := [((.int .i64), false)]
def h_S_gExp : Hints := { loops := [] }
noncomputable def M_S_gExp (x : ((Int × (Int × Int)) × (Int × Int))) : (Option Int) :=
  (bindO (M_S_nMod (x.2.2, x.1.2.1)) (fun (a0 : Int) => (bindO (M_S_nPower (x.2.1, (a0, x.1.1))) (fun (a1 : Int) => (some a1)))))

noncomputable def c_S_gExp : Con0 := ⟨pk_S_gExp, rk_S_gExp, M_S_gExp⟩

set_option maxRecDepth 100000 in
theorem eq_S_gExp (x : In pk_S_gExp) : semF (mkE [(67, c_S_nMod), (66, c_S_nPower)]) h_S_gExp (info Tryz.f86) pk_S_gExp rk_S_gExp x = M_S_gExp x := (semFF_eq _ _ _ _ _ _).symm.trans (by kernel_rfl)

set_option maxRecDepth 100000 in
theorem m_S_gExp : ConOK Tryz.prog 86 c_S_gExp := fn_ok (tyOK _) (E := mkE [(67, c_S_nMod), (66, c_S_nPower)]) (consOK_cons m_S_nMod (consOK_cons m_S_nPower (consOK_nil rfl))) Tryz.func86 (h := h_S_gExp) (by kernel_rfl) eq_S_gExp

/-- S_l1Cur_group -/
def pk_S_l1Cur_group : List PK := [.mp (.cons (.sl (.int .u8)) (.cons (.int .i64) (.one (.int .u64)))) false]
def rk_S_l1Cur_group : List (Ty × Bool) := [((.cons (.int .i64) (.cons (.int .i64) (.one (.int .i64)))), false)]
def h_S_l1Cur_group : Hints := { loops := [] }
noncomputable def M_S_l1Cur_group (x : ((List Int) × (Int × Int))) : (Option ((Int × (Int × Int)) × ((List Int) × (Int × Int)))) :=
  (bindO (M_S_l1Cur_pick ((x.1, (x.2.1, x.2.2)), (6 : Int))) (fun (a0 : (Int × ((List Int) × (Int × Int)))) => (cond (a0.1 == (0 : Int)) (some (((1000000007 : Int), ((500000003 : Int), (4 : Int))), (a0.2.1, (a0.2.2.1, a0.2.2.2)))) (cond (a0.1 == (1 : Int)) (bindO (M_S_l1Cur_among ((a0.2.1, (a0.2.2.1, a0.2.2.2)), ((101 : Int) :: ((1009 : Int) :: ((1019 : Int) :: ((65537 : Int) :: ((999983 : Int) :: ([] : List Int)))))))) (fun (a1 : (Int × ((List Int) × (Int × Int)))) => (bindO (M_S_MakeGroup a1.1) (fun (a2 : ((Int × (Int × Int)) × Bool)) => (some ((a2.1.1, (a2.1.2.1, a2.1.2.2)), (a1.2.1, (a1.2.2.1, a1.2.2.2)))))))) (bindO (M_S_l1Cur_tiny (a0.2.1, (a0.2.2.1, a0.2.2.2))) (fun (a3 : ((Int × (Int × Int)) × ((List Int) × (Int × Int)))) => (bindO (some (IntKind.wrap .i64 (a3.1.2.1 - (1 : Int)))) (fun (a4 : Int) => (bindO (M_S_l1Cur_pick ((a3.2.1, (a3.2.2.1, a3.2.2.2)), a4)) (fun (a5 : (Int × ((List Int) × (Int × Int)))) => (bindO (some (IntKind.wrap .i64 ((1 : Int) + a5.1))) (fun (a6 : Int) => (bindO (M_S_gExp ((a3.1.1, (a3.1.2.1, a3.1.2.2)), (a3.1.2.2, a6))) (fun (a7 : Int) => (some ((a3.1.1, (a3.1.2.1, a7)), (a5.2.1, (a5.2.2.1, a5.2.2.2))))))))))))))))))

noncomputable def c_S_l1Cur_group : Con0 := ⟨pk_S_l1Cur_group, rk_S_l1Cur_group, M_S_l1Cur_group⟩

set_option maxRecDepth 100000 in
theorem eq_S_l1Cur_group (x : In pk_S_l1Cur_group) : semF (mkE [(30, c_S_l1Cur_pick), (88, c_S_l1Cur_among), (124, c_S_MakeGroup), (125, c_S_l1Cur_tiny), (86, c_S_gExp)]) h_S_l1Cur_group (info Tryz.f87) pk_S_l1Cur_group rk_S_l1Cur_group x = M_S_l1Cur_group x := (semFF_eq _ _ _ _ _ _).symm.trans (by kernel_rfl)

set_option maxRecDepth 100000 in
theorem m_S_l1Cur_group : ConOK Tryz.prog 87 c_S_l1Cur_group := fn_ok (tyOK _) (E := mkE [(30, c_S_l1Cur_pick), (88, c_S_l1Cur_among), (124, c_S_MakeGroup), (125, c_S_l1Cur_tiny), (86, c_S_gExp)]) (consOK_cons m_S_l1Cur_pick (consOK_cons m_S_l1Cur_among (consOK_cons m_S_MakeGroup (consOK_cons m_S_l1Cur_tiny (consOK_cons m_S_gExp (consOK_nil rfl)))))) Tryz.func87 (h := h_S_l1Cur_group) (by kernel_rfl) eq_S_l1Cur_group

/-- S_l1Cur_anyGroup -/
def pk_S_l1Cur_anyGroup : List PK := [.mp (.cons (.sl (.int .u8)) (.cons (.int .i64) (.one (.int .u64)))) false]
def rk_S_l1Cur_anyGroup : List (Ty × Bool) := [((.cons (.int .i64) (.cons (.int .i64) (.one (.int .i64)))), false)]
def h_S_l1Cur_anyGroup : Hints := { loops := [] }
noncomputable def M_S_l1Cur_anyGroup (x : ((List Int) × (Int × Int))) : (Option ((Int × (Int × Int)) × ((List Int) × (Int × Int)))) :=
  (bindO (M_S_l1Cur_group (x.1, (x.2.1, x.2.2))) (fun (a0 : ((Int × (Int × Int)) × ((List Int) × (Int × Int)))) => (bindO (M_S_l1Cur_pick ((a0.2.1, (a0.2.2.1, a0.2.2.2)), (24 : Int))) (fun (a1 : (Int × ((List Int) × (Int × Int)))) => (cond (a1.1 == (0 : Int)) (bindO (some (IntKind.wrap .i64 (a0.1.1 + (2 : Int)))) (fun (a2 : Int) => (bindO (M_S_l1Cur_among ((a1.2.1, (a1.2.2.1, a1.2.2.2)), ((0 : Int) :: (a2 :: ((4 : Int) :: ((- (7 : Int)) :: ([] : List Int))))))) (fun (a3 : (Int × ((List Int) × (Int × Int)))) => (some ((a3.1, (a0.1.2.1, a0.1.2.2)), (a3.2.1, (a3.2.2.1, a3.2.2.2)))))))) (cond (a1.1 == (1 : Int)) (bindO (some (IntKind.wrap .i64 (a0.1.2.1 + (1 : Int)))) (fun (a4 : Int) => (bindO (some (IntKind.wrap .i64 (a0.1.1 - (1 : Int)))) (fun (a5 : Int) => (bindO (M_S_l1Cur_among ((a1.2.1, (a1.2.2.1, a1.2.2.2)), ((0 : Int) :: ((1 : Int) :: (a4 :: (a5 :: ([] : List Int))))))) (fun (a6 : (Int × ((List Int) × (Int × Int)))) => (some ((a0.1.1, (a6.1, a0.1.2.2)), (a6.2.1, (a6.2.2.1, a6.2.2.2)))))))))) (cond (a1.1 == (2 : Int)) (bindO (some (IntKind.wrap .i64 (a0.1.1 - (1 : Int)))) (fun (a7 : Int) => (bindO (some (IntKind.wrap .i64 (a0.1.2.2 + (1 : Int)))) (fun (a8 : Int) => (bindO (M_S_l1Cur_among ((a1.2.1, (a1.2.2.1, a1.2.2.2)), ((0 : Int) :: ((1 : Int) :: (a7 :: (a0.1.1 :: (a8 :: ([] : List Int)))))))) (fun (a9 : (Int × ((List Int) × (Int × Int)))) => (some ((a0.1.1, (a0.1.2.1, a9.1)), (a9.2.1, (a9.2.2.1, a9.2.2.2)))))))))) (some ((a0.1.1, (a0.1.2.1, a0.1.2.2)), (a1.2.1, (a1.2.2.1, a1.2.2.2)))))))))))

noncomputable def c_S_l1Cur_anyGroup : Con0 := ⟨pk_S_l1Cur_anyGroup, rk_S_l1Cur_anyGroup, M_S_l1Cur_anyGroup⟩

set_option maxRecDepth 100000 in
theorem eq_S_l1Cur_anyGroup (x : In pk_S_l1Cur_anyGroup) : semF (mkE [(87, c_S_l1Cur_group), (30, c_S_l1Cur_pick), (88, c_S_l1Cur_among)]) h_S_l1Cur_anyGroup (info Tryz.f27) pk_S_l1Cur_anyGroup rk_S_l1Cur_anyGroup x = M_S_l1Cur_anyGroup x := (semFF_eq _ _ _ _ _ _).symm.trans (by kernel_rfl)

set_option maxRecDepth 100000 in
theorem m_S_l1Cur_anyGroup : ConOK Tryz.prog 27 c_S_l1Cur_anyGroup := fn_ok (tyOK _) (E := mkE [(87, c_S_l1Cur_group), (30, c_S_l1Cur_pick), (88, c_S_l1Cur_among)]) (consOK_cons m_S_l1Cur_group (consOK_cons m_S_l1Cur_pick (consOK_cons m_S_l1Cur_among (consOK_nil rfl)))) Tryz.func27 (h := h_S_l1Cur_anyGroup) (by kernel_rfl) eq_S_l1Cur_anyGroup

/-- S_l1Cur_one -/
def pk_S_l1Cur_one : List PK := [.mp (.cons (.sl (.int .u8)) (.cons (.int .i64) (.one (.int .u64)))) false, .data (.int .i64)]
def rk_S_l1Cur_one : List (Ty × Bool) := [(.bool, false)]
def h_S_l1Cur_one : Hints := { loops := [] }
noncomputable def M_S_l1Cur_one (x : (((List Int) × (Int × Int)) × Int)) : (Option (Bool × ((List Int) × (Int × Int)))) :=
  (bindO (M_S_l1Cur_pick ((x.1.1, (x.1.2.1, x.1.2.2)), x.2)) (fun (a0 : (Int × ((List Int) × (Int × Int)))) => (some ((a0.1 == (0 : Int)), (a0.2.1, (a0.2.2.1, a0.2.2.2))))))

noncomputable def c_S_l1Cur_one : Con0 := ⟨pk_S_l1Cur_one, rk_S_l1Cur_one, M_S_l1Cur_one⟩

set_option maxRecDepth 100000 in
theorem eq_S_l1Cur_one (x : In pk_S_l1Cur_one) : semF (mkE [(30, c_S_l1Cur_pick)]) h_S_l1Cur_one (info Tryz.f31) pk_S_l1Cur_one rk_S_l1Cur_one x = M_S_l1Cur_one x := (semFF_eq _ _ _ _ _ _).symm.trans (by kernel_rfl)

set_option maxRecDepth 100000 in
theorem m_S_l1Cur_one : ConOK Tryz.prog 31 c_S_l1Cur_one := fn_ok (tyOK _) (E := mkE [(30, c_S_l1Cur_pick)]) (consOK_cons m_S_l1Cur_pick (consOK_nil rfl)) Tryz.func31 (h := h_S_l1Cur_one) (by kernel_rfl) eq_S_l1Cur_one

/-- S_l1Cur_expo -/
def pk_S_l1Cur_expo : List PK := [.mp (.cons (.sl (.int .u8)) (.cons (.int .i64) (.one (.int .u64)))) false, .data (.cons (.int .i64) (.cons (.int .i64) (.one (.int .i64))))]
def rk_S_l1Cur_expo : List (Ty × Bool) := [((.int .i64), false)]
def h_S_l1Cur_expo : Hints := { loops := [] }
noncomputable def M_S_l1Cur_expo (x : (((List Int) × (Int × Int)) × (Int × (Int × Int)))) : (Option (Int × ((List Int) × (Int × Int)))) :=
  (cond (decide (x.2.2.1 < (2 : Int))) (some ((0 : Int), (x.1.1, (x.1.2.1, x.1.2.2)))) (bindO (M_S_l1Cur_pick ((x.1.1, (x.1.2.1, x.1.2.2)), (60000 : Int))) (fun (a0 : (Int × ((List Int) × (Int × Int)))) => (bindO (some (IntKind.wrap .i64 (a0.1 * (60000 : Int)))) (fun (a1 : Int) => (bindO (M_S_l1Cur_pick ((a0.2.1, (a0.2.2.1, a0.2.2.2)), (60000 : Int))) (fun (a2 : (Int × ((List Int) × (Int × Int)))) => (bindO (some (IntKind.wrap .i64 (a1 + a2.1))) (fun (a3 : Int) => (bindO (guardO (x.2.2.1 != (0 : Int))) (fun (a4 : Unit) => (bindO (some (Int.tmod a3 x.2.2.1)) (fun (a5 : Int) => (some (a5, (a2.2.1, (a2.2.2.1, a2.2.2.2)))))))))))))))))

noncomputable def c_S_l1Cur_expo : Con0 := ⟨pk_S_l1Cur_expo, rk_S_l1Cur_expo, M_S_l1Cur_expo⟩

set_option maxRecDepth 100000 in
theorem eq_S_l1Cur_expo (x : In pk_S_l1Cur_expo) : semF (mkE [(30, c_S_l1Cur_pick)]) h_S_l1Cur_expo (info Tryz.f64) pk_S_l1Cur_expo rk_S_l1Cur_expo x = M_S_l1Cur_expo x := (semFF_eq _ _ _ _ _ _).symm.trans (by kernel_rfl)

set_option maxRecDepth 100000 in
theorem m_S_l1Cur_expo : ConOK Tryz.prog 64 c_S_l1Cur_expo := fn_ok (tyOK _) (E := mkE [(30, c_S_l1Cur_pick)]) (consOK_cons m_S_l1Cur_pick (consOK_nil rfl)) Tryz.func64 (h := h_S_l1Cur_expo) (by kernel_rfl) eq_S_l1Cur_expo

/-- S_l1Cur_element -/
def pk_S_l1Cur_element : List PK := [.mp (.cons (.sl (.int .u8)) (.cons (.int .i64) (.one (.int .u64)))) false, .data (.cons (.int .i64) (.cons (.int .i64) (.one (.int .i64))))]
def rk_S_l1Cur_element : List (Ty × Bool) := [((.int .i64), false)]
def h_S_l1Cur_element : Hints := { loops := [] }
noncomputable def M_S_l1Cur_element (x : (((List Int) × (Int × Int)) × (Int × (Int × Int)))) : (Option (Int × ((List Int) × (Int × Int)))) :=
  (cond (decide (x.2.1 < (3 : Int))) (some ((1 : Int), (x.1.1, (x.1.2.1, x.1.2.2)))) (cond (decide (x.2.2.1 < (1 : Int))) (some ((1 : Int), (x.1.1, (x.1.2.1, x.1.2.2)))) (bindO (M_S_nMod (x.2.2.2, x.2.1)) (fun (a0 : Int) => (bindO (M_S_l1Cur_expo ((x.1.1, (x.1.2.1, x.1.2.2)), (x.2.1, (x.2.2.1, x.2.2.2)))) (fun (a1 : (Int × ((List Int) × (Int × Int)))) => (bindO (M_S_gExp ((x.2.1, (x.2.2.1, x.2.2.2)), (a0, a1.1))) (fun (a2 : Int) => (some (a2, (a1.2.1, (a1.2.2.1, a1.2.2.2))))))))))))

noncomputable def c_S_l1Cur_element : Con0 := ⟨pk_S_l1Cur_element, rk_S_l1Cur_element, M_S_l1Cur_element⟩

set_option maxRecDepth 100000 in
theorem eq_S_l1Cur_element (x : In pk_S_l1Cur_element) : semF (mkE [(67, c_S_nMod), (64, c_S_l1Cur_expo), (86, c_S_gExp)]) h_S_l1Cur_element (info Tryz.f63) pk_S_l1Cur_element rk_S_l1Cur_element x = M_S_l1Cur_element x := (semFF_eq _ _ _ _ _ _).symm.trans (by kernel_rfl)

set_option maxRecDepth 100000 in
theorem m_S_l1Cur_element : ConOK Tryz.prog 63 c_S_l1Cur_element := fn_ok (tyOK _) (E := mkE [(67, c_S_nMod), (64, c_S_l1Cur_expo), (86, c_S_gExp)]) (consOK_cons m_S_nMod (consOK_cons m_S_l1Cur_expo (consOK_cons m_S_gExp (consOK_nil rfl)))) Tryz.func63 (h := h_S_l1Cur_element) (by kernel_rfl) eq_S_l1Cur_element

/-- S_l1Cur_anyElement -/
def pk_S_l1Cur_anyElement : List PK := [.mp (.cons (.sl (.int .u8)) (.cons (.int .i64) (.one (.int .u64)))) false, .data (.cons (.int .i64) (.cons (.int .i64) (.one (.int .i64))))]
def rk_S_l1Cur_anyElement : List (Ty × Bool) := [((.int .i64), false)]
def h_S_l1Cur_anyElement : Hints := { loops := [] }
noncomputable def M_S_l1Cur_anyElement (x : (((List Int) × (Int × Int)) × (Int × (Int × Int)))) : (Option (Int × ((List Int) × (Int × Int)))) :=
  (bindO (M_S_l1Cur_one ((x.1.1, (x.1.2.1, x.1.2.2)), (20 : Int))) (fun (a0 : (Bool × ((List Int) × (Int × Int)))) => (cond a0.1 (bindO (some (IntKind.wrap .i64 (x.2.1 - (1 : Int)))) (fun (a1 : Int) => (bindO (M_S_l1Cur_among ((a0.2.1, (a0.2.2.1, a0.2.2.2)), ((0 : Int) :: ((1 : Int) :: (a1 :: (x.2.1 :: ((- (1 : Int)) :: ((5 : Int) :: ([] : List Int))))))))) (fun (a2 : (Int × ((List Int) × (Int × Int)))) => (some (a2.1, (a2.2.1, (a2.2.2.1, a2.2.2.2)))))))) (bindO (M_S_l1Cur_element ((a0.2.1, (a0.2.2.1, a0.2.2.2)), (x.2.1, (x.2.2.1, x.2.2.2)))) (fun (a3 : (Int × ((List Int) × (Int × Int)))) => (some (a3.1, (a3.2.1, (a3.2.2.1, a3.2.2.2)))))))))

noncomputable def c_S_l1Cur_anyElement : Con0 := ⟨pk_S_l1Cur_anyElement, rk_S_l1Cur_anyElement, M_S_l1Cur_anyElement⟩

set_option maxRecDepth 100000 in
theorem eq_S_l1Cur_anyElement (x : In pk_S_l1Cur_anyElement) : semF (mkE [(31, c_S_l1Cur_one), (88, c_S_l1Cur_among), (63, c_S_l1Cur_element)]) h_S_l1Cur_anyElement (info Tryz.f69) pk_S_l1Cur_anyElement rk_S_l1Cur_anyElement x = M_S_l1Cur_anyElement x := (semFF_eq _ _ _ _ _ _).symm.trans (by kernel_rfl)

set_option maxRecDepth 100000 in
theorem m_S_l1Cur_anyElement : ConOK Tryz.prog 69 c_S_l1Cur_anyElement := fn_ok (tyOK _) (E := mkE [(31, c_S_l1Cur_one), (88, c_S_l1Cur_among), (63, c_S_l1Cur_element)]) (consOK_cons m_S_l1Cur_one (consOK_cons m_S_l1Cur_among (consOK_cons m_S_l1Cur_element (consOK_nil rfl)))) Tryz.func69 (h := h_S_l1Cur_anyElement) (by kernel_rfl) eq_S_l1Cur_anyElement

/-- S_l1Cur_anyCipher -/
def pk_S_l1Cur_anyCipher : List PK := [.mp (.cons (.sl (.int .u8)) (.cons (.int .i64) (.one (.int .u64)))) false, .data (.cons (.int .i64) (.cons (.int .i64) (.one (.int .i64))))]
def rk_S_l1Cur_anyCipher : List (Ty × Bool) := [((.cons (.int .i64) (.one (.int .i64))), false)]
def h_S_l1Cur_anyCipher : Hints := { loops := [] }
noncomputable def M_S_l1Cur_anyCipher (x : (((List Int) × (Int × Int)) × (Int × (Int × Int)))) : (Option ((Int × Int) × ((List Int) × (Int × Int)))) :=
  (bindO (M_S_l1Cur_anyElement ((x.1.1, (x.1.2.1, x.1.2.2)), (x.2.1, (x.2.2.1, x.2.2.2)))) (fun (a0 : (Int × ((List Int) × (Int × Int)))) => (bindO (M_S_l1Cur_anyElement ((a0.2.1, (a0.2.2.1, a0.2.2.2)), (x.2.1, (x.2.2.1, x.2.2.2)))) (fun (a1 : (Int × ((List Int) × (Int × Int)))) => (some ((a0.1, a1.1), (a1.2.1, (a1.2.2.1, a1.2.2.2))))))))

noncomputable def c_S_l1Cur_anyCipher : Con0 := ⟨pk_S_l1Cur_anyCipher, rk_S_l1Cur_anyCipher, M_S_l1Cur_anyCipher⟩

set_option maxRecDepth 100000 in
theorem eq_S_l1Cur_anyCipher (x : In pk_S_l1Cur_anyCipher) : semF (mkE [(69, c_S_l1Cur_anyElement)]) h_S_l1Cur_anyCipher (info Tryz.f28) pk_S_l1Cur_anyCipher rk_S_l1Cur_anyCipher x = M_S_l1Cur_anyCipher x := (semFF_eq _ _ _ _ _ _).symm.trans (by kernel_rfl)

set_option maxRecDepth 100000 in
theorem m_S_l1Cur_anyCipher : ConOK Tryz.prog 28 c_S_l1Cur_anyCipher := fn_ok (tyOK _) (E := mkE [(69, c_S_l1Cur_anyElement)]) (consOK_cons m_S_l1Cur_anyElement (consOK_nil rfl)) Tryz.func28 (h := h_S_l1Cur_anyCipher) (by kernel_rfl) eq_S_l1Cur_anyCipher

/-- S_l2Good -/
def pk_S_l2Good : List PK := [.data (.cons (.int .i64) (.cons (.int .i64) (.one (.int .i64))))]
def rk_S_l2Good : List (Ty × Bool) := [(.bool, false)]
def h_S_l2Good : Hints := { loops := [] }
noncomputable def M_S_l2Good (x : (Int × (Int × Int))) : (Option Bool) :=
  (bindO (M_S_l1In (x.1, ((3 : Int), (2000000000 : Int)))) (fun (a0 : Bool) => (cond a0 (bindO (some (IntKind.wrap .i64 (x.1 - (1 : Int)))) (fun (a1 : Int) => (bindO (M_S_l1In (x.2.1, ((2 : Int), a1))) (fun (a2 : Bool) => (cond a2 (bindO (some (IntKind.wrap .i64 (x.1 - (1 : Int)))) (fun (a3 : Int) => (bindO (guardO (x.2.1 != (0 : Int))) (fun (a4 : Unit) => (bindO (some (Int.tmod a3 x.2.1)) (fun (a5 : Int) => (cond (a5 == (0 : Int)) (bindO (some (IntKind.wrap .i64 (x.1 - (1 : Int)))) (fun (a6 : Int) => (bindO (M_S_l1In (x.2.2, ((2 : Int), a6))) (fun (a7 : Bool) => (cond a7 (bindO (M_S_nPower (x.2.2, (x.2.1, x.1))) (fun (a8 : Int) => (cond (a8 == (1 : Int)) (bindO (M_S_nPrime x.2.1) (fun (a9 : Bool) => (cond a9 (bindO (M_S_nPrime x.1) (fun (a10 : Bool) => (some a10))) (some false)))) (some false)))) (some false)))))) (some false)))))))) (some false)))))) (some false))))

noncomputable def c_S_l2Good : Con0 := ⟨pk_S_l2Good, rk_S_l2Good, M_S_l2Good⟩

set_option maxRecDepth 100000 in
theorem eq_S_l2Good (x : In pk_S_l2Good) : semF (mkE [(46, c_S_l1In), (66, c_S_nPower), (95, c_S_nPrime)]) h_S_l2Good (info Tryz.f37) pk_S_l2Good rk_S_l2Good x = M_S_l2Good x := (semFF_eq _ _ _ _ _ _).symm.trans (by kernel_rfl)

set_option maxRecDepth 100000 in
theorem m_S_l2Good : ConOK Tryz.prog 37 c_S_l2Good := fn_ok (tyOK _) (E := mkE [(46, c_S_l1In), (66, c_S_nPower), (95, c_S_nPrime)]) (consOK_cons m_S_l1In (consOK_cons m_S_nPower (consOK_cons m_S_nPrime (consOK_nil rfl)))) Tryz.func37 (h := h_S_l2Good) (by kernel_rfl) eq_S_l2Good

/-- S_gIs -/
def pk_S_gIs : List PK := [.data (.cons (.int .i64) (.cons (.int .i64) (.one (.int .i64)))), .data (.sl (.int .i64))]
def rk_S_gIs : List (Ty × Bool) := [(.bool, false)]
def h_S_gIs : Hints := { loops := [(0, { items := [.slot 9 (.data (.int .i64) [])], kill := [0, 1] ++ (sgN 3 4 ++ (sgN 10 19)) })] }
noncomputable def M_S_gIs (x : ((Int × (Int × Int)) × (List Int))) : (Option Bool) :=
  (loopO (fun (again0 : (Int → (Option Bool))) => (fun (s1 : Int) => (cond (decide (s1 < (((List.length x.2) : Nat) : Int))) (bindO (getI x.2 s1) (fun (a2 : Int) => (bindO (some (IntKind.wrap .i64 (x.1.1 - (1 : Int)))) (fun (a3 : Int) => (bindO (M_S_l1In (a2, ((1 : Int), a3))) (fun (a4 : Bool) => (cond (not a4) (some false) (bindO (M_S_nPower (a2, (x.1.2.1, x.1.1))) (fun (a5 : Int) => (cond (a5 != (1 : Int)) (some false) (bindO (some (IntKind.wrap .i64 (s1 + (1 : Int)))) (fun (a6 : Int) => (again0 a6))))))))))))) (some true)))) (0 : Int))

noncomputable def c_S_gIs : Con0 := ⟨pk_S_gIs, rk_S_gIs, M_S_gIs⟩

set_option maxRecDepth 100000 in
theorem eq_S_gIs (x : In pk_S_gIs) : semF (mkE [(46, c_S_l1In), (66, c_S_nPower)]) h_S_gIs (info Tryz.f80) pk_S_gIs rk_S_gIs x = M_S_gIs x := (semFF_eq _ _ _ _ _ _).symm.trans (by kernel_rfl)

set_option maxRecDepth 100000 in
theorem m_S_gIs : ConOK Tryz.prog 80 c_S_gIs := fn_ok (tyOK _) (E := mkE [(46, c_S_l1In), (66, c_S_nPower)]) (consOK_cons m_S_l1In (consOK_cons m_S_nPower (consOK_nil rfl))) Tryz.func80 (h := h_S_gIs) (by kernel_rfl) eq_S_gIs

/-- S_eGood -/
def pk_S_eGood : List PK := [.data (.cons (.int .i64) (.cons (.int .i64) (.one (.int .i64)))), .data (.sl (.cons (.int .i64) (.one (.int .i64))))]
def rk_S_eGood : List (Ty × Bool) := [(.bool, false)]
def h_S_eGood : Hints := { loops := [(0, { items := [.slot 12 (.data (.int .i64) [])], kill := [0, 1] ++ (sgN 3 7 ++ (sgN 13 12)) })] }
noncomputable def M_S_eGood (x : ((Int × (Int × Int)) × (List (Int × Int)))) : (Option Bool) :=
  (cond (decide ((((List.length x.2) : Nat) : Int) > (24 : Int))) (some false) (loopO (fun (again0 : (Int → (Option Bool))) => (fun (s1 : Int) => (cond (decide (s1 < (((List.length x.2) : Nat) : Int))) (bindO (getI x.2 s1) (fun (a2 : (Int × Int)) => (bindO (M_S_gIs ((x.1.1, (x.1.2.1, x.1.2.2)), (a2.1 :: (a2.2 :: ([] : List Int))))) (fun (a3 : Bool) => (cond (not a3) (some false) (bindO (some (IntKind.wrap .i64 (s1 + (1 : Int)))) (fun (a4 : Int) => (again0 a4)))))))) (some true)))) (0 : Int)))

noncomputable def c_S_eGood : Con0 := ⟨pk_S_eGood, rk_S_eGood, M_S_eGood⟩

set_option maxRecDepth 100000 in
theorem eq_S_eGood (x : In pk_S_eGood) : semF (mkE [(80, c_S_gIs)]) h_S_eGood (info Tryz.f38) pk_S_eGood rk_S_eGood x = M_S_eGood x := (semFF_eq _ _ _ _ _ _).symm.trans (by kernel_rfl)

set_option maxRecDepth 100000 in
theorem m_S_eGood : ConOK Tryz.prog 38 c_S_eGood := fn_ok (tyOK _) (E := mkE [(80, c_S_gIs)]) (consOK_cons m_S_gIs (consOK_nil rfl)) Tryz.func38 (h := h_S_eGood) (by kernel_rfl) eq_S_eGood

/-- S_ePow -/
def pk_S_ePow : List PK := [.data (.cons (.int .i64) (.cons (.int .i64) (.one (.int .i64)))), .data (.cons (.int .i64) (.one (.int .i64))), .data (.int .i64)]
def rk_S_ePow : List (Ty × Bool) := [((.cons (.int .i64) (.one (.int .i64))), false)]
def h_S_ePow : Hints := { loops := [] }
noncomputable def M_S_ePow (x : ((Int × (Int × Int)) × ((Int × Int) × Int))) : (Option (Int × Int)) :=
  (bindO (M_S_gExp ((x.1.1, (x.1.2.1, x.1.2.2)), (x.2.1.1, x.2.2))) (fun (a0 : Int) => (bindO (M_S_gExp ((x.1.1, (x.1.2.1, x.1.2.2)), (x.2.1.2, x.2.2))) (fun (a1 : Int) => (some (a0, a1))))))

noncomputable def c_S_ePow : Con0 := ⟨pk_S_ePow, rk_S_ePow, M_S_ePow⟩

set_option maxRecDepth 100000 in
theorem eq_S_ePow (x : In pk_S_ePow) : semF (mkE [(86, c_S_gExp)]) h_S_ePow (info Tryz.f103) pk_S_ePow rk_S_ePow x = M_S_ePow x := (semFF_eq _ _ _ _ _ _).symm.trans (by kernel_rfl)

set_option maxRecDepth 100000 in
theorem m_S_ePow : ConOK Tryz.prog 103 c_S_ePow := fn_ok (tyOK _) (E := mkE [(86, c_S_gExp)]) (consOK_cons m_S_gExp (consOK_nil rfl)) Tryz.func103 (h := h_S_ePow) (by kernel_rfl) eq_S_ePow

/-- S_gProd -/
def pk_S_gProd : List PK := [.data (.cons (.int .i64) (.cons (.int .i64) (.one (.int .i64)))), .data (.sl (.int .i64)), .data (.sl (.int .i64))]
def rk_S_gProd : List (Ty × Bool) := [((.int .i64), false)]
def h_S_gProd : Hints := { loops := [(0, { items := [.slot 7 (.data (.int .i64) []), .slot 12 (.data (.int .i64) [])], kill := [0, 1, 4, 5, 6, 8, 9] ++ (sgN 13 18) })] }
noncomputable def M_S_gProd (x : ((Int × (Int × Int)) × ((List Int) × (List Int)))) : (Option Int) :=
  (loopO (fun (again0 : ((Int × Int) → (Option Int))) => (fun (s1 : (Int × Int)) => (cond (decide (s1.2 < (((List.length x.2.1) : Nat) : Int))) (bindO (getI x.2.1 s1.2) (fun (a2 : Int) => (bindO (getI x.2.2 s1.2) (fun (a3 : Int) => (bindO (M_S_gExp ((x.1.1, (x.1.2.1, x.1.2.2)), (a2, a3))) (fun (a4 : Int) => (bindO (some (IntKind.wrap .i64 (s1.1 * a4))) (fun (a5 : Int) => (bindO (guardO (x.1.1 != (0 : Int))) (fun (a6 : Unit) => (bindO (some (Int.tmod a5 x.1.1)) (fun (a7 : Int) => (bindO (some (IntKind.wrap .i64 (s1.2 + (1 : Int)))) (fun (a8 : Int) => (again0 (a7, a8)))))))))))))))) (some s1.1)))) ((1 : Int), (0 : Int)))

noncomputable def c_S_gProd : Con0 := ⟨pk_S_gProd, rk_S_gProd, M_S_gProd⟩

set_option maxRecDepth 100000 in
theorem eq_S_gProd (x : In pk_S_gProd) : semF (mkE [(86, c_S_gExp)]) h_S_gProd (info Tryz.f138) pk_S_gProd rk_S_gProd x = M_S_gProd x := (semFF_eq _ _ _ _ _ _).symm.trans (by kernel_rfl)

set_option maxRecDepth 100000 in
theorem m_S_gProd : ConOK Tryz.prog 138 c_S_gProd := fn_ok (tyOK _) (E := mkE [(86, c_S_gExp)]) (consOK_cons m_S_gExp (consOK_nil rfl)) Tryz.func138 (h := h_S_gProd) (by kernel_rfl) eq_S_gProd

/-- S_sImages -/
def pk_S_sImages : List PK := [.data (.cons (.int .i64) (.cons (.int .i64) (.one (.int .i64)))), .data (.sl (.sl (.int .i64))), .data (.sl (.int .i64))]
def rk_S_sImages : List (Ty × Bool) := [((.sl (.int .i64)), true)]
def h_S_sImages : Hints := { loops := [(0, { items := [.slot 7 (.own (.int .i64) true), .slot 12 (.data (.int .i64) [])], kill := [0, 1, 4, 5, 6, 8, 9] ++ (sgN 13 12) })] }
noncomputable def M_S_sImages (x : ((Int × (Int × Int)) × ((List (List Int)) × (List Int)))) : (Option (List Int)) :=
  (loopO (fun (again0 : (((List Int) × Int) → (Option (List Int)))) => (fun (s1 : ((List Int) × Int)) => (cond (decide (s1.2 < (((List.length x.2.1) : Nat) : Int))) (bindO (getI x.2.1 s1.2) (fun (a2 : (List Int)) => (bindO (M_S_gProd ((x.1.1, (x.1.2.1, x.1.2.2)), (a2, x.2.2))) (fun (a3 : Int) => (bindO (guardO (lenOk ((List.length s1.1) + (List.length (a3 :: ([] : List Int)))))) (fun (a4 : Unit) => (bindO (some (s1.1 ++ (a3 :: ([] : List Int)))) (fun (a5 : (List Int)) => (bindO (some (IntKind.wrap .i64 (s1.2 + (1 : Int)))) (fun (a6 : Int) => (again0 (a5, a6)))))))))))) (some s1.1)))) (([] : List Int), (0 : Int)))

noncomputable def c_S_sImages : Con0 := ⟨pk_S_sImages, rk_S_sImages, M_S_sImages⟩

set_option maxRecDepth 100000 in
theorem eq_S_sImages (x : In pk_S_sImages) : semF (mkE [(138, c_S_gProd)]) h_S_sImages (info Tryz.f132) pk_S_sImages rk_S_sImages x = M_S_sImages x := (semFF_eq _ _ _ _ _ _).symm.trans (by kernel_rfl)

set_option maxRecDepth 100000 in
theorem m_S_sImages : ConOK Tryz.prog 132 c_S_sImages := fn_ok (tyOK _) (E := mkE [(138, c_S_gProd)]) (consOK_cons m_S_gProd (consOK_nil rfl)) Tryz.func132 (h := h_S_sImages) (by kernel_rfl) eq_S_sImages

/-- S_sStatement -/
def pk_S_sStatement : List PK := [.data (.sl (.sl (.int .i64))), .data (.sl (.int .i64)), .data (.sl (.int .i64))]
def rk_S_sStatement : List (Ty × Bool) := [((.sl (.int .i64)), true)]
def h_S_sStatement : Hints := { loops := [(0, { items := [.slot 7 (.own (.int .i64) true), .slot 12 (.data (.int .i64) [])], kill := [0] ++ (sgN 3 4 ++ ([8, 9] ++ (sgN 13 12))) })] }
noncomputable def M_S_sStatement (x : ((List (List Int)) × ((List Int) × (List Int)))) : (Option (List Int)) :=
  (loopO (fun (again0 : (((List Int) × Int) → (Option (List Int)))) => (fun (s1 : ((List Int) × Int)) => (cond (decide (s1.2 < (((List.length x.1) : Nat) : Int))) (bindO (getI x.1 s1.2) (fun (a2 : (List Int)) => (bindO (guardO (lenOk ((List.length s1.1) + (List.length a2)))) (fun (a3 : Unit) => (bindO (some (s1.1 ++ a2)) (fun (a4 : (List Int)) => (bindO (some (IntKind.wrap .i64 (s1.2 + (1 : Int)))) (fun (a5 : Int) => (again0 (a4, a5)))))))))) (bindO (guardO (lenOk ((List.length s1.1) + (List.length x.2.1)))) (fun (a6 : Unit) => (bindO (some (s1.1 ++ x.2.1)) (fun (a7 : (List Int)) => (bindO (guardO (lenOk ((List.length a7) + (List.length x.2.2)))) (fun (a8 : Unit) => (bindO (some (a7 ++ x.2.2)) (fun (a9 : (List Int)) => (some a9)))))))))))) (([] : List Int), (0 : Int)))

noncomputable def c_S_sStatement : Con0 := ⟨pk_S_sStatement, rk_S_sStatement, M_S_sStatement⟩

set_option maxRecDepth 100000 in
theorem eq_S_sStatement (x : In pk_S_sStatement) : semF (mkE []) h_S_sStatement (info Tryz.f133) pk_S_sStatement rk_S_sStatement x = M_S_sStatement x := (semFF_eq _ _ _ _ _ _).symm.trans (by kernel_rfl)

set_option maxRecDepth 100000 in
theorem m_S_sStatement : ConOK Tryz.prog 133 c_S_sStatement := fn_ok (tyOK _) (E := mkE []) (consOK_nil rfl) Tryz.func133 (h := h_S_sStatement) (by kernel_rfl) eq_S_sStatement

/-- S_l3With -/
def pk_S_l3With : List PK := [.data .str, .data (.sl (.int .i64))]
def rk_S_l3With : List (Ty × Bool) := [((.sl (.int .i64)), true)]
def h_S_l3With : Hints := { loops := [(0, { items := [.slot 5 (.own (.int .i64) true), .slot 6 (.data (.int .i64) [])], kill := [2, 3, 4] ++ (sgN 7 19) })] }
noncomputable def M_S_l3With (x : (ByteArray × (List Int))) : (Option (List Int)) :=
  (loopO (fun (again0 : (((List Int) × Int) → (Option (List Int)))) => (fun (s1 : ((List Int) × Int)) => (cond (decide (s1.2 < (((ByteArray.size x.1) : Nat) : Int))) (bindO (if ((0 : Int) ≤ s1.2) then (x.1[(Int.toNat s1.2)]?) else (none : Option (UInt8))) (fun (a2 : (UInt8)) => (bindO (guardO (lenOk ((List.length s1.1) + (List.length ((IntKind.wrap .i64 (((UInt8.toNat a2) : Nat) : Int)) :: ([] : List Int)))))) (fun (a3 : Unit) => (bindO (some (s1.1 ++ ((IntKind.wrap .i64 (((UInt8.toNat a2) : Nat) : Int)) :: ([] : List Int)))) (fun (a4 : (List Int)) => (bindO (some (IntKind.wrap .i64 (s1.2 + (1 : Int)))) (fun (a5 : Int) => (again0 (a4, a5)))))))))) (bindO (guardO (lenOk ((List.length s1.1) + (List.length x.2)))) (fun (a6 : Unit) => (bindO (some (s1.1 ++ x.2)) (fun (a7 : (List Int)) => (some a7)))))))) (((((ByteArray.size x.1) : Nat) : Int) :: ([] : List Int)), (0 : Int)))

noncomputable def c_S_l3With : Con0 := ⟨pk_S_l3With, rk_S_l3With, M_S_l3With⟩

set_option maxRecDepth 100000 in
theorem eq_S_l3With (x : In pk_S_l3With) : semF (mkE []) h_S_l3With (info Tryz.f146) pk_S_l3With rk_S_l3With x = M_S_l3With x := (semFF_eq _ _ _ _ _ _).symm.trans (by kernel_rfl)

set_option maxRecDepth 100000 in
theorem m_S_l3With : ConOK Tryz.prog 146 c_S_l3With := fn_ok (tyOK _) (E := mkE []) (consOK_nil rfl) Tryz.func146 (h := h_S_l3With) (by kernel_rfl) eq_S_l3With

/-- S_l3State_absorb -/
def pk_S_l3State_absorb : List PK := [.mp (.cons (.int .i64) (.one (.int .i64))) false, .data (.int .i64)]
def rk_S_l3State_absorb : List (Ty × Bool) := []
def h_S_l3State_absorb : Hints := { loops := [(0, { items := [.slot 12 (.data (.int .i64) []), .cell 0 0 (.data (.int .i64) []), .cell 0 1 (.data (.int .i64) [])], kill := sgN 1 9 ++ (sgN 13 28) })] }
noncomputable def M_S_l3State_absorb (x : ((Int × Int) × Int)) : (Option (Int × Int)) :=
  (bindO (guardO ((2147483648 : Int) != (0 : Int))) (fun (a0 : Unit) => (bindO (some (Int.tmod x.2 (2147483648 : Int))) (fun (a1 : Int) => (bindO (guardO ((2147483648 : Int) != (0 : Int))) (fun (a2 : Unit) => (bindO (some (IntKind.wrap .i64 (Int.tdiv x.2 (2147483648 : Int)))) (fun (a3 : Int) => (loopO (fun (again4 : ((Int × (Int × Int)) → (Option (Int × Int)))) => (fun (s5 : (Int × (Int × Int))) => (cond (decide (s5.1 < (((List.length (a1 :: (a3 :: ([] : List Int)))) : Nat) : Int))) (bindO (getI (a1 :: (a3 :: ([] : List Int))) s5.1) (fun (a6 : Int) => (bindO (some (IntKind.wrap .i64 ((48271 : Int) * s5.2.1))) (fun (a7 : Int) => (bindO (some (IntKind.wrap .i64 (a7 + a6))) (fun (a8 : Int) => (bindO (some (IntKind.wrap .i64 (a8 + (1 : Int)))) (fun (a9 : Int) => (bindO (guardO ((2147483647 : Int) != (0 : Int))) (fun (a10 : Unit) => (bindO (some (Int.tmod a9 (2147483647 : Int))) (fun (a11 : Int) => (bindO (some (IntKind.wrap .i64 ((69621 : Int) * s5.2.2))) (fun (a12 : Int) => (bindO (some (IntKind.wrap .i64 (a12 + a6))) (fun (a13 : Int) => (bindO (some (IntKind.wrap .i64 (a13 + (1 : Int)))) (fun (a14 : Int) => (bindO (guardO ((2147483647 : Int) != (0 : Int))) (fun (a15 : Unit) => (bindO (some (Int.tmod a14 (2147483647 : Int))) (fun (a16 : Int) => (bindO (some (IntKind.wrap .i64 (s5.1 + (1 : Int)))) (fun (a17 : Int) => (again4 (a17, (a11, a16))))))))))))))))))))))))))) (some (s5.2.1, s5.2.2))))) ((0 : Int), (x.1.1, x.1.2)))))))))))

noncomputable def c_S_l3State_absorb : Con0 := ⟨pk_S_l3State_absorb, rk_S_l3State_absorb, M_S_l3State_absorb⟩

set_option maxRecDepth 100000 in
theorem eq_S_l3State_absorb (x : In pk_S_l3State_absorb) : semF (mkE []) h_S_l3State_absorb (info Tryz.f154) pk_S_l3State_absorb rk_S_l3State_absorb x = M_S_l3State_absorb x := (semFF_eq _ _ _ _ _ _).symm.trans (by kernel_rfl)

set_option maxRecDepth 100000 in
theorem m_S_l3State_absorb : ConOK Tryz.prog 154 c_S_l3State_absorb := fn_ok (tyOK _) (E := mkE []) (consOK_nil rfl) Tryz.func154 (h := h_S_l3State_absorb) (by kernel_rfl) eq_S_l3State_absorb

/-- S_hInts -/
def pk_S_hInts : List PK := [.data (.sl (.int .i64))]
def rk_S_hInts : List (Ty × Bool) := [((.int .i64), false)]
def h_S_hInts : Hints := { loops := [(0, { items := [.slot 14 (.data (.int .i64) []), .cell 7 0 (.data (.int .i64) []), .cell 7 1 (.data (.int .i64) [])], kill := [0, 1, 2, 4, 5, 6] ++ (sgN 8 4 ++ (sgN 15 17)) })] }
noncomputable def M_S_hInts (x : (List Int)) : (Option Int) :=
  (bindO (M_S_l3State_absorb (((1 : Int), (2 : Int)), (((List.length x) : Nat) : Int))) (fun (a0 : (Int × Int)) => (loopO (fun (again1 : ((Int × (Int × Int)) → (Option Int))) => (fun (s2 : (Int × (Int × Int))) => (cond (decide (s2.1 < (((List.length x) : Nat) : Int))) (bindO (getI x s2.1) (fun (a3 : Int) => (bindO (M_S_l3State_absorb ((s2.2.1, s2.2.2), a3)) (fun (a4 : (Int × Int)) => (bindO (some (IntKind.wrap .i64 (s2.1 + (1 : Int)))) (fun (a5 : Int) => (again1 (a5, (a4.1, a4.2))))))))) (bindO (some (IntKind.wrap .i64 (s2.2.1 * (2147483648 : Int)))) (fun (a6 : Int) => (bindO (some (IntKind.wrap .i64 (a6 + s2.2.2))) (fun (a7 : Int) => (some a7)))))))) ((0 : Int), (a0.1, a0.2)))))

noncomputable def c_S_hInts : Con0 := ⟨pk_S_hInts, rk_S_hInts, M_S_hInts⟩

set_option maxRecDepth 100000 in
theorem eq_S_hInts (x : In pk_S_hInts) : semF (mkE [(154, c_S_l3State_absorb)]) h_S_hInts (info Tryz.f145) pk_S_hInts rk_S_hInts x = M_S_hInts x := (semFF_eq _ _ _ _ _ _).symm.trans (by kernel_rfl)

set_option maxRecDepth 100000 in
theorem m_S_hInts : ConOK Tryz.prog 145 c_S_hInts := fn_ok (tyOK _) (E := mkE [(154, c_S_l3State_absorb)]) (consOK_cons m_S_l3State_absorb (consOK_nil rfl)) Tryz.func145 (h := h_S_hInts) (by kernel_rfl) eq_S_hInts

/-- S_hLabelled -/
def pk_S_hLabelled : List PK := [.data .str, .data (.sl (.int .i64))]
def rk_S_hLabelled : List (Ty × Bool) := [((.int .i64), false)]
def h_S_hLabelled : Hints := { loops := [] }
noncomputable def M_S_hLabelled (x : (ByteArray × (List Int))) : (Option Int) :=
  (bindO (M_S_l3With (x.1, x.2)) (fun (a0 : (List Int)) => (bindO (M_S_hInts a0) (fun (a1 : Int) => (some a1)))))

noncomputable def c_S_hLabelled : Con0 := ⟨pk_S_hLabelled, rk_S_hLabelled, M_S_hLabelled⟩

set_option maxRecDepth 100000 in
theorem eq_S_hLabelled (x : In pk_S_hLabelled) : semF (mkE [(146, c_S_l3With), (145, c_S_hInts)]) h_S_hLabelled (info Tryz.f122) pk_S_hLabelled rk_S_hLabelled x = M_S_hLabelled x := (semFF_eq _ _ _ _ _ _).symm.trans (by kernel_rfl)

set_option maxRecDepth 100000 in
theorem m_S_hLabelled : ConOK Tryz.prog 122 c_S_hLabelled := fn_ok (tyOK _) (E := mkE [(146, c_S_l3With), (145, c_S_hInts)]) (consOK_cons m_S_l3With (consOK_cons m_S_hInts (consOK_nil rfl))) Tryz.func122 (h := h_S_hLabelled) (by kernel_rfl) eq_S_hLabelled

/-- S_hChallenge -/
def pk_S_hChallenge : List PK := [.data (.cons (.int .i64) (.cons (.int .i64) (.one (.int .i64)))), .data .str, .data (.sl (.int .i64))]
def rk_S_hChallenge : List (Ty × Bool) := [((.int .i64), false)]
def h_S_hChallenge : Hints := { loops := [] }
noncomputable def M_S_hChallenge (x : ((Int × (Int × Int)) × (ByteArray × (List Int)))) : (Option Int) :=
  (bindO (guardO (lenOk ((List.length (x.1.1 :: (x.1.2.1 :: (x.1.2.2 :: ([] : List Int))))) + (List.length x.2.2)))) (fun (a0 : Unit) => (bindO (some ((x.1.1 :: (x.1.2.1 :: (x.1.2.2 :: ([] : List Int)))) ++ x.2.2)) (fun (a1 : (List Int)) => (bindO (M_S_hLabelled (x.2.1, a1)) (fun (a2 : Int) => (bindO (guardO (x.1.2.1 != (0 : Int))) (fun (a3 : Unit) => (bindO (some (Int.tmod a2 x.1.2.1)) (fun (a4 : Int) => (some a4)))))))))))

noncomputable def c_S_hChallenge : Con0 := ⟨pk_S_hChallenge, rk_S_hChallenge, M_S_hChallenge⟩

set_option maxRecDepth 100000 in
theorem eq_S_hChallenge (x : In pk_S_hChallenge) : semF (mkE [(122, c_S_hLabelled)]) h_S_hChallenge (info Tryz.f82) pk_S_hChallenge rk_S_hChallenge x = M_S_hChallenge x := (semFF_eq _ _ _ _ _ _).symm.trans (by kernel_rfl)

set_option maxRecDepth 100000 in
theorem m_S_hChallenge : ConOK Tryz.prog 82 c_S_hChallenge := fn_ok (tyOK _) (E := mkE [(122, c_S_hLabelled)]) (consOK_cons m_S_hLabelled (consOK_nil rfl)) Tryz.func82 (h := h_S_hChallenge) (by kernel_rfl) eq_S_hChallenge

/-- S_sProve -/
def pk_S_sProve : List PK := [.data (.cons (.int .i64) (.cons (.int .i64) (.one (.int .i64)))), .data .str, .data (.sl (.sl (.int .i64))), .data (.sl (.int .i64)), .data (.sl (.int .i64))]
def rk_S_sProve : List (Ty × Bool) := [((.cons (.sl (.int .i64)) (.cons (.sl (.int .i64)) (.one (.sl (.int .i64))))), true)]
def h_S_sProve : Hints := { loops := [(0, { items := [.slot 36 (.data (.int .i64) []), .cell 11 0 (.own (.int .i64) true), .cell 11 1 (.own (.int .i64) true), .cell 11 2 (.own (.int .i64) true)], kill := sgN 0 4 ++ (sgN 6 4 ++ (sgN 13 21 ++ (sgN 37 22))) })] }
noncomputable def M_S_sProve (x : ((Int × (Int × Int)) × (ByteArray × ((List (List Int)) × ((List Int) × (List Int)))))) : (Option ((List Int) × ((List Int) × (List Int)))) :=
  (bindO (M_S_sImages ((x.1.1, (x.1.2.1, x.1.2.2)), (x.2.2.1, x.2.2.2.2))) (fun (a0 : (List Int)) => (bindO (M_S_sImages ((x.1.1, (x.1.2.1, x.1.2.2)), (x.2.2.1, x.2.2.2.1))) (fun (a1 : (List Int)) => (bindO (M_S_sStatement (x.2.2.1, (a1, a0))) (fun (a2 : (List Int)) => (bindO (M_S_hChallenge ((x.1.1, (x.1.2.1, x.1.2.2)), (x.2.1, a2))) (fun (a3 : Int) => (loopO (fun (again4 : ((Int × ((List Int) × ((List Int) × (List Int)))) → (Option ((List Int) × ((List Int) × (List Int)))))) => (fun (s5 : (Int × ((List Int) × ((List Int) × (List Int))))) => (cond (decide (s5.1 < (((List.length x.2.2.2.1) : Nat) : Int))) (bindO (getI x.2.2.2.1 s5.1) (fun (a6 : Int) => (bindO (getI x.2.2.2.2 s5.1) (fun (a7 : Int) => (bindO (some (IntKind.wrap .i64 (a3 * a6))) (fun (a8 : Int) => (bindO (some (IntKind.wrap .i64 (a7 + a8))) (fun (a9 : Int) => (bindO (guardO (x.1.2.1 != (0 : Int))) (fun (a10 : Unit) => (bindO (some (Int.tmod a9 x.1.2.1)) (fun (a11 : Int) => (bindO (guardO (lenOk ((List.length s5.2.2.2) + (List.length (a11 :: ([] : List Int)))))) (fun (a12 : Unit) => (bindO (some (s5.2.2.2 ++ (a11 :: ([] : List Int)))) (fun (a13 : (List Int)) => (bindO (some (IntKind.wrap .i64 (s5.1 + (1 : Int)))) (fun (a14 : Int) => (again4 (a14, (s5.2.1, (s5.2.2.1, a13)))))))))))))))))))))) (some (s5.2.1, (s5.2.2.1, s5.2.2.2)))))) ((0 : Int), (a0, ((a3 :: ([] : List Int)), ([] : List Int)))))))))))))

noncomputable def c_S_sProve : Con0 := ⟨pk_S_sProve, rk_S_sProve, M_S_sProve⟩

set_option maxRecDepth 100000 in
theorem eq_S_sProve (x : In pk_S_sProve) : semF (mkE [(132, c_S_sImages), (133, c_S_sStatement), (82, c_S_hChallenge)]) h_S_sProve (info Tryz.f104) pk_S_sProve rk_S_sProve x = M_S_sProve x := (semFF_eq _ _ _ _ _ _).symm.trans (by kernel_rfl)

set_option maxRecDepth 100000 in
theorem m_S_sProve : ConOK Tryz.prog 104 c_S_sProve := fn_ok (tyOK _) (E := mkE [(132, c_S_sImages), (133, c_S_sStatement), (82, c_S_hChallenge)]) (consOK_cons m_S_sImages (consOK_cons m_S_sStatement (consOK_cons m_S_hChallenge (consOK_nil rfl)))) Tryz.func104 (h := h_S_sProve) (by kernel_rfl) eq_S_sProve

/-- S_qBlind -/
def pk_S_qBlind : List PK := [.data (.cons (.int .i64) (.cons (.int .i64) (.one (.int .i64)))), .data (.cons (.int .i64) (.one (.int .i64))), .data (.int .i64), .data (.int .i64), .data (.int .i64)]
def rk_S_qBlind : List (Ty × Bool) := [((.cons (.int .i64) (.cons (.cons (.int .i64) (.one (.int .i64))) (.one (.cons (.sl (.int .i64)) (.cons (.sl (.int .i64)) (.one (.sl (.int .i64)))))))), true)]
def h_S_qBlind : Hints := { loops := [] }
noncomputable def M_S_qBlind (x : ((Int × (Int × Int)) × ((Int × Int) × (Int × (Int × Int))))) : (Option (Int × ((Int × Int) × ((List Int) × ((List Int) × (List Int)))))) :=
  (bindO (M_S_ePow ((x.1.1, (x.1.2.1, x.1.2.2)), ((x.2.1.1, x.2.1.2), x.2.2.2.1))) (fun (a0 : (Int × Int)) => (bindO (M_S_sProve ((x.1.1, (x.1.2.1, x.1.2.2)), ((bytesOf [98, 108, 105, 110, 100]), (((x.2.1.1 :: ([] : List Int)) :: ((x.2.1.2 :: ([] : List Int)) :: ([] : List (List Int)))), ((x.2.2.2.1 :: ([] : List Int)), (x.2.2.2.2 :: ([] : List Int))))))) (fun (a1 : ((List Int) × ((List Int) × (List Int)))) => (some (x.2.2.1, ((a0.1, a0.2), (a1.1, (a1.2.1, a1.2.2)))))))))

noncomputable def c_S_qBlind : Con0 := ⟨pk_S_qBlind, rk_S_qBlind, M_S_qBlind⟩

set_option maxRecDepth 100000 in
theorem eq_S_qBlind (x : In pk_S_qBlind) : semF (mkE [(103, c_S_ePow), (104, c_S_sProve)]) h_S_qBlind (info Tryz.f48) pk_S_qBlind rk_S_qBlind x = M_S_qBlind x := (semFF_eq _ _ _ _ _ _).symm.trans (by kernel_rfl)

set_option maxRecDepth 100000 in
theorem m_S_qBlind : ConOK Tryz.prog 48 c_S_qBlind := fn_ok (tyOK _) (E := mkE [(103, c_S_ePow), (104, c_S_sProve)]) (consOK_cons m_S_ePow (consOK_cons m_S_sProve (consOK_nil rfl))) Tryz.func48 (h := h_S_qBlind) (by kernel_rfl) eq_S_qBlind

/-- S_l1Own -/
def pk_S_l1Own : List PK := [.data (.sl (.int .i64))]
def rk_S_l1Own : List (Ty × Bool) := [((.sl (.int .i64)), true)]
def h_S_l1Own : Hints := { loops := [] }
noncomputable def M_S_l1Own (x : (List Int)) : (Option (List Int)) :=
  (bindO (guardO (lenOk ((List.length ([] : List Int)) + (List.length x)))) (fun (a0 : Unit) => (bindO (some (([] : List Int) ++ x)) (fun (a1 : (List Int)) => (some a1)))))

noncomputable def c_S_l1Own : Con0 := ⟨pk_S_l1Own, rk_S_l1Own, M_S_l1Own⟩

set_option maxRecDepth 100000 in
theorem eq_S_l1Own (x : In pk_S_l1Own) : semF (mkE []) h_S_l1Own (info Tryz.f116) pk_S_l1Own rk_S_l1Own x = M_S_l1Own x := (semFF_eq _ _ _ _ _ _).symm.trans (by kernel_rfl)

set_option maxRecDepth 100000 in
theorem m_S_l1Own : ConOK Tryz.prog 116 c_S_l1Own := fn_ok (tyOK _) (E := mkE []) (consOK_nil rfl) Tryz.func116 (h := h_S_l1Own) (by kernel_rfl) eq_S_l1Own

/-- S_l1Cur_bent -/
def pk_S_l1Cur_bent : List PK := [.mp (.cons (.sl (.int .u8)) (.cons (.int .i64) (.one (.int .u64)))) false, .data (.cons (.int .i64) (.cons (.int .i64) (.one (.int .i64)))), .mv (.cons (.sl (.int .i64)) (.cons (.sl (.int .i64)) (.one (.sl (.int .i64)))))]
def rk_S_l1Cur_bent : List (Ty × Bool) := [((.cons (.sl (.int .i64)) (.cons (.sl (.int .i64)) (.one (.sl (.int .i64))))), true)]
def h_S_l1Cur_bent : Hints := { loops := [] }
noncomputable def M_S_l1Cur_bent (x : (((List Int) × (Int × Int)) × ((Int × (Int × Int)) × ((List Int) × ((List Int) × (List Int)))))) : (Option (((List Int) × ((List Int) × (List Int))) × (((List Int) × (Int × Int)) × ((List Int) × ((List Int) × (List Int)))))) :=
  (bindO (M_S_l1Own x.2.2.1) (fun (a0 : (List Int)) => (bindO (M_S_l1Own x.2.2.2.1) (fun (a1 : (List Int)) => (bindO (M_S_l1Own x.2.2.2.2) (fun (a2 : (List Int)) => (bindO (M_S_l1Cur_one (x.1, (3 : Int))) (fun (a3 : (Bool × ((List Int) × (Int × Int)))) => (cond (not a3.1) (some ((a0, (a1, a2)), (a3.2, x.2.2))) (bindO (M_S_l1Cur_pick (a3.2, (3 : Int))) (fun (a4 : (Int × ((List Int) × (Int × Int)))) => (cond (a4.1 == (((0 : Nat) : Nat) : Int)) (cond (decide ((((List.length a0) : Nat) : Int) > (0 : Int))) (bindO (M_S_l1Cur_pick (a4.2, (((List.length a0) : Nat) : Int))) (fun (a5 : (Int × ((List Int) × (Int × Int)))) => (bindO (M_S_l1Cur_expo (a5.2, x.2.1)) (fun (a6 : (Int × ((List Int) × (Int × Int)))) => (bindO (M_S_l1Cur_element (a6.2, x.2.1)) (fun (a7 : (Int × ((List Int) × (Int × Int)))) => (bindO (getI a0 a5.1) (fun (a8 : Int) => (bindO (some (IntKind.wrap .i64 (a8 + (1 : Int)))) (fun (a9 : Int) => (bindO (M_S_l1Cur_among (a7.2, (a6.1 :: (a7.1 :: ((- (1 : Int)) :: (x.2.1.2.1 :: (a9 :: ([] : List Int)))))))) (fun (a10 : (Int × ((List Int) × (Int × Int)))) => (bindO (getI a0 a5.1) (fun (a11 : Int) => (bindO (some (List.set a0 (Int.toNat a5.1) a10.1)) (fun (a12 : (List Int)) => (bindO (M_S_l1Cur_pick (a10.2, (10 : Int))) (fun (a13 : (Int × ((List Int) × (Int × Int)))) => (cond (a13.1 == (0 : Int)) (bindO (guardO (lenOk ((List.length a12) + (List.length ((1 : Int) :: ([] : List Int)))))) (fun (a14 : Unit) => (bindO (some (a12 ++ ((1 : Int) :: ([] : List Int)))) (fun (a15 : (List Int)) => (some ((a15, (a1, a2)), (a13.2, x.2.2))))))) (cond (a13.1 == (1 : Int)) (some ((a12, (a1, ([] : List Int))), (a13.2, x.2.2))) (cond (a13.1 == (2 : Int)) (bindO (guardO (lenOk ((List.length a1) + (List.length ((0 : Int) :: ([] : List Int)))))) (fun (a16 : Unit) => (bindO (some (a1 ++ ((0 : Int) :: ([] : List Int)))) (fun (a17 : (List Int)) => (some ((a12, (a17, a2)), (a13.2, x.2.2))))))) (some ((a12, (a1, a2)), (a13.2, x.2.2)))))))))))))))))))))))) (bindO (M_S_l1Cur_pick (a4.2, (10 : Int))) (fun (a18 : (Int × ((List Int) × (Int × Int)))) => (cond (a18.1 == (0 : Int)) (bindO (guardO (lenOk ((List.length a0) + (List.length ((1 : Int) :: ([] : List Int)))))) (fun (a19 : Unit) => (bindO (some (a0 ++ ((1 : Int) :: ([] : List Int)))) (fun (a20 : (List Int)) => (some ((a20, (a1, a2)), (a18.2, x.2.2))))))) (cond (a18.1 == (1 : Int)) (some ((a0, (a1, ([] : List Int))), (a18.2, x.2.2))) (cond (a18.1 == (2 : Int)) (bindO (guardO (lenOk ((List.length a1) + (List.length ((0 : Int) :: ([] : List Int)))))) (fun (a21 : Unit) => (bindO (some (a1 ++ ((0 : Int) :: ([] : List Int)))) (fun (a22 : (List Int)) => (some ((a0, (a22, a2)), (a18.2, x.2.2))))))) (some ((a0, (a1, a2)), (a18.2, x.2.2))))))))) (cond (a4.1 == ((((0 : Nat) + (1 : Nat)) : Nat) : Int)) (cond (decide ((((List.length a1) : Nat) : Int) > (0 : Int))) (bindO (M_S_l1Cur_pick (a4.2, (((List.length a1) : Nat) : Int))) (fun (a23 : (Int × ((List Int) × (Int × Int)))) => (bindO (M_S_l1Cur_expo (a23.2, x.2.1)) (fun (a24 : (Int × ((List Int) × (Int × Int)))) => (bindO (M_S_l1Cur_element (a24.2, x.2.1)) (fun (a25 : (Int × ((List Int) × (Int × Int)))) => (bindO (getI a1 a23.1) (fun (a26 : Int) => (bindO (some (IntKind.wrap .i64 (a26 + (1 : Int)))) (fun (a27 : Int) => (bindO (M_S_l1Cur_among (a25.2, (a24.1 :: (a25.1 :: ((- (1 : Int)) :: (x.2.1.2.1 :: (a27 :: ([] : List Int)))))))) (fun (a28 : (Int × ((List Int) × (Int × Int)))) => (bindO (getI a1 a23.1) (fun (a29 : Int) => (bindO (some (List.set a1 (Int.toNat a23.1) a28.1)) (fun (a30 : (List Int)) => (bindO (M_S_l1Cur_pick (a28.2, (10 : Int))) (fun (a31 : (Int × ((List Int) × (Int × Int)))) => (cond (a31.1 == (0 : Int)) (bindO (guardO (lenOk ((List.length a0) + (List.length ((1 : Int) :: ([] : List Int)))))) (fun (a32 : Unit) => (bindO (some (a0 ++ ((1 : Int) :: ([] : List Int)))) (fun (a33 : (List Int)) => (some ((a33, (a30, a2)), (a31.2, x.2.2))))))) (cond (a31.1 == (1 : Int)) (some ((a0, (a30, ([] : List Int))), (a31.2, x.2.2))) (cond (a31.1 == (2 : Int)) (bindO (guardO (lenOk ((List.length a30) + (List.length ((0 : Int) :: ([] : List Int)))))) (fun (a34 : Unit) => (bindO (some (a30 ++ ((0 : Int) :: ([] : List Int)))) (fun (a35 : (List Int)) => (some ((a0, (a35, a2)), (a31.2, x.2.2))))))) (some ((a0, (a30, a2)), (a31.2, x.2.2)))))))))))))))))))))))) (bindO (M_S_l1Cur_pick (a4.2, (10 : Int))) (fun (a36 : (Int × ((List Int) × (Int × Int)))) => (cond (a36.1 == (0 : Int)) (bindO (guardO (lenOk ((List.length a0) + (List.length ((1 : Int) :: ([] : List Int)))))) (fun (a37 : Unit) => (bindO (some (a0 ++ ((1 : Int) :: ([] : List Int)))) (fun (a38 : (List Int)) => (some ((a38, (a1, a2)), (a36.2, x.2.2))))))) (cond (a36.1 == (1 : Int)) (some ((a0, (a1, ([] : List Int))), (a36.2, x.2.2))) (cond (a36.1 == (2 : Int)) (bindO (guardO (lenOk ((List.length a1) + (List.length ((0 : Int) :: ([] : List Int)))))) (fun (a39 : Unit) => (bindO (some (a1 ++ ((0 : Int) :: ([] : List Int)))) (fun (a40 : (List Int)) => (some ((a0, (a40, a2)), (a36.2, x.2.2))))))) (some ((a0, (a1, a2)), (a36.2, x.2.2))))))))) (cond (a4.1 == (((((0 : Nat) + (1 : Nat)) + (1 : Nat)) : Nat) : Int)) (cond (decide ((((List.length a2) : Nat) : Int) > (0 : Int))) (bindO (M_S_l1Cur_pick (a4.2, (((List.length a2) : Nat) : Int))) (fun (a41 : (Int × ((List Int) × (Int × Int)))) => (bindO (M_S_l1Cur_expo (a41.2, x.2.1)) (fun (a42 : (Int × ((List Int) × (Int × Int)))) => (bindO (M_S_l1Cur_element (a42.2, x.2.1)) (fun (a43 : (Int × ((List Int) × (Int × Int)))) => (bindO (getI a2 a41.1) (fun (a44 : Int) => (bindO (some (IntKind.wrap .i64 (a44 + (1 : Int)))) (fun (a45 : Int) => (bindO (M_S_l1Cur_among (a43.2, (a42.1 :: (a43.1 :: ((- (1 : Int)) :: (x.2.1.2.1 :: (a45 :: ([] : List Int)))))))) (fun (a46 : (Int × ((List Int) × (Int × Int)))) => (bindO (getI a2 a41.1) (fun (a47 : Int) => (bindO (some (List.set a2 (Int.toNat a41.1) a46.1)) (fun (a48 : (List Int)) => (bindO (M_S_l1Cur_pick (a46.2, (10 : Int))) (fun (a49 : (Int × ((List Int) × (Int × Int)))) => (cond (a49.1 == (0 : Int)) (bindO (guardO (lenOk ((List.length a0) + (List.length ((1 : Int) :: ([] : List Int)))))) (fun (a50 : Unit) => (bindO (some (a0 ++ ((1 : Int) :: ([] : List Int)))) (fun (a51 : (List Int)) => (some ((a51, (a1, a48)), (a49.2, x.2.2))))))) (cond (a49.1 == (1 : Int)) (some ((a0, (a1, ([] : List Int))), (a49.2, x.2.2))) (cond (a49.1 == (2 : Int)) (bindO (guardO (lenOk ((List.length a1) + (List.length ((0 : Int) :: ([] : List Int)))))) (fun (a52 : Unit) => (bindO (some (a1 ++ ((0 : Int) :: ([] : List Int)))) (fun (a53 : (List Int)) => (some ((a0, (a53, a48)), (a49.2, x.2.2))))))) (some ((a0, (a1, a48)), (a49.2, x.2.2)))))))))))))))))))))))) (bindO (M_S_l1Cur_pick (a4.2, (10 : Int))) (fun (a54 : (Int × ((List Int) × (Int × Int)))) => (cond (a54.1 == (0 : Int)) (bindO (guardO (lenOk ((List.length a0) + (List.length ((1 : Int) :: ([] : List Int)))))) (fun (a55 : Unit) => (bindO (some (a0 ++ ((1 : Int) :: ([] : List Int)))) (fun (a56 : (List Int)) => (some ((a56, (a1, a2)), (a54.2, x.2.2))))))) (cond (a54.1 == (1 : Int)) (some ((a0, (a1, ([] : List Int))), (a54.2, x.2.2))) (cond (a54.1 == (2 : Int)) (bindO (guardO (lenOk ((List.length a1) + (List.length ((0 : Int) :: ([] : List Int)))))) (fun (a57 : Unit) => (bindO (some (a1 ++ ((0 : Int) :: ([] : List Int)))) (fun (a58 : (List Int)) => (some ((a0, (a58, a2)), (a54.2, x.2.2))))))) (some ((a0, (a1, a2)), (a54.2, x.2.2))))))))) (bindO (none : Option Unit) (fun (a59 : Unit) => (none : Option (((List Int) × ((List Int) × (List Int))) × (((List Int) × (Int × Int)) × ((List Int) × ((List Int) × (List Int))))))))))))))))))))))

noncomputable def c_S_l1Cur_bent : Con0 := ⟨pk_S_l1Cur_bent, rk_S_l1Cur_bent, M_S_l1Cur_bent⟩

set_option maxRecDepth 100000 in
theorem eq_S_l1Cur_bent (x : In pk_S_l1Cur_bent) : semF (mkE [(116, c_S_l1Own), (31, c_S_l1Cur_one), (30, c_S_l1Cur_pick), (64, c_S_l1Cur_expo), (63, c_S_l1Cur_element), (88, c_S_l1Cur_among)]) h_S_l1Cur_bent (info Tryz.f89) pk_S_l1Cur_bent rk_S_l1Cur_bent x = M_S_l1Cur_bent x := (semFF_eq _ _ _ _ _ _).symm.trans (by kernel_rfl)

set_option maxRecDepth 100000 in
theorem m_S_l1Cur_bent : ConOK Tryz.prog 89 c_S_l1Cur_bent := fn_ok (tyOK _) (E := mkE [(116, c_S_l1Own), (31, c_S_l1Cur_one), (30, c_S_l1Cur_pick), (64, c_S_l1Cur_expo), (63, c_S_l1Cur_element), (88, c_S_l1Cur_among)]) (consOK_cons m_S_l1Own (consOK_cons m_S_l1Cur_one (consOK_cons m_S_l1Cur_pick (consOK_cons m_S_l1Cur_expo (consOK_cons m_S_l1Cur_element (consOK_cons m_S_l1Cur_among (consOK_nil rfl))))))) Tryz.func89 (h := h_S_l1Cur_bent) (by kernel_rfl) eq_S_l1Cur_bent

/-- S_l1Cur_blinds -/
def pk_S_l1Cur_blinds : List PK := [.mp (.cons (.sl (.int .u8)) (.cons (.int .i64) (.one (.int .u64)))) false, .data (.cons (.int .i64) (.cons (.int .i64) (.one (.int .i64)))), .data (.cons (.int .i64) (.one (.int .i64))), .data (.int .i64)]
def rk_S_l1Cur_blinds : List (Ty × Bool) := [((.sl (.cons (.int .i64) (.cons (.cons (.int .i64) (.one (.int .i64))) (.one (.cons (.sl (.int .i64)) (.cons (.sl (.int .i64)) (.one (.sl (.int .i64))))))))), true)]
def h_S_l1Cur_blinds : Hints := { loops := [(0, { items := [.slot 9 (.own (.cons (.int .i64) (.cons (.cons (.int .i64) (.one (.int .i64))) (.one (.cons (.sl (.int .i64)) (.cons (.sl (.int .i64)) (.one (.sl (.int .i64)))))))) true), .slot 10 (.data (.int .i64) []), .cell 0 0 (.data (.sl (.int .u8)) []), .cell 0 1 (.data (.int .i64) []), .cell 0 2 (.data (.int .u64) [])], kill := [1, 2, 4, 7, 8] ++ (sgN 11 63) })] }
noncomputable def M_S_l1Cur_blinds (x : (((List Int) × (Int × Int)) × ((Int × (Int × Int)) × ((Int × Int) × Int)))) : (Option ((List (Int × ((Int × Int) × ((List Int) × ((List Int) × (List Int)))))) × ((List Int) × (Int × Int)))) :=
  (bindO (M_S_l2Good x.2.1) (fun (a0 : Bool) => (cond (not a0) (some (([] : List (Int × ((Int × Int) × ((List Int) × ((List Int) × (List Int)))))), x.1)) (bindO (M_S_eGood (x.2.1, (x.2.2.1 :: ([] : List (Int × Int))))) (fun (a1 : Bool) => (cond (not a1) (some (([] : List (Int × ((Int × Int) × ((List Int) × ((List Int) × (List Int)))))), x.1)) (loopO (fun (again2 : (((List (Int × ((Int × Int) × ((List Int) × ((List Int) × (List Int)))))) × (Int × ((List Int) × (Int × Int)))) → (Option ((List (Int × ((Int × Int) × ((List Int) × ((List Int) × (List Int)))))) × ((List Int) × (Int × Int)))))) => (fun (s3 : ((List (Int × ((Int × Int) × ((List Int) × ((List Int) × (List Int)))))) × (Int × ((List Int) × (Int × Int))))) => (cond (decide (s3.2.1 ≤ x.2.2.2)) (bindO (some (IntKind.wrap .i64 (x.2.1.2.1 - (1 : Int)))) (fun (a4 : Int) => (bindO (M_S_l1Cur_pick (s3.2.2, a4)) (fun (a5 : (Int × ((List Int) × (Int × Int)))) => (bindO (guardO ((60000 : Int) != (0 : Int))) (fun (a6 : Unit) => (bindO (some (Int.tmod a5.1 (60000 : Int))) (fun (a7 : Int) => (bindO (some (IntKind.wrap .i64 (a7 + (1 : Int)))) (fun (a8 : Int) => (bindO (M_S_l1Cur_expo (a5.2, x.2.1)) (fun (a9 : (Int × ((List Int) × (Int × Int)))) => (bindO (M_S_qBlind (x.2.1, (x.2.2.1, (s3.2.1, (a8, a9.1))))) (fun (a10 : (Int × ((Int × Int) × ((List Int) × ((List Int) × (List Int)))))) => (bindO (M_S_l1Cur_pick (a9.2, (14 : Int))) (fun (a11 : (Int × ((List Int) × (Int × Int)))) => (cond (a11.1 == (0 : Int)) (bindO (M_S_l1Cur_anyElement (a11.2, x.2.1)) (fun (a12 : (Int × ((List Int) × (Int × Int)))) => (bindO (guardO (lenOk ((List.length s3.1) + (List.length ((a10.1, ((a12.1, a10.2.1.2), a10.2.2)) :: ([] : List (Int × ((Int × Int) × ((List Int) × ((List Int) × (List Int))))))))))) (fun (a13 : Unit) => (bindO (some (s3.1 ++ ((a10.1, ((a12.1, a10.2.1.2), a10.2.2)) :: ([] : List (Int × ((Int × Int) × ((List Int) × ((List Int) × (List Int))))))))) (fun (a14 : (List (Int × ((Int × Int) × ((List Int) × ((List Int) × (List Int))))))) => (bindO (some (IntKind.wrap .i64 (s3.2.1 + (1 : Int)))) (fun (a15 : Int) => (again2 (a14, (a15, a12.2))))))))))) (cond (a11.1 == (1 : Int)) (bindO (M_S_l1Cur_among (a11.2, ((0 : Int) :: ((1 : Int) :: ((8 : Int) :: ([] : List Int)))))) (fun (a16 : (Int × ((List Int) × (Int × Int)))) => (bindO (guardO (lenOk ((List.length s3.1) + (List.length ((a16.1, a10.2) :: ([] : List (Int × ((Int × Int) × ((List Int) × ((List Int) × (List Int))))))))))) (fun (a17 : Unit) => (bindO (some (s3.1 ++ ((a16.1, a10.2) :: ([] : List (Int × ((Int × Int) × ((List Int) × ((List Int) × (List Int))))))))) (fun (a18 : (List (Int × ((Int × Int) × ((List Int) × ((List Int) × (List Int))))))) => (bindO (some (IntKind.wrap .i64 (s3.2.1 + (1 : Int)))) (fun (a19 : Int) => (again2 (a18, (a19, a16.2))))))))))) (cond (a11.1 == (2 : Int)) (bindO (M_S_l1Cur_bent (a11.2, (x.2.1, a10.2.2))) (fun (a20 : (((List Int) × ((List Int) × (List Int))) × (((List Int) × (Int × Int)) × ((List Int) × ((List Int) × (List Int)))))) => (bindO (guardO (lenOk ((List.length s3.1) + (List.length ((a10.1, (a10.2.1, a20.1)) :: ([] : List (Int × ((Int × Int) × ((List Int) × ((List Int) × (List Int))))))))))) (fun (a21 : Unit) => (bindO (some (s3.1 ++ ((a10.1, (a10.2.1, a20.1)) :: ([] : List (Int × ((Int × Int) × ((List Int) × ((List Int) × (List Int))))))))) (fun (a22 : (List (Int × ((Int × Int) × ((List Int) × ((List Int) × (List Int))))))) => (bindO (some (IntKind.wrap .i64 (s3.2.1 + (1 : Int)))) (fun (a23 : Int) => (again2 (a22, (a23, a20.2.1))))))))))) (cond (a11.1 == (3 : Int)) (bindO (guardO (lenOk ((List.length s3.1) + (List.length ((a10.1, (((1 : Int), (1 : Int)), a10.2.2)) :: ([] : List (Int × ((Int × Int) × ((List Int) × ((List Int) × (List Int))))))))))) (fun (a24 : Unit) => (bindO (some (s3.1 ++ ((a10.1, (((1 : Int), (1 : Int)), a10.2.2)) :: ([] : List (Int × ((Int × Int) × ((List Int) × ((List Int) × (List Int))))))))) (fun (a25 : (List (Int × ((Int × Int) × ((List Int) × ((List Int) × (List Int))))))) => (bindO (some (IntKind.wrap .i64 (s3.2.1 + (1 : Int)))) (fun (a26 : Int) => (again2 (a25, (a26, a11.2))))))))) (bindO (guardO (lenOk ((List.length s3.1) + (List.length (a10 :: ([] : List (Int × ((Int × Int) × ((List Int) × ((List Int) × (List Int))))))))))) (fun (a27 : Unit) => (bindO (some (s3.1 ++ (a10 :: ([] : List (Int × ((Int × Int) × ((List Int) × ((List Int) × (List Int))))))))) (fun (a28 : (List (Int × ((Int × Int) × ((List Int) × ((List Int) × (List Int))))))) => (bindO (some (IntKind.wrap .i64 (s3.2.1 + (1 : Int)))) (fun (a29 : Int) => (again2 (a28, (a29, a11.2))))))))))))))))))))))))))))) (some (s3.1, s3.2.2))))) (([] : List (Int × ((Int × Int) × ((List Int) × ((List Int) × (List Int)))))), ((1 : Int), x.1)))))))))

noncomputable def c_S_l1Cur_blinds : Con0 := ⟨pk_S_l1Cur_blinds, rk_S_l1Cur_blinds, M_S_l1Cur_blinds⟩

set_option maxRecDepth 100000 in
theorem eq_S_l1Cur_blinds (x : In pk_S_l1Cur_blinds) : semF (mkE [(37, c_S_l2Good), (38, c_S_eGood), (30, c_S_l1Cur_pick), (64, c_S_l1Cur_expo), (48, c_S_qBlind), (69, c_S_l1Cur_anyElement), (88, c_S_l1Cur_among), (89, c_S_l1Cur_bent)]) h_S_l1Cur_blinds (info Tryz.f29) pk_S_l1Cur_blinds rk_S_l1Cur_blinds x = M_S_l1Cur_blinds x := (semFF_eq _ _ _ _ _ _).symm.trans (by kernel_rfl)

set_option maxRecDepth 100000 in
theorem m_S_l1Cur_blinds : ConOK Tryz.prog 29 c_S_l1Cur_blinds := fn_ok (tyOK _) (E := mkE [(37, c_S_l2Good), (38, c_S_eGood), (30, c_S_l1Cur_pick), (64, c_S_l1Cur_expo), (48, c_S_qBlind), (69, c_S_l1Cur_anyElement), (88, c_S_l1Cur_among), (89, c_S_l1Cur_bent)]) (consOK_cons m_S_l2Good (consOK_cons m_S_eGood (consOK_cons m_S_l1Cur_pick (consOK_cons m_S_l1Cur_expo (consOK_cons m_S_qBlind (consOK_cons m_S_l1Cur_anyElement (consOK_cons m_S_l1Cur_among (consOK_cons m_S_l1Cur_bent (consOK_nil rfl))))))))) Tryz.func29 (h := h_S_l1Cur_blinds) (by kernel_rfl) eq_S_l1Cur_blinds

/-- S_DrawCombineBlinds -/
def pk_S_DrawCombineBlinds : List PK := [.data (.sl (.int .u8))]
def rk_S_DrawCombineBlinds : List (Ty × Bool) := [((.cons (.int .i64) (.cons (.int .i64) (.one (.int .i64)))), false), ((.cons (.int .i64) (.one (.int .i64))), false), ((.sl (.cons (.int .i64) (.cons (.cons (.int .i64) (.one (.int .i64))) (.one (.cons (.sl (.int .i64)) (.cons (.sl (.int .i64)) (.one (.sl (.int .i64))))))))), true)]
def h_S_DrawCombineBlinds : Hints := { loops := [(0, { items := [.slot 8 (.own (.cons (.int .i64) (.cons (.cons (.int .i64) (.one (.int .i64))) (.one (.cons (.sl (.int .i64)) (.cons (.sl (.int .i64)) (.one (.sl (.int .i64)))))))) true), .cell 11 0 (.data (.sl (.int .u8)) []), .cell 11 1 (.data (.int .i64) []), .cell 11 2 (.data (.int .u64) [])], kill := [0, 1, 4, 9, 10] ++ (sgN 12 26) })] }
noncomputable def M_S_DrawCombineBlinds (x : (List Int)) : (Option ((Int × (Int × Int)) × ((Int × Int) × (List (Int × ((Int × Int) × ((List Int) × ((List Int) × (List Int))))))))) :=
  (bindO (M_S_l1Cur_anyGroup (x, ((0 : Int), (0 : Int)))) (fun (a0 : ((Int × (Int × Int)) × ((List Int) × (Int × Int)))) => (bindO (M_S_l1Cur_anyCipher (a0.2, a0.1)) (fun (a1 : ((Int × Int) × ((List Int) × (Int × Int)))) => (bindO (M_S_l1Cur_pick (a1.2, (5 : Int))) (fun (a2 : (Int × ((List Int) × (Int × Int)))) => (bindO (M_S_l1Cur_blinds (a2.2, (a0.1, (a1.1, a2.1)))) (fun (a3 : ((List (Int × ((Int × Int) × ((List Int) × ((List Int) × (List Int)))))) × ((List Int) × (Int × Int)))) => (bindO (M_S_l1Cur_one (a3.2, (20 : Int))) (fun (a4 : (Bool × ((List Int) × (Int × Int)))) => (cond a4.1 (loopO (fun (again5 : (((List (Int × ((Int × Int) × ((List Int) × ((List Int) × (List Int)))))) × ((List Int) × (Int × Int))) → (Option ((Int × (Int × Int)) × ((Int × Int) × (List (Int × ((Int × Int) × ((List Int) × ((List Int) × (List Int))))))))))) => (fun (s6 : ((List (Int × ((Int × Int) × ((List Int) × ((List Int) × (List Int)))))) × ((List Int) × (Int × Int)))) => (bindO (M_S_l1Cur_pick (s6.2, (2 : Int))) (fun (a7 : (Int × ((List Int) × (Int × Int)))) => (bindO (some (IntKind.wrap .i64 ((14 : Int) + a7.1))) (fun (a8 : Int) => (cond (decide ((((List.length s6.1) : Nat) : Int) < a8)) (bindO (guardO (lenOk ((List.length s6.1) + (List.length (((2 : Int), (((0 : Int), (0 : Int)), (([] : List Int), (([] : List Int), ([] : List Int))))) :: ([] : List (Int × ((Int × Int) × ((List Int) × ((List Int) × (List Int))))))))))) (fun (a9 : Unit) => (bindO (some (s6.1 ++ (((2 : Int), (((0 : Int), (0 : Int)), (([] : List Int), (([] : List Int), ([] : List Int))))) :: ([] : List (Int × ((Int × Int) × ((List Int) × ((List Int) × (List Int))))))))) (fun (a10 : (List (Int × ((Int × Int) × ((List Int) × ((List Int) × (List Int))))))) => (again5 (a10, a7.2)))))) (some (a0.1, (a1.1, s6.1)))))))))) (a3.1, a4.2)) (some (a0.1, (a1.1, a3.1))))))))))))))

noncomputable def c_S_DrawCombineBlinds : Con0 := ⟨pk_S_DrawCombineBlinds, rk_S_DrawCombineBlinds, M_S_DrawCombineBlinds⟩

set_option maxRecDepth 100000 in
theorem eq_S_DrawCombineBlinds (x : In pk_S_DrawCombineBlinds) : semF (mkE [(27, c_S_l1Cur_anyGroup), (28, c_S_l1Cur_anyCipher), (30, c_S_l1Cur_pick), (29, c_S_l1Cur_blinds), (31, c_S_l1Cur_one)]) h_S_DrawCombineBlinds (info Tryz.f5) pk_S_DrawCombineBlinds rk_S_DrawCombineBlinds x = M_S_DrawCombineBlinds x := (semFF_eq _ _ _ _ _ _).symm.trans (by kernel_rfl)

set_option maxRecDepth 100000 in
theorem m_S_DrawCombineBlinds : ConOK Tryz.prog 5 c_S_DrawCombineBlinds := fn_ok (tyOK _) (E := mkE [(27, c_S_l1Cur_anyGroup), (28, c_S_l1Cur_anyCipher), (30, c_S_l1Cur_pick), (29, c_S_l1Cur_blinds), (31, c_S_l1Cur_one)]) (consOK_cons m_S_l1Cur_anyGroup (consOK_cons m_S_l1Cur_anyCipher (consOK_cons m_S_l1Cur_pick (consOK_cons m_S_l1Cur_blinds (consOK_cons m_S_l1Cur_one (consOK_nil rfl)))))) Tryz.func5 (h := h_S_DrawCombineBlinds) (by kernel_rfl) eq_S_DrawCombineBlinds

/-- I_within -/
def pk_I_within : List PK := [.data (.int .i64), .data (.int .i64), .data (.int .i64)]
def rk_I_within : List (Ty × Bool) := [(.bool, false)]
def h_I_within : Hints := { loops := [] }
noncomputable def M_I_within (x : (Int × (Int × Int))) : (Option Bool) :=
  (cond (decide (x.1 ≥ x.2.1)) (some (decide (x.1 ≤ x.2.2))) (some false))

noncomputable def c_I_within : Con0 := ⟨pk_I_within, rk_I_within, M_I_within⟩

set_option maxRecDepth 100000 in
theorem eq_I_within (x : In pk_I_within) : semF (mkE []) h_I_within (info Tryz.f91) pk_I_within rk_I_within x = M_I_within x := (semFF_eq _ _ _ _ _ _).symm.trans (by kernel_rfl)

set_option maxRecDepth 100000 in
theorem m_I_within : ConOK Tryz.prog 91 c_I_within := fn_ok (tyOK _) (E := mkE []) (consOK_nil rfl) Tryz.func91 (h := h_I_within) (by kernel_rfl) eq_I_within

/-- I_isModulus -/
def pk_I_isModulus : List PK := [.data (.int .i64)]
def rk_I_isModulus : List (Ty × Bool) := [(.bool, false)]
def h_I_isModulus : Hints := { loops := [] }
noncomputable def M_I_isModulus (x : Int) : (Option Bool) :=
  (bindO (M_I_within (x, ((2 : Int), (2000000000 : Int)))) (fun (a0 : Bool) => (some a0)))

noncomputable def c_I_isModulus : Con0 := ⟨pk_I_isModulus, rk_I_isModulus, M_I_isModulus⟩

set_option maxRecDepth 100000 in
theorem eq_I_isModulus (x : In pk_I_isModulus) : semF (mkE [(91, c_I_within)]) h_I_isModulus (info Tryz.f126) pk_I_isModulus rk_I_isModulus x = M_I_isModulus x := (semFF_eq _ _ _ _ _ _).symm.trans (by kernel_rfl)

set_option maxRecDepth 100000 in
theorem m_I_isModulus : ConOK Tryz.prog 126 c_I_isModulus := fn_ok (tyOK _) (E := mkE [(91, c_I_within)]) (consOK_cons m_I_within (consOK_nil rfl)) Tryz.func126 (h := h_I_isModulus) (by kernel_rfl) eq_I_isModulus

/-- I_isPrime -/
def pk_I_isPrime : List PK := [.data (.int .i64)]
def rk_I_isPrime : List (Ty × Bool) := [(.bool, false)]
def h_I_isPrime : Hints := { loops := [(0, { items := [.slot 3 (.data (.int .i64) [])], kill := [1, 2] ++ (sgN 4 23) })] }
noncomputable def M_I_isPrime (x : Int) : (Option Bool) :=
  (bindO (M_I_isModulus x) (fun (a0 : Bool) => (cond (not a0) (some false) (bindO (guardO ((2 : Int) != (0 : Int))) (fun (a1 : Unit) => (bindO (some (Int.tmod x (2 : Int))) (fun (a2 : Int) => (cond (a2 == (0 : Int)) (cond (x != (2 : Int)) (some false) (loopO (fun (again3 : (Int → (Option Bool))) => (fun (s4 : Int) => (bindO (some (IntKind.wrap .i64 (s4 * s4))) (fun (a5 : Int) => (cond (decide (a5 ≤ x)) (bindO (guardO (s4 != (0 : Int))) (fun (a6 : Unit) => (bindO (some (Int.tmod x s4)) (fun (a7 : Int) => (cond (a7 == (0 : Int)) (some false) (bindO (some (IntKind.wrap .i64 (s4 + (2 : Int)))) (fun (a8 : Int) => (again3 a8)))))))) (some true)))))) (3 : Int))) (loopO (fun (again9 : (Int → (Option Bool))) => (fun (s10 : Int) => (bindO (some (IntKind.wrap .i64 (s10 * s10))) (fun (a11 : Int) => (cond (decide (a11 ≤ x)) (bindO (guardO (s10 != (0 : Int))) (fun (a12 : Unit) => (bindO (some (Int.tmod x s10)) (fun (a13 : Int) => (cond (a13 == (0 : Int)) (some false) (bindO (some (IntKind.wrap .i64 (s10 + (2 : Int)))) (fun (a14 : Int) => (again9 a14)))))))) (some true)))))) (3 : Int))))))))))

noncomputable def c_I_isPrime : Con0 := ⟨pk_I_isPrime, rk_I_isPrime, M_I_isPrime⟩

set_option maxRecDepth 100000 in
theorem eq_I_isPrime (x : In pk_I_isPrime) : semF (mkE [(126, c_I_isModulus)]) h_I_isPrime (info Tryz.f92) pk_I_isPrime rk_I_isPrime x = M_I_isPrime x := (semFF_eq _ _ _ _ _ _).symm.trans (by kernel_rfl)

set_option maxRecDepth 100000 in
theorem m_I_isPrime : ConOK Tryz.prog 92 c_I_isPrime := fn_ok (tyOK _) (E := mkE [(126, c_I_isModulus)]) (consOK_cons m_I_isModulus (consOK_nil rfl)) Tryz.func92 (h := h_I_isPrime) (by kernel_rfl) eq_I_isPrime

/-- I_power -/
def pk_I_power : List PK := [.data (.int .i64), .data (.int .i64), .data (.int .i64)]
def rk_I_power : List (Ty × Bool) := [((.int .i64), false)]
def h_I_power : Hints := { loops := [(0, { items := [.slot 0 (.data (.int .i64) []), .slot 1 (.data (.int .i64) []), .slot 7 (.data (.int .i64) [])], kill := sgN 3 4 ++ (sgN 8 20) })] }
noncomputable def M_I_power (x : (Int × (Int × Int))) : (Option Int) :=
  (bindO (guardO (x.2.2 != (0 : Int))) (fun (a0 : Unit) => (bindO (some (Int.tmod (1 : Int) x.2.2)) (fun (a1 : Int) => (loopO (fun (again2 : ((Int × (Int × Int)) → (Option Int))) => (fun (s3 : (Int × (Int × Int))) => (cond (decide (s3.2.1 > (0 : Int))) (bindO (some (bits .and .i64 s3.2.1 (1 : Int))) (fun (a4 : Int) => (cond (a4 == (1 : Int)) (bindO (some (IntKind.wrap .i64 (s3.2.2 * s3.1))) (fun (a5 : Int) => (bindO (guardO (x.2.2 != (0 : Int))) (fun (a6 : Unit) => (bindO (some (Int.tmod a5 x.2.2)) (fun (a7 : Int) => (bindO (some (IntKind.wrap .i64 (s3.1 * s3.1))) (fun (a8 : Int) => (bindO (guardO (x.2.2 != (0 : Int))) (fun (a9 : Unit) => (bindO (some (Int.tmod a8 x.2.2)) (fun (a10 : Int) => (bindO (guardO (decide ((0 : Int) ≤ (1 : Int)))) (fun (a11 : Unit) => (bindO (some (shr .i64 s3.2.1 (1 : Int))) (fun (a12 : Int) => (again2 (a10, (a12, a7))))))))))))))))))) (bindO (some (IntKind.wrap .i64 (s3.1 * s3.1))) (fun (a13 : Int) => (bindO (guardO (x.2.2 != (0 : Int))) (fun (a14 : Unit) => (bindO (some (Int.tmod a13 x.2.2)) (fun (a15 : Int) => (bindO (guardO (decide ((0 : Int) ≤ (1 : Int)))) (fun (a16 : Unit) => (bindO (some (shr .i64 s3.2.1 (1 : Int))) (fun (a17 : Int) => (again2 (a15, (a17, s3.2.2)))))))))))))))) (some s3.2.2)))) (x.1, (x.2.1, a1)))))))

noncomputable def c_I_power : Con0 := ⟨pk_I_power, rk_I_power, M_I_power⟩

set_option maxRecDepth 100000 in
theorem eq_I_power (x : In pk_I_power) : semF (mkE []) h_I_power (info Tryz.f93) pk_I_power rk_I_power x = M_I_power x := (semFF_eq _ _ _ _ _ _).symm.trans (by kernel_rfl)

set_option maxRecDepth 100000 in
theorem m_I_power : ConOK Tryz.prog 93 c_I_power := fn_ok (tyOK _) (E := mkE []) (consOK_nil rfl) Tryz.func93 (h := h_I_power) (by kernel_rfl) eq_I_power

/-- I_IsValidGroup -/
def pk_I_IsValidGroup : List PK := [.data (.cons (.int .i64) (.cons (.int .i64) (.one (.int .i64))))]
def rk_I_IsValidGroup : List (Ty × Bool) := [(.bool, false)]
def h_I_IsValidGroup : Hints := { loops := [] }
noncomputable def M_I_IsValidGroup (x : (Int × (Int × Int))) : (Option Bool) :=
  (bindO (M_I_within (x.1, ((3 : Int), (2000000000 : Int)))) (fun (a0 : Bool) => (cond a0 (bindO (some (IntKind.wrap .i64 (x.1 - (1 : Int)))) (fun (a1 : Int) => (bindO (M_I_within (x.2.1, ((2 : Int), a1))) (fun (a2 : Bool) => (cond a2 (bindO (some (IntKind.wrap .i64 (x.1 - (1 : Int)))) (fun (a3 : Int) => (bindO (guardO (x.2.1 != (0 : Int))) (fun (a4 : Unit) => (bindO (some (Int.tmod a3 x.2.1)) (fun (a5 : Int) => (cond (a5 == (0 : Int)) (bindO (some (IntKind.wrap .i64 (x.1 - (1 : Int)))) (fun (a6 : Int) => (bindO (M_I_within (x.2.2, ((2 : Int), a6))) (fun (a7 : Bool) => (cond a7 (bindO (M_I_isPrime x.1) (fun (a8 : Bool) => (cond a8 (bindO (M_I_isPrime x.2.1) (fun (a9 : Bool) => (cond a9 (bindO (M_I_power (x.2.2, (x.2.1, x.1))) (fun (a10 : Int) => (some (a10 == (1 : Int))))) (some false)))) (some false)))) (some false)))))) (some false)))))))) (some false)))))) (some false))))

noncomputable def c_I_IsValidGroup : Con0 := ⟨pk_I_IsValidGroup, rk_I_IsValidGroup, M_I_IsValidGroup⟩

set_option maxRecDepth 100000 in
theorem eq_I_IsValidGroup (x : In pk_I_IsValidGroup) : semF (mkE [(91, c_I_within), (92, c_I_isPrime), (93, c_I_power)]) h_I_IsValidGroup (info Tryz.f32) pk_I_IsValidGroup rk_I_IsValidGroup x = M_I_IsValidGroup x := (semFF_eq _ _ _ _ _ _).symm.trans (by kernel_rfl)

set_option maxRecDepth 100000 in
theorem m_I_IsValidGroup : ConOK Tryz.prog 32 c_I_IsValidGroup := fn_ok (tyOK _) (E := mkE [(91, c_I_within), (92, c_I_isPrime), (93, c_I_power)]) (consOK_cons m_I_within (consOK_cons m_I_isPrime (consOK_cons m_I_power (consOK_nil rfl)))) Tryz.func32 (h := h_I_IsValidGroup) (by kernel_rfl) eq_I_IsValidGroup

/-- I_Group_has -/
def pk_I_Group_has : List PK := [.data (.cons (.int .i64) (.cons (.int .i64) (.one (.int .i64)))), .data (.int .i64)]
def rk_I_Group_has : List (Ty × Bool) := [(.bool, false)]
def h_I_Group_has : Hints := { loops := [] }
noncomputable def M_I_Group_has (x : ((Int × (Int × Int)) × Int)) : (Option Bool) :=
  (bindO (some (IntKind.wrap .i64 (x.1.1 - (1 : Int)))) (fun (a0 : Int) => (bindO (M_I_within (x.2, ((1 : Int), a0))) (fun (a1 : Bool) => (cond a1 (bindO (M_I_power (x.2, (x.1.2.1, x.1.1))) (fun (a2 : Int) => (some (a2 == (1 : Int))))) (some false))))))

noncomputable def c_I_Group_has : Con0 := ⟨pk_I_Group_has, rk_I_Group_has, M_I_Group_has⟩

set_option maxRecDepth 100000 in
theorem eq_I_Group_has (x : In pk_I_Group_has) : semF (mkE [(91, c_I_within), (93, c_I_power)]) h_I_Group_has (info Tryz.f71) pk_I_Group_has rk_I_Group_has x = M_I_Group_has x := (semFF_eq _ _ _ _ _ _).symm.trans (by kernel_rfl)

set_option maxRecDepth 100000 in
theorem m_I_Group_has : ConOK Tryz.prog 71 c_I_Group_has := fn_ok (tyOK _) (E := mkE [(91, c_I_within), (93, c_I_power)]) (consOK_cons m_I_within (consOK_cons m_I_power (consOK_nil rfl))) Tryz.func71 (h := h_I_Group_has) (by kernel_rfl) eq_I_Group_has

/-- I_Group_hasCipher -/
def pk_I_Group_hasCipher : List PK := [.data (.cons (.int .i64) (.cons (.int .i64) (.one (.int .i64)))), .data (.cons (.int .i64) (.one (.int .i64)))]
def rk_I_Group_hasCipher : List (Ty × Bool) := [(.bool, false)]
def h_I_Group_hasCipher : Hints := { loops := [] }
noncomputable def M_I_Group_hasCipher (x : ((Int × (Int × Int)) × (Int × Int))) : (Option Bool) :=
  (bindO (M_I_Group_has ((x.1.1, (x.1.2.1, x.1.2.2)), x.2.1)) (fun (a0 : Bool) => (cond a0 (bindO (M_I_Group_has ((x.1.1, (x.1.2.1, x.1.2.2)), x.2.2)) (fun (a1 : Bool) => (some a1))) (some false))))

noncomputable def c_I_Group_hasCipher : Con0 := ⟨pk_I_Group_hasCipher, rk_I_Group_hasCipher, M_I_Group_hasCipher⟩

set_option maxRecDepth 100000 in
theorem eq_I_Group_hasCipher (x : In pk_I_Group_hasCipher) : semF (mkE [(71, c_I_Group_has)]) h_I_Group_hasCipher (info Tryz.f33) pk_I_Group_hasCipher rk_I_Group_hasCipher x = M_I_Group_hasCipher x := (semFF_eq _ _ _ _ _ _).symm.trans (by kernel_rfl)

set_option maxRecDepth 100000 in
theorem m_I_Group_hasCipher : ConOK Tryz.prog 33 c_I_Group_hasCipher := fn_ok (tyOK _) (E := mkE [(71, c_I_Group_has)]) (consOK_cons m_I_Group_has (consOK_nil rfl)) Tryz.func33 (h := h_I_Group_hasCipher) (by kernel_rfl) eq_I_Group_hasCipher

/-- slices_Index_sint_int -/
def pk_slices_Index_sint_int : List PK := [.data (.sl (.int .i64)), .data (.int .i64)]
def rk_slices_Index_sint_int : List (Ty × Bool) := [((.int .i64), false)]
def h_slices_Index_sint_int : Hints := { loops := [(0, { items := [.slot 8 (.data (.int .i64) [])], kill := sgN 2 5 ++ (sgN 9 10) })] }
noncomputable def M_slices_Index_sint_int (x : ((List Int) × Int)) : (Option Int) :=
  (loopO (fun (again0 : (Int → (Option Int))) => (fun (s1 : Int) => (cond (decide (s1 < (((List.length x.1) : Nat) : Int))) (bindO (getI x.1 s1) (fun (a2 : Int) => (cond (x.2 == a2) (some s1) (bindO (some (IntKind.wrap .i64 (s1 + (1 : Int)))) (fun (a3 : Int) => (again0 a3)))))) (some (- (1 : Int)))))) (0 : Int))

noncomputable def c_slices_Index_sint_int : Con0 := ⟨pk_slices_Index_sint_int, rk_slices_Index_sint_int, M_slices_Index_sint_int⟩

set_option maxRecDepth 100000 in
theorem eq_slices_Index_sint_int (x : In pk_slices_Index_sint_int) : semF (mkE []) h_slices_Index_sint_int (info Tryz.f94) pk_slices_Index_sint_int rk_slices_Index_sint_int x = M_slices_Index_sint_int x := (semFF_eq _ _ _ _ _ _).symm.trans (by kernel_rfl)

set_option maxRecDepth 100000 in
theorem m_slices_Index_sint_int : ConOK Tryz.prog 94 c_slices_Index_sint_int := fn_ok (tyOK _) (E := mkE []) (consOK_nil rfl) Tryz.func94 (h := h_slices_Index_sint_int) (by kernel_rfl) eq_slices_Index_sint_int

/-- slices_Contains_sint_int -/
def pk_slices_Contains_sint_int : List PK := [.data (.sl (.int .i64)), .data (.int .i64)]
def rk_slices_Contains_sint_int : List (Ty × Bool) := [(.bool, false)]
def h_slices_Contains_sint_int : Hints := { loops := [] }
noncomputable def M_slices_Contains_sint_int (x : ((List Int) × Int)) : (Option Bool) :=
  (bindO (M_slices_Index_sint_int (x.1, x.2)) (fun (a0 : Int) => (some (decide (a0 ≥ (0 : Int))))))

noncomputable def c_slices_Contains_sint_int : Con0 := ⟨pk_slices_Contains_sint_int, rk_slices_Contains_sint_int, M_slices_Contains_sint_int⟩

set_option maxRecDepth 100000 in
theorem eq_slices_Contains_sint_int (x : In pk_slices_Contains_sint_int) : semF (mkE [(94, c_slices_Index_sint_int)]) h_slices_Contains_sint_int (info Tryz.f34) pk_slices_Contains_sint_int rk_slices_Contains_sint_int x = M_slices_Contains_sint_int x := (semFF_eq _ _ _ _ _ _).symm.trans (by kernel_rfl)

set_option maxRecDepth 100000 in
theorem m_slices_Contains_sint_int : ConOK Tryz.prog 34 c_slices_Contains_sint_int := fn_ok (tyOK _) (E := mkE [(94, c_slices_Index_sint_int)]) (consOK_cons m_slices_Index_sint_int (consOK_nil rfl)) Tryz.func34 (h := h_slices_Contains_sint_int) (by kernel_rfl) eq_slices_Contains_sint_int

/-- I_isTrustee -/
def pk_I_isTrustee : List PK := [.data (.int .i64)]
def rk_I_isTrustee : List (Ty × Bool) := [(.bool, false)]
def h_I_isTrustee : Hints := { loops := [] }
noncomputable def M_I_isTrustee (x : Int) : (Option Bool) :=
  (bindO (M_I_within (x, ((1 : Int), (7 : Int)))) (fun (a0 : Bool) => (some a0)))

noncomputable def c_I_isTrustee : Con0 := ⟨pk_I_isTrustee, rk_I_isTrustee, M_I_isTrustee⟩

set_option maxRecDepth 100000 in
theorem eq_I_isTrustee (x : In pk_I_isTrustee) : semF (mkE [(91, c_I_within)]) h_I_isTrustee (info Tryz.f41) pk_I_isTrustee rk_I_isTrustee x = M_I_isTrustee x := (semFF_eq _ _ _ _ _ _).symm.trans (by kernel_rfl)

set_option maxRecDepth 100000 in
theorem m_I_isTrustee : ConOK Tryz.prog 41 c_I_isTrustee := fn_ok (tyOK _) (E := mkE [(91, c_I_within)]) (consOK_cons m_I_within (consOK_nil rfl)) Tryz.func41 (h := h_I_isTrustee) (by kernel_rfl) eq_I_isTrustee

/-- I_blindStatement -/
def pk_I_blindStatement : List PK := [.data (.cons (.int .i64) (.one (.int .i64))), .data (.cons (.int .i64) (.one (.int .i64)))]
def rk_I_blindStatement : List (Ty × Bool) := [((.cons (.int .i64) (.cons (.int .i64) (.cons (.int .i64) (.one (.int .i64))))), false)]
def h_I_blindStatement : Hints := { loops := [] }
noncomputable def M_I_blindStatement (x : ((Int × Int) × (Int × Int))) : (Option (Int × (Int × (Int × Int)))) :=
  (some (x.1.1, (x.2.1, (x.1.2, x.2.2))))

noncomputable def c_I_blindStatement : Con0 := ⟨pk_I_blindStatement, rk_I_blindStatement, M_I_blindStatement⟩

set_option maxRecDepth 100000 in
theorem eq_I_blindStatement (x : In pk_I_blindStatement) : semF (mkE []) h_I_blindStatement (info Tryz.f45) pk_I_blindStatement rk_I_blindStatement x = M_I_blindStatement x := (semFF_eq _ _ _ _ _ _).symm.trans (by kernel_rfl)

set_option maxRecDepth 100000 in
theorem m_I_blindStatement : ConOK Tryz.prog 45 c_I_blindStatement := fn_ok (tyOK _) (E := mkE []) (consOK_nil rfl) Tryz.func45 (h := h_I_blindStatement) (by kernel_rfl) eq_I_blindStatement

/-- I_equalRows -/
def pk_I_equalRows : List PK := [.data (.cons (.int .i64) (.cons (.int .i64) (.cons (.int .i64) (.one (.int .i64)))))]
def rk_I_equalRows : List (Ty × Bool) := [((.sl (.sl (.int .i64))), false)]
def h_I_equalRows : Hints := { loops := [] }
noncomputable def M_I_equalRows (x : (Int × (Int × (Int × Int)))) : (Option (List (List Int))) :=
  (some ((x.1 :: ([] : List Int)) :: ((x.2.2.1 :: ([] : List Int)) :: ([] : List (List Int)))))

noncomputable def c_I_equalRows : Con0 := ⟨pk_I_equalRows, rk_I_equalRows, M_I_equalRows⟩

set_option maxRecDepth 100000 in
theorem eq_I_equalRows (x : In pk_I_equalRows) : semF (mkE []) h_I_equalRows (info Tryz.f62) pk_I_equalRows rk_I_equalRows x = M_I_equalRows x := (semFF_eq _ _ _ _ _ _).symm.trans (by kernel_rfl)

set_option maxRecDepth 100000 in
theorem m_I_equalRows : ConOK Tryz.prog 62 c_I_equalRows := fn_ok (tyOK _) (E := mkE []) (consOK_nil rfl) Tryz.func62 (h := h_I_equalRows) (by kernel_rfl) eq_I_equalRows

/-- I_isLabel -/
def pk_I_isLabel : List PK := [.data .str]
def rk_I_isLabel : List (Ty × Bool) := [(.bool, false)]
def h_I_isLabel : Hints := { loops := [] }
noncomputable def M_I_isLabel (x : ByteArray) : (Option Bool) :=
  (some (decide ((((ByteArray.size x) : Nat) : Int) ≤ (40 : Int))))

noncomputable def c_I_isLabel : Con0 := ⟨pk_I_isLabel, rk_I_isLabel, M_I_isLabel⟩

set_option maxRecDepth 100000 in
theorem eq_I_isLabel (x : In pk_I_isLabel) : semF (mkE []) h_I_isLabel (info Tryz.f70) pk_I_isLabel rk_I_isLabel x = M_I_isLabel x := (semFF_eq _ _ _ _ _ _).symm.trans (by kernel_rfl)

set_option maxRecDepth 100000 in
theorem m_I_isLabel : ConOK Tryz.prog 70 c_I_isLabel := fn_ok (tyOK _) (E := mkE []) (consOK_nil rfl) Tryz.func70 (h := h_I_isLabel) (by kernel_rfl) eq_I_isLabel

/-- slices_IndexFunc_ssint_sint -/
def pk_slices_IndexFunc_ssint_sint : List PK := [.data (.sl (.sl (.int .i64))), .fn [(.sl (.int .i64))] .bool]
def rk_slices_IndexFunc_ssint_sint : List (Ty × Bool) := [((.int .i64), false)]
def h_slices_IndexFunc_ssint_sint : Hints := { loops := [(0, { items := [.slot 8 (.data (.int .i64) [])], kill := sgN 2 5 ++ (sgN 9 10) })] }
noncomputable def M_slices_IndexFunc_ssint_sint (x : ((List (List Int)) × ((List Int) → (Option Bool)))) : (Option Int) :=
  (loopO (fun (again0 : (Int → (Option Int))) => (fun (s1 : Int) => (cond (decide (s1 < (((List.length x.1) : Nat) : Int))) (bindO (getI x.1 s1) (fun (a2 : (List Int)) => (bindO (x.2 a2) (fun (a3 : Bool) => (cond a3 (some s1) (bindO (some (IntKind.wrap .i64 (s1 + (1 : Int)))) (fun (a4 : Int) => (again0 a4)))))))) (some (- (1 : Int)))))) (0 : Int))

noncomputable def c_slices_IndexFunc_ssint_sint : Con0 := ⟨pk_slices_IndexFunc_ssint_sint, rk_slices_IndexFunc_ssint_sint, M_slices_IndexFunc_ssint_sint⟩

set_option maxRecDepth 100000 in
theorem eq_slices_IndexFunc_ssint_sint (x : In pk_slices_IndexFunc_ssint_sint) : semF (mkE []) h_slices_IndexFunc_ssint_sint (info Tryz.f150) pk_slices_IndexFunc_ssint_sint rk_slices_IndexFunc_ssint_sint x = M_slices_IndexFunc_ssint_sint x := (semFF_eq _ _ _ _ _ _).symm.trans (by kernel_rfl)

set_option maxRecDepth 100000 in
theorem m_slices_IndexFunc_ssint_sint : ConOK Tryz.prog 150 c_slices_IndexFunc_ssint_sint := fn_ok (tyOK _) (E := mkE []) (consOK_nil rfl) Tryz.func150 (h := h_slices_IndexFunc_ssint_sint) (by kernel_rfl) eq_slices_IndexFunc_ssint_sint

/-- slices_ContainsFunc_ssint_sint -/
def pk_slices_ContainsFunc_ssint_sint : List PK := [.data (.sl (.sl (.int .i64))), .fn [(.sl (.int .i64))] .bool]
def rk_slices_ContainsFunc_ssint_sint : List (Ty × Bool) := [(.bool, false)]
def h_slices_ContainsFunc_ssint_sint : Hints := { loops := [] }
noncomputable def M_slices_ContainsFunc_ssint_sint (x : ((List (List Int)) × ((List Int) → (Option Bool)))) : (Option Bool) :=
  (bindO (M_slices_IndexFunc_ssint_sint (x.1, x.2)) (fun (a0 : Int) => (some (decide (a0 ≥ (0 : Int))))))

noncomputable def c_slices_ContainsFunc_ssint_sint : Con0 := ⟨pk_slices_ContainsFunc_ssint_sint, rk_slices_ContainsFunc_ssint_sint, M_slices_ContainsFunc_ssint_sint⟩

set_option maxRecDepth 100000 in
theorem eq_slices_ContainsFunc_ssint_sint (x : In pk_slices_ContainsFunc_ssint_sint) : semF (mkE [(150, c_slices_IndexFunc_ssint_sint)]) h_slices_ContainsFunc_ssint_sint (info Tryz.f139) pk_slices_ContainsFunc_ssint_sint rk_slices_ContainsFunc_ssint_sint x = M_slices_ContainsFunc_ssint_sint x := (semFF_eq _ _ _ _ _ _).symm.trans (by kernel_rfl)

set_option maxRecDepth 100000 in
theorem m_slices_ContainsFunc_ssint_sint : ConOK Tryz.prog 139 c_slices_ContainsFunc_ssint_sint := fn_ok (tyOK _) (E := mkE [(150, c_slices_IndexFunc_ssint_sint)]) (consOK_cons m_slices_IndexFunc_ssint_sint (consOK_nil rfl)) Tryz.func139 (h := h_slices_ContainsFunc_ssint_sint) (by kernel_rfl) eq_slices_ContainsFunc_ssint_sint

/-- slices_IndexFunc_sint_int -/
def pk_slices_IndexFunc_sint_int : List PK := [.data (.sl (.int .i64)), .fn [(.int .i64)] .bool]
def rk_slices_IndexFunc_sint_int : List (Ty × Bool) := [((.int .i64), false)]
def h_slices_IndexFunc_sint_int : Hints := { loops := [(0, { items := [.slot 8 (.data (.int .i64) [])], kill := sgN 2 5 ++ (sgN 9 10) })] }
noncomputable def M_slices_IndexFunc_sint_int (x : ((List Int) × (Int → (Option Bool)))) : (Option Int) :=
  (loopO (fun (again0 : (Int → (Option Int))) => (fun (s1 : Int) => (cond (decide (s1 < (((List.length x.1) : Nat) : Int))) (bindO (getI x.1 s1) (fun (a2 : Int) => (bindO (x.2 a2) (fun (a3 : Bool) => (cond a3 (some s1) (bindO (some (IntKind.wrap .i64 (s1 + (1 : Int)))) (fun (a4 : Int) => (again0 a4)))))))) (some (- (1 : Int)))))) (0 : Int))

noncomputable def c_slices_IndexFunc_sint_int : Con0 := ⟨pk_slices_IndexFunc_sint_int, rk_slices_IndexFunc_sint_int, M_slices_IndexFunc_sint_int⟩

set_option maxRecDepth 100000 in
theorem eq_slices_IndexFunc_sint_int (x : In pk_slices_IndexFunc_sint_int) : semF (mkE []) h_slices_IndexFunc_sint_int (info Tryz.f147) pk_slices_IndexFunc_sint_int rk_slices_IndexFunc_sint_int x = M_slices_IndexFunc_sint_int x := (semFF_eq _ _ _ _ _ _).symm.trans (by kernel_rfl)

set_option maxRecDepth 100000 in
theorem m_slices_IndexFunc_sint_int : ConOK Tryz.prog 147 c_slices_IndexFunc_sint_int := fn_ok (tyOK _) (E := mkE []) (consOK_nil rfl) Tryz.func147 (h := h_slices_IndexFunc_sint_int) (by kernel_rfl) eq_slices_IndexFunc_sint_int

/-- slices_ContainsFunc_sint_int -/
def pk_slices_ContainsFunc_sint_int : List PK := [.data (.sl (.int .i64)), .fn [(.int .i64)] .bool]
def rk_slices_ContainsFunc_sint_int : List (Ty × Bool) := [(.bool, false)]
def h_slices_ContainsFunc_sint_int : Hints := { loops := [] }
noncomputable def M_slices_ContainsFunc_sint_int (x : ((List Int) × (Int → (Option Bool)))) : (Option Bool) :=
  (bindO (M_slices_IndexFunc_sint_int (x.1, x.2)) (fun (a0 : Int) => (some (decide (a0 ≥ (0 : Int))))))

noncomputable def c_slices_ContainsFunc_sint_int : Con0 := ⟨pk_slices_ContainsFunc_sint_int, rk_slices_ContainsFunc_sint_int, M_slices_ContainsFunc_sint_int⟩

set_option maxRecDepth 100000 in
theorem eq_slices_ContainsFunc_sint_int (x : In pk_slices_ContainsFunc_sint_int) : semF (mkE [(147, c_slices_IndexFunc_sint_int)]) h_slices_ContainsFunc_sint_int (info Tryz.f128) pk_slices_ContainsFunc_sint_int rk_slices_ContainsFunc_sint_int x = M_slices_ContainsFunc_sint_int x := (semFF_eq _ _ _ _ _ _).symm.trans (by kernel_rfl)

set_option maxRecDepth 100000 in
theorem m_slices_ContainsFunc_sint_int : ConOK Tryz.prog 128 c_slices_ContainsFunc_sint_int := fn_ok (tyOK _) (E := mkE [(147, c_slices_IndexFunc_sint_int)]) (consOK_cons m_slices_IndexFunc_sint_int (consOK_nil rfl)) Tryz.func128 (h := h_slices_ContainsFunc_sint_int) (by kernel_rfl) eq_slices_ContainsFunc_sint_int

/-- I_areAll_1 -/
def pk_I_areAll_1 : List PK := [.data (.int .i64), .rfn [(.int .i64)] .bool]
def rk_I_areAll_1 : List (Ty × Bool) := [(.bool, false)]
def h_I_areAll_1 : Hints := { loops := [] }
noncomputable def M_I_areAll_1 (x : (Int × (Int → (Option Bool)))) : (Option Bool) :=
  (bindO (x.2 x.1) (fun (a0 : Bool) => (some (not a0))))

noncomputable def c_I_areAll_1 : Con0 := ⟨pk_I_areAll_1, rk_I_areAll_1, M_I_areAll_1⟩

set_option maxRecDepth 100000 in
theorem eq_I_areAll_1 (x : In pk_I_areAll_1) : semF (mkE []) h_I_areAll_1 (info Tryz.f129) pk_I_areAll_1 rk_I_areAll_1 x = M_I_areAll_1 x := (semFF_eq _ _ _ _ _ _).symm.trans (by kernel_rfl)

set_option maxRecDepth 100000 in
theorem m_I_areAll_1 : ConOK Tryz.prog 129 c_I_areAll_1 := fn_ok (tyOK _) (E := mkE []) (consOK_nil rfl) Tryz.func129 (h := h_I_areAll_1) (by kernel_rfl) eq_I_areAll_1

/-- I_areAll -/
def pk_I_areAll : List PK := [.data (.sl (.int .i64)), .fn [(.int .i64)] .bool]
def rk_I_areAll : List (Ty × Bool) := [(.bool, false)]
def h_I_areAll : Hints := { loops := [] }
noncomputable def M_I_areAll (x : ((List Int) × (Int → (Option Bool)))) : (Option Bool) :=
  (bindO (M_slices_ContainsFunc_sint_int (x.1, (fun (a0 : Int) => (bindO (M_I_areAll_1 (a0, x.2)) (fun (a1 : Bool) => (some a1)))))) (fun (a2 : Bool) => (some (not a2))))

noncomputable def c_I_areAll : Con0 := ⟨pk_I_areAll, rk_I_areAll, M_I_areAll⟩

set_option maxRecDepth 100000 in
theorem eq_I_areAll (x : In pk_I_areAll) : semF (mkE [(128, c_slices_ContainsFunc_sint_int), (129, c_I_areAll_1)]) h_I_areAll (info Tryz.f99) pk_I_areAll rk_I_areAll x = M_I_areAll x := (semFF_eq _ _ _ _ _ _).symm.trans (by kernel_rfl)

set_option maxRecDepth 100000 in
theorem m_I_areAll : ConOK Tryz.prog 99 c_I_areAll := fn_ok (tyOK _) (E := mkE [(128, c_slices_ContainsFunc_sint_int), (129, c_I_areAll_1)]) (consOK_cons m_slices_ContainsFunc_sint_int (consOK_cons m_I_areAll_1 (consOK_nil rfl))) Tryz.func99 (h := h_I_areAll) (by kernel_rfl) eq_I_areAll

/-- I_Group_hasAll -/
def pk_I_Group_hasAll : List PK := [.data (.cons (.int .i64) (.cons (.int .i64) (.one (.int .i64)))), .data (.sl (.int .i64))]
def rk_I_Group_hasAll : List (Ty × Bool) := [(.bool, false)]
def h_I_Group_hasAll : Hints := { loops := [] }
noncomputable def M_I_Group_hasAll (x : ((Int × (Int × Int)) × (List Int))) : (Option Bool) :=
  (bindO (M_I_areAll (x.2, (fun (a0 : Int) => (bindO (M_I_Group_has ((x.1.1, (x.1.2.1, x.1.2.2)), a0)) (fun (a1 : Bool) => (some a1)))))) (fun (a2 : Bool) => (some a2)))

noncomputable def c_I_Group_hasAll : Con0 := ⟨pk_I_Group_hasAll, rk_I_Group_hasAll, M_I_Group_hasAll⟩

set_option maxRecDepth 100000 in
theorem eq_I_Group_hasAll (x : In pk_I_Group_hasAll) : semF (mkE [(99, c_I_areAll), (71, c_I_Group_has)]) h_I_Group_hasAll (info Tryz.f72) pk_I_Group_hasAll rk_I_Group_hasAll x = M_I_Group_hasAll x := (semFF_eq _ _ _ _ _ _).symm.trans (by kernel_rfl)

set_option maxRecDepth 100000 in
theorem m_I_Group_hasAll : ConOK Tryz.prog 72 c_I_Group_hasAll := fn_ok (tyOK _) (E := mkE [(99, c_I_areAll), (71, c_I_Group_has)]) (consOK_cons m_I_areAll (consOK_cons m_I_Group_has (consOK_nil rfl))) Tryz.func72 (h := h_I_Group_hasAll) (by kernel_rfl) eq_I_Group_hasAll

/-- I_Group_areRows_1 -/
def pk_I_Group_areRows_1 : List PK := [.data (.sl (.int .i64)), .rp (.sl (.sl (.int .i64))), .rp (.cons (.int .i64) (.cons (.int .i64) (.one (.int .i64))))]
def rk_I_Group_areRows_1 : List (Ty × Bool) := [(.bool, false)]
def h_I_Group_areRows_1 : Hints := { loops := [] }
noncomputable def M_I_Group_areRows_1 (x : ((List Int) × ((List (List Int)) × (Int × (Int × Int))))) : (Option Bool) :=
  (bindO (getI x.2.1 (0 : Int)) (fun (a0 : (List Int)) => (cond ((((List.length x.1) : Nat) : Int) != (((List.length a0) : Nat) : Int)) (some true) (bindO (M_I_Group_hasAll ((x.2.2.1, (x.2.2.2.1, x.2.2.2.2)), x.1)) (fun (a1 : Bool) => (some (not a1)))))))

noncomputable def c_I_Group_areRows_1 : Con0 := ⟨pk_I_Group_areRows_1, rk_I_Group_areRows_1, M_I_Group_areRows_1⟩

set_option maxRecDepth 100000 in
theorem eq_I_Group_areRows_1 (x : In pk_I_Group_areRows_1) : semF (mkE [(72, c_I_Group_hasAll)]) h_I_Group_areRows_1 (info Tryz.f140) pk_I_Group_areRows_1 rk_I_Group_areRows_1 x = M_I_Group_areRows_1 x := (semFF_eq _ _ _ _ _ _).symm.trans (by kernel_rfl)

set_option maxRecDepth 100000 in
theorem m_I_Group_areRows_1 : ConOK Tryz.prog 140 c_I_Group_areRows_1 := fn_ok (tyOK _) (E := mkE [(72, c_I_Group_hasAll)]) (consOK_cons m_I_Group_hasAll (consOK_nil rfl)) Tryz.func140 (h := h_I_Group_areRows_1) (by kernel_rfl) eq_I_Group_areRows_1

/-- I_Group_areRows -/
def pk_I_Group_areRows : List PK := [.data (.cons (.int .i64) (.cons (.int .i64) (.one (.int .i64)))), .data (.sl (.sl (.int .i64)))]
def rk_I_Group_areRows : List (Ty × Bool) := [(.bool, false)]
def h_I_Group_areRows : Hints := { loops := [] }
noncomputable def M_I_Group_areRows (x : ((Int × (Int × Int)) × (List (List Int)))) : (Option Bool) :=
  (bindO (M_I_within ((((List.length x.2) : Nat) : Int), ((1 : Int), (8 : Int)))) (fun (a0 : Bool) => (cond (not a0) (some false) (bindO (getI x.2 (0 : Int)) (fun (a1 : (List Int)) => (bindO (M_I_within ((((List.length a1) : Nat) : Int), ((1 : Int), (8 : Int)))) (fun (a2 : Bool) => (cond (not a2) (some false) (bindO (M_slices_ContainsFunc_ssint_sint (x.2, (fun (a3 : (List Int)) => (bindO (M_I_Group_areRows_1 (a3, (x.2, (x.1.1, (x.1.2.1, x.1.2.2))))) (fun (a4 : Bool) => (some a4)))))) (fun (a5 : Bool) => (some (not a5))))))))))))

noncomputable def c_I_Group_areRows : Con0 := ⟨pk_I_Group_areRows, rk_I_Group_areRows, M_I_Group_areRows⟩

set_option maxRecDepth 100000 in
theorem eq_I_Group_areRows (x : In pk_I_Group_areRows) : semF (mkE [(91, c_I_within), (139, c_slices_ContainsFunc_ssint_sint), (140, c_I_Group_areRows_1)]) h_I_Group_areRows (info Tryz.f113) pk_I_Group_areRows rk_I_Group_areRows x = M_I_Group_areRows x := (semFF_eq _ _ _ _ _ _).symm.trans (by kernel_rfl)

set_option maxRecDepth 100000 in
theorem m_I_Group_areRows : ConOK Tryz.prog 113 c_I_Group_areRows := fn_ok (tyOK _) (E := mkE [(91, c_I_within), (139, c_slices_ContainsFunc_ssint_sint), (140, c_I_Group_areRows_1)]) (consOK_cons m_I_within (consOK_cons m_slices_ContainsFunc_ssint_sint (consOK_cons m_I_Group_areRows_1 (consOK_nil rfl)))) Tryz.func113 (h := h_I_Group_areRows) (by kernel_rfl) eq_I_Group_areRows

/-- I_Group_isExp -/
def pk_I_Group_isExp : List PK := [.data (.cons (.int .i64) (.cons (.int .i64) (.one (.int .i64)))), .data (.int .i64)]
def rk_I_Group_isExp : List (Ty × Bool) := [(.bool, false)]
def h_I_Group_isExp : Hints := { loops := [] }
noncomputable def M_I_Group_isExp (x : ((Int × (Int × Int)) × Int)) : (Option Bool) :=
  (bindO (some (IntKind.wrap .i64 (x.1.2.1 - (1 : Int)))) (fun (a0 : Int) => (bindO (M_I_within (x.2, ((0 : Int), a0))) (fun (a1 : Bool) => (some a1)))))

noncomputable def c_I_Group_isExp : Con0 := ⟨pk_I_Group_isExp, rk_I_Group_isExp, M_I_Group_isExp⟩

set_option maxRecDepth 100000 in
theorem eq_I_Group_isExp (x : In pk_I_Group_isExp) : semF (mkE [(91, c_I_within)]) h_I_Group_isExp (info Tryz.f49) pk_I_Group_isExp rk_I_Group_isExp x = M_I_Group_isExp x := (semFF_eq _ _ _ _ _ _).symm.trans (by kernel_rfl)

set_option maxRecDepth 100000 in
theorem m_I_Group_isExp : ConOK Tryz.prog 49 c_I_Group_isExp := fn_ok (tyOK _) (E := mkE [(91, c_I_within)]) (consOK_cons m_I_within (consOK_nil rfl)) Tryz.func49 (h := h_I_Group_isExp) (by kernel_rfl) eq_I_Group_isExp

/-- I_Group_areExps -/
def pk_I_Group_areExps : List PK := [.data (.cons (.int .i64) (.cons (.int .i64) (.one (.int .i64)))), .data (.sl (.int .i64))]
def rk_I_Group_areExps : List (Ty × Bool) := [(.bool, false)]
def h_I_Group_areExps : Hints := { loops := [] }
noncomputable def M_I_Group_areExps (x : ((Int × (Int × Int)) × (List Int))) : (Option Bool) :=
  (bindO (M_I_areAll (x.2, (fun (a0 : Int) => (bindO (M_I_Group_isExp ((x.1.1, (x.1.2.1, x.1.2.2)), a0)) (fun (a1 : Bool) => (some a1)))))) (fun (a2 : Bool) => (some a2)))

noncomputable def c_I_Group_areExps : Con0 := ⟨pk_I_Group_areExps, rk_I_Group_areExps, M_I_Group_areExps⟩

set_option maxRecDepth 100000 in
theorem eq_I_Group_areExps (x : In pk_I_Group_areExps) : semF (mkE [(99, c_I_areAll), (49, c_I_Group_isExp)]) h_I_Group_areExps (info Tryz.f42) pk_I_Group_areExps rk_I_Group_areExps x = M_I_Group_areExps x := (semFF_eq _ _ _ _ _ _).symm.trans (by kernel_rfl)

set_option maxRecDepth 100000 in
theorem m_I_Group_areExps : ConOK Tryz.prog 42 c_I_Group_areExps := fn_ok (tyOK _) (E := mkE [(99, c_I_areAll), (49, c_I_Group_isExp)]) (consOK_cons m_I_areAll (consOK_cons m_I_Group_isExp (consOK_nil rfl))) Tryz.func42 (h := h_I_Group_areExps) (by kernel_rfl) eq_I_Group_areExps

/-- slices_Grow_sint_int -/
def pk_slices_Grow_sint_int : List PK := [.ow (.sl (.int .i64)), .data (.int .i64)]
def rk_slices_Grow_sint_int : List (Ty × Bool) := [((.sl (.int .i64)), true)]
noncomputable def M_slices_Grow_sint_int (x : ((List Int) × Int)) : (Option (List Int)) :=
  (if 0 ≤ x.2 ∧ (x.1.length : Int) + x.2 ≤ 68719476736 then some x.1 else Option.none)

noncomputable def c_slices_Grow_sint_int : Con0 := ⟨pk_slices_Grow_sint_int, rk_slices_Grow_sint_int, M_slices_Grow_sint_int⟩

def grow_ren : Go.Shelf.Ren := ⟨fun | 4 => 120 | n => n, fun | 0 => 0 | 3 => 3 | 4 => 4 | 9 => 9 | 20 => 20 | 22 => 30 | 25 => 3 | n => n, fun n => n⟩
set_option maxRecDepth 100000 in
theorem grow_lays : Go.Proofs.Lays8.n4 Tryz.prog grow_ren where
  mixed := by kernel_rfl
  f4 := ⟨Tryz.f120.name, of_decide_eq_true (by kernel_rfl), Tryz.func120.trans (congrArg some (by kernel_rfl))⟩
  t0 := Tryz.underlying0
  a0 := Tryz.isAgg0
  z0 := Tryz.sizeOf0
  v0 := Tryz.zeroValue0
  t3 := Tryz.underlying3
  a3 := Tryz.isAgg3
  z3 := Tryz.sizeOf3
  v3 := Tryz.zeroValue3
  t4 := Tryz.underlying4
  a4 := Tryz.isAgg4
  z4 := Tryz.sizeOf4
  v4 := Tryz.zeroValue4
  t9 := Tryz.underlying9
  a9 := Tryz.isAgg9
  z9 := Tryz.sizeOf9
  v9 := Tryz.zeroValue9
  t20 := Tryz.underlying20
  a20 := Tryz.isAgg20
  z20 := Tryz.sizeOf20
  v20 := Tryz.zeroValue20
  t22 := Tryz.underlying30
  a22 := Tryz.isAgg30
  z22 := Tryz.sizeOf30
  v22 := Tryz.zeroValue30

theorem m_slices_Grow_sint_int : ConOK Tryz.prog 120 c_slices_Grow_sint_int := grow_ok ⟨Tryz.f120, Tryz.func120, of_decide_eq_true (by kernel_rfl), by kernel_rfl⟩ (grow_room grow_lays) (grow_more grow_lays (tyOK []) (by kernel_rfl))

/-- slices_Concat_sint_int -/
def pk_slices_Concat_sint_int : List PK := [.data (.sl (.sl (.int .i64)))]
def rk_slices_Concat_sint_int : List (Ty × Bool) := [((.sl (.int .i64)), true)]
def h_slices_Concat_sint_int : Hints := { loops := [(0, { items := [.slot 3 (.data (.int .i64) []), .slot 11 (.data (.int .i64) [])], kill := [1, 2] ++ (sgN 4 5 ++ (sgN 12 24)) }), (2, { items := [.slot 6 (.own (.int .i64) true), .slot 27 (.data (.int .i64) [])], kill := sgN 0 6 ++ (sgN 7 18 ++ (sgN 28 8)) })] }
noncomputable def M_slices_Concat_sint_int (x : (List (List Int))) : (Option (List Int)) :=
  (loopO (fun (again0 : ((Int × Int) → (Option (List Int)))) => (fun (s1 : (Int × Int)) => (cond (decide (s1.2 < (((List.length x) : Nat) : Int))) (bindO (getI x s1.2) (fun (a2 : (List Int)) => (bindO (some (IntKind.wrap .i64 (s1.1 + (((List.length a2) : Nat) : Int)))) (fun (a3 : Int) => (cond (decide (a3 < (0 : Int))) (none : Option (List Int)) (bindO (some (IntKind.wrap .i64 (s1.2 + (1 : Int)))) (fun (a4 : Int) => (again0 (a3, a4))))))))) (bindO (M_slices_Grow_sint_int (([] : List Int), s1.1)) (fun (a5 : (List Int)) => (loopO (fun (again6 : (((List Int) × Int) → (Option (List Int)))) => (fun (s7 : ((List Int) × Int)) => (cond (decide (s7.2 < (((List.length x) : Nat) : Int))) (bindO (getI x s7.2) (fun (a8 : (List Int)) => (bindO (guardO (lenOk ((List.length s7.1) + (List.length a8)))) (fun (a9 : Unit) => (bindO (some (s7.1 ++ a8)) (fun (a10 : (List Int)) => (bindO (some (IntKind.wrap .i64 (s7.2 + (1 : Int)))) (fun (a11 : Int) => (again6 (a10, a11)))))))))) (some s7.1)))) (a5, (0 : Int)))))))) ((0 : Int), (0 : Int)))

noncomputable def c_slices_Concat_sint_int : Con0 := ⟨pk_slices_Concat_sint_int, rk_slices_Concat_sint_int, M_slices_Concat_sint_int⟩

set_option maxRecDepth 100000 in
theorem eq_slices_Concat_sint_int (x : In pk_slices_Concat_sint_int) : semF (mkE [(120, c_slices_Grow_sint_int)]) h_slices_Concat_sint_int (info Tryz.f76) pk_slices_Concat_sint_int rk_slices_Concat_sint_int x = M_slices_Concat_sint_int x := (semFF_eq _ _ _ _ _ _).symm.trans (by kernel_rfl)

set_option maxRecDepth 100000 in
theorem m_slices_Concat_sint_int : ConOK Tryz.prog 76 c_slices_Concat_sint_int := fn_ok (tyOK _) (E := mkE [(120, c_slices_Grow_sint_int)]) (consOK_cons m_slices_Grow_sint_int (consOK_nil rfl)) Tryz.func76 (h := h_slices_Concat_sint_int) (by kernel_rfl) eq_slices_Concat_sint_int

/-- I_labelled -/
def pk_I_labelled : List PK := [.data .str, .data (.sl (.int .i64))]
def rk_I_labelled : List (Ty × Bool) := [((.sl (.int .i64)), true)]
def h_I_labelled : Hints := { loops := [(0, { items := [.slot 5 (.own (.int .i64) true), .slot 12 (.data (.int .i64) [])], kill := [2, 3, 4] ++ (sgN 6 5 ++ (sgN 13 13)) })] }
noncomputable def M_I_labelled (x : (ByteArray × (List Int))) : (Option (List Int)) :=
  (loopO (fun (again0 : (((List Int) × Int) → (Option (List Int)))) => (fun (s1 : ((List Int) × Int)) => (cond (decide (s1.2 < (((ByteArray.size x.1) : Nat) : Int))) (bindO (if ((0 : Int) ≤ s1.2) then (x.1[(Int.toNat s1.2)]?) else (none : Option (UInt8))) (fun (a2 : (UInt8)) => (bindO (guardO (lenOk ((List.length s1.1) + (List.length ((IntKind.wrap .i64 (((UInt8.toNat a2) : Nat) : Int)) :: ([] : List Int)))))) (fun (a3 : Unit) => (bindO (some (s1.1 ++ ((IntKind.wrap .i64 (((UInt8.toNat a2) : Nat) : Int)) :: ([] : List Int)))) (fun (a4 : (List Int)) => (bindO (some (IntKind.wrap .i64 (s1.2 + (1 : Int)))) (fun (a5 : Int) => (again0 (a4, a5)))))))))) (bindO (guardO (lenOk ((List.length s1.1) + (List.length x.2)))) (fun (a6 : Unit) => (bindO (some (s1.1 ++ x.2)) (fun (a7 : (List Int)) => (some a7)))))))) (((((ByteArray.size x.1) : Nat) : Int) :: ([] : List Int)), (0 : Int)))

noncomputable def c_I_labelled : Con0 := ⟨pk_I_labelled, rk_I_labelled, M_I_labelled⟩

set_option maxRecDepth 100000 in
theorem eq_I_labelled (x : In pk_I_labelled) : semF (mkE []) h_I_labelled (info Tryz.f144) pk_I_labelled rk_I_labelled x = M_I_labelled x := (semFF_eq _ _ _ _ _ _).symm.trans (by kernel_rfl)

set_option maxRecDepth 100000 in
theorem m_I_labelled : ConOK Tryz.prog 144 c_I_labelled := fn_ok (tyOK _) (E := mkE []) (consOK_nil rfl) Tryz.func144 (h := h_I_labelled) (by kernel_rfl) eq_I_labelled

/-- I_isDigest -/
def pk_I_isDigest : List PK := [.data (.int .i64)]
def rk_I_isDigest : List (Ty × Bool) := [(.bool, false)]
def h_I_isDigest : Hints := { loops := [] }
noncomputable def M_I_isDigest (x : Int) : (Option Bool) :=
  (bindO (M_I_within (x, ((0 : Int), (4611686018427387903 : Int)))) (fun (a0 : Bool) => (some a0)))

noncomputable def c_I_isDigest : Con0 := ⟨pk_I_isDigest, rk_I_isDigest, M_I_isDigest⟩

set_option maxRecDepth 100000 in
theorem eq_I_isDigest (x : In pk_I_isDigest) : semF (mkE [(91, c_I_within)]) h_I_isDigest (info Tryz.f155) pk_I_isDigest rk_I_isDigest x = M_I_isDigest x := (semFF_eq _ _ _ _ _ _).symm.trans (by kernel_rfl)

set_option maxRecDepth 100000 in
theorem m_I_isDigest : ConOK Tryz.prog 155 c_I_isDigest := fn_ok (tyOK _) (E := mkE [(91, c_I_within)]) (consOK_cons m_I_within (consOK_nil rfl)) Tryz.func155 (h := h_I_isDigest) (by kernel_rfl) eq_I_isDigest

/-- I_areDigests -/
def pk_I_areDigests : List PK := [.data (.sl (.int .i64))]
def rk_I_areDigests : List (Ty × Bool) := [(.bool, false)]
def h_I_areDigests : Hints := { loops := [] }
noncomputable def M_I_areDigests (x : (List Int)) : (Option Bool) :=
  (cond (decide ((((List.length x) : Nat) : Int) ≤ (400 : Int))) (bindO (M_I_areAll (x, (fun (a0 : Int) => (bindO (M_I_isDigest a0) (fun (a1 : Bool) => (some a1)))))) (fun (a2 : Bool) => (some a2))) (some false))

noncomputable def c_I_areDigests : Con0 := ⟨pk_I_areDigests, rk_I_areDigests, M_I_areDigests⟩

set_option maxRecDepth 100000 in
theorem eq_I_areDigests (x : In pk_I_areDigests) : semF (mkE [(99, c_I_areAll), (155, c_I_isDigest)]) h_I_areDigests (info Tryz.f152) pk_I_areDigests rk_I_areDigests x = M_I_areDigests x := (semFF_eq _ _ _ _ _ _).symm.trans (by kernel_rfl)

set_option maxRecDepth 100000 in
theorem m_I_areDigests : ConOK Tryz.prog 152 c_I_areDigests := fn_ok (tyOK _) (E := mkE [(99, c_I_areAll), (155, c_I_isDigest)]) (consOK_cons m_I_areAll (consOK_cons m_I_isDigest (consOK_nil rfl))) Tryz.func152 (h := h_I_areDigests) (by kernel_rfl) eq_I_areDigests

/-- I_hash -/
def pk_I_hash : List PK := [.data (.sl (.int .i64))]
def rk_I_hash : List (Ty × Bool) := [((.int .i64), false)]
def h_I_hash : Hints := { loops := [(0, { items := [.slot 3 (.data (.int .i64) []), .slot 4 (.data (.int .i64) []), .slot 15 (.data (.int .i64) [])], kill := [0, 1, 2] ++ (sgN 5 8 ++ (sgN 16 36)) })] }
noncomputable def M_I_hash (x : (List Int)) : (Option Int) :=
  (bindO (guardO (lenOk ((List.length ((((List.length x) : Nat) : Int) :: ([] : List Int))) + (List.length x)))) (fun (a0 : Unit) => (bindO (some (((((List.length x) : Nat) : Int) :: ([] : List Int)) ++ x)) (fun (a1 : (List Int)) => (loopO (fun (again2 : ((Int × (Int × Int)) → (Option Int))) => (fun (s3 : (Int × (Int × Int))) => (cond (decide (s3.2.2 < (((List.length a1) : Nat) : Int))) (bindO (getI a1 s3.2.2) (fun (a4 : Int) => (bindO (guardO (decide ((0 : Int) ≤ (31 : Int)))) (fun (a5 : Unit) => (bindO (some (shr .i64 a4 (31 : Int))) (fun (a6 : Int) => (bindO (some (bits .and .i64 a4 (2147483647 : Int))) (fun (a7 : Int) => (bindO (some (IntKind.wrap .i64 ((48271 : Int) * s3.1))) (fun (a8 : Int) => (bindO (some (IntKind.wrap .i64 (a8 + a7))) (fun (a9 : Int) => (bindO (some (IntKind.wrap .i64 (a9 + (1 : Int)))) (fun (a10 : Int) => (bindO (guardO ((2147483647 : Int) != (0 : Int))) (fun (a11 : Unit) => (bindO (some (Int.tmod a10 (2147483647 : Int))) (fun (a12 : Int) => (bindO (some (IntKind.wrap .i64 ((48271 : Int) * a12))) (fun (a13 : Int) => (bindO (some (IntKind.wrap .i64 (a13 + a6))) (fun (a14 : Int) => (bindO (some (IntKind.wrap .i64 (a14 + (1 : Int)))) (fun (a15 : Int) => (bindO (guardO ((2147483647 : Int) != (0 : Int))) (fun (a16 : Unit) => (bindO (some (Int.tmod a15 (2147483647 : Int))) (fun (a17 : Int) => (bindO (some (IntKind.wrap .i64 ((69621 : Int) * s3.2.1))) (fun (a18 : Int) => (bindO (some (IntKind.wrap .i64 (a18 + a7))) (fun (a19 : Int) => (bindO (some (IntKind.wrap .i64 (a19 + (1 : Int)))) (fun (a20 : Int) => (bindO (guardO ((2147483647 : Int) != (0 : Int))) (fun (a21 : Unit) => (bindO (some (Int.tmod a20 (2147483647 : Int))) (fun (a22 : Int) => (bindO (some (IntKind.wrap .i64 ((69621 : Int) * a22))) (fun (a23 : Int) => (bindO (some (IntKind.wrap .i64 (a23 + a6))) (fun (a24 : Int) => (bindO (some (IntKind.wrap .i64 (a24 + (1 : Int)))) (fun (a25 : Int) => (bindO (guardO ((2147483647 : Int) != (0 : Int))) (fun (a26 : Unit) => (bindO (some (Int.tmod a25 (2147483647 : Int))) (fun (a27 : Int) => (bindO (some (IntKind.wrap .i64 (s3.2.2 + (1 : Int)))) (fun (a28 : Int) => (again2 (a17, (a27, a28))))))))))))))))))))))))))))))))))))))))))))))))))))) (bindO (guardO (decide ((0 : Int) ≤ (31 : Int)))) (fun (a29 : Unit) => (bindO (some (shl .i64 s3.1 (31 : Int))) (fun (a30 : Int) => (bindO (some (IntKind.wrap .i64 (a30 + s3.2.1))) (fun (a31 : Int) => (some a31)))))))))) ((1 : Int), ((2 : Int), (0 : Int))))))))

noncomputable def c_I_hash : Con0 := ⟨pk_I_hash, rk_I_hash, M_I_hash⟩

set_option maxRecDepth 100000 in
theorem eq_I_hash (x : In pk_I_hash) : semF (mkE []) h_I_hash (info Tryz.f153) pk_I_hash rk_I_hash x = M_I_hash x := (semFF_eq _ _ _ _ _ _).symm.trans (by kernel_rfl)

set_option maxRecDepth 100000 in
theorem m_I_hash : ConOK Tryz.prog 153 c_I_hash := fn_ok (tyOK _) (E := mkE []) (consOK_nil rfl) Tryz.func153 (h := h_I_hash) (by kernel_rfl) eq_I_hash

/-- I_HashInts -/
def pk_I_HashInts : List PK := [.data (.sl (.int .i64))]
def rk_I_HashInts : List (Ty × Bool) := [((.int .i64), false), (.bool, false)]
def h_I_HashInts : Hints := { loops := [] }
noncomputable def M_I_HashInts (x : (List Int)) : (Option (Int × Bool)) :=
  (bindO (M_I_areDigests x) (fun (a0 : Bool) => (cond (not a0) (some ((0 : Int), false)) (bindO (M_I_hash x) (fun (a1 : Int) => (some (a1, true)))))))

noncomputable def c_I_HashInts : Con0 := ⟨pk_I_HashInts, rk_I_HashInts, M_I_HashInts⟩

set_option maxRecDepth 100000 in
theorem eq_I_HashInts (x : In pk_I_HashInts) : semF (mkE [(152, c_I_areDigests), (153, c_I_hash)]) h_I_HashInts (info Tryz.f143) pk_I_HashInts rk_I_HashInts x = M_I_HashInts x := (semFF_eq _ _ _ _ _ _).symm.trans (by kernel_rfl)

set_option maxRecDepth 100000 in
theorem m_I_HashInts : ConOK Tryz.prog 143 c_I_HashInts := fn_ok (tyOK _) (E := mkE [(152, c_I_areDigests), (153, c_I_hash)]) (consOK_cons m_I_areDigests (consOK_cons m_I_hash (consOK_nil rfl))) Tryz.func143 (h := h_I_HashInts) (by kernel_rfl) eq_I_HashInts

/-- I_HashLabelled -/
def pk_I_HashLabelled : List PK := [.data .str, .data (.sl (.int .i64))]
def rk_I_HashLabelled : List (Ty × Bool) := [((.int .i64), false), (.bool, false)]
def h_I_HashLabelled : Hints := { loops := [] }
noncomputable def M_I_HashLabelled (x : (ByteArray × (List Int))) : (Option (Int × Bool)) :=
  (cond (decide ((((ByteArray.size x.1) : Nat) : Int) > (40 : Int))) (some ((0 : Int), false)) (cond (decide ((((List.length x.2) : Nat) : Int) > (400 : Int))) (some ((0 : Int), false)) (bindO (M_I_labelled (x.1, x.2)) (fun (a0 : (List Int)) => (bindO (M_I_HashInts a0) (fun (a1 : (Int × Bool)) => (some (a1.1, a1.2))))))))

noncomputable def c_I_HashLabelled : Con0 := ⟨pk_I_HashLabelled, rk_I_HashLabelled, M_I_HashLabelled⟩

set_option maxRecDepth 100000 in
theorem eq_I_HashLabelled (x : In pk_I_HashLabelled) : semF (mkE [(144, c_I_labelled), (143, c_I_HashInts)]) h_I_HashLabelled (info Tryz.f118) pk_I_HashLabelled rk_I_HashLabelled x = M_I_HashLabelled x := (semFF_eq _ _ _ _ _ _).symm.trans (by kernel_rfl)

set_option maxRecDepth 100000 in
theorem m_I_HashLabelled : ConOK Tryz.prog 118 c_I_HashLabelled := fn_ok (tyOK _) (E := mkE [(144, c_I_labelled), (143, c_I_HashInts)]) (consOK_cons m_I_labelled (consOK_cons m_I_HashInts (consOK_nil rfl))) Tryz.func118 (h := h_I_HashLabelled) (by kernel_rfl) eq_I_HashLabelled

/-- I_Group_challenge -/
def pk_I_Group_challenge : List PK := [.data (.cons (.int .i64) (.cons (.int .i64) (.one (.int .i64)))), .data .str, .data (.sl (.int .i64))]
def rk_I_Group_challenge : List (Ty × Bool) := [((.int .i64), false), (.bool, false)]
def h_I_Group_challenge : Hints := { loops := [] }
noncomputable def M_I_Group_challenge (x : ((Int × (Int × Int)) × (ByteArray × (List Int)))) : (Option (Int × Bool)) :=
  (bindO (guardO (lenOk ((List.length (x.1.1 :: (x.1.2.1 :: (x.1.2.2 :: ([] : List Int))))) + (List.length x.2.2)))) (fun (a0 : Unit) => (bindO (some ((x.1.1 :: (x.1.2.1 :: (x.1.2.2 :: ([] : List Int)))) ++ x.2.2)) (fun (a1 : (List Int)) => (bindO (M_I_HashLabelled (x.2.1, a1)) (fun (a2 : (Int × Bool)) => (cond (not a2.2) (some ((0 : Int), false)) (bindO (guardO (x.1.2.1 != (0 : Int))) (fun (a3 : Unit) => (bindO (some (Int.tmod a2.1 x.1.2.1)) (fun (a4 : Int) => (some (a4, true)))))))))))))

noncomputable def c_I_Group_challenge : Con0 := ⟨pk_I_Group_challenge, rk_I_Group_challenge, M_I_Group_challenge⟩

set_option maxRecDepth 100000 in
theorem eq_I_Group_challenge (x : In pk_I_Group_challenge) : semF (mkE [(118, c_I_HashLabelled)]) h_I_Group_challenge (info Tryz.f117) pk_I_Group_challenge rk_I_Group_challenge x = M_I_Group_challenge x := (semFF_eq _ _ _ _ _ _).symm.trans (by kernel_rfl)

set_option maxRecDepth 100000 in
theorem m_I_Group_challenge : ConOK Tryz.prog 117 c_I_Group_challenge := fn_ok (tyOK _) (E := mkE [(118, c_I_HashLabelled)]) (consOK_cons m_I_HashLabelled (consOK_nil rfl)) Tryz.func117 (h := h_I_Group_challenge) (by kernel_rfl) eq_I_Group_challenge

/-- I_mod -/
def pk_I_mod : List PK := [.data (.int .i64), .data (.int .i64)]
def rk_I_mod : List (Ty × Bool) := [((.int .i64), false)]
def h_I_mod : Hints := { loops := [] }
noncomputable def M_I_mod (x : (Int × Int)) : (Option Int) :=
  (bindO (guardO (x.2 != (0 : Int))) (fun (a0 : Unit) => (bindO (some (Int.tmod x.1 x.2)) (fun (a1 : Int) => (bindO (some (IntKind.wrap .i64 (a1 + x.2))) (fun (a2 : Int) => (bindO (guardO (x.2 != (0 : Int))) (fun (a3 : Unit) => (bindO (some (Int.tmod a2 x.2)) (fun (a4 : Int) => (some a4)))))))))))

noncomputable def c_I_mod : Con0 := ⟨pk_I_mod, rk_I_mod, M_I_mod⟩

set_option maxRecDepth 100000 in
theorem eq_I_mod (x : In pk_I_mod) : semF (mkE []) h_I_mod (info Tryz.f121) pk_I_mod rk_I_mod x = M_I_mod x := (semFF_eq _ _ _ _ _ _).symm.trans (by kernel_rfl)

set_option maxRecDepth 100000 in
theorem m_I_mod : ConOK Tryz.prog 121 c_I_mod := fn_ok (tyOK _) (E := mkE []) (consOK_nil rfl) Tryz.func121 (h := h_I_mod) (by kernel_rfl) eq_I_mod

/-- I_Group_pow -/
def pk_I_Group_pow : List PK := [.data (.cons (.int .i64) (.cons (.int .i64) (.one (.int .i64)))), .data (.int .i64), .data (.int .i64)]
def rk_I_Group_pow : List (Ty × Bool) := [((.int .i64), false)]
def h_I_Group_pow : Hints := { loops := [] }
noncomputable def M_I_Group_pow (x : ((Int × (Int × Int)) × (Int × Int))) : (Option Int) :=
  (bindO (M_I_mod (x.2.2, x.1.2.1)) (fun (a0 : Int) => (bindO (M_I_power (x.2.1, (a0, x.1.1))) (fun (a1 : Int) => (some a1)))))

noncomputable def c_I_Group_pow : Con0 := ⟨pk_I_Group_pow, rk_I_Group_pow, M_I_Group_pow⟩

set_option maxRecDepth 100000 in
theorem eq_I_Group_pow (x : In pk_I_Group_pow) : semF (mkE [(121, c_I_mod), (93, c_I_power)]) h_I_Group_pow (info Tryz.f78) pk_I_Group_pow rk_I_Group_pow x = M_I_Group_pow x := (semFF_eq _ _ _ _ _ _).symm.trans (by kernel_rfl)

set_option maxRecDepth 100000 in
theorem m_I_Group_pow : ConOK Tryz.prog 78 c_I_Group_pow := fn_ok (tyOK _) (E := mkE [(121, c_I_mod), (93, c_I_power)]) (consOK_cons m_I_mod (consOK_cons m_I_power (consOK_nil rfl))) Tryz.func78 (h := h_I_Group_pow) (by kernel_rfl) eq_I_Group_pow

/-- I_Group_mul -/
def pk_I_Group_mul : List PK := [.data (.cons (.int .i64) (.cons (.int .i64) (.one (.int .i64)))), .data (.sl (.int .i64))]
def rk_I_Group_mul : List (Ty × Bool) := [((.int .i64), false)]
def h_I_Group_mul : Hints := { loops := [(0, { items := [.slot 5 (.data (.int .i64) []), .slot 10 (.data (.int .i64) [])], kill := [0, 1, 3, 4, 6, 7] ++ (sgN 11 11) })] }
noncomputable def M_I_Group_mul (x : ((Int × (Int × Int)) × (List Int))) : (Option Int) :=
  (loopO (fun (again0 : ((Int × Int) → (Option Int))) => (fun (s1 : (Int × Int)) => (cond (decide (s1.2 < (((List.length x.2) : Nat) : Int))) (bindO (getI x.2 s1.2) (fun (a2 : Int) => (bindO (some (IntKind.wrap .i64 (s1.1 * a2))) (fun (a3 : Int) => (bindO (guardO (x.1.1 != (0 : Int))) (fun (a4 : Unit) => (bindO (some (Int.tmod a3 x.1.1)) (fun (a5 : Int) => (bindO (some (IntKind.wrap .i64 (s1.2 + (1 : Int)))) (fun (a6 : Int) => (again0 (a5, a6)))))))))))) (some s1.1)))) ((1 : Int), (0 : Int)))

noncomputable def c_I_Group_mul : Con0 := ⟨pk_I_Group_mul, rk_I_Group_mul, M_I_Group_mul⟩

set_option maxRecDepth 100000 in
theorem eq_I_Group_mul (x : In pk_I_Group_mul) : semF (mkE []) h_I_Group_mul (info Tryz.f77) pk_I_Group_mul rk_I_Group_mul x = M_I_Group_mul x := (semFF_eq _ _ _ _ _ _).symm.trans (by kernel_rfl)

set_option maxRecDepth 100000 in
theorem m_I_Group_mul : ConOK Tryz.prog 77 c_I_Group_mul := fn_ok (tyOK _) (E := mkE []) (consOK_nil rfl) Tryz.func77 (h := h_I_Group_mul) (by kernel_rfl) eq_I_Group_mul

/-- I_Group_powers -/
def pk_I_Group_powers : List PK := [.data (.cons (.int .i64) (.cons (.int .i64) (.one (.int .i64)))), .data (.sl (.int .i64)), .data (.sl (.int .i64))]
def rk_I_Group_powers : List (Ty × Bool) := [((.int .i64), false)]
def h_I_Group_powers : Hints := { loops := [(0, { items := [.slot 7 (.data (.int .i64) []), .slot 12 (.data (.int .i64) [])], kill := [0, 1, 4, 5, 6, 8, 9] ++ (sgN 13 17) })] }
noncomputable def M_I_Group_powers (x : ((Int × (Int × Int)) × ((List Int) × (List Int)))) : (Option Int) :=
  (loopO (fun (again0 : ((Int × Int) → (Option Int))) => (fun (s1 : (Int × Int)) => (cond (decide (s1.2 < (((List.length x.2.1) : Nat) : Int))) (bindO (getI x.2.1 s1.2) (fun (a2 : Int) => (bindO (getI x.2.2 s1.2) (fun (a3 : Int) => (bindO (M_I_Group_pow ((x.1.1, (x.1.2.1, x.1.2.2)), (a2, a3))) (fun (a4 : Int) => (bindO (M_I_Group_mul ((x.1.1, (x.1.2.1, x.1.2.2)), (s1.1 :: (a4 :: ([] : List Int))))) (fun (a5 : Int) => (bindO (some (IntKind.wrap .i64 (s1.2 + (1 : Int)))) (fun (a6 : Int) => (again0 (a5, a6)))))))))))) (some s1.1)))) ((1 : Int), (0 : Int)))

noncomputable def c_I_Group_powers : Con0 := ⟨pk_I_Group_powers, rk_I_Group_powers, M_I_Group_powers⟩

set_option maxRecDepth 100000 in
theorem eq_I_Group_powers (x : In pk_I_Group_powers) : semF (mkE [(78, c_I_Group_pow), (77, c_I_Group_mul)]) h_I_Group_powers (info Tryz.f151) pk_I_Group_powers rk_I_Group_powers x = M_I_Group_powers x := (semFF_eq _ _ _ _ _ _).symm.trans (by kernel_rfl)

set_option maxRecDepth 100000 in
theorem m_I_Group_powers : ConOK Tryz.prog 151 c_I_Group_powers := fn_ok (tyOK _) (E := mkE [(78, c_I_Group_pow), (77, c_I_Group_mul)]) (consOK_cons m_I_Group_pow (consOK_cons m_I_Group_mul (consOK_nil rfl))) Tryz.func151 (h := h_I_Group_powers) (by kernel_rfl) eq_I_Group_powers

/-- I_Group_images -/
def pk_I_Group_images : List PK := [.data (.cons (.int .i64) (.cons (.int .i64) (.one (.int .i64)))), .data (.sl (.sl (.int .i64))), .data (.sl (.int .i64))]
def rk_I_Group_images : List (Ty × Bool) := [((.sl (.int .i64)), true)]
def h_I_Group_images : Hints := { loops := [(0, { items := [.slot 7 (.own (.int .i64) true), .slot 13 (.data (.int .i64) [])], kill := [0, 1, 4, 5, 6, 8, 9, 10] ++ (sgN 14 12) })] }
noncomputable def M_I_Group_images (x : ((Int × (Int × Int)) × ((List (List Int)) × (List Int)))) : (Option (List Int)) :=
  (loopO (fun (again0 : (((List Int) × Int) → (Option (List Int)))) => (fun (s1 : ((List Int) × Int)) => (cond (decide (s1.2 < (((List.length x.2.1) : Nat) : Int))) (bindO (getI x.2.1 s1.2) (fun (a2 : (List Int)) => (bindO (M_I_Group_powers ((x.1.1, (x.1.2.1, x.1.2.2)), (a2, x.2.2))) (fun (a3 : Int) => (bindO (guardO (lenOk ((List.length s1.1) + (List.length (a3 :: ([] : List Int)))))) (fun (a4 : Unit) => (bindO (some (s1.1 ++ (a3 :: ([] : List Int)))) (fun (a5 : (List Int)) => (bindO (some (IntKind.wrap .i64 (s1.2 + (1 : Int)))) (fun (a6 : Int) => (again0 (a5, a6)))))))))))) (some s1.1)))) (([] : List Int), (0 : Int)))

noncomputable def c_I_Group_images : Con0 := ⟨pk_I_Group_images, rk_I_Group_images, M_I_Group_images⟩

set_option maxRecDepth 100000 in
theorem eq_I_Group_images (x : In pk_I_Group_images) : semF (mkE [(151, c_I_Group_powers)]) h_I_Group_images (info Tryz.f141) pk_I_Group_images rk_I_Group_images x = M_I_Group_images x := (semFF_eq _ _ _ _ _ _).symm.trans (by kernel_rfl)

set_option maxRecDepth 100000 in
theorem m_I_Group_images : ConOK Tryz.prog 141 c_I_Group_images := fn_ok (tyOK _) (E := mkE [(151, c_I_Group_powers)]) (consOK_cons m_I_Group_powers (consOK_nil rfl)) Tryz.func141 (h := h_I_Group_images) (by kernel_rfl) eq_I_Group_images

/-- I_Group_verifyLinear -/
def pk_I_Group_verifyLinear : List PK := [.data (.cons (.int .i64) (.cons (.int .i64) (.one (.int .i64)))), .data .str, .data (.sl (.sl (.int .i64))), .data (.sl (.int .i64)), .data (.cons (.sl (.int .i64)) (.cons (.sl (.int .i64)) (.one (.sl (.int .i64)))))]
def rk_I_Group_verifyLinear : List (Ty × Bool) := [(.bool, false)]
def h_I_Group_verifyLinear : Hints := { loops := [(0, { items := [.slot 80 (.data (.int .i64) [])], kill := [0, 1, 2, 4, 6, 7, 8, 10] ++ (sgN 12 66 ++ (sgN 81 22)) })] }
noncomputable def M_I_Group_verifyLinear (x : ((Int × (Int × Int)) × (ByteArray × ((List (List Int)) × ((List Int) × ((List Int) × ((List Int) × (List Int)))))))) : (Option Bool) :=
  (cond ((((List.length x.2.2.2.2.1) : Nat) : Int) != (((List.length x.2.2.1) : Nat) : Int)) (some false) (cond ((((List.length x.2.2.2.2.2.1) : Nat) : Int) != (1 : Int)) (some false) (bindO (getI x.2.2.1 (0 : Int)) (fun (a0 : (List Int)) => (cond ((((List.length x.2.2.2.2.2.2) : Nat) : Int) != (((List.length a0) : Nat) : Int)) (some false) (bindO (M_I_Group_hasAll ((x.1.1, (x.1.2.1, x.1.2.2)), x.2.2.2.2.1)) (fun (a1 : Bool) => (cond (not a1) (some false) (bindO (M_I_Group_areExps ((x.1.1, (x.1.2.1, x.1.2.2)), x.2.2.2.2.2.2)) (fun (a2 : Bool) => (cond (not a2) (some false) (bindO (M_slices_Concat_sint_int x.2.2.1) (fun (a3 : (List Int)) => (bindO (M_slices_Concat_sint_int (a3 :: (x.2.2.2.1 :: (x.2.2.2.2.1 :: ([] : List (List Int)))))) (fun (a4 : (List Int)) => (bindO (M_I_Group_challenge ((x.1.1, (x.1.2.1, x.1.2.2)), (x.2.1, a4))) (fun (a5 : (Int × Bool)) => (cond (not a5.2) (some false) (bindO (getI x.2.2.2.2.2.1 (0 : Int)) (fun (a6 : Int) => (cond (a6 != a5.1) (some false) (bindO (M_I_Group_images ((x.1.1, (x.1.2.1, x.1.2.2)), (x.2.2.1, x.2.2.2.2.2.2))) (fun (a7 : (List Int)) => (loopO (fun (again8 : (Int → (Option Bool))) => (fun (s9 : Int) => (cond (decide (s9 < (((List.length a7) : Nat) : Int))) (bindO (getI a7 s9) (fun (a10 : Int) => (bindO (getI x.2.2.2.2.1 s9) (fun (a11 : Int) => (bindO (getI x.2.2.2.1 s9) (fun (a12 : Int) => (bindO (M_I_Group_pow ((x.1.1, (x.1.2.1, x.1.2.2)), (a12, a5.1))) (fun (a13 : Int) => (bindO (M_I_Group_mul ((x.1.1, (x.1.2.1, x.1.2.2)), (a11 :: (a13 :: ([] : List Int))))) (fun (a14 : Int) => (cond (a10 != a14) (some false) (bindO (some (IntKind.wrap .i64 (s9 + (1 : Int)))) (fun (a15 : Int) => (again8 a15)))))))))))))) (some true)))) (0 : Int)))))))))))))))))))))))))

noncomputable def c_I_Group_verifyLinear : Con0 := ⟨pk_I_Group_verifyLinear, rk_I_Group_verifyLinear, M_I_Group_verifyLinear⟩

set_option maxRecDepth 100000 in
theorem eq_I_Group_verifyLinear (x : In pk_I_Group_verifyLinear) : semF (mkE [(72, c_I_Group_hasAll), (42, c_I_Group_areExps), (76, c_slices_Concat_sint_int), (117, c_I_Group_challenge), (141, c_I_Group_images), (78, c_I_Group_pow), (77, c_I_Group_mul)]) h_I_Group_verifyLinear (info Tryz.f114) pk_I_Group_verifyLinear rk_I_Group_verifyLinear x = M_I_Group_verifyLinear x := (semFF_eq _ _ _ _ _ _).symm.trans (by kernel_rfl)

set_option maxRecDepth 100000 in
theorem m_I_Group_verifyLinear : ConOK Tryz.prog 114 c_I_Group_verifyLinear := fn_ok (tyOK _) (E := mkE [(72, c_I_Group_hasAll), (42, c_I_Group_areExps), (76, c_slices_Concat_sint_int), (117, c_I_Group_challenge), (141, c_I_Group_images), (78, c_I_Group_pow), (77, c_I_Group_mul)]) (consOK_cons m_I_Group_hasAll (consOK_cons m_I_Group_areExps (consOK_cons m_slices_Concat_sint_int (consOK_cons m_I_Group_challenge (consOK_cons m_I_Group_images (consOK_cons m_I_Group_pow (consOK_cons m_I_Group_mul (consOK_nil rfl)))))))) Tryz.func114 (h := h_I_Group_verifyLinear) (by kernel_rfl) eq_I_Group_verifyLinear

/-- I_VerifyLinear -/
def pk_I_VerifyLinear : List PK := [.data (.cons (.int .i64) (.cons (.int .i64) (.one (.int .i64)))), .data .str, .data (.sl (.sl (.int .i64))), .data (.sl (.int .i64)), .data (.cons (.sl (.int .i64)) (.cons (.sl (.int .i64)) (.one (.sl (.int .i64)))))]
def rk_I_VerifyLinear : List (Ty × Bool) := [(.bool, false), (.bool, false)]
def h_I_VerifyLinear : Hints := { loops := [] }
noncomputable def M_I_VerifyLinear (x : ((Int × (Int × Int)) × (ByteArray × ((List (List Int)) × ((List Int) × ((List Int) × ((List Int) × (List Int)))))))) : (Option (Bool × Bool)) :=
  (bindO (M_I_IsValidGroup (x.1.1, (x.1.2.1, x.1.2.2))) (fun (a0 : Bool) => (cond (not a0) (some (false, false)) (bindO (M_I_isLabel x.2.1) (fun (a1 : Bool) => (cond (not a1) (some (false, false)) (bindO (M_I_Group_areRows ((x.1.1, (x.1.2.1, x.1.2.2)), x.2.2.1)) (fun (a2 : Bool) => (cond (not a2) (some (false, false)) (cond ((((List.length x.2.2.2.1) : Nat) : Int) != (((List.length x.2.2.1) : Nat) : Int)) (some (false, false)) (bindO (M_I_Group_hasAll ((x.1.1, (x.1.2.1, x.1.2.2)), x.2.2.2.1)) (fun (a3 : Bool) => (cond (not a3) (some (false, false)) (bindO (M_I_Group_verifyLinear ((x.1.1, (x.1.2.1, x.1.2.2)), (x.2.1, (x.2.2.1, (x.2.2.2.1, (x.2.2.2.2.1, (x.2.2.2.2.2.1, x.2.2.2.2.2.2))))))) (fun (a4 : Bool) => (some (a4, true)))))))))))))))))

noncomputable def c_I_VerifyLinear : Con0 := ⟨pk_I_VerifyLinear, rk_I_VerifyLinear, M_I_VerifyLinear⟩

set_option maxRecDepth 100000 in
theorem eq_I_VerifyLinear (x : In pk_I_VerifyLinear) : semF (mkE [(32, c_I_IsValidGroup), (70, c_I_isLabel), (113, c_I_Group_areRows), (72, c_I_Group_hasAll), (114, c_I_Group_verifyLinear)]) h_I_VerifyLinear (info Tryz.f61) pk_I_VerifyLinear rk_I_VerifyLinear x = M_I_VerifyLinear x := (semFF_eq _ _ _ _ _ _).symm.trans (by kernel_rfl)

set_option maxRecDepth 100000 in
theorem m_I_VerifyLinear : ConOK Tryz.prog 61 c_I_VerifyLinear := fn_ok (tyOK _) (E := mkE [(32, c_I_IsValidGroup), (70, c_I_isLabel), (113, c_I_Group_areRows), (72, c_I_Group_hasAll), (114, c_I_Group_verifyLinear)]) (consOK_cons m_I_IsValidGroup (consOK_cons m_I_isLabel (consOK_cons m_I_Group_areRows (consOK_cons m_I_Group_hasAll (consOK_cons m_I_Group_verifyLinear (consOK_nil rfl)))))) Tryz.func61 (h := h_I_VerifyLinear) (by kernel_rfl) eq_I_VerifyLinear

/-- I_VerifyEqual -/
def pk_I_VerifyEqual : List PK := [.data (.cons (.int .i64) (.cons (.int .i64) (.one (.int .i64)))), .data .str, .data (.cons (.int .i64) (.cons (.int .i64) (.cons (.int .i64) (.one (.int .i64))))), .data (.cons (.sl (.int .i64)) (.cons (.sl (.int .i64)) (.one (.sl (.int .i64)))))]
def rk_I_VerifyEqual : List (Ty × Bool) := [(.bool, false), (.bool, false)]
def h_I_VerifyEqual : Hints := { loops := [] }
noncomputable def M_I_VerifyEqual (x : ((Int × (Int × Int)) × (ByteArray × ((Int × (Int × (Int × Int))) × ((List Int) × ((List Int) × (List Int))))))) : (Option (Bool × Bool)) :=
  (bindO (M_I_equalRows (x.2.2.1.1, (x.2.2.1.2.1, (x.2.2.1.2.2.1, x.2.2.1.2.2.2)))) (fun (a0 : (List (List Int))) => (bindO (M_I_VerifyLinear ((x.1.1, (x.1.2.1, x.1.2.2)), (x.2.1, (a0, ((x.2.2.1.2.1 :: (x.2.2.1.2.2.2 :: ([] : List Int))), (x.2.2.2.1, (x.2.2.2.2.1, x.2.2.2.2.2))))))) (fun (a1 : (Bool × Bool)) => (some (a1.1, a1.2))))))

noncomputable def c_I_VerifyEqual : Con0 := ⟨pk_I_VerifyEqual, rk_I_VerifyEqual, M_I_VerifyEqual⟩

set_option maxRecDepth 100000 in
theorem eq_I_VerifyEqual (x : In pk_I_VerifyEqual) : semF (mkE [(62, c_I_equalRows), (61, c_I_VerifyLinear)]) h_I_VerifyEqual (info Tryz.f23) pk_I_VerifyEqual rk_I_VerifyEqual x = M_I_VerifyEqual x := (semFF_eq _ _ _ _ _ _).symm.trans (by kernel_rfl)

set_option maxRecDepth 100000 in
theorem m_I_VerifyEqual : ConOK Tryz.prog 23 c_I_VerifyEqual := fn_ok (tyOK _) (E := mkE [(62, c_I_equalRows), (61, c_I_VerifyLinear)]) (consOK_cons m_I_equalRows (consOK_cons m_I_VerifyLinear (consOK_nil rfl))) Tryz.func23 (h := h_I_VerifyEqual) (by kernel_rfl) eq_I_VerifyEqual

/-- I_Group_isBlind -/
def pk_I_Group_isBlind : List PK := [.data (.cons (.int .i64) (.cons (.int .i64) (.one (.int .i64)))), .data (.cons (.int .i64) (.one (.int .i64))), .data (.cons (.int .i64) (.cons (.cons (.int .i64) (.one (.int .i64))) (.one (.cons (.sl (.int .i64)) (.cons (.sl (.int .i64)) (.one (.sl (.int .i64))))))))]
def rk_I_Group_isBlind : List (Ty × Bool) := [(.bool, false)]
def h_I_Group_isBlind : Hints := { loops := [] }
noncomputable def M_I_Group_isBlind (x : ((Int × (Int × Int)) × ((Int × Int) × (Int × ((Int × Int) × ((List Int) × ((List Int) × (List Int)))))))) : (Option Bool) :=
  (bindO (M_I_isTrustee x.2.2.1) (fun (a0 : Bool) => (cond (not a0) (some false) (bindO (M_I_Group_hasCipher ((x.1.1, (x.1.2.1, x.1.2.2)), (x.2.2.2.1.1, x.2.2.2.1.2))) (fun (a1 : Bool) => (cond (not a1) (some false) (cond (((x.2.2.2.1.1, x.2.2.2.1.2).1 == ((1 : Int), (1 : Int)).1) && ((x.2.2.2.1.1, x.2.2.2.1.2).2 == ((1 : Int), (1 : Int)).2)) (cond (not (((x.2.1.1, x.2.1.2).1 == ((1 : Int), (1 : Int)).1) && ((x.2.1.1, x.2.1.2).2 == ((1 : Int), (1 : Int)).2))) (some false) (bindO (M_I_blindStatement ((x.2.1.1, x.2.1.2), (x.2.2.2.1.1, x.2.2.2.1.2))) (fun (a2 : (Int × (Int × (Int × Int)))) => (bindO (M_I_VerifyEqual ((x.1.1, (x.1.2.1, x.1.2.2)), ((bytesOf [98, 108, 105, 110, 100]), ((a2.1, (a2.2.1, (a2.2.2.1, a2.2.2.2))), (x.2.2.2.2.1, (x.2.2.2.2.2.1, x.2.2.2.2.2.2)))))) (fun (a3 : (Bool × Bool)) => (cond a3.1 (some a3.2) (some false))))))) (bindO (M_I_blindStatement ((x.2.1.1, x.2.1.2), (x.2.2.2.1.1, x.2.2.2.1.2))) (fun (a4 : (Int × (Int × (Int × Int)))) => (bindO (M_I_VerifyEqual ((x.1.1, (x.1.2.1, x.1.2.2)), ((bytesOf [98, 108, 105, 110, 100]), ((a4.1, (a4.2.1, (a4.2.2.1, a4.2.2.2))), (x.2.2.2.2.1, (x.2.2.2.2.2.1, x.2.2.2.2.2.2)))))) (fun (a5 : (Bool × Bool)) => (cond a5.1 (some a5.2) (some false)))))))))))))

noncomputable def c_I_Group_isBlind : Con0 := ⟨pk_I_Group_isBlind, rk_I_Group_isBlind, M_I_Group_isBlind⟩

set_option maxRecDepth 100000 in
theorem eq_I_Group_isBlind (x : In pk_I_Group_isBlind) : semF (mkE [(41, c_I_isTrustee), (33, c_I_Group_hasCipher), (45, c_I_blindStatement), (23, c_I_VerifyEqual)]) h_I_Group_isBlind (info Tryz.f35) pk_I_Group_isBlind rk_I_Group_isBlind x = M_I_Group_isBlind x := (semFF_eq _ _ _ _ _ _).symm.trans (by kernel_rfl)

set_option maxRecDepth 100000 in
theorem m_I_Group_isBlind : ConOK Tryz.prog 35 c_I_Group_isBlind := fn_ok (tyOK _) (E := mkE [(41, c_I_isTrustee), (33, c_I_Group_hasCipher), (45, c_I_blindStatement), (23, c_I_VerifyEqual)]) (consOK_cons m_I_isTrustee (consOK_cons m_I_Group_hasCipher (consOK_cons m_I_blindStatement (consOK_cons m_I_VerifyEqual (consOK_nil rfl))))) Tryz.func35 (h := h_I_Group_isBlind) (by kernel_rfl) eq_I_Group_isBlind

/-- I_Group_mulTwo -/
def pk_I_Group_mulTwo : List PK := [.data (.cons (.int .i64) (.cons (.int .i64) (.one (.int .i64)))), .data (.cons (.int .i64) (.one (.int .i64))), .data (.cons (.int .i64) (.one (.int .i64)))]
def rk_I_Group_mulTwo : List (Ty × Bool) := [((.cons (.int .i64) (.one (.int .i64))), false)]
def h_I_Group_mulTwo : Hints := { loops := [] }
noncomputable def M_I_Group_mulTwo (x : ((Int × (Int × Int)) × ((Int × Int) × (Int × Int)))) : (Option (Int × Int)) :=
  (bindO (M_I_Group_mul ((x.1.1, (x.1.2.1, x.1.2.2)), (x.2.1.1 :: (x.2.2.1 :: ([] : List Int))))) (fun (a0 : Int) => (bindO (M_I_Group_mul ((x.1.1, (x.1.2.1, x.1.2.2)), (x.2.1.2 :: (x.2.2.2 :: ([] : List Int))))) (fun (a1 : Int) => (some (a0, a1))))))

noncomputable def c_I_Group_mulTwo : Con0 := ⟨pk_I_Group_mulTwo, rk_I_Group_mulTwo, M_I_Group_mulTwo⟩

set_option maxRecDepth 100000 in
theorem eq_I_Group_mulTwo (x : In pk_I_Group_mulTwo) : semF (mkE [(77, c_I_Group_mul)]) h_I_Group_mulTwo (info Tryz.f36) pk_I_Group_mulTwo rk_I_Group_mulTwo x = M_I_Group_mulTwo x := (semFF_eq _ _ _ _ _ _).symm.trans (by kernel_rfl)

set_option maxRecDepth 100000 in
theorem m_I_Group_mulTwo : ConOK Tryz.prog 36 c_I_Group_mulTwo := fn_ok (tyOK _) (E := mkE [(77, c_I_Group_mul)]) (consOK_cons m_I_Group_mul (consOK_nil rfl)) Tryz.func36 (h := h_I_Group_mulTwo) (by kernel_rfl) eq_I_Group_mulTwo

/-- I_CombineBlinds -/
def pk_I_CombineBlinds : List PK := [.data (.cons (.int .i64) (.cons (.int .i64) (.one (.int .i64)))), .data (.cons (.int .i64) (.one (.int .i64))), .data (.sl (.cons (.int .i64) (.cons (.cons (.int .i64) (.one (.int .i64))) (.one (.cons (.sl (.int .i64)) (.cons (.sl (.int .i64)) (.one (.sl (.int .i64)))))))))]
def rk_I_CombineBlinds : List (Ty × Bool) := [((.cons (.int .i64) (.one (.int .i64))), false), ((.sl (.int .i64)), true), (.bool, false)]
def h_I_CombineBlinds : Hints := { loops := [(0, { items := [.slot 10 (.own (.int .i64) true), .slot 32 (.data (.int .i64) []), .cell 9 0 (.data (.int .i64) []), .cell 9 1 (.data (.int .i64) [])], kill := [0, 1, 2, 5, 7, 8] ++ (sgN 11 19 ++ (sgN 33 31)) })] }
noncomputable def M_I_CombineBlinds (x : ((Int × (Int × Int)) × ((Int × Int) × (List (Int × ((Int × Int) × ((List Int) × ((List Int) × (List Int))))))))) : (Option ((Int × Int) × ((List Int) × Bool))) :=
  (bindO (M_I_IsValidGroup (x.1.1, (x.1.2.1, x.1.2.2))) (fun (a0 : Bool) => (cond (not a0) (some (((0 : Int), (0 : Int)), (([] : List Int), false))) (bindO (M_I_Group_hasCipher ((x.1.1, (x.1.2.1, x.1.2.2)), (x.2.1.1, x.2.1.2))) (fun (a1 : Bool) => (cond (not a1) (some (((0 : Int), (0 : Int)), (([] : List Int), false))) (cond (decide ((((List.length x.2.2) : Nat) : Int) > (14 : Int))) (some (((0 : Int), (0 : Int)), (([] : List Int), false))) (loopO (fun (again2 : (((List Int) × (Int × (Int × Int))) → (Option ((Int × Int) × ((List Int) × Bool))))) => (fun (s3 : ((List Int) × (Int × (Int × Int)))) => (cond (decide (s3.2.1 < (((List.length x.2.2) : Nat) : Int))) (bindO (getI x.2.2 s3.2.1) (fun (a4 : (Int × ((Int × Int) × ((List Int) × ((List Int) × (List Int)))))) => (bindO (M_slices_Contains_sint_int (s3.1, a4.1)) (fun (a5 : Bool) => (cond (not a5) (bindO (M_I_Group_isBlind ((x.1.1, (x.1.2.1, x.1.2.2)), ((x.2.1.1, x.2.1.2), (a4.1, ((a4.2.1.1, a4.2.1.2), (a4.2.2.1, (a4.2.2.2.1, a4.2.2.2.2))))))) (fun (a6 : Bool) => (cond a6 (bindO (M_I_Group_mulTwo ((x.1.1, (x.1.2.1, x.1.2.2)), ((s3.2.2.1, s3.2.2.2), (a4.2.1.1, a4.2.1.2)))) (fun (a7 : (Int × Int)) => (bindO (guardO (lenOk ((List.length s3.1) + (List.length (a4.1 :: ([] : List Int)))))) (fun (a8 : Unit) => (bindO (some (s3.1 ++ (a4.1 :: ([] : List Int)))) (fun (a9 : (List Int)) => (bindO (some (IntKind.wrap .i64 (s3.2.1 + (1 : Int)))) (fun (a10 : Int) => (again2 (a9, (a10, (a7.1, a7.2)))))))))))) (bindO (some (IntKind.wrap .i64 (s3.2.1 + (1 : Int)))) (fun (a11 : Int) => (again2 (s3.1, (a11, (s3.2.2.1, s3.2.2.2))))))))) (bindO (some (IntKind.wrap .i64 (s3.2.1 + (1 : Int)))) (fun (a12 : Int) => (again2 (s3.1, (a12, (s3.2.2.1, s3.2.2.2))))))))))) (cond ((((List.length s3.1) : Nat) : Int) == (0 : Int)) (some (((0 : Int), (0 : Int)), (([] : List Int), false))) (some ((s3.2.2.1, s3.2.2.2), (s3.1, true))))))) (([] : List Int), ((0 : Int), ((1 : Int), (1 : Int))))))))))))

noncomputable def c_I_CombineBlinds : Con0 := ⟨pk_I_CombineBlinds, rk_I_CombineBlinds, M_I_CombineBlinds⟩

set_option maxRecDepth 100000 in
theorem eq_I_CombineBlinds (x : In pk_I_CombineBlinds) : semF (mkE [(32, c_I_IsValidGroup), (33, c_I_Group_hasCipher), (34, c_slices_Contains_sint_int), (35, c_I_Group_isBlind), (36, c_I_Group_mulTwo)]) h_I_CombineBlinds (info Tryz.f6) pk_I_CombineBlinds rk_I_CombineBlinds x = M_I_CombineBlinds x := (semFF_eq _ _ _ _ _ _).symm.trans (by kernel_rfl)

set_option maxRecDepth 100000 in
theorem m_I_CombineBlinds : ConOK Tryz.prog 6 c_I_CombineBlinds := fn_ok (tyOK _) (E := mkE [(32, c_I_IsValidGroup), (33, c_I_Group_hasCipher), (34, c_slices_Contains_sint_int), (35, c_I_Group_isBlind), (36, c_I_Group_mulTwo)]) (consOK_cons m_I_IsValidGroup (consOK_cons m_I_Group_hasCipher (consOK_cons m_slices_Contains_sint_int (consOK_cons m_I_Group_isBlind (consOK_cons m_I_Group_mulTwo (consOK_nil rfl)))))) Tryz.func6 (h := h_I_CombineBlinds) (by kernel_rfl) eq_I_CombineBlinds

/-- S_l1Has -/
def pk_S_l1Has : List PK := [.data (.sl (.int .i64)), .data (.int .i64)]
def rk_S_l1Has : List (Ty × Bool) := [(.bool, false)]
def h_S_l1Has : Hints := { loops := [(0, { items := [.slot 9 (.data (.int .i64) [])], kill := [0] ++ (sgN 2 5 ++ (sgN 10 7)) })] }
noncomputable def M_S_l1Has (x : ((List Int) × Int)) : (Option Bool) :=
  (loopO (fun (again0 : (Int → (Option Bool))) => (fun (s1 : Int) => (cond (decide (s1 < (((List.length x.1) : Nat) : Int))) (bindO (getI x.1 s1) (fun (a2 : Int) => (cond (a2 == x.2) (some true) (bindO (some (IntKind.wrap .i64 (s1 + (1 : Int)))) (fun (a3 : Int) => (again0 a3)))))) (some false)))) (0 : Int))

noncomputable def c_S_l1Has : Con0 := ⟨pk_S_l1Has, rk_S_l1Has, M_S_l1Has⟩

set_option maxRecDepth 100000 in
theorem eq_S_l1Has (x : In pk_S_l1Has) : semF (mkE []) h_S_l1Has (info Tryz.f96) pk_S_l1Has rk_S_l1Has x = M_S_l1Has x := (semFF_eq _ _ _ _ _ _).symm.trans (by kernel_rfl)

set_option maxRecDepth 100000 in
theorem m_S_l1Has : ConOK Tryz.prog 96 c_S_l1Has := fn_ok (tyOK _) (E := mkE []) (consOK_nil rfl) Tryz.func96 (h := h_S_l1Has) (by kernel_rfl) eq_S_l1Has

/-- S_qOne -/
def pk_S_qOne : List PK := [.data (.cons (.int .i64) (.one (.int .i64)))]
def rk_S_qOne : List (Ty × Bool) := [(.bool, false)]
def h_S_qOne : Hints := { loops := [] }
noncomputable def M_S_qOne (x : (Int × Int)) : (Option Bool) :=
  (cond (x.1 == (1 : Int)) (some (x.2 == (1 : Int))) (some false))

noncomputable def c_S_qOne : Con0 := ⟨pk_S_qOne, rk_S_qOne, M_S_qOne⟩

set_option maxRecDepth 100000 in
theorem eq_S_qOne (x : In pk_S_qOne) : semF (mkE []) h_S_qOne (info Tryz.f127) pk_S_qOne rk_S_qOne x = M_S_qOne x := (semFF_eq _ _ _ _ _ _).symm.trans (by kernel_rfl)

set_option maxRecDepth 100000 in
theorem m_S_qOne : ConOK Tryz.prog 127 c_S_qOne := fn_ok (tyOK _) (E := mkE []) (consOK_nil rfl) Tryz.func127 (h := h_S_qOne) (by kernel_rfl) eq_S_qOne

/-- S_l1All -/
def pk_S_l1All : List PK := [.data (.sl (.int .i64)), .data (.int .i64), .data (.int .i64)]
def rk_S_l1All : List (Ty × Bool) := [(.bool, false)]
def h_S_l1All : Hints := { loops := [(0, { items := [.slot 11 (.data (.int .i64) [])], kill := [0] ++ (sgN 3 6 ++ (sgN 12 9)) })] }
noncomputable def M_S_l1All (x : ((List Int) × (Int × Int))) : (Option Bool) :=
  (loopO (fun (again0 : (Int → (Option Bool))) => (fun (s1 : Int) => (cond (decide (s1 < (((List.length x.1) : Nat) : Int))) (bindO (getI x.1 s1) (fun (a2 : Int) => (bindO (M_S_l1In (a2, (x.2.1, x.2.2))) (fun (a3 : Bool) => (cond (not a3) (some false) (bindO (some (IntKind.wrap .i64 (s1 + (1 : Int)))) (fun (a4 : Int) => (again0 a4)))))))) (some true)))) (0 : Int))

noncomputable def c_S_l1All : Con0 := ⟨pk_S_l1All, rk_S_l1All, M_S_l1All⟩

set_option maxRecDepth 100000 in
theorem eq_S_l1All (x : In pk_S_l1All) : semF (mkE [(46, c_S_l1In)]) h_S_l1All (info Tryz.f102) pk_S_l1All rk_S_l1All x = M_S_l1All x := (semFF_eq _ _ _ _ _ _).symm.trans (by kernel_rfl)

set_option maxRecDepth 100000 in
theorem m_S_l1All : ConOK Tryz.prog 102 c_S_l1All := fn_ok (tyOK _) (E := mkE [(46, c_S_l1In)]) (consOK_cons m_S_l1In (consOK_nil rfl)) Tryz.func102 (h := h_S_l1All) (by kernel_rfl) eq_S_l1All

/-- S_gExps -/
def pk_S_gExps : List PK := [.data (.cons (.int .i64) (.cons (.int .i64) (.one (.int .i64)))), .data (.sl (.int .i64))]
def rk_S_gExps : List (Ty × Bool) := [(.bool, false)]
def h_S_gExps : Hints := { loops := [] }
noncomputable def M_S_gExps (x : ((Int × (Int × Int)) × (List Int))) : (Option Bool) :=
  (bindO (some (IntKind.wrap .i64 (x.1.2.1 - (1 : Int)))) (fun (a0 : Int) => (bindO (M_S_l1All (x.2, ((0 : Int), a0))) (fun (a1 : Bool) => (some a1)))))

noncomputable def c_S_gExps : Con0 := ⟨pk_S_gExps, rk_S_gExps, M_S_gExps⟩

set_option maxRecDepth 100000 in
theorem eq_S_gExps (x : In pk_S_gExps) : semF (mkE [(102, c_S_l1All)]) h_S_gExps (info Tryz.f47) pk_S_gExps rk_S_gExps x = M_S_gExps x := (semFF_eq _ _ _ _ _ _).symm.trans (by kernel_rfl)

set_option maxRecDepth 100000 in
theorem m_S_gExps : ConOK Tryz.prog 47 c_S_gExps := fn_ok (tyOK _) (E := mkE [(102, c_S_l1All)]) (consOK_cons m_S_l1All (consOK_nil rfl)) Tryz.func47 (h := h_S_gExps) (by kernel_rfl) eq_S_gExps

/-- S_gMul -/
def pk_S_gMul : List PK := [.data (.cons (.int .i64) (.cons (.int .i64) (.one (.int .i64)))), .data (.sl (.int .i64))]
def rk_S_gMul : List (Ty × Bool) := [((.int .i64), false)]
def h_S_gMul : Hints := { loops := [(0, { items := [.slot 5 (.data (.int .i64) []), .slot 10 (.data (.int .i64) [])], kill := [0, 1, 3, 4, 6, 7] ++ (sgN 11 11) })] }
noncomputable def M_S_gMul (x : ((Int × (Int × Int)) × (List Int))) : (Option Int) :=
  (loopO (fun (again0 : ((Int × Int) → (Option Int))) => (fun (s1 : (Int × Int)) => (cond (decide (s1.2 < (((List.length x.2) : Nat) : Int))) (bindO (getI x.2 s1.2) (fun (a2 : Int) => (bindO (some (IntKind.wrap .i64 (s1.1 * a2))) (fun (a3 : Int) => (bindO (guardO (x.1.1 != (0 : Int))) (fun (a4 : Unit) => (bindO (some (Int.tmod a3 x.1.1)) (fun (a5 : Int) => (bindO (some (IntKind.wrap .i64 (s1.2 + (1 : Int)))) (fun (a6 : Int) => (again0 (a5, a6)))))))))))) (some s1.1)))) ((1 : Int), (0 : Int)))

noncomputable def c_S_gMul : Con0 := ⟨pk_S_gMul, rk_S_gMul, M_S_gMul⟩

set_option maxRecDepth 100000 in
theorem eq_S_gMul (x : In pk_S_gMul) : semF (mkE []) h_S_gMul (info Tryz.f85) pk_S_gMul rk_S_gMul x = M_S_gMul x := (semFF_eq _ _ _ _ _ _).symm.trans (by kernel_rfl)

set_option maxRecDepth 100000 in
theorem m_S_gMul : ConOK Tryz.prog 85 c_S_gMul := fn_ok (tyOK _) (E := mkE []) (consOK_nil rfl) Tryz.func85 (h := h_S_gMul) (by kernel_rfl) eq_S_gMul

/-- S_sVerify -/
def pk_S_sVerify : List PK := [.data (.cons (.int .i64) (.cons (.int .i64) (.one (.int .i64)))), .data .str, .data (.sl (.sl (.int .i64))), .data (.sl (.int .i64)), .data (.cons (.sl (.int .i64)) (.cons (.sl (.int .i64)) (.one (.sl (.int .i64)))))]
def rk_S_sVerify : List (Ty × Bool) := [(.bool, false)]
def h_S_sVerify : Hints := { loops := [(0, { items := [.slot 66 (.data (.int .i64) [])], kill := [0, 1, 2, 4, 6, 7, 8, 10] ++ (sgN 12 52 ++ (sgN 67 26)) })] }
noncomputable def M_S_sVerify (x : ((Int × (Int × Int)) × (ByteArray × ((List (List Int)) × ((List Int) × ((List Int) × ((List Int) × (List Int)))))))) : (Option Bool) :=
  (cond ((((List.length x.2.2.2.2.1) : Nat) : Int) != (((List.length x.2.2.1) : Nat) : Int)) (some false) (cond ((((List.length x.2.2.2.2.2.1) : Nat) : Int) != (1 : Int)) (some false) (bindO (getI x.2.2.1 (0 : Int)) (fun (a0 : (List Int)) => (cond ((((List.length x.2.2.2.2.2.2) : Nat) : Int) != (((List.length a0) : Nat) : Int)) (some false) (bindO (M_S_gIs ((x.1.1, (x.1.2.1, x.1.2.2)), x.2.2.2.2.1)) (fun (a1 : Bool) => (cond (not a1) (some false) (bindO (M_S_gExps ((x.1.1, (x.1.2.1, x.1.2.2)), x.2.2.2.2.2.2)) (fun (a2 : Bool) => (cond (not a2) (some false) (bindO (getI x.2.2.2.2.2.1 (0 : Int)) (fun (a3 : Int) => (bindO (M_S_sStatement (x.2.2.1, (x.2.2.2.1, x.2.2.2.2.1))) (fun (a4 : (List Int)) => (bindO (M_S_hChallenge ((x.1.1, (x.1.2.1, x.1.2.2)), (x.2.1, a4))) (fun (a5 : Int) => (cond (a3 != a5) (some false) (loopO (fun (again6 : (Int → (Option Bool))) => (fun (s7 : Int) => (cond (decide (s7 < (((List.length x.2.2.1) : Nat) : Int))) (bindO (getI x.2.2.1 s7) (fun (a8 : (List Int)) => (bindO (M_S_gProd ((x.1.1, (x.1.2.1, x.1.2.2)), (a8, x.2.2.2.2.2.2))) (fun (a9 : Int) => (bindO (getI x.2.2.2.2.1 s7) (fun (a10 : Int) => (bindO (getI x.2.2.2.1 s7) (fun (a11 : Int) => (bindO (M_S_gExp ((x.1.1, (x.1.2.1, x.1.2.2)), (a11, a3))) (fun (a12 : Int) => (bindO (M_S_gMul ((x.1.1, (x.1.2.1, x.1.2.2)), (a10 :: (a12 :: ([] : List Int))))) (fun (a13 : Int) => (cond (a9 != a13) (some false) (bindO (some (IntKind.wrap .i64 (s7 + (1 : Int)))) (fun (a14 : Int) => (again6 a14)))))))))))))))) (some true)))) (0 : Int))))))))))))))))))))

noncomputable def c_S_sVerify : Con0 := ⟨pk_S_sVerify, rk_S_sVerify, M_S_sVerify⟩

set_option maxRecDepth 100000 in
theorem eq_S_sVerify (x : In pk_S_sVerify) : semF (mkE [(80, c_S_gIs), (47, c_S_gExps), (133, c_S_sStatement), (82, c_S_hChallenge), (138, c_S_gProd), (86, c_S_gExp), (85, c_S_gMul)]) h_S_sVerify (info Tryz.f112) pk_S_sVerify rk_S_sVerify x = M_S_sVerify x := (semFF_eq _ _ _ _ _ _).symm.trans (by kernel_rfl)

set_option maxRecDepth 100000 in
theorem m_S_sVerify : ConOK Tryz.prog 112 c_S_sVerify := fn_ok (tyOK _) (E := mkE [(80, c_S_gIs), (47, c_S_gExps), (133, c_S_sStatement), (82, c_S_hChallenge), (138, c_S_gProd), (86, c_S_gExp), (85, c_S_gMul)]) (consOK_cons m_S_gIs (consOK_cons m_S_gExps (consOK_cons m_S_sStatement (consOK_cons m_S_hChallenge (consOK_cons m_S_gProd (consOK_cons m_S_gExp (consOK_cons m_S_gMul (consOK_nil rfl)))))))) Tryz.func112 (h := h_S_sVerify) (by kernel_rfl) eq_S_sVerify

/-- S_sVerifyEq -/
def pk_S_sVerifyEq : List PK := [.data (.cons (.int .i64) (.cons (.int .i64) (.one (.int .i64)))), .data .str, .data (.cons (.int .i64) (.cons (.int .i64) (.cons (.int .i64) (.one (.int .i64))))), .data (.cons (.sl (.int .i64)) (.cons (.sl (.int .i64)) (.one (.sl (.int .i64)))))]
def rk_S_sVerifyEq : List (Ty × Bool) := [(.bool, false)]
def h_S_sVerifyEq : Hints := { loops := [] }
noncomputable def M_S_sVerifyEq (x : ((Int × (Int × Int)) × (ByteArray × ((Int × (Int × (Int × Int))) × ((List Int) × ((List Int) × (List Int))))))) : (Option Bool) :=
  (bindO (M_S_sVerify ((x.1.1, (x.1.2.1, x.1.2.2)), (x.2.1, (((x.2.2.1.1 :: ([] : List Int)) :: ((x.2.2.1.2.2.1 :: ([] : List Int)) :: ([] : List (List Int)))), ((x.2.2.1.2.1 :: (x.2.2.1.2.2.2 :: ([] : List Int))), (x.2.2.2.1, (x.2.2.2.2.1, x.2.2.2.2.2))))))) (fun (a0 : Bool) => (some a0)))

noncomputable def c_S_sVerifyEq : Con0 := ⟨pk_S_sVerifyEq, rk_S_sVerifyEq, M_S_sVerifyEq⟩

set_option maxRecDepth 100000 in
theorem eq_S_sVerifyEq (x : In pk_S_sVerifyEq) : semF (mkE [(112, c_S_sVerify)]) h_S_sVerifyEq (info Tryz.f58) pk_S_sVerifyEq rk_S_sVerifyEq x = M_S_sVerifyEq x := (semFF_eq _ _ _ _ _ _).symm.trans (by kernel_rfl)

set_option maxRecDepth 100000 in
theorem m_S_sVerifyEq : ConOK Tryz.prog 58 c_S_sVerifyEq := fn_ok (tyOK _) (E := mkE [(112, c_S_sVerify)]) (consOK_cons m_S_sVerify (consOK_nil rfl)) Tryz.func58 (h := h_S_sVerifyEq) (by kernel_rfl) eq_S_sVerifyEq

/-- S_qVerify -/
def pk_S_qVerify : List PK := [.data (.cons (.int .i64) (.cons (.int .i64) (.one (.int .i64)))), .data (.cons (.int .i64) (.one (.int .i64))), .data (.cons (.int .i64) (.cons (.cons (.int .i64) (.one (.int .i64))) (.one (.cons (.sl (.int .i64)) (.cons (.sl (.int .i64)) (.one (.sl (.int .i64))))))))]
def rk_S_qVerify : List (Ty × Bool) := [(.bool, false)]
def h_S_qVerify : Hints := { loops := [] }
noncomputable def M_S_qVerify (x : ((Int × (Int × Int)) × ((Int × Int) × (Int × ((Int × Int) × ((List Int) × ((List Int) × (List Int)))))))) : (Option Bool) :=
  (bindO (M_S_l1In (x.2.2.1, ((1 : Int), (7 : Int)))) (fun (a0 : Bool) => (cond (not a0) (some false) (bindO (M_S_eGood ((x.1.1, (x.1.2.1, x.1.2.2)), ((x.2.2.2.1.1, x.2.2.2.1.2) :: ([] : List (Int × Int))))) (fun (a1 : Bool) => (cond (not a1) (some false) (bindO (M_S_qOne (x.2.2.2.1.1, x.2.2.2.1.2)) (fun (a2 : Bool) => (cond a2 (bindO (M_S_qOne (x.2.1.1, x.2.1.2)) (fun (a3 : Bool) => (cond (not a3) (some false) (bindO (M_S_sVerifyEq ((x.1.1, (x.1.2.1, x.1.2.2)), ((bytesOf [98, 108, 105, 110, 100]), ((x.2.1.1, (x.2.2.2.1.1, (x.2.1.2, x.2.2.2.1.2))), (x.2.2.2.2.1, (x.2.2.2.2.2.1, x.2.2.2.2.2.2)))))) (fun (a4 : Bool) => (some a4)))))) (bindO (M_S_sVerifyEq ((x.1.1, (x.1.2.1, x.1.2.2)), ((bytesOf [98, 108, 105, 110, 100]), ((x.2.1.1, (x.2.2.2.1.1, (x.2.1.2, x.2.2.2.1.2))), (x.2.2.2.2.1, (x.2.2.2.2.2.1, x.2.2.2.2.2.2)))))) (fun (a5 : Bool) => (some a5))))))))))))

noncomputable def c_S_qVerify : Con0 := ⟨pk_S_qVerify, rk_S_qVerify, M_S_qVerify⟩

set_option maxRecDepth 100000 in
theorem eq_S_qVerify (x : In pk_S_qVerify) : semF (mkE [(46, c_S_l1In), (38, c_S_eGood), (127, c_S_qOne), (58, c_S_sVerifyEq)]) h_S_qVerify (info Tryz.f97) pk_S_qVerify rk_S_qVerify x = M_S_qVerify x := (semFF_eq _ _ _ _ _ _).symm.trans (by kernel_rfl)

set_option maxRecDepth 100000 in
theorem m_S_qVerify : ConOK Tryz.prog 97 c_S_qVerify := fn_ok (tyOK _) (E := mkE [(46, c_S_l1In), (38, c_S_eGood), (127, c_S_qOne), (58, c_S_sVerifyEq)]) (consOK_cons m_S_l1In (consOK_cons m_S_eGood (consOK_cons m_S_qOne (consOK_cons m_S_sVerifyEq (consOK_nil rfl))))) Tryz.func97 (h := h_S_qVerify) (by kernel_rfl) eq_S_qVerify

/-- S_eMul -/
def pk_S_eMul : List PK := [.data (.cons (.int .i64) (.cons (.int .i64) (.one (.int .i64)))), .data (.sl (.cons (.int .i64) (.one (.int .i64))))]
def rk_S_eMul : List (Ty × Bool) := [((.cons (.int .i64) (.one (.int .i64))), false)]
def h_S_eMul : Hints := { loops := [(0, { items := [.slot 11 (.data (.int .i64) []), .cell 5 0 (.data (.int .i64) []), .cell 5 1 (.data (.int .i64) [])], kill := [0, 1, 3, 6, 7, 8] ++ (sgN 12 20) })] }
noncomputable def M_S_eMul (x : ((Int × (Int × Int)) × (List (Int × Int)))) : (Option (Int × Int)) :=
  (loopO (fun (again0 : ((Int × (Int × Int)) → (Option (Int × Int)))) => (fun (s1 : (Int × (Int × Int))) => (cond (decide (s1.1 < (((List.length x.2) : Nat) : Int))) (bindO (getI x.2 s1.1) (fun (a2 : (Int × Int)) => (bindO (M_S_gMul ((x.1.1, (x.1.2.1, x.1.2.2)), (s1.2.1 :: (a2.1 :: ([] : List Int))))) (fun (a3 : Int) => (bindO (M_S_gMul ((x.1.1, (x.1.2.1, x.1.2.2)), (s1.2.2 :: (a2.2 :: ([] : List Int))))) (fun (a4 : Int) => (bindO (some (IntKind.wrap .i64 (s1.1 + (1 : Int)))) (fun (a5 : Int) => (again0 (a5, (a3, a4))))))))))) (some (s1.2.1, s1.2.2))))) ((0 : Int), ((1 : Int), (1 : Int))))

noncomputable def c_S_eMul : Con0 := ⟨pk_S_eMul, rk_S_eMul, M_S_eMul⟩

set_option maxRecDepth 100000 in
theorem eq_S_eMul (x : In pk_S_eMul) : semF (mkE [(85, c_S_gMul)]) h_S_eMul (info Tryz.f98) pk_S_eMul rk_S_eMul x = M_S_eMul x := (semFF_eq _ _ _ _ _ _).symm.trans (by kernel_rfl)

set_option maxRecDepth 100000 in
theorem m_S_eMul : ConOK Tryz.prog 98 c_S_eMul := fn_ok (tyOK _) (E := mkE [(85, c_S_gMul)]) (consOK_cons m_S_gMul (consOK_nil rfl)) Tryz.func98 (h := h_S_eMul) (by kernel_rfl) eq_S_eMul

/-- S_qCombine -/
def pk_S_qCombine : List PK := [.data (.cons (.int .i64) (.cons (.int .i64) (.one (.int .i64)))), .data (.cons (.int .i64) (.one (.int .i64))), .data (.sl (.cons (.int .i64) (.cons (.cons (.int .i64) (.one (.int .i64))) (.one (.cons (.sl (.int .i64)) (.cons (.sl (.int .i64)) (.one (.sl (.int .i64)))))))))]
def rk_S_qCombine : List (Ty × Bool) := [((.cons (.int .i64) (.one (.int .i64))), false), ((.sl (.int .i64)), true)]
def h_S_qCombine : Hints := { loops := [(0, { items := [.slot 9 (.own (.int .i64) true), .slot 15 (.data (.int .i64) []), .cell 8 0 (.data (.int .i64) []), .cell 8 1 (.data (.int .i64) [])], kill := [0, 1, 2, 5, 7, 10, 11, 12] ++ (sgN 16 28) })] }
noncomputable def M_S_qCombine (x : ((Int × (Int × Int)) × ((Int × Int) × (List (Int × ((Int × Int) × ((List Int) × ((List Int) × (List Int))))))))) : (Option ((Int × Int) × (List Int))) :=
  (loopO (fun (again0 : (((List Int) × (Int × (Int × Int))) → (Option ((Int × Int) × (List Int))))) => (fun (s1 : ((List Int) × (Int × (Int × Int)))) => (cond (decide (s1.2.1 < (((List.length x.2.2) : Nat) : Int))) (bindO (getI x.2.2 s1.2.1) (fun (a2 : (Int × ((Int × Int) × ((List Int) × ((List Int) × (List Int)))))) => (bindO (M_S_l1Has (s1.1, a2.1)) (fun (a3 : Bool) => (cond (not a3) (bindO (M_S_qVerify ((x.1.1, (x.1.2.1, x.1.2.2)), ((x.2.1.1, x.2.1.2), (a2.1, ((a2.2.1.1, a2.2.1.2), (a2.2.2.1, (a2.2.2.2.1, a2.2.2.2.2))))))) (fun (a4 : Bool) => (cond a4 (bindO (M_S_eMul ((x.1.1, (x.1.2.1, x.1.2.2)), ((s1.2.2.1, s1.2.2.2) :: ((a2.2.1.1, a2.2.1.2) :: ([] : List (Int × Int)))))) (fun (a5 : (Int × Int)) => (bindO (guardO (lenOk ((List.length s1.1) + (List.length (a2.1 :: ([] : List Int)))))) (fun (a6 : Unit) => (bindO (some (s1.1 ++ (a2.1 :: ([] : List Int)))) (fun (a7 : (List Int)) => (bindO (some (IntKind.wrap .i64 (s1.2.1 + (1 : Int)))) (fun (a8 : Int) => (again0 (a7, (a8, (a5.1, a5.2)))))))))))) (bindO (some (IntKind.wrap .i64 (s1.2.1 + (1 : Int)))) (fun (a9 : Int) => (again0 (s1.1, (a9, (s1.2.2.1, s1.2.2.2))))))))) (bindO (some (IntKind.wrap .i64 (s1.2.1 + (1 : Int)))) (fun (a10 : Int) => (again0 (s1.1, (a10, (s1.2.2.1, s1.2.2.2))))))))))) (some ((s1.2.2.1, s1.2.2.2), s1.1))))) (([] : List Int), ((0 : Int), ((1 : Int), (1 : Int)))))

noncomputable def c_S_qCombine : Con0 := ⟨pk_S_qCombine, rk_S_qCombine, M_S_qCombine⟩

set_option maxRecDepth 100000 in
theorem eq_S_qCombine (x : In pk_S_qCombine) : semF (mkE [(96, c_S_l1Has), (97, c_S_qVerify), (98, c_S_eMul)]) h_S_qCombine (info Tryz.f39) pk_S_qCombine rk_S_qCombine x = M_S_qCombine x := (semFF_eq _ _ _ _ _ _).symm.trans (by kernel_rfl)

set_option maxRecDepth 100000 in
theorem m_S_qCombine : ConOK Tryz.prog 39 c_S_qCombine := fn_ok (tyOK _) (E := mkE [(96, c_S_l1Has), (97, c_S_qVerify), (98, c_S_eMul)]) (consOK_cons m_S_l1Has (consOK_cons m_S_qVerify (consOK_cons m_S_eMul (consOK_nil rfl)))) Tryz.func39 (h := h_S_qCombine) (by kernel_rfl) eq_S_qCombine

/-- S_CombineBlinds -/
def pk_S_CombineBlinds : List PK := [.data (.cons (.int .i64) (.cons (.int .i64) (.one (.int .i64)))), .data (.cons (.int .i64) (.one (.int .i64))), .data (.sl (.cons (.int .i64) (.cons (.cons (.int .i64) (.one (.int .i64))) (.one (.cons (.sl (.int .i64)) (.cons (.sl (.int .i64)) (.one (.sl (.int .i64)))))))))]
def rk_S_CombineBlinds : List (Ty × Bool) := [((.cons (.int .i64) (.one (.int .i64))), false), ((.sl (.int .i64)), true), (.bool, false)]
def h_S_CombineBlinds : Hints := { loops := [] }
noncomputable def M_S_CombineBlinds (x : ((Int × (Int × Int)) × ((Int × Int) × (List (Int × ((Int × Int) × ((List Int) × ((List Int) × (List Int))))))))) : (Option ((Int × Int) × ((List Int) × Bool))) :=
  (bindO (M_S_l2Good (x.1.1, (x.1.2.1, x.1.2.2))) (fun (a0 : Bool) => (cond (not a0) (some (((0 : Int), (0 : Int)), (([] : List Int), false))) (bindO (M_S_eGood ((x.1.1, (x.1.2.1, x.1.2.2)), ((x.2.1.1, x.2.1.2) :: ([] : List (Int × Int))))) (fun (a1 : Bool) => (cond (not a1) (some (((0 : Int), (0 : Int)), (([] : List Int), false))) (cond (decide ((((List.length x.2.2) : Nat) : Int) > (14 : Int))) (some (((0 : Int), (0 : Int)), (([] : List Int), false))) (bindO (M_S_qCombine ((x.1.1, (x.1.2.1, x.1.2.2)), ((x.2.1.1, x.2.1.2), x.2.2))) (fun (a2 : ((Int × Int) × (List Int))) => (cond ((((List.length a2.2) : Nat) : Int) == (0 : Int)) (some (((0 : Int), (0 : Int)), (([] : List Int), false))) (some ((a2.1.1, a2.1.2), (a2.2, true)))))))))))))

noncomputable def c_S_CombineBlinds : Con0 := ⟨pk_S_CombineBlinds, rk_S_CombineBlinds, M_S_CombineBlinds⟩

set_option maxRecDepth 100000 in
theorem eq_S_CombineBlinds (x : In pk_S_CombineBlinds) : semF (mkE [(37, c_S_l2Good), (38, c_S_eGood), (39, c_S_qCombine)]) h_S_CombineBlinds (info Tryz.f7) pk_S_CombineBlinds rk_S_CombineBlinds x = M_S_CombineBlinds x := (semFF_eq _ _ _ _ _ _).symm.trans (by kernel_rfl)

set_option maxRecDepth 100000 in
theorem m_S_CombineBlinds : ConOK Tryz.prog 7 c_S_CombineBlinds := fn_ok (tyOK _) (E := mkE [(37, c_S_l2Good), (38, c_S_eGood), (39, c_S_qCombine)]) (consOK_cons m_S_l2Good (consOK_cons m_S_eGood (consOK_cons m_S_qCombine (consOK_nil rfl)))) Tryz.func7 (h := h_S_CombineBlinds) (by kernel_rfl) eq_S_CombineBlinds

/-- S_l1Cur_anyExpo -/
def pk_S_l1Cur_anyExpo : List PK := [.mp (.cons (.sl (.int .u8)) (.cons (.int .i64) (.one (.int .u64)))) false, .data (.cons (.int .i64) (.cons (.int .i64) (.one (.int .i64))))]
def rk_S_l1Cur_anyExpo : List (Ty × Bool) := [((.int .i64), false)]
def h_S_l1Cur_anyExpo : Hints := { loops := [] }
noncomputable def M_S_l1Cur_anyExpo (x : (((List Int) × (Int × Int)) × (Int × (Int × Int)))) : (Option (Int × ((List Int) × (Int × Int)))) :=
  (bindO (M_S_l1Cur_one ((x.1.1, (x.1.2.1, x.1.2.2)), (24 : Int))) (fun (a0 : (Bool × ((List Int) × (Int × Int)))) => (cond a0.1 (bindO (some (IntKind.wrap .i64 (x.2.2.1 - (1 : Int)))) (fun (a1 : Int) => (bindO (M_S_l1Cur_among ((a0.2.1, (a0.2.2.1, a0.2.2.2)), (x.2.2.1 :: ((- (1 : Int)) :: (a1 :: ([] : List Int)))))) (fun (a2 : (Int × ((List Int) × (Int × Int)))) => (some (a2.1, (a2.2.1, (a2.2.2.1, a2.2.2.2)))))))) (bindO (M_S_l1Cur_expo ((a0.2.1, (a0.2.2.1, a0.2.2.2)), (x.2.1, (x.2.2.1, x.2.2.2)))) (fun (a3 : (Int × ((List Int) × (Int × Int)))) => (some (a3.1, (a3.2.1, (a3.2.2.1, a3.2.2.2)))))))))

noncomputable def c_S_l1Cur_anyExpo : Con0 := ⟨pk_S_l1Cur_anyExpo, rk_S_l1Cur_anyExpo, M_S_l1Cur_anyExpo⟩

set_option maxRecDepth 100000 in
theorem eq_S_l1Cur_anyExpo (x : In pk_S_l1Cur_anyExpo) : semF (mkE [(31, c_S_l1Cur_one), (88, c_S_l1Cur_among), (64, c_S_l1Cur_expo)]) h_S_l1Cur_anyExpo (info Tryz.f40) pk_S_l1Cur_anyExpo rk_S_l1Cur_anyExpo x = M_S_l1Cur_anyExpo x := (semFF_eq _ _ _ _ _ _).symm.trans (by kernel_rfl)

set_option maxRecDepth 100000 in
theorem m_S_l1Cur_anyExpo : ConOK Tryz.prog 40 c_S_l1Cur_anyExpo := fn_ok (tyOK _) (E := mkE [(31, c_S_l1Cur_one), (88, c_S_l1Cur_among), (64, c_S_l1Cur_expo)]) (consOK_cons m_S_l1Cur_one (consOK_cons m_S_l1Cur_among (consOK_cons m_S_l1Cur_expo (consOK_nil rfl)))) Tryz.func40 (h := h_S_l1Cur_anyExpo) (by kernel_rfl) eq_S_l1Cur_anyExpo

/-- S_DrawBlindBy -/
def pk_S_DrawBlindBy : List PK := [.data (.sl (.int .u8))]
def rk_S_DrawBlindBy : List (Ty × Bool) := [((.cons (.int .i64) (.cons (.int .i64) (.one (.int .i64)))), false), ((.cons (.int .i64) (.one (.int .i64))), false), ((.int .i64), false), ((.int .i64), false), ((.int .i64), false)]
def h_S_DrawBlindBy : Hints := { loops := [] }
noncomputable def M_S_DrawBlindBy (x : (List Int)) : (Option ((Int × (Int × Int)) × ((Int × Int) × (Int × (Int × Int))))) :=
  (bindO (M_S_l1Cur_anyGroup (x, ((0 : Int), (0 : Int)))) (fun (a0 : ((Int × (Int × Int)) × ((List Int) × (Int × Int)))) => (bindO (M_S_l1Cur_anyCipher ((a0.2.1, (a0.2.2.1, a0.2.2.2)), (a0.1.1, (a0.1.2.1, a0.1.2.2)))) (fun (a1 : ((Int × Int) × ((List Int) × (Int × Int)))) => (bindO (M_S_l1Cur_pick ((a1.2.1, (a1.2.2.1, a1.2.2.2)), (8 : Int))) (fun (a2 : (Int × ((List Int) × (Int × Int)))) => (bindO (some (IntKind.wrap .i64 ((1 : Int) + a2.1))) (fun (a3 : Int) => (bindO (M_S_l1Cur_pick ((a2.2.1, (a2.2.2.1, a2.2.2.2)), (20 : Int))) (fun (a4 : (Int × ((List Int) × (Int × Int)))) => (bindO (guardO ((19 : Int) != (0 : Int))) (fun (a5 : Unit) => (bindO (some (IntKind.wrap .i64 (Int.tdiv a4.1 (19 : Int)))) (fun (a6 : Int) => (bindO (some (IntKind.wrap .i64 (a3 - a6))) (fun (a7 : Int) => (bindO (M_S_l1Cur_anyExpo ((a4.2.1, (a4.2.2.1, a4.2.2.2)), (a0.1.1, (a0.1.2.1, a0.1.2.2)))) (fun (a8 : (Int × ((List Int) × (Int × Int)))) => (bindO (M_S_l1Cur_anyExpo ((a8.2.1, (a8.2.2.1, a8.2.2.2)), (a0.1.1, (a0.1.2.1, a0.1.2.2)))) (fun (a9 : (Int × ((List Int) × (Int × Int)))) => (some ((a0.1.1, (a0.1.2.1, a0.1.2.2)), ((a1.1.1, a1.1.2), (a7, (a8.1, a9.1)))))))))))))))))))))))))

noncomputable def c_S_DrawBlindBy : Con0 := ⟨pk_S_DrawBlindBy, rk_S_DrawBlindBy, M_S_DrawBlindBy⟩

set_option maxRecDepth 100000 in
theorem eq_S_DrawBlindBy (x : In pk_S_DrawBlindBy) : semF (mkE [(27, c_S_l1Cur_anyGroup), (28, c_S_l1Cur_anyCipher), (30, c_S_l1Cur_pick), (40, c_S_l1Cur_anyExpo)]) h_S_DrawBlindBy (info Tryz.f8) pk_S_DrawBlindBy rk_S_DrawBlindBy x = M_S_DrawBlindBy x := (semFF_eq _ _ _ _ _ _).symm.trans (by kernel_rfl)

set_option maxRecDepth 100000 in
theorem m_S_DrawBlindBy : ConOK Tryz.prog 8 c_S_DrawBlindBy := fn_ok (tyOK _) (E := mkE [(27, c_S_l1Cur_anyGroup), (28, c_S_l1Cur_anyCipher), (30, c_S_l1Cur_pick), (40, c_S_l1Cur_anyExpo)]) (consOK_cons m_S_l1Cur_anyGroup (consOK_cons m_S_l1Cur_anyCipher (consOK_cons m_S_l1Cur_pick (consOK_cons m_S_l1Cur_anyExpo (consOK_nil rfl))))) Tryz.func8 (h := h_S_DrawBlindBy) (by kernel_rfl) eq_S_DrawBlindBy

/-- I_Group_powCipher -/
def pk_I_Group_powCipher : List PK := [.data (.cons (.int .i64) (.cons (.int .i64) (.one (.int .i64)))), .data (.cons (.int .i64) (.one (.int .i64))), .data (.int .i64)]
def rk_I_Group_powCipher : List (Ty × Bool) := [((.cons (.int .i64) (.one (.int .i64))), false)]
def h_I_Group_powCipher : Hints := { loops := [] }
noncomputable def M_I_Group_powCipher (x : ((Int × (Int × Int)) × ((Int × Int) × Int))) : (Option (Int × Int)) :=
  (bindO (M_I_Group_pow ((x.1.1, (x.1.2.1, x.1.2.2)), (x.2.1.1, x.2.2))) (fun (a0 : Int) => (bindO (M_I_Group_pow ((x.1.1, (x.1.2.1, x.1.2.2)), (x.2.1.2, x.2.2))) (fun (a1 : Int) => (some (a0, a1))))))

noncomputable def c_I_Group_powCipher : Con0 := ⟨pk_I_Group_powCipher, rk_I_Group_powCipher, M_I_Group_powCipher⟩

set_option maxRecDepth 100000 in
theorem eq_I_Group_powCipher (x : In pk_I_Group_powCipher) : semF (mkE [(78, c_I_Group_pow)]) h_I_Group_powCipher (info Tryz.f43) pk_I_Group_powCipher rk_I_Group_powCipher x = M_I_Group_powCipher x := (semFF_eq _ _ _ _ _ _).symm.trans (by kernel_rfl)

set_option maxRecDepth 100000 in
theorem m_I_Group_powCipher : ConOK Tryz.prog 43 c_I_Group_powCipher := fn_ok (tyOK _) (E := mkE [(78, c_I_Group_pow)]) (consOK_cons m_I_Group_pow (consOK_nil rfl)) Tryz.func43 (h := h_I_Group_powCipher) (by kernel_rfl) eq_I_Group_powCipher

/-- I_Group_hasEqual -/
def pk_I_Group_hasEqual : List PK := [.data (.cons (.int .i64) (.cons (.int .i64) (.one (.int .i64)))), .data (.cons (.int .i64) (.cons (.int .i64) (.cons (.int .i64) (.one (.int .i64)))))]
def rk_I_Group_hasEqual : List (Ty × Bool) := [(.bool, false)]
def h_I_Group_hasEqual : Hints := { loops := [] }
noncomputable def M_I_Group_hasEqual (x : ((Int × (Int × Int)) × (Int × (Int × (Int × Int))))) : (Option Bool) :=
  (bindO (M_I_Group_hasAll ((x.1.1, (x.1.2.1, x.1.2.2)), (x.2.1 :: (x.2.2.1 :: (x.2.2.2.1 :: (x.2.2.2.2 :: ([] : List Int))))))) (fun (a0 : Bool) => (some a0)))

noncomputable def c_I_Group_hasEqual : Con0 := ⟨pk_I_Group_hasEqual, rk_I_Group_hasEqual, M_I_Group_hasEqual⟩

set_option maxRecDepth 100000 in
theorem eq_I_Group_hasEqual (x : In pk_I_Group_hasEqual) : semF (mkE [(72, c_I_Group_hasAll)]) h_I_Group_hasEqual (info Tryz.f109) pk_I_Group_hasEqual rk_I_Group_hasEqual x = M_I_Group_hasEqual x := (semFF_eq _ _ _ _ _ _).symm.trans (by kernel_rfl)

set_option maxRecDepth 100000 in
theorem m_I_Group_hasEqual : ConOK Tryz.prog 109 c_I_Group_hasEqual := fn_ok (tyOK _) (E := mkE [(72, c_I_Group_hasAll)]) (consOK_cons m_I_Group_hasAll (consOK_nil rfl)) Tryz.func109 (h := h_I_Group_hasEqual) (by kernel_rfl) eq_I_Group_hasEqual

/-- I_Group_isTrue -/
def pk_I_Group_isTrue : List PK := [.data (.cons (.int .i64) (.cons (.int .i64) (.one (.int .i64)))), .data (.cons (.int .i64) (.cons (.int .i64) (.cons (.int .i64) (.one (.int .i64))))), .data (.int .i64)]
def rk_I_Group_isTrue : List (Ty × Bool) := [(.bool, false)]
def h_I_Group_isTrue : Hints := { loops := [] }
noncomputable def M_I_Group_isTrue (x : ((Int × (Int × Int)) × ((Int × (Int × (Int × Int))) × Int))) : (Option Bool) :=
  (bindO (M_I_Group_pow ((x.1.1, (x.1.2.1, x.1.2.2)), (x.2.1.1, x.2.2))) (fun (a0 : Int) => (cond (a0 == x.2.1.2.1) (bindO (M_I_Group_pow ((x.1.1, (x.1.2.1, x.1.2.2)), (x.2.1.2.2.1, x.2.2))) (fun (a1 : Int) => (some (a1 == x.2.1.2.2.2)))) (some false))))

noncomputable def c_I_Group_isTrue : Con0 := ⟨pk_I_Group_isTrue, rk_I_Group_isTrue, M_I_Group_isTrue⟩

set_option maxRecDepth 100000 in
theorem eq_I_Group_isTrue (x : In pk_I_Group_isTrue) : semF (mkE [(78, c_I_Group_pow)]) h_I_Group_isTrue (info Tryz.f130) pk_I_Group_isTrue rk_I_Group_isTrue x = M_I_Group_isTrue x := (semFF_eq _ _ _ _ _ _).symm.trans (by kernel_rfl)

set_option maxRecDepth 100000 in
theorem m_I_Group_isTrue : ConOK Tryz.prog 130 c_I_Group_isTrue := fn_ok (tyOK _) (E := mkE [(78, c_I_Group_pow)]) (consOK_cons m_I_Group_pow (consOK_nil rfl)) Tryz.func130 (h := h_I_Group_isTrue) (by kernel_rfl) eq_I_Group_isTrue

/-- I_IsTrueEqual -/
def pk_I_IsTrueEqual : List PK := [.data (.cons (.int .i64) (.cons (.int .i64) (.one (.int .i64)))), .data (.cons (.int .i64) (.cons (.int .i64) (.cons (.int .i64) (.one (.int .i64))))), .data (.int .i64)]
def rk_I_IsTrueEqual : List (Ty × Bool) := [(.bool, false), (.bool, false)]
def h_I_IsTrueEqual : Hints := { loops := [] }
noncomputable def M_I_IsTrueEqual (x : ((Int × (Int × Int)) × ((Int × (Int × (Int × Int))) × Int))) : (Option (Bool × Bool)) :=
  (bindO (M_I_IsValidGroup (x.1.1, (x.1.2.1, x.1.2.2))) (fun (a0 : Bool) => (cond (not a0) (some (false, false)) (bindO (M_I_Group_hasEqual ((x.1.1, (x.1.2.1, x.1.2.2)), (x.2.1.1, (x.2.1.2.1, (x.2.1.2.2.1, x.2.1.2.2.2))))) (fun (a1 : Bool) => (cond (not a1) (some (false, false)) (bindO (M_I_Group_isExp ((x.1.1, (x.1.2.1, x.1.2.2)), x.2.2)) (fun (a2 : Bool) => (cond (not a2) (some (false, false)) (bindO (M_I_Group_isTrue ((x.1.1, (x.1.2.1, x.1.2.2)), ((x.2.1.1, (x.2.1.2.1, (x.2.1.2.2.1, x.2.1.2.2.2))), x.2.2))) (fun (a3 : Bool) => (some (a3, true)))))))))))))

noncomputable def c_I_IsTrueEqual : Con0 := ⟨pk_I_IsTrueEqual, rk_I_IsTrueEqual, M_I_IsTrueEqual⟩

set_option maxRecDepth 100000 in
theorem eq_I_IsTrueEqual (x : In pk_I_IsTrueEqual) : semF (mkE [(32, c_I_IsValidGroup), (109, c_I_Group_hasEqual), (49, c_I_Group_isExp), (130, c_I_Group_isTrue)]) h_I_IsTrueEqual (info Tryz.f100) pk_I_IsTrueEqual rk_I_IsTrueEqual x = M_I_IsTrueEqual x := (semFF_eq _ _ _ _ _ _).symm.trans (by kernel_rfl)

set_option maxRecDepth 100000 in
theorem m_I_IsTrueEqual : ConOK Tryz.prog 100 c_I_IsTrueEqual := fn_ok (tyOK _) (E := mkE [(32, c_I_IsValidGroup), (109, c_I_Group_hasEqual), (49, c_I_Group_isExp), (130, c_I_Group_isTrue)]) (consOK_cons m_I_IsValidGroup (consOK_cons m_I_Group_hasEqual (consOK_cons m_I_Group_isExp (consOK_cons m_I_Group_isTrue (consOK_nil rfl))))) Tryz.func100 (h := h_I_IsTrueEqual) (by kernel_rfl) eq_I_IsTrueEqual

/-- I_Group_exp -/
def pk_I_Group_exp : List PK := [.data (.cons (.int .i64) (.cons (.int .i64) (.one (.int .i64)))), .data (.int .i64)]
def rk_I_Group_exp : List (Ty × Bool) := [((.int .i64), false)]
def h_I_Group_exp : Hints := { loops := [] }
noncomputable def M_I_Group_exp (x : ((Int × (Int × Int)) × Int)) : (Option Int) :=
  (bindO (M_I_mod (x.2, x.1.2.1)) (fun (a0 : Int) => (some a0)))

noncomputable def c_I_Group_exp : Con0 := ⟨pk_I_Group_exp, rk_I_Group_exp, M_I_Group_exp⟩

set_option maxRecDepth 100000 in
theorem eq_I_Group_exp (x : In pk_I_Group_exp) : semF (mkE [(121, c_I_mod)]) h_I_Group_exp (info Tryz.f148) pk_I_Group_exp rk_I_Group_exp x = M_I_Group_exp x := (semFF_eq _ _ _ _ _ _).symm.trans (by kernel_rfl)

set_option maxRecDepth 100000 in
theorem m_I_Group_exp : ConOK Tryz.prog 148 c_I_Group_exp := fn_ok (tyOK _) (E := mkE [(121, c_I_mod)]) (consOK_cons m_I_mod (consOK_nil rfl)) Tryz.func148 (h := h_I_Group_exp) (by kernel_rfl) eq_I_Group_exp

/-- I_Group_proveLinear -/
def pk_I_Group_proveLinear : List PK := [.data (.cons (.int .i64) (.cons (.int .i64) (.one (.int .i64)))), .data .str, .data (.sl (.sl (.int .i64))), .data (.sl (.int .i64)), .data (.sl (.int .i64))]
def rk_I_Group_proveLinear : List (Ty × Bool) := [((.cons (.sl (.int .i64)) (.cons (.sl (.int .i64)) (.one (.sl (.int .i64))))), true), (.bool, false)]
def h_I_Group_proveLinear : Hints := { loops := [(0, { items := [.slot 46 (.data (.int .i64) []), .cell 12 0 (.own (.int .i64) true), .cell 12 1 (.own (.int .i64) true), .cell 12 2 (.own (.int .i64) true)], kill := [0, 1, 2, 4] ++ (sgN 6 4 ++ ([11] ++ (sgN 14 30 ++ (sgN 47 21)))) })] }
noncomputable def M_I_Group_proveLinear (x : ((Int × (Int × Int)) × (ByteArray × ((List (List Int)) × ((List Int) × (List Int)))))) : (Option (((List Int) × ((List Int) × (List Int))) × Bool)) :=
  (bindO (M_I_Group_images ((x.1.1, (x.1.2.1, x.1.2.2)), (x.2.2.1, x.2.2.2.2))) (fun (a0 : (List Int)) => (bindO (M_slices_Concat_sint_int x.2.2.1) (fun (a1 : (List Int)) => (bindO (M_I_Group_images ((x.1.1, (x.1.2.1, x.1.2.2)), (x.2.2.1, x.2.2.2.1))) (fun (a2 : (List Int)) => (bindO (M_slices_Concat_sint_int (a1 :: (a2 :: (a0 :: ([] : List (List Int)))))) (fun (a3 : (List Int)) => (bindO (M_I_Group_challenge ((x.1.1, (x.1.2.1, x.1.2.2)), (x.2.1, a3))) (fun (a4 : (Int × Bool)) => (cond (not a4.2) (some ((([] : List Int), (([] : List Int), ([] : List Int))), false)) (loopO (fun (again5 : ((Int × ((List Int) × ((List Int) × (List Int)))) → (Option (((List Int) × ((List Int) × (List Int))) × Bool)))) => (fun (s6 : (Int × ((List Int) × ((List Int) × (List Int))))) => (cond (decide (s6.1 < (((List.length x.2.2.2.2) : Nat) : Int))) (bindO (getI x.2.2.2.2 s6.1) (fun (a7 : Int) => (bindO (getI x.2.2.2.1 s6.1) (fun (a8 : Int) => (bindO (some (IntKind.wrap .i64 (a4.1 * a8))) (fun (a9 : Int) => (bindO (some (IntKind.wrap .i64 (a7 + a9))) (fun (a10 : Int) => (bindO (M_I_Group_exp ((x.1.1, (x.1.2.1, x.1.2.2)), a10)) (fun (a11 : Int) => (bindO (guardO (lenOk ((List.length s6.2.2.2) + (List.length (a11 :: ([] : List Int)))))) (fun (a12 : Unit) => (bindO (some (s6.2.2.2 ++ (a11 :: ([] : List Int)))) (fun (a13 : (List Int)) => (bindO (some (IntKind.wrap .i64 (s6.1 + (1 : Int)))) (fun (a14 : Int) => (again5 (a14, (s6.2.1, (s6.2.2.1, a13)))))))))))))))))))) (some ((s6.2.1, (s6.2.2.1, s6.2.2.2)), true))))) ((0 : Int), (a0, ((a4.1 :: ([] : List Int)), ([] : List Int))))))))))))))))

noncomputable def c_I_Group_proveLinear : Con0 := ⟨pk_I_Group_proveLinear, rk_I_Group_proveLinear, M_I_Group_proveLinear⟩

set_option maxRecDepth 100000 in
theorem eq_I_Group_proveLinear (x : In pk_I_Group_proveLinear) : semF (mkE [(141, c_I_Group_images), (76, c_slices_Concat_sint_int), (117, c_I_Group_challenge), (148, c_I_Group_exp)]) h_I_Group_proveLinear (info Tryz.f131) pk_I_Group_proveLinear rk_I_Group_proveLinear x = M_I_Group_proveLinear x := (semFF_eq _ _ _ _ _ _).symm.trans (by kernel_rfl)

set_option maxRecDepth 100000 in
theorem m_I_Group_proveLinear : ConOK Tryz.prog 131 c_I_Group_proveLinear := fn_ok (tyOK _) (E := mkE [(141, c_I_Group_images), (76, c_slices_Concat_sint_int), (117, c_I_Group_challenge), (148, c_I_Group_exp)]) (consOK_cons m_I_Group_images (consOK_cons m_slices_Concat_sint_int (consOK_cons m_I_Group_challenge (consOK_cons m_I_Group_exp (consOK_nil rfl))))) Tryz.func131 (h := h_I_Group_proveLinear) (by kernel_rfl) eq_I_Group_proveLinear

/-- I_ProveLinear -/
def pk_I_ProveLinear : List PK := [.data (.cons (.int .i64) (.cons (.int .i64) (.one (.int .i64)))), .data .str, .data (.sl (.sl (.int .i64))), .data (.sl (.int .i64)), .data (.sl (.int .i64))]
def rk_I_ProveLinear : List (Ty × Bool) := [((.cons (.sl (.int .i64)) (.cons (.sl (.int .i64)) (.one (.sl (.int .i64))))), true), (.bool, false)]
def h_I_ProveLinear : Hints := { loops := [] }
noncomputable def M_I_ProveLinear (x : ((Int × (Int × Int)) × (ByteArray × ((List (List Int)) × ((List Int) × (List Int)))))) : (Option (((List Int) × ((List Int) × (List Int))) × Bool)) :=
  (bindO (M_I_IsValidGroup (x.1.1, (x.1.2.1, x.1.2.2))) (fun (a0 : Bool) => (cond (not a0) (some ((([] : List Int), (([] : List Int), ([] : List Int))), false)) (bindO (M_I_isLabel x.2.1) (fun (a1 : Bool) => (cond (not a1) (some ((([] : List Int), (([] : List Int), ([] : List Int))), false)) (bindO (M_I_Group_areRows ((x.1.1, (x.1.2.1, x.1.2.2)), x.2.2.1)) (fun (a2 : Bool) => (cond (not a2) (some ((([] : List Int), (([] : List Int), ([] : List Int))), false)) (bindO (getI x.2.2.1 (0 : Int)) (fun (a3 : (List Int)) => (cond ((((List.length x.2.2.2.1) : Nat) : Int) != (((List.length a3) : Nat) : Int)) (some ((([] : List Int), (([] : List Int), ([] : List Int))), false)) (cond ((((List.length x.2.2.2.2) : Nat) : Int) != (((List.length x.2.2.2.1) : Nat) : Int)) (some ((([] : List Int), (([] : List Int), ([] : List Int))), false)) (bindO (M_I_Group_areExps ((x.1.1, (x.1.2.1, x.1.2.2)), x.2.2.2.1)) (fun (a4 : Bool) => (cond (not a4) (some ((([] : List Int), (([] : List Int), ([] : List Int))), false)) (bindO (M_I_Group_areExps ((x.1.1, (x.1.2.1, x.1.2.2)), x.2.2.2.2)) (fun (a5 : Bool) => (cond (not a5) (some ((([] : List Int), (([] : List Int), ([] : List Int))), false)) (bindO (M_I_Group_proveLinear ((x.1.1, (x.1.2.1, x.1.2.2)), (x.2.1, (x.2.2.1, (x.2.2.2.1, x.2.2.2.2))))) (fun (a6 : (((List Int) × ((List Int) × (List Int))) × Bool)) => (some ((a6.1.1, (a6.1.2.1, a6.1.2.2)), a6.2)))))))))))))))))))))))

noncomputable def c_I_ProveLinear : Con0 := ⟨pk_I_ProveLinear, rk_I_ProveLinear, M_I_ProveLinear⟩

set_option maxRecDepth 100000 in
theorem eq_I_ProveLinear (x : In pk_I_ProveLinear) : semF (mkE [(32, c_I_IsValidGroup), (70, c_I_isLabel), (113, c_I_Group_areRows), (42, c_I_Group_areExps), (131, c_I_Group_proveLinear)]) h_I_ProveLinear (info Tryz.f101) pk_I_ProveLinear rk_I_ProveLinear x = M_I_ProveLinear x := (semFF_eq _ _ _ _ _ _).symm.trans (by kernel_rfl)

set_option maxRecDepth 100000 in
theorem m_I_ProveLinear : ConOK Tryz.prog 101 c_I_ProveLinear := fn_ok (tyOK _) (E := mkE [(32, c_I_IsValidGroup), (70, c_I_isLabel), (113, c_I_Group_areRows), (42, c_I_Group_areExps), (131, c_I_Group_proveLinear)]) (consOK_cons m_I_IsValidGroup (consOK_cons m_I_isLabel (consOK_cons m_I_Group_areRows (consOK_cons m_I_Group_areExps (consOK_cons m_I_Group_proveLinear (consOK_nil rfl)))))) Tryz.func101 (h := h_I_ProveLinear) (by kernel_rfl) eq_I_ProveLinear

/-- I_ProveEqual -/
def pk_I_ProveEqual : List PK := [.data (.cons (.int .i64) (.cons (.int .i64) (.one (.int .i64)))), .data .str, .data (.cons (.int .i64) (.cons (.int .i64) (.cons (.int .i64) (.one (.int .i64))))), .data (.int .i64), .data (.int .i64)]
def rk_I_ProveEqual : List (Ty × Bool) := [((.cons (.sl (.int .i64)) (.cons (.sl (.int .i64)) (.one (.sl (.int .i64))))), true), (.bool, false)]
def h_I_ProveEqual : Hints := { loops := [] }
noncomputable def M_I_ProveEqual (x : ((Int × (Int × Int)) × (ByteArray × ((Int × (Int × (Int × Int))) × (Int × Int))))) : (Option (((List Int) × ((List Int) × (List Int))) × Bool)) :=
  (bindO (M_I_IsTrueEqual ((x.1.1, (x.1.2.1, x.1.2.2)), ((x.2.2.1.1, (x.2.2.1.2.1, (x.2.2.1.2.2.1, x.2.2.1.2.2.2))), x.2.2.2.1))) (fun (a0 : (Bool × Bool)) => (cond (not a0.2) (some ((([] : List Int), (([] : List Int), ([] : List Int))), false)) (cond (not a0.1) (some ((([] : List Int), (([] : List Int), ([] : List Int))), false)) (bindO (M_I_equalRows (x.2.2.1.1, (x.2.2.1.2.1, (x.2.2.1.2.2.1, x.2.2.1.2.2.2)))) (fun (a1 : (List (List Int))) => (bindO (M_I_ProveLinear ((x.1.1, (x.1.2.1, x.1.2.2)), (x.2.1, (a1, ((x.2.2.2.1 :: ([] : List Int)), (x.2.2.2.2 :: ([] : List Int))))))) (fun (a2 : (((List Int) × ((List Int) × (List Int))) × Bool)) => (some ((a2.1.1, (a2.1.2.1, a2.1.2.2)), a2.2))))))))))

noncomputable def c_I_ProveEqual : Con0 := ⟨pk_I_ProveEqual, rk_I_ProveEqual, M_I_ProveEqual⟩

set_option maxRecDepth 100000 in
theorem eq_I_ProveEqual (x : In pk_I_ProveEqual) : semF (mkE [(100, c_I_IsTrueEqual), (62, c_I_equalRows), (101, c_I_ProveLinear)]) h_I_ProveEqual (info Tryz.f44) pk_I_ProveEqual rk_I_ProveEqual x = M_I_ProveEqual x := (semFF_eq _ _ _ _ _ _).symm.trans (by kernel_rfl)

set_option maxRecDepth 100000 in
theorem m_I_ProveEqual : ConOK Tryz.prog 44 c_I_ProveEqual := fn_ok (tyOK _) (E := mkE [(100, c_I_IsTrueEqual), (62, c_I_equalRows), (101, c_I_ProveLinear)]) (consOK_cons m_I_IsTrueEqual (consOK_cons m_I_equalRows (consOK_cons m_I_ProveLinear (consOK_nil rfl)))) Tryz.func44 (h := h_I_ProveEqual) (by kernel_rfl) eq_I_ProveEqual

/-- I_BlindBy -/
def pk_I_BlindBy : List PK := [.data (.cons (.int .i64) (.cons (.int .i64) (.one (.int .i64)))), .data (.cons (.int .i64) (.one (.int .i64))), .data (.int .i64), .data (.int .i64), .data (.int .i64)]
def rk_I_BlindBy : List (Ty × Bool) := [((.cons (.int .i64) (.cons (.cons (.int .i64) (.one (.int .i64))) (.one (.cons (.sl (.int .i64)) (.cons (.sl (.int .i64)) (.one (.sl (.int .i64)))))))), true), (.bool, false)]
def h_I_BlindBy : Hints := { loops := [] }
noncomputable def M_I_BlindBy (x : ((Int × (Int × Int)) × ((Int × Int) × (Int × (Int × Int))))) : (Option ((Int × ((Int × Int) × ((List Int) × ((List Int) × (List Int))))) × Bool)) :=
  (bindO (M_I_IsValidGroup (x.1.1, (x.1.2.1, x.1.2.2))) (fun (a0 : Bool) => (cond (not a0) (some (((0 : Int), (((0 : Int), (0 : Int)), (([] : List Int), (([] : List Int), ([] : List Int))))), false)) (bindO (M_I_Group_hasCipher ((x.1.1, (x.1.2.1, x.1.2.2)), (x.2.1.1, x.2.1.2))) (fun (a1 : Bool) => (cond (not a1) (some (((0 : Int), (((0 : Int), (0 : Int)), (([] : List Int), (([] : List Int), ([] : List Int))))), false)) (bindO (M_I_isTrustee x.2.2.1) (fun (a2 : Bool) => (cond (not a2) (some (((0 : Int), (((0 : Int), (0 : Int)), (([] : List Int), (([] : List Int), ([] : List Int))))), false)) (bindO (M_I_Group_areExps ((x.1.1, (x.1.2.1, x.1.2.2)), (x.2.2.2.1 :: (x.2.2.2.2 :: ([] : List Int))))) (fun (a3 : Bool) => (cond (not a3) (some (((0 : Int), (((0 : Int), (0 : Int)), (([] : List Int), (([] : List Int), ([] : List Int))))), false)) (cond (x.2.2.2.1 == (0 : Int)) (some (((0 : Int), (((0 : Int), (0 : Int)), (([] : List Int), (([] : List Int), ([] : List Int))))), false)) (bindO (M_I_Group_powCipher ((x.1.1, (x.1.2.1, x.1.2.2)), ((x.2.1.1, x.2.1.2), x.2.2.2.1))) (fun (a4 : (Int × Int)) => (bindO (M_I_blindStatement ((x.2.1.1, x.2.1.2), (a4.1, a4.2))) (fun (a5 : (Int × (Int × (Int × Int)))) => (bindO (M_I_ProveEqual ((x.1.1, (x.1.2.1, x.1.2.2)), ((bytesOf [98, 108, 105, 110, 100]), ((a5.1, (a5.2.1, (a5.2.2.1, a5.2.2.2))), (x.2.2.2.1, x.2.2.2.2))))) (fun (a6 : (((List Int) × ((List Int) × (List Int))) × Bool)) => (cond (not a6.2) (some (((0 : Int), (((0 : Int), (0 : Int)), (([] : List Int), (([] : List Int), ([] : List Int))))), false)) (some ((x.2.2.1, ((a4.1, a4.2), (a6.1.1, (a6.1.2.1, a6.1.2.2)))), true))))))))))))))))))))))

noncomputable def c_I_BlindBy : Con0 := ⟨pk_I_BlindBy, rk_I_BlindBy, M_I_BlindBy⟩

set_option maxRecDepth 100000 in
theorem eq_I_BlindBy (x : In pk_I_BlindBy) : semF (mkE [(32, c_I_IsValidGroup), (33, c_I_Group_hasCipher), (41, c_I_isTrustee), (42, c_I_Group_areExps), (43, c_I_Group_powCipher), (45, c_I_blindStatement), (44, c_I_ProveEqual)]) h_I_BlindBy (info Tryz.f9) pk_I_BlindBy rk_I_BlindBy x = M_I_BlindBy x := (semFF_eq _ _ _ _ _ _).symm.trans (by kernel_rfl)

set_option maxRecDepth 100000 in
theorem m_I_BlindBy : ConOK Tryz.prog 9 c_I_BlindBy := fn_ok (tyOK _) (E := mkE [(32, c_I_IsValidGroup), (33, c_I_Group_hasCipher), (41, c_I_isTrustee), (42, c_I_Group_areExps), (43, c_I_Group_powCipher), (45, c_I_blindStatement), (44, c_I_ProveEqual)]) (consOK_cons m_I_IsValidGroup (consOK_cons m_I_Group_hasCipher (consOK_cons m_I_isTrustee (consOK_cons m_I_Group_areExps (consOK_cons m_I_Group_powCipher (consOK_cons m_I_blindStatement (consOK_cons m_I_ProveEqual (consOK_nil rfl)))))))) Tryz.func9 (h := h_I_BlindBy) (by kernel_rfl) eq_I_BlindBy

/-- S_BlindBy -/
def pk_S_BlindBy : List PK := [.data (.cons (.int .i64) (.cons (.int .i64) (.one (.int .i64)))), .data (.cons (.int .i64) (.one (.int .i64))), .data (.int .i64), .data (.int .i64), .data (.int .i64)]
def rk_S_BlindBy : List (Ty × Bool) := [((.cons (.int .i64) (.cons (.cons (.int .i64) (.one (.int .i64))) (.one (.cons (.sl (.int .i64)) (.cons (.sl (.int .i64)) (.one (.sl (.int .i64)))))))), true), (.bool, false)]
def h_S_BlindBy : Hints := { loops := [] }
noncomputable def M_S_BlindBy (x : ((Int × (Int × Int)) × ((Int × Int) × (Int × (Int × Int))))) : (Option ((Int × ((Int × Int) × ((List Int) × ((List Int) × (List Int))))) × Bool)) :=
  (bindO (M_S_l2Good (x.1.1, (x.1.2.1, x.1.2.2))) (fun (a0 : Bool) => (cond (not a0) (some (((0 : Int), (((0 : Int), (0 : Int)), (([] : List Int), (([] : List Int), ([] : List Int))))), false)) (bindO (M_S_eGood ((x.1.1, (x.1.2.1, x.1.2.2)), ((x.2.1.1, x.2.1.2) :: ([] : List (Int × Int))))) (fun (a1 : Bool) => (cond (not a1) (some (((0 : Int), (((0 : Int), (0 : Int)), (([] : List Int), (([] : List Int), ([] : List Int))))), false)) (bindO (M_S_l1In (x.2.2.1, ((1 : Int), (7 : Int)))) (fun (a2 : Bool) => (cond (not a2) (some (((0 : Int), (((0 : Int), (0 : Int)), (([] : List Int), (([] : List Int), ([] : List Int))))), false)) (bindO (M_S_gExps ((x.1.1, (x.1.2.1, x.1.2.2)), (x.2.2.2.1 :: (x.2.2.2.2 :: ([] : List Int))))) (fun (a3 : Bool) => (cond (not a3) (some (((0 : Int), (((0 : Int), (0 : Int)), (([] : List Int), (([] : List Int), ([] : List Int))))), false)) (cond (x.2.2.2.1 == (0 : Int)) (some (((0 : Int), (((0 : Int), (0 : Int)), (([] : List Int), (([] : List Int), ([] : List Int))))), false)) (bindO (M_S_qBlind ((x.1.1, (x.1.2.1, x.1.2.2)), ((x.2.1.1, x.2.1.2), (x.2.2.1, (x.2.2.2.1, x.2.2.2.2))))) (fun (a4 : (Int × ((Int × Int) × ((List Int) × ((List Int) × (List Int)))))) => (some ((a4.1, ((a4.2.1.1, a4.2.1.2), (a4.2.2.1, (a4.2.2.2.1, a4.2.2.2.2)))), true)))))))))))))))))

noncomputable def c_S_BlindBy : Con0 := ⟨pk_S_BlindBy, rk_S_BlindBy, M_S_BlindBy⟩

set_option maxRecDepth 100000 in
theorem eq_S_BlindBy (x : In pk_S_BlindBy) : semF (mkE [(37, c_S_l2Good), (38, c_S_eGood), (46, c_S_l1In), (47, c_S_gExps), (48, c_S_qBlind)]) h_S_BlindBy (info Tryz.f10) pk_S_BlindBy rk_S_BlindBy x = M_S_BlindBy x := (semFF_eq _ _ _ _ _ _).symm.trans (by kernel_rfl)

set_option maxRecDepth 100000 in
theorem m_S_BlindBy : ConOK Tryz.prog 10 c_S_BlindBy := fn_ok (tyOK _) (E := mkE [(37, c_S_l2Good), (38, c_S_eGood), (46, c_S_l1In), (47, c_S_gExps), (48, c_S_qBlind)]) (consOK_cons m_S_l2Good (consOK_cons m_S_eGood (consOK_cons m_S_l1In (consOK_cons m_S_gExps (consOK_cons m_S_qBlind (consOK_nil rfl)))))) Tryz.func10 (h := h_S_BlindBy) (by kernel_rfl) eq_S_BlindBy

/-- L_qInts -/
def pk_L_qInts : List PK := [.data (.sl (.int .i64)), .data (.sl (.int .i64))]
def rk_L_qInts : List (Ty × Bool) := [(.bool, false)]
def h_L_qInts : Hints := { loops := [(0, { items := [.slot 13 (.data (.int .i64) [])], kill := sgN 2 10 ++ (sgN 14 12) })] }
noncomputable def M_L_qInts (x : ((List Int) × (List Int))) : (Option Bool) :=
  (cond ((((List.length x.1) : Nat) : Int) != (((List.length x.2) : Nat) : Int)) (some false) (loopO (fun (again0 : (Int → (Option Bool))) => (fun (s1 : Int) => (cond (decide (s1 < (((List.length x.1) : Nat) : Int))) (bindO (getI x.1 s1) (fun (a2 : Int) => (bindO (getI x.2 s1) (fun (a3 : Int) => (cond (a2 != a3) (some false) (bindO (some (IntKind.wrap .i64 (s1 + (1 : Int)))) (fun (a4 : Int) => (again0 a4)))))))) (some true)))) (0 : Int)))

noncomputable def c_L_qInts : Con0 := ⟨pk_L_qInts, rk_L_qInts, M_L_qInts⟩

set_option maxRecDepth 100000 in
theorem eq_L_qInts (x : In pk_L_qInts) : semF (mkE []) h_L_qInts (info Tryz.f11) pk_L_qInts rk_L_qInts x = M_L_qInts x := (semFF_eq _ _ _ _ _ _).symm.trans (by kernel_rfl)

set_option maxRecDepth 100000 in
theorem m_L_qInts : ConOK Tryz.prog 11 c_L_qInts := fn_ok (tyOK _) (E := mkE []) (consOK_nil rfl) Tryz.func11 (h := h_L_qInts) (by kernel_rfl) eq_L_qInts

/-- L_qProof -/
def pk_L_qProof : List PK := [.data (.cons (.sl (.int .i64)) (.cons (.sl (.int .i64)) (.one (.sl (.int .i64))))), .data (.cons (.sl (.int .i64)) (.cons (.sl (.int .i64)) (.one (.sl (.int .i64)))))]
def rk_L_qProof : List (Ty × Bool) := [(.bool, false)]
def h_L_qProof : Hints := { loops := [] }
noncomputable def M_L_qProof (x : (((List Int) × ((List Int) × (List Int))) × ((List Int) × ((List Int) × (List Int))))) : (Option Bool) :=
  (bindO (M_L_qInts (x.1.1, x.2.1)) (fun (a0 : Bool) => (cond a0 (bindO (M_L_qInts (x.1.2.1, x.2.2.1)) (fun (a1 : Bool) => (cond a1 (bindO (M_L_qInts (x.1.2.2, x.2.2.2)) (fun (a2 : Bool) => (some a2))) (some false)))) (some false))))

noncomputable def c_L_qProof : Con0 := ⟨pk_L_qProof, rk_L_qProof, M_L_qProof⟩

set_option maxRecDepth 100000 in
theorem eq_L_qProof (x : In pk_L_qProof) : semF (mkE [(11, c_L_qInts)]) h_L_qProof (info Tryz.f12) pk_L_qProof rk_L_qProof x = M_L_qProof x := (semFF_eq _ _ _ _ _ _).symm.trans (by kernel_rfl)

set_option maxRecDepth 100000 in
theorem m_L_qProof : ConOK Tryz.prog 12 c_L_qProof := fn_ok (tyOK _) (E := mkE [(11, c_L_qInts)]) (consOK_cons m_L_qInts (consOK_nil rfl)) Tryz.func12 (h := h_L_qProof) (by kernel_rfl) eq_L_qProof

/-- I_VerifyBlind -/
def pk_I_VerifyBlind : List PK := [.data (.cons (.int .i64) (.cons (.int .i64) (.one (.int .i64)))), .data (.cons (.int .i64) (.one (.int .i64))), .data (.cons (.int .i64) (.cons (.cons (.int .i64) (.one (.int .i64))) (.one (.cons (.sl (.int .i64)) (.cons (.sl (.int .i64)) (.one (.sl (.int .i64))))))))]
def rk_I_VerifyBlind : List (Ty × Bool) := [(.bool, false), (.bool, false)]
def h_I_VerifyBlind : Hints := { loops := [] }
noncomputable def M_I_VerifyBlind (x : ((Int × (Int × Int)) × ((Int × Int) × (Int × ((Int × Int) × ((List Int) × ((List Int) × (List Int)))))))) : (Option (Bool × Bool)) :=
  (bindO (M_I_IsValidGroup (x.1.1, (x.1.2.1, x.1.2.2))) (fun (a0 : Bool) => (cond (not a0) (some (false, false)) (bindO (M_I_Group_hasCipher ((x.1.1, (x.1.2.1, x.1.2.2)), (x.2.1.1, x.2.1.2))) (fun (a1 : Bool) => (cond (not a1) (some (false, false)) (bindO (M_I_Group_isBlind ((x.1.1, (x.1.2.1, x.1.2.2)), ((x.2.1.1, x.2.1.2), (x.2.2.1, ((x.2.2.2.1.1, x.2.2.2.1.2), (x.2.2.2.2.1, (x.2.2.2.2.2.1, x.2.2.2.2.2.2))))))) (fun (a2 : Bool) => (some (a2, true))))))))))

noncomputable def c_I_VerifyBlind : Con0 := ⟨pk_I_VerifyBlind, rk_I_VerifyBlind, M_I_VerifyBlind⟩

set_option maxRecDepth 100000 in
theorem eq_I_VerifyBlind (x : In pk_I_VerifyBlind) : semF (mkE [(32, c_I_IsValidGroup), (33, c_I_Group_hasCipher), (35, c_I_Group_isBlind)]) h_I_VerifyBlind (info Tryz.f13) pk_I_VerifyBlind rk_I_VerifyBlind x = M_I_VerifyBlind x := (semFF_eq _ _ _ _ _ _).symm.trans (by kernel_rfl)

set_option maxRecDepth 100000 in
theorem m_I_VerifyBlind : ConOK Tryz.prog 13 c_I_VerifyBlind := fn_ok (tyOK _) (E := mkE [(32, c_I_IsValidGroup), (33, c_I_Group_hasCipher), (35, c_I_Group_isBlind)]) (consOK_cons m_I_IsValidGroup (consOK_cons m_I_Group_hasCipher (consOK_cons m_I_Group_isBlind (consOK_nil rfl)))) Tryz.func13 (h := h_I_VerifyBlind) (by kernel_rfl) eq_I_VerifyBlind

/-- I_PowCipher -/
def pk_I_PowCipher : List PK := [.data (.cons (.int .i64) (.cons (.int .i64) (.one (.int .i64)))), .data (.cons (.int .i64) (.one (.int .i64))), .data (.int .i64)]
def rk_I_PowCipher : List (Ty × Bool) := [((.cons (.int .i64) (.one (.int .i64))), false), (.bool, false)]
def h_I_PowCipher : Hints := { loops := [] }
noncomputable def M_I_PowCipher (x : ((Int × (Int × Int)) × ((Int × Int) × Int))) : (Option ((Int × Int) × Bool)) :=
  (bindO (M_I_IsValidGroup (x.1.1, (x.1.2.1, x.1.2.2))) (fun (a0 : Bool) => (cond (not a0) (some (((0 : Int), (0 : Int)), false)) (bindO (M_I_Group_hasCipher ((x.1.1, (x.1.2.1, x.1.2.2)), (x.2.1.1, x.2.1.2))) (fun (a1 : Bool) => (cond (not a1) (some (((0 : Int), (0 : Int)), false)) (bindO (M_I_Group_isExp ((x.1.1, (x.1.2.1, x.1.2.2)), x.2.2)) (fun (a2 : Bool) => (cond (not a2) (some (((0 : Int), (0 : Int)), false)) (bindO (M_I_Group_powCipher ((x.1.1, (x.1.2.1, x.1.2.2)), ((x.2.1.1, x.2.1.2), x.2.2))) (fun (a3 : (Int × Int)) => (some ((a3.1, a3.2), true)))))))))))))

noncomputable def c_I_PowCipher : Con0 := ⟨pk_I_PowCipher, rk_I_PowCipher, M_I_PowCipher⟩

set_option maxRecDepth 100000 in
theorem eq_I_PowCipher (x : In pk_I_PowCipher) : semF (mkE [(32, c_I_IsValidGroup), (33, c_I_Group_hasCipher), (49, c_I_Group_isExp), (43, c_I_Group_powCipher)]) h_I_PowCipher (info Tryz.f14) pk_I_PowCipher rk_I_PowCipher x = M_I_PowCipher x := (semFF_eq _ _ _ _ _ _).symm.trans (by kernel_rfl)

set_option maxRecDepth 100000 in
theorem m_I_PowCipher : ConOK Tryz.prog 14 c_I_PowCipher := fn_ok (tyOK _) (E := mkE [(32, c_I_IsValidGroup), (33, c_I_Group_hasCipher), (49, c_I_Group_isExp), (43, c_I_Group_powCipher)]) (consOK_cons m_I_IsValidGroup (consOK_cons m_I_Group_hasCipher (consOK_cons m_I_Group_isExp (consOK_cons m_I_Group_powCipher (consOK_nil rfl))))) Tryz.func14 (h := h_I_PowCipher) (by kernel_rfl) eq_I_PowCipher

/-- L_FnBlinds -/
def pk_L_FnBlinds : List PK := [.data (.sl (.int .u8)), .data (.sl (.int .u8))]
def rk_L_FnBlinds : List (Ty × Bool) := [(.bool, false)]
def h_L_FnBlinds : Hints := { loops := [] }
noncomputable def M_L_FnBlinds (x : ((List Int) × (List Int))) : (Option Bool) :=
  (bindO (some (IntKind.wrap .i64 ((((List.length x.1) : Nat) : Int) + (((List.length x.2) : Nat) : Int)))) (fun (a0 : Int) => (cond (decide (a0 > (1048576 : Int))) (some true) (bindO (M_S_DrawCombineBlinds x.1) (fun (a1 : ((Int × (Int × Int)) × ((Int × Int) × (List (Int × ((Int × Int) × ((List Int) × ((List Int) × (List Int))))))))) => (bindO (M_I_CombineBlinds a1) (fun (a2 : ((Int × Int) × ((List Int) × Bool))) => (bindO (M_S_CombineBlinds a1) (fun (a3 : ((Int × Int) × ((List Int) × Bool))) => (bindO (M_S_DrawBlindBy x.2) (fun (a4 : ((Int × (Int × Int)) × ((Int × Int) × (Int × (Int × Int))))) => (bindO (M_I_BlindBy a4) (fun (a5 : ((Int × ((Int × Int) × ((List Int) × ((List Int) × (List Int))))) × Bool)) => (bindO (M_S_BlindBy a4) (fun (a6 : ((Int × ((Int × Int) × ((List Int) × ((List Int) × (List Int))))) × Bool)) => (cond (not (a2.2.2 == a3.2.2)) (some false) (cond (not ((a2.1.1 == a3.1.1) && (a2.1.2 == a3.1.2))) (some false) (bindO (M_L_qInts (a2.2.1, a3.2.1)) (fun (a7 : Bool) => (cond (not a7) (some false) (cond (not (a5.2 == a6.2)) (some false) (cond (a5.1.1 != a6.1.1) (some false) (cond (not ((a5.1.2.1.1 == a6.1.2.1.1) && (a5.1.2.1.2 == a6.1.2.1.2))) (some false) (bindO (M_L_qProof (a5.1.2.2, a6.1.2.2)) (fun (a8 : Bool) => (cond (not a8) (some false) (cond (not a5.2) (some true) (bindO (M_I_VerifyBlind (a4.1, (a4.2.1, a5.1))) (fun (a9 : (Bool × Bool)) => (bindO (M_I_CombineBlinds (a4.1, (a4.2.1, (a5.1 :: (a5.1 :: ([] : List (Int × ((Int × Int) × ((List Int) × ((List Int) × (List Int))))))))))) (fun (a10 : ((Int × Int) × ((List Int) × Bool))) => (bindO (M_I_PowCipher (a4.1, (a4.2.1, a4.2.2.2.1))) (fun (a11 : ((Int × Int) × Bool)) => (cond a9.1 (cond a9.2 (cond a10.2.2 (cond a11.2 (cond ((a10.1.1 == a5.1.2.1.1) && (a10.1.2 == a5.1.2.1.2)) (cond ((a11.1.1 == a10.1.1) && (a11.1.2 == a10.1.2)) (bindO (M_L_qInts (a10.2.1, (a4.2.2.1 :: ([] : List Int)))) (fun (a12 : Bool) => (some a12))) (some false)) (some false)) (some false)) (some false)) (some false)) (some false)))))))))))))))))))))))))))))))))))

noncomputable def c_L_FnBlinds : Con0 := ⟨pk_L_FnBlinds, rk_L_FnBlinds, M_L_FnBlinds⟩

set_option maxRecDepth 100000 in
theorem eq_L_FnBlinds (x : In pk_L_FnBlinds) : semF (mkE [(5, c_S_DrawCombineBlinds), (6, c_I_CombineBlinds), (7, c_S_CombineBlinds), (8, c_S_DrawBlindBy), (9, c_I_BlindBy), (10, c_S_BlindBy), (11, c_L_qInts), (12, c_L_qProof), (13, c_I_VerifyBlind), (14, c_I_PowCipher)]) h_L_FnBlinds (info Tryz.f3) pk_L_FnBlinds rk_L_FnBlinds x = M_L_FnBlinds x := (semFF_eq _ _ _ _ _ _).symm.trans (by kernel_rfl)

set_option maxRecDepth 100000 in
theorem m_L_FnBlinds : ConOK Tryz.prog 3 c_L_FnBlinds := fn_ok (tyOK _) (E := mkE [(5, c_S_DrawCombineBlinds), (6, c_I_CombineBlinds), (7, c_S_CombineBlinds), (8, c_S_DrawBlindBy), (9, c_I_BlindBy), (10, c_S_BlindBy), (11, c_L_qInts), (12, c_L_qProof), (13, c_I_VerifyBlind), (14, c_I_PowCipher)]) (consOK_cons m_S_DrawCombineBlinds (consOK_cons m_I_CombineBlinds (consOK_cons m_S_CombineBlinds (consOK_cons m_S_DrawBlindBy (consOK_cons m_I_BlindBy (consOK_cons m_S_BlindBy (consOK_cons m_L_qInts (consOK_cons m_L_qProof (consOK_cons m_I_VerifyBlind (consOK_cons m_I_PowCipher (consOK_nil rfl))))))))))) Tryz.func3 (h := h_L_FnBlinds) (by kernel_rfl) eq_L_FnBlinds

/-- I_inverse -/
noncomputable def M_I_inverse (x : (Int × Int)) : (Option Int) :=
  (loopO (fun (again0 : ((Int × (Int × (Int × Int))) → (Option Int))) => (fun (s1 : (Int × (Int × (Int × Int)))) => (cond (s1.2.1 != (0 : Int)) (bindO (guardO (s1.2.1 != (0 : Int))) (fun (a2 : Unit) => (bindO (some (IntKind.wrap .i64 (Int.tdiv s1.1 s1.2.1))) (fun (a3 : Int) => (bindO (some (IntKind.wrap .i64 (a3 * s1.2.1))) (fun (a4 : Int) => (bindO (some (IntKind.wrap .i64 (s1.1 - a4))) (fun (a5 : Int) => (bindO (some (IntKind.wrap .i64 (a3 * s1.2.2.2))) (fun (a6 : Int) => (bindO (some (IntKind.wrap .i64 (s1.2.2.1 - a6))) (fun (a7 : Int) => (again0 (s1.2.1, (a5, (s1.2.2.2, a7)))))))))))))))) (cond (s1.1 != (1 : Int)) (some (0 : Int)) (bindO (M_I_mod (s1.2.2.1, x.2)) (fun (a8 : Int) => (some a8))))))) (x.2, (x.1, ((0 : Int), (1 : Int)))))

/-- S_nInverse -/
noncomputable def M_S_nInverse (x : (Int × Int)) : (Option (Int × Bool)) :=
  (bindO (M_S_nMod (x.1, x.2)) (fun (a0 : Int) => (loopO (fun (again1 : ((Int × (Int × (Int × Int))) → (Option (Int × Bool)))) => (fun (s2 : (Int × (Int × (Int × Int)))) => (cond (s2.2.1 != (0 : Int)) (bindO (guardO (s2.2.1 != (0 : Int))) (fun (a3 : Unit) => (bindO (some (IntKind.wrap .i64 (Int.tdiv s2.1 s2.2.1))) (fun (a4 : Int) => (bindO (some (IntKind.wrap .i64 (a4 * s2.2.1))) (fun (a5 : Int) => (bindO (some (IntKind.wrap .i64 (s2.1 - a5))) (fun (a6 : Int) => (bindO (some (IntKind.wrap .i64 (a4 * s2.2.2.2))) (fun (a7 : Int) => (bindO (some (IntKind.wrap .i64 (s2.2.2.1 - a7))) (fun (a8 : Int) => (again1 (s2.2.1, (a6, (s2.2.2.2, a8)))))))))))))))) (bindO (M_S_nMod (s2.2.2.1, x.2)) (fun (a9 : Int) => (some (a9, (s2.1 == (1 : Int))))))))) (a0, (x.2, ((1 : Int), (0 : Int)))))))

end Go.Proofs.YtoaabialmenfiaaGreat.Vd
