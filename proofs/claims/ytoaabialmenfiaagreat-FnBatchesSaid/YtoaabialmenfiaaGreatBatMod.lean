/- The functions of the law as plain functions on data, and that the program's functions are these. No conditions. -/
import Derived.Test.YtoaabialmenfiaaGreatVdS
import Derived.Test.YtoaabialmenfiaaGreatChecked
import Derived.KernelRfl
set_option linter.unusedVariables false
namespace Go.Proofs.YtoaabialmenfiaaGreat.Vd
def tys : List (Option Ty) := [none, none, some (.int .i64), some (.int .i64), some .bool, some (.int .u8), some (.int .u8), some (.cons (.int .i64) (.cons (.int .i64) (.cons .bool (.one (.int .u8))))), some (.cons (.int .i64) (.cons (.int .i64) (.cons .bool (.one (.int .u8))))), some .str, some .str, some .str, some (.int .u64), some (.cons .str (.one (.int .u64))), some (.cons .str (.one (.int .u64))), none, none, none, none, none, none, some (.int .i32), some (.sl (.int .u8)), some (.cons (.int .i64) (.cons (.int .i64) (.one (.int .i64)))), some (.cons (.int .i64) (.cons (.int .i64) (.one (.int .i64)))), some (.cons (.int .i64) (.one (.int .i64))), some (.cons (.int .i64) (.one (.int .i64))), some (.sl (.cons (.int .i64) (.cons (.cons (.int .i64) (.one (.int .i64))) (.one (.cons (.sl (.int .i64)) (.cons (.sl (.int .i64)) (.one (.sl (.int .i64))))))))), none, none, some (.sl (.int .i64)), none, none, none, none, some (.cons (.sl (.int .i64)) (.cons (.sl (.int .i64)) (.one (.sl (.int .i64))))), some (.cons (.sl (.int .i64)) (.cons (.sl (.int .i64)) (.one (.sl (.int .i64))))), some (.cons (.int .i64) (.cons (.cons (.int .i64) (.one (.int .i64))) (.one (.cons (.sl (.int .i64)) (.cons (.sl (.int .i64)) (.one (.sl (.int .i64)))))))), some (.cons (.int .i64) (.cons (.cons (.int .i64) (.one (.int .i64))) (.one (.cons (.sl (.int .i64)) (.cons (.sl (.int .i64)) (.one (.sl (.int .i64)))))))), none, none, none, none, none, none, none, none, none, some (.sl (.cons (.int .i64) (.cons (.int .i64) (.cons (.int .i64) (.one (.int .i64)))))), some (.sl (.cons (.sl (.int .i64)) (.cons (.sl (.int .i64)) (.one (.sl (.int .i64)))))), none, none, none, some (.cons (.int .i64) (.cons (.int .i64) (.cons (.int .i64) (.one (.int .i64))))), some (.cons (.int .i64) (.cons (.int .i64) (.cons (.int .i64) (.one (.int .i64))))), none, none, none, none, none, none, none, some (.int .u64), some (.cons (.sl (.int .u8)) (.cons (.int .i64) (.one (.int .u64)))), some (.cons (.sl (.int .u8)) (.cons (.int .i64) (.one (.int .u64)))), none, none, none, none, none, none, none, none, none, none, none, none, none, none, none, none, none, none, none, none, none, none, none, none, none, none, none, none, none, none, none, none, none, none, none, none, some (.sl (.sl (.int .i64))), none, none, none, none, none, none, none, none, none, none, none, none, none, none, none, none, none, none, none, none, none, none, none, some (.sl (.cons (.int .i64) (.one (.int .i64)))), none, none, none, none, none, none, none, none, none, some (.sl .str), none, none, none, none, none, none, none, none, none, none, none, none, none, some (.int .u64), none, none, none, none, none, none, none, none, none, none, none, none, none, none, none, none, none, none, some (.cons (.int .i64) (.one (.int .i64))), some (.cons (.int .i64) (.one (.int .i64))), none, none, none, none, none, none, some (.int .u32), some (.int .u8), some (.int .u8), none, none, some (.int .i32), some (.int .i32), none, none, none, none]
def others : List Nat := [1, 15, 16, 17, 29, 32, 34, 40, 41, 42, 44, 46, 47, 51, 52, 55, 57, 59, 60, 61, 65, 66, 67, 68, 69, 70, 71, 72, 73, 74, 75, 77, 78, 79, 80, 82, 83, 84, 85, 86, 87, 89, 90, 91, 92, 93, 94, 95, 96, 97, 99, 100, 102, 103, 104, 105, 106, 107, 108, 110, 112, 113, 114, 115, 116, 117, 118, 119, 120, 121, 122, 123, 124, 126, 127, 128, 129, 130, 131, 132, 133, 134, 136, 137, 138, 139, 140, 141, 142, 144, 145, 146, 148, 150, 151, 152, 153, 154, 155, 156, 157, 158, 159, 160, 161, 162, 163, 164, 165, 166, 167, 170, 179, 180, 185]
def pairs : List Nat := [25, 26, 168, 169]
def sgN : Nat → Nat → List Nat
  | _, 0 => []
  | a, n + 1 => a :: sgN (a + 1) n

noncomputable def mkE (con : List (Nat × Con0)) : Env := ⟨[], tys, others, pairs, con⟩

set_option maxRecDepth 100000 in
theorem tyOK (con : List (Nat × Con0)) : TyOK Tryz.prog (mkE con) := tyOK_of (E := mkE con) (by kernel_rfl) (by kernel_rfl) (by kernel_rfl)

/-- L_big -/
def pk_L_big : List PK := [.data (.sl (.int .u8)), .data (.sl (.int .u8))]
def rk_L_big : List (Ty × Bool) := [(.bool, false)]
def h_L_big : Hints := { loops := [] }
noncomputable def M_L_big (x : ((List Int) × (List Int))) : (Option Bool) :=
  (cond (decide ((((List.length x.1) : Nat) : Int) > (1048576 : Int))) (some true) (bindO (some (IntKind.wrap .i64 ((1048576 : Int) - (((List.length x.1) : Nat) : Int)))) (fun (a0 : Int) => (some (decide ((((List.length x.2) : Nat) : Int) > a0))))))

noncomputable def c_L_big : Con0 := ⟨pk_L_big, rk_L_big, M_L_big⟩

set_option maxRecDepth 100000 in
theorem eq_L_big (x : In pk_L_big) : semF (mkE []) h_L_big (info Tryz.f15) pk_L_big rk_L_big x = M_L_big x := (semFF_eq _ _ _ _ _ _).symm.trans (by kernel_rfl)

set_option maxRecDepth 100000 in
theorem m_L_big : ConOK Tryz.prog 15 c_L_big := fn_ok (tyOK _) (E := mkE []) (consOK_nil rfl) Tryz.func15 (h := h_L_big) (by kernel_rfl) eq_L_big

/-- S_l1Cur_next -/
def pk_S_l1Cur_next : List PK := [.mp (.cons (.sl (.int .u8)) (.cons (.int .i64) (.one (.int .u64)))) false]
def rk_S_l1Cur_next : List (Ty × Bool) := [((.int .i64), false)]
def h_S_l1Cur_next : Hints := { loops := [] }
noncomputable def M_S_l1Cur_next (x : ((List Int) × (Int × Int))) : (Option (Int × ((List Int) × (Int × Int)))) :=
  (cond (decide (x.2.1 < (((List.length x.1) : Nat) : Int))) (bindO (getI x.1 x.2.1) (fun (a0 : Int) => (bindO (some (IntKind.wrap .i64 (x.2.1 + (1 : Int)))) (fun (a1 : Int) => (bindO (some (IntKind.wrap .u64 (x.2.2 * (6364136223846793005 : Int)))) (fun (a2 : Int) => (bindO (some (IntKind.wrap .u64 (a2 + (IntKind.wrap .u64 (IntKind.wrap .i64 a0))))) (fun (a3 : Int) => (bindO (some (IntKind.wrap .u64 (a3 + (1442695040888963407 : Int)))) (fun (a4 : Int) => (cond (decide (a1 ≤ (((List.length x.1) : Nat) : Int))) (some ((IntKind.wrap .i64 a0), (x.1, (a1, a4)))) (bindO (guardO (decide ((0 : Int) ≤ (40 : Int)))) (fun (a5 : Unit) => (bindO (some (shr .u64 a4 (40 : Int))) (fun (a6 : Int) => (bindO (some (bits .and .u64 a6 (255 : Int))) (fun (a7 : Int) => (some ((IntKind.wrap .i64 a7), (x.1, (a1, a4))))))))))))))))))))) (bindO (some (IntKind.wrap .i64 (x.2.1 + (1 : Int)))) (fun (a8 : Int) => (bindO (some (IntKind.wrap .u64 (x.2.2 * (6364136223846793005 : Int)))) (fun (a9 : Int) => (bindO (some (IntKind.wrap .u64 (a9 + (IntKind.wrap .u64 (0 : Int))))) (fun (a10 : Int) => (bindO (some (IntKind.wrap .u64 (a10 + (1442695040888963407 : Int)))) (fun (a11 : Int) => (cond (decide (a8 ≤ (((List.length x.1) : Nat) : Int))) (some ((0 : Int), (x.1, (a8, a11)))) (bindO (guardO (decide ((0 : Int) ≤ (40 : Int)))) (fun (a12 : Unit) => (bindO (some (shr .u64 a11 (40 : Int))) (fun (a13 : Int) => (bindO (some (bits .and .u64 a13 (255 : Int))) (fun (a14 : Int) => (some ((IntKind.wrap .i64 a14), (x.1, (a8, a11))))))))))))))))))))

noncomputable def c_S_l1Cur_next : Con0 := ⟨pk_S_l1Cur_next, rk_S_l1Cur_next, M_S_l1Cur_next⟩

set_option maxRecDepth 100000 in
theorem eq_S_l1Cur_next (x : In pk_S_l1Cur_next) : semF (mkE []) h_S_l1Cur_next (info Tryz.f90) pk_S_l1Cur_next rk_S_l1Cur_next x = M_S_l1Cur_next x := (semFF_eq _ _ _ _ _ _).symm.trans (by kernel_rfl)

set_option maxRecDepth 100000 in
theorem m_S_l1Cur_next : ConOK Tryz.prog 90 c_S_l1Cur_next := fn_ok (tyOK _) (E := mkE []) (consOK_nil rfl) Tryz.func90 (h := h_S_l1Cur_next) (by kernel_rfl) eq_S_l1Cur_next

/-- S_l1Cur_pick -/
def pk_S_l1Cur_pick : List PK := [.mp (.cons (.sl (.int .u8)) (.cons (.int .i64) (.one (.int .u64)))) false, .data (.int .i64)]
def rk_S_l1Cur_pick : List (Ty × Bool) := [((.int .i64), false)]
def h_S_l1Cur_pick : Hints := { loops := [] }
noncomputable def M_S_l1Cur_pick (x : (((List Int) × (Int × Int)) × Int)) : (Option (Int × ((List Int) × (Int × Int)))) :=
  (cond (decide (x.2 ≤ (1 : Int))) (some ((0 : Int), (x.1.1, (x.1.2.1, x.1.2.2)))) (bindO (M_S_l1Cur_next (x.1.1, (x.1.2.1, x.1.2.2))) (fun (a0 : (Int × ((List Int) × (Int × Int)))) => (cond (decide (x.2 > (200 : Int))) (bindO (some (IntKind.wrap .i64 (a0.1 * (256 : Int)))) (fun (a1 : Int) => (bindO (M_S_l1Cur_next (a0.2.1, (a0.2.2.1, a0.2.2.2))) (fun (a2 : (Int × ((List Int) × (Int × Int)))) => (bindO (some (IntKind.wrap .i64 (a1 + a2.1))) (fun (a3 : Int) => (bindO (guardO (x.2 != (0 : Int))) (fun (a4 : Unit) => (bindO (some (Int.tmod a3 x.2)) (fun (a5 : Int) => (some (a5, (a2.2.1, (a2.2.2.1, a2.2.2.2)))))))))))))) (bindO (guardO (x.2 != (0 : Int))) (fun (a6 : Unit) => (bindO (some (Int.tmod a0.1 x.2)) (fun (a7 : Int) => (some (a7, (a0.2.1, (a0.2.2.1, a0.2.2.2))))))))))))

noncomputable def c_S_l1Cur_pick : Con0 := ⟨pk_S_l1Cur_pick, rk_S_l1Cur_pick, M_S_l1Cur_pick⟩

set_option maxRecDepth 100000 in
theorem eq_S_l1Cur_pick (x : In pk_S_l1Cur_pick) : semF (mkE [(90, c_S_l1Cur_next)]) h_S_l1Cur_pick (info Tryz.f30) pk_S_l1Cur_pick rk_S_l1Cur_pick x = M_S_l1Cur_pick x := (semFF_eq _ _ _ _ _ _).symm.trans (by kernel_rfl)

set_option maxRecDepth 100000 in
theorem m_S_l1Cur_pick : ConOK Tryz.prog 30 c_S_l1Cur_pick := fn_ok (tyOK _) (E := mkE [(90, c_S_l1Cur_next)]) (consOK_cons m_S_l1Cur_next (consOK_nil rfl)) Tryz.func30 (h := h_S_l1Cur_pick) (by kernel_rfl) eq_S_l1Cur_pick

/-- S_l1Cur_among -/
def pk_S_l1Cur_among : List PK := [.mp (.cons (.sl (.int .u8)) (.cons (.int .i64) (.one (.int .u64)))) false, .data (.sl (.int .i64))]
def rk_S_l1Cur_among : List (Ty × Bool) := [((.int .i64), false)]
def h_S_l1Cur_among : Hints := { loops := [] }
noncomputable def M_S_l1Cur_among (x : (((List Int) × (Int × Int)) × (List Int))) : (Option (Int × ((List Int) × (Int × Int)))) :=
  (bindO (M_S_l1Cur_pick ((x.1.1, (x.1.2.1, x.1.2.2)), (((List.length x.2) : Nat) : Int))) (fun (a0 : (Int × ((List Int) × (Int × Int)))) => (bindO (getI x.2 a0.1) (fun (a1 : Int) => (some (a1, (a0.2.1, (a0.2.2.1, a0.2.2.2))))))))

noncomputable def c_S_l1Cur_among : Con0 := ⟨pk_S_l1Cur_among, rk_S_l1Cur_among, M_S_l1Cur_among⟩

set_option maxRecDepth 100000 in
theorem eq_S_l1Cur_among (x : In pk_S_l1Cur_among) : semF (mkE [(30, c_S_l1Cur_pick)]) h_S_l1Cur_among (info Tryz.f88) pk_S_l1Cur_among rk_S_l1Cur_among x = M_S_l1Cur_among x := (semFF_eq _ _ _ _ _ _).symm.trans (by kernel_rfl)

set_option maxRecDepth 100000 in
theorem m_S_l1Cur_among : ConOK Tryz.prog 88 c_S_l1Cur_among := fn_ok (tyOK _) (E := mkE [(30, c_S_l1Cur_pick)]) (consOK_cons m_S_l1Cur_pick (consOK_nil rfl)) Tryz.func88 (h := h_S_l1Cur_among) (by kernel_rfl) eq_S_l1Cur_among

/-- S_l1In -/
def pk_S_l1In : List PK := [.data (.int .i64), .data (.int .i64), .data (.int .i64)]
def rk_S_l1In : List (Ty × Bool) := [(.bool, false)]
def h_S_l1In : Hints := { loops := [] }
noncomputable def M_S_l1In (x : (Int × (Int × Int))) : (Option Bool) :=
  (cond (decide (x.1 ≥ x.2.1)) (some (decide (x.1 ≤ x.2.2))) (some false))

noncomputable def c_S_l1In : Con0 := ⟨pk_S_l1In, rk_S_l1In, M_S_l1In⟩

set_option maxRecDepth 100000 in
theorem eq_S_l1In (x : In pk_S_l1In) : semF (mkE []) h_S_l1In (info Tryz.f46) pk_S_l1In rk_S_l1In x = M_S_l1In x := (semFF_eq _ _ _ _ _ _).symm.trans (by kernel_rfl)

set_option maxRecDepth 100000 in
theorem m_S_l1In : ConOK Tryz.prog 46 c_S_l1In := fn_ok (tyOK _) (E := mkE []) (consOK_nil rfl) Tryz.func46 (h := h_S_l1In) (by kernel_rfl) eq_S_l1In

/-- S_nPrime -/
def pk_S_nPrime : List PK := [.data (.int .i64)]
def rk_S_nPrime : List (Ty × Bool) := [(.bool, false)]
def h_S_nPrime : Hints := { loops := [(0, { items := [.slot 3 (.data (.int .i64) [])], kill := [1, 2] ++ (sgN 4 13) })] }
noncomputable def M_S_nPrime (x : Int) : (Option Bool) :=
  (cond (decide (x < (2 : Int))) (some false) (loopO (fun (again0 : (Int → (Option Bool))) => (fun (s1 : Int) => (bindO (some (IntKind.wrap .i64 (s1 * s1))) (fun (a2 : Int) => (cond (decide (a2 ≤ x)) (bindO (guardO (s1 != (0 : Int))) (fun (a3 : Unit) => (bindO (some (Int.tmod x s1)) (fun (a4 : Int) => (cond (a4 == (0 : Int)) (some false) (bindO (some (IntKind.wrap .i64 (s1 + (1 : Int)))) (fun (a5 : Int) => (again0 a5)))))))) (some true)))))) (2 : Int)))

noncomputable def c_S_nPrime : Con0 := ⟨pk_S_nPrime, rk_S_nPrime, M_S_nPrime⟩

set_option maxRecDepth 100000 in
theorem eq_S_nPrime (x : In pk_S_nPrime) : semF (mkE []) h_S_nPrime (info Tryz.f95) pk_S_nPrime rk_S_nPrime x = M_S_nPrime x := (semFF_eq _ _ _ _ _ _).symm.trans (by kernel_rfl)

set_option maxRecDepth 100000 in
theorem m_S_nPrime : ConOK Tryz.prog 95 c_S_nPrime := fn_ok (tyOK _) (E := mkE []) (consOK_nil rfl) Tryz.func95 (h := h_S_nPrime) (by kernel_rfl) eq_S_nPrime

/-- S_nPower -/
def pk_S_nPower : List PK := [.data (.int .i64), .data (.int .i64), .data (.int .i64)]
def rk_S_nPower : List (Ty × Bool) := [((.int .i64), false)]
def h_S_nPower : Hints := { loops := [(0, { items := [.slot 0 (.data (.int .i64) []), .slot 1 (.data (.int .i64) []), .slot 7 (.data (.int .i64) [])], kill := sgN 3 4 ++ (sgN 8 20) })] }
noncomputable def M_S_nPower (x : (Int × (Int × Int))) : (Option Int) :=
  (bindO (guardO (x.2.2 != (0 : Int))) (fun (a0 : Unit) => (bindO (some (Int.tmod (1 : Int) x.2.2)) (fun (a1 : Int) => (loopO (fun (again2 : ((Int × (Int × Int)) → (Option Int))) => (fun (s3 : (Int × (Int × Int))) => (cond (decide (s3.2.1 > (0 : Int))) (bindO (guardO ((2 : Int) != (0 : Int))) (fun (a4 : Unit) => (bindO (some (Int.tmod s3.2.1 (2 : Int))) (fun (a5 : Int) => (cond (a5 == (1 : Int)) (bindO (some (IntKind.wrap .i64 (s3.2.2 * s3.1))) (fun (a6 : Int) => (bindO (guardO (x.2.2 != (0 : Int))) (fun (a7 : Unit) => (bindO (some (Int.tmod a6 x.2.2)) (fun (a8 : Int) => (bindO (some (IntKind.wrap .i64 (s3.1 * s3.1))) (fun (a9 : Int) => (bindO (guardO (x.2.2 != (0 : Int))) (fun (a10 : Unit) => (bindO (some (Int.tmod a9 x.2.2)) (fun (a11 : Int) => (bindO (guardO ((2 : Int) != (0 : Int))) (fun (a12 : Unit) => (bindO (some (IntKind.wrap .i64 (Int.tdiv s3.2.1 (2 : Int)))) (fun (a13 : Int) => (again2 (a11, (a13, a8))))))))))))))))))) (bindO (some (IntKind.wrap .i64 (s3.1 * s3.1))) (fun (a14 : Int) => (bindO (guardO (x.2.2 != (0 : Int))) (fun (a15 : Unit) => (bindO (some (Int.tmod a14 x.2.2)) (fun (a16 : Int) => (bindO (guardO ((2 : Int) != (0 : Int))) (fun (a17 : Unit) => (bindO (some (IntKind.wrap .i64 (Int.tdiv s3.2.1 (2 : Int)))) (fun (a18 : Int) => (again2 (a16, (a18, s3.2.2)))))))))))))))))) (some s3.2.2)))) (x.1, (x.2.1, a1)))))))

noncomputable def c_S_nPower : Con0 := ⟨pk_S_nPower, rk_S_nPower, M_S_nPower⟩

set_option maxRecDepth 100000 in
theorem eq_S_nPower (x : In pk_S_nPower) : semF (mkE []) h_S_nPower (info Tryz.f66) pk_S_nPower rk_S_nPower x = M_S_nPower x := (semFF_eq _ _ _ _ _ _).symm.trans (by kernel_rfl)

set_option maxRecDepth 100000 in
theorem m_S_nPower : ConOK Tryz.prog 66 c_S_nPower := fn_ok (tyOK _) (E := mkE []) (consOK_nil rfl) Tryz.func66 (h := h_S_nPower) (by kernel_rfl) eq_S_nPower

/-- S_MakeGroup -/
def pk_S_MakeGroup : List PK := [.data (.int .i64)]
def rk_S_MakeGroup : List (Ty × Bool) := [((.cons (.int .i64) (.cons (.int .i64) (.one (.int .i64)))), false), (.bool, false)]
def h_S_MakeGroup : Hints := { loops := [(0, { items := [.slot 4 (.data (.int .i64) []), .cell 2 0 (.data (.int .i64) []), .cell 2 1 (.data (.int .i64) []), .cell 2 2 (.data (.int .i64) [])], kill := [1, 3] ++ (sgN 5 41) }), (2, { items := [.slot 5 (.data (.int .i64) [])], kill := [1, 3] ++ (sgN 6 40) })] }
noncomputable def M_S_MakeGroup (x : Int) : (Option ((Int × (Int × Int)) × Bool)) :=
  (bindO (M_S_l1In (x, ((2 : Int), (1000000 : Int)))) (fun (a0 : Bool) => (cond (not a0) (some (((0 : Int), ((0 : Int), (0 : Int))), false)) (bindO (M_S_nPrime x) (fun (a1 : Bool) => (cond (not a1) (some (((0 : Int), ((0 : Int), (0 : Int))), false)) (bindO (some (IntKind.wrap .i64 (x + (1 : Int)))) (fun (a2 : Int) => (loopO (fun (again3 : ((Int × (Int × (Int × Int))) → (Option ((Int × (Int × Int)) × Bool)))) => (fun (s4 : (Int × (Int × (Int × Int)))) => (cond (decide (s4.1 ≤ (2000000000 : Int))) (bindO (M_S_nPrime s4.1) (fun (a5 : Bool) => (cond (not a5) (bindO (some (IntKind.wrap .i64 (s4.1 + x))) (fun (a6 : Int) => (again3 (a6, (s4.2.1, (s4.2.2.1, s4.2.2.2)))))) (loopO (fun (again7 : (Int → (Option ((Int × (Int × Int)) × Bool)))) => (fun (s8 : Int) => (bindO (some (IntKind.wrap .i64 (s4.1 - (1 : Int)))) (fun (a9 : Int) => (bindO (guardO (x != (0 : Int))) (fun (a10 : Unit) => (bindO (some (IntKind.wrap .i64 (Int.tdiv a9 x))) (fun (a11 : Int) => (bindO (M_S_nPower (s8, (a11, s4.1))) (fun (a12 : Int) => (cond (a12 == (1 : Int)) (bindO (some (IntKind.wrap .i64 (s8 + (1 : Int)))) (fun (a13 : Int) => (again7 a13))) (bindO (some (IntKind.wrap .i64 (s4.1 - (1 : Int)))) (fun (a14 : Int) => (bindO (guardO (x != (0 : Int))) (fun (a15 : Unit) => (bindO (some (IntKind.wrap .i64 (Int.tdiv a14 x))) (fun (a16 : Int) => (bindO (M_S_nPower (s8, (a16, s4.1))) (fun (a17 : Int) => (some ((s4.1, (x, a17)), true))))))))))))))))))))) (2 : Int))))) (some (((0 : Int), ((0 : Int), (0 : Int))), false))))) (a2, ((0 : Int), ((0 : Int), (0 : Int)))))))))))))

noncomputable def c_S_MakeGroup : Con0 := ⟨pk_S_MakeGroup, rk_S_MakeGroup, M_S_MakeGroup⟩

set_option maxRecDepth 100000 in
theorem eq_S_MakeGroup (x : In pk_S_MakeGroup) : semF (mkE [(46, c_S_l1In), (95, c_S_nPrime), (66, c_S_nPower)]) h_S_MakeGroup (info Tryz.f124) pk_S_MakeGroup rk_S_MakeGroup x = M_S_MakeGroup x := (semFF_eq _ _ _ _ _ _).symm.trans (by kernel_rfl)

set_option maxRecDepth 100000 in
theorem m_S_MakeGroup : ConOK Tryz.prog 124 c_S_MakeGroup := fn_ok (tyOK _) (E := mkE [(46, c_S_l1In), (95, c_S_nPrime), (66, c_S_nPower)]) (consOK_cons m_S_l1In (consOK_cons m_S_nPrime (consOK_cons m_S_nPower (consOK_nil rfl)))) Tryz.func124 (h := h_S_MakeGroup) (by kernel_rfl) eq_S_MakeGroup

/-- S_l1Cur_tiny -/
def pk_S_l1Cur_tiny : List PK := [.mp (.cons (.sl (.int .u8)) (.cons (.int .i64) (.one (.int .u64)))) false]
def rk_S_l1Cur_tiny : List (Ty × Bool) := [((.cons (.int .i64) (.cons (.int .i64) (.one (.int .i64)))), false)]
def h_S_l1Cur_tiny : Hints := { loops := [] }
noncomputable def M_S_l1Cur_tiny (x : ((List Int) × (Int × Int))) : (Option ((Int × (Int × Int)) × ((List Int) × (Int × Int)))) :=
  (bindO (M_S_l1Cur_among ((x.1, (x.2.1, x.2.2)), ((3 : Int) :: ((5 : Int) :: ((5 : Int) :: ((7 : Int) :: ((11 : Int) :: ((11 : Int) :: ((13 : Int) :: ((23 : Int) :: ([] : List Int))))))))))) (fun (a0 : (Int × ((List Int) × (Int × Int)))) => (bindO (M_S_MakeGroup a0.1) (fun (a1 : ((Int × (Int × Int)) × Bool)) => (some ((a1.1.1, (a1.1.2.1, a1.1.2.2)), (a0.2.1, (a0.2.2.1, a0.2.2.2))))))))

noncomputable def c_S_l1Cur_tiny : Con0 := ⟨pk_S_l1Cur_tiny, rk_S_l1Cur_tiny, M_S_l1Cur_tiny⟩

set_option maxRecDepth 100000 in
theorem eq_S_l1Cur_tiny (x : In pk_S_l1Cur_tiny) : semF (mkE [(88, c_S_l1Cur_among), (124, c_S_MakeGroup)]) h_S_l1Cur_tiny (info Tryz.f125) pk_S_l1Cur_tiny rk_S_l1Cur_tiny x = M_S_l1Cur_tiny x := (semFF_eq _ _ _ _ _ _).symm.trans (by kernel_rfl)

set_option maxRecDepth 100000 in
theorem m_S_l1Cur_tiny : ConOK Tryz.prog 125 c_S_l1Cur_tiny := fn_ok (tyOK _) (E := mkE [(88, c_S_l1Cur_among), (124, c_S_MakeGroup)]) (consOK_cons m_S_l1Cur_among (consOK_cons m_S_MakeGroup (consOK_nil rfl))) Tryz.func125 (h := h_S_l1Cur_tiny) (by kernel_rfl) eq_S_l1Cur_tiny

/-- S_nMod -/
def pk_S_nMod : List PK := [.data (.int .i64), .data (.int .i64)]
def rk_S_nMod : List (Ty × Bool) := [((.int .i64), false)]
def h_S_nMod : Hints := { loops := [] }
noncomputable def M_S_nMod (x : (Int × Int)) : (Option Int) :=
  (bindO (guardO (x.2 != (0 : Int))) (fun (a0 : Unit) => (bindO (some (Int.tmod x.1 x.2)) (fun (a1 : Int) => (bindO (some (IntKind.wrap .i64 (a1 + x.2))) (fun (a2 : Int) => (bindO (guardO (x.2 != (0 : Int))) (fun (a3 : Unit) => (bindO (some (Int.tmod a2 x.2)) (fun (a4 : Int) => (some a4)))))))))))

noncomputable def c_S_nMod : Con0 := ⟨pk_S_nMod, rk_S_nMod, M_S_nMod⟩

set_option maxRecDepth 100000 in
theorem eq_S_nMod (x : In pk_S_nMod) : semF (mkE []) h_S_nMod (info Tryz.f67) pk_S_nMod rk_S_nMod x = M_S_nMod x := (semFF_eq _ _ _ _ _ _).symm.trans (by kernel_rfl)

set_option maxRecDepth 100000 in
theorem m_S_nMod : ConOK Tryz.prog 67 c_S_nMod := fn_ok (tyOK _) (E := mkE []) (consOK_nil rfl) Tryz.func67 (h := h_S_nMod) (by kernel_rfl) eq_S_nMod

/-- S_gExp -/
def pk_S_gExp : List PK := [.data (.cons (.int .i64) (.cons (.int .i64) (.one (.int .i64)))), .data (.int .i64), .data (.int .i64)]
def rk_S_gExp : List (Ty × Bool) := [((.int .i64), false)]
def h_S_gExp : Hints := { loops := [] }
noncomputable def M_S_gExp (x : ((Int × (Int × Int)) × (Int × Int))) : (Option Int) :=
  (bindO (M_S_nMod (x.2.2, x.1.2.1)) (fun (a0 : Int) => (bindO (M_S_nPower (x.2.1, (a0, x.1.1))) (fun (a1 : Int) => (some a1)))))

noncomputable def c_S_gExp : Con0 := ⟨pk_S_gExp, rk_S_gExp, M_S_gExp⟩

set_option maxRecDepth 100000 in
theorem eq_S_gExp (x : In pk_S_gExp) : semF (mkE [(67, c_S_nMod), (66, c_S_nPower)]) h_S_gExp (info Tryz.f86) pk_S_gExp rk_S_gExp x = M_S_gExp x := (semFF_eq _ _ _ _ _ _).symm.trans (by kernel_rfl)

set_option maxRecDepth 100000 in
theorem m_S_gExp : ConOK Tryz.prog 86 c_S_gExp := fn_ok (tyOK _) (E := mkE [(67, c_S_nMod), (66, c_S_nPower)]) (consOK_cons m_S_nMod (consOK_cons m_S_nPower (consOK_nil rfl))) Tryz.func86 (h := h_S_gExp) (by kernel_rfl) eq_S_gExp

/-- S_l1Cur_group -/
def pk_S_l1Cur_group : List PK := [.mp (.cons (.sl (.int .u8)) (.cons (.int .i64) (.one (.int .u64)))) false]
def rk_S_l1Cur_group : List (Ty × Bool) := [((.cons (.int .i64) (.cons (.int .i64) (.one (.int .i64)))), false)]
def h_S_l1Cur_group : Hints := { loops := [] }
noncomputable def M_S_l1Cur_group (x : ((List Int) × (Int × Int))) : (Option ((Int × (Int × Int)) × ((List Int) × (Int × Int)))) :=
  (bindO (M_S_l1Cur_pick ((x.1, (x.2.1, x.2.2)), (6 : Int))) (fun (a0 : (Int × ((List Int) × (Int × Int)))) => (cond (a0.1 == (0 : Int)) (some (((1000000007 : Int), ((500000003 : Int), (4 : Int))), (a0.2.1, (a0.2.2.1, a0.2.2.2)))) (cond (a0.1 == (1 : Int)) (bindO (M_S_l1Cur_among ((a0.2.1, (a0.2.2.1, a0.2.2.2)), ((101 : Int) :: ((1009 : Int) :: ((1019 : Int) :: ((65537 : Int) :: ((999983 : Int) :: ([] : List Int)))))))) (fun (a1 : (Int × ((List Int) × (Int × Int)))) => (bindO (M_S_MakeGroup a1.1) (fun (a2 : ((Int × (Int × Int)) × Bool)) => (some ((a2.1.1, (a2.1.2.1, a2.1.2.2)), (a1.2.1, (a1.2.2.1, a1.2.2.2)))))))) (bindO (M_S_l1Cur_tiny (a0.2.1, (a0.2.2.1, a0.2.2.2))) (fun (a3 : ((Int × (Int × Int)) × ((List Int) × (Int × Int)))) => (bindO (some (IntKind.wrap .i64 (a3.1.2.1 - (1 : Int)))) (fun (a4 : Int) => (bindO (M_S_l1Cur_pick ((a3.2.1, (a3.2.2.1, a3.2.2.2)), a4)) (fun (a5 : (Int × ((List Int) × (Int × Int)))) => (bindO (some (IntKind.wrap .i64 ((1 : Int) + a5.1))) (fun (a6 : Int) => (bindO (M_S_gExp ((a3.1.1, (a3.1.2.1, a3.1.2.2)), (a3.1.2.2, a6))) (fun (a7 : Int) => (some ((a3.1.1, (a3.1.2.1, a7)), (a5.2.1, (a5.2.2.1, a5.2.2.2))))))))))))))))))

noncomputable def c_S_l1Cur_group : Con0 := ⟨pk_S_l1Cur_group, rk_S_l1Cur_group, M_S_l1Cur_group⟩

set_option maxRecDepth 100000 in
theorem eq_S_l1Cur_group (x : In pk_S_l1Cur_group) : semF (mkE [(30, c_S_l1Cur_pick), (88, c_S_l1Cur_among), (124, c_S_MakeGroup), (125, c_S_l1Cur_tiny), (86, c_S_gExp)]) h_S_l1Cur_group (info Tryz.f87) pk_S_l1Cur_group rk_S_l1Cur_group x = M_S_l1Cur_group x := (semFF_eq _ _ _ _ _ _).symm.trans (by kernel_rfl)

set_option maxRecDepth 100000 in
theorem m_S_l1Cur_group : ConOK Tryz.prog 87 c_S_l1Cur_group := fn_ok (tyOK _) (E := mkE [(30, c_S_l1Cur_pick), (88, c_S_l1Cur_among), (124, c_S_MakeGroup), (125, c_S_l1Cur_tiny), (86, c_S_gExp)]) (consOK_cons m_S_l1Cur_pick (consOK_cons m_S_l1Cur_among (consOK_cons m_S_MakeGroup (consOK_cons m_S_l1Cur_tiny (consOK_cons m_S_gExp (consOK_nil rfl)))))) Tryz.func87 (h := h_S_l1Cur_group) (by kernel_rfl) eq_S_l1Cur_group

/-- S_l1Cur_anyGroup -/
def pk_S_l1Cur_anyGroup : List PK := [.mp (.cons (.sl (.int .u8)) (.cons (.int .i64) (.one (.int .u64)))) false]
def rk_S_l1Cur_anyGroup : List (Ty × Bool) := [((.cons (.int .i64) (.cons (.int .i64) (.one (.int .i64)))), false)]
def h_S_l1Cur_anyGroup : Hints := { loops := [] }
noncomputable def M_S_l1Cur_anyGroup (x : ((List Int) × (Int × Int))) : (Option ((Int × (Int × Int)) × ((List Int) × (Int × Int)))) :=
  (bindO (M_S_l1Cur_group (x.1, (x.2.1, x.2.2))) (fun (a0 : ((Int × (Int × Int)) × ((List Int) × (Int × Int)))) => (bindO (M_S_l1Cur_pick ((a0.2.1, (a0.2.2.1, a0.2.2.2)), (24 : Int))) (fun (a1 : (Int × ((List Int) × (Int × Int)))) => (cond (a1.1 == (0 : Int)) (bindO (some (IntKind.wrap .i64 (a0.1.1 + (2 : Int)))) (fun (a2 : Int) => (bindO (M_S_l1Cur_among ((a1.2.1, (a1.2.2.1, a1.2.2.2)), ((0 : Int) :: (a2 :: ((4 : Int) :: ((- (7 : Int)) :: ([] : List Int))))))) (fun (a3 : (Int × ((List Int) × (Int × Int)))) => (some ((a3.1, (a0.1.2.1, a0.1.2.2)), (a3.2.1, (a3.2.2.1, a3.2.2.2)))))))) (cond (a1.1 == (1 : Int)) (bindO (some (IntKind.wrap .i64 (a0.1.2.1 + (1 : Int)))) (fun (a4 : Int) => (bindO (some (IntKind.wrap .i64 (a0.1.1 - (1 : Int)))) (fun (a5 : Int) => (bindO (M_S_l1Cur_among ((a1.2.1, (a1.2.2.1, a1.2.2.2)), ((0 : Int) :: ((1 : Int) :: (a4 :: (a5 :: ([] : List Int))))))) (fun (a6 : (Int × ((List Int) × (Int × Int)))) => (some ((a0.1.1, (a6.1, a0.1.2.2)), (a6.2.1, (a6.2.2.1, a6.2.2.2)))))))))) (cond (a1.1 == (2 : Int)) (bindO (some (IntKind.wrap .i64 (a0.1.1 - (1 : Int)))) (fun (a7 : Int) => (bindO (some (IntKind.wrap .i64 (a0.1.2.2 + (1 : Int)))) (fun (a8 : Int) => (bindO (M_S_l1Cur_among ((a1.2.1, (a1.2.2.1, a1.2.2.2)), ((0 : Int) :: ((1 : Int) :: (a7 :: (a0.1.1 :: (a8 :: ([] : List Int)))))))) (fun (a9 : (Int × ((List Int) × (Int × Int)))) => (some ((a0.1.1, (a0.1.2.1, a9.1)), (a9.2.1, (a9.2.2.1, a9.2.2.2)))))))))) (some ((a0.1.1, (a0.1.2.1, a0.1.2.2)), (a1.2.1, (a1.2.2.1, a1.2.2.2)))))))))))

noncomputable def c_S_l1Cur_anyGroup : Con0 := ⟨pk_S_l1Cur_anyGroup, rk_S_l1Cur_anyGroup, M_S_l1Cur_anyGroup⟩

set_option maxRecDepth 100000 in
theorem eq_S_l1Cur_anyGroup (x : In pk_S_l1Cur_anyGroup) : semF (mkE [(87, c_S_l1Cur_group), (30, c_S_l1Cur_pick), (88, c_S_l1Cur_among)]) h_S_l1Cur_anyGroup (info Tryz.f27) pk_S_l1Cur_anyGroup rk_S_l1Cur_anyGroup x = M_S_l1Cur_anyGroup x := (semFF_eq _ _ _ _ _ _).symm.trans (by kernel_rfl)

set_option maxRecDepth 100000 in
theorem m_S_l1Cur_anyGroup : ConOK Tryz.prog 27 c_S_l1Cur_anyGroup := fn_ok (tyOK _) (E := mkE [(87, c_S_l1Cur_group), (30, c_S_l1Cur_pick), (88, c_S_l1Cur_among)]) (consOK_cons m_S_l1Cur_group (consOK_cons m_S_l1Cur_pick (consOK_cons m_S_l1Cur_among (consOK_nil rfl)))) Tryz.func27 (h := h_S_l1Cur_anyGroup) (by kernel_rfl) eq_S_l1Cur_anyGroup

/-- S_l1Cur_of -/
def pk_S_l1Cur_of : List PK := [.mp (.cons (.sl (.int .u8)) (.cons (.int .i64) (.one (.int .u64)))) false, .data (.sl .str)]
def rk_S_l1Cur_of : List (Ty × Bool) := [(.str, false)]
def h_S_l1Cur_of : Hints := { loops := [] }
noncomputable def M_S_l1Cur_of (x : (((List Int) × (Int × Int)) × (List ByteArray))) : (Option (ByteArray × ((List Int) × (Int × Int)))) :=
  (bindO (M_S_l1Cur_pick ((x.1.1, (x.1.2.1, x.1.2.2)), (((List.length x.2) : Nat) : Int))) (fun (a0 : (Int × ((List Int) × (Int × Int)))) => (bindO (getI x.2 a0.1) (fun (a1 : ByteArray) => (some (a1, (a0.2.1, (a0.2.2.1, a0.2.2.2))))))))

noncomputable def c_S_l1Cur_of : Con0 := ⟨pk_S_l1Cur_of, rk_S_l1Cur_of, M_S_l1Cur_of⟩

set_option maxRecDepth 100000 in
theorem eq_S_l1Cur_of (x : In pk_S_l1Cur_of) : semF (mkE [(30, c_S_l1Cur_pick)]) h_S_l1Cur_of (info Tryz.f105) pk_S_l1Cur_of rk_S_l1Cur_of x = M_S_l1Cur_of x := (semFF_eq _ _ _ _ _ _).symm.trans (by kernel_rfl)

set_option maxRecDepth 100000 in
theorem m_S_l1Cur_of : ConOK Tryz.prog 105 c_S_l1Cur_of := fn_ok (tyOK _) (E := mkE [(30, c_S_l1Cur_pick)]) (consOK_cons m_S_l1Cur_pick (consOK_nil rfl)) Tryz.func105 (h := h_S_l1Cur_of) (by kernel_rfl) eq_S_l1Cur_of

/-- S_l1Cur_one -/
def pk_S_l1Cur_one : List PK := [.mp (.cons (.sl (.int .u8)) (.cons (.int .i64) (.one (.int .u64)))) false, .data (.int .i64)]
def rk_S_l1Cur_one : List (Ty × Bool) := [(.bool, false)]
def h_S_l1Cur_one : Hints := { loops := [] }
noncomputable def M_S_l1Cur_one (x : (((List Int) × (Int × Int)) × Int)) : (Option (Bool × ((List Int) × (Int × Int)))) :=
  (bindO (M_S_l1Cur_pick ((x.1.1, (x.1.2.1, x.1.2.2)), x.2)) (fun (a0 : (Int × ((List Int) × (Int × Int)))) => (some ((a0.1 == (0 : Int)), (a0.2.1, (a0.2.2.1, a0.2.2.2))))))

noncomputable def c_S_l1Cur_one : Con0 := ⟨pk_S_l1Cur_one, rk_S_l1Cur_one, M_S_l1Cur_one⟩

set_option maxRecDepth 100000 in
theorem eq_S_l1Cur_one (x : In pk_S_l1Cur_one) : semF (mkE [(30, c_S_l1Cur_pick)]) h_S_l1Cur_one (info Tryz.f31) pk_S_l1Cur_one rk_S_l1Cur_one x = M_S_l1Cur_one x := (semFF_eq _ _ _ _ _ _).symm.trans (by kernel_rfl)

set_option maxRecDepth 100000 in
theorem m_S_l1Cur_one : ConOK Tryz.prog 31 c_S_l1Cur_one := fn_ok (tyOK _) (E := mkE [(30, c_S_l1Cur_pick)]) (consOK_cons m_S_l1Cur_pick (consOK_nil rfl)) Tryz.func31 (h := h_S_l1Cur_one) (by kernel_rfl) eq_S_l1Cur_one

/-- S_l1Cur_label -/
def pk_S_l1Cur_label : List PK := [.mp (.cons (.sl (.int .u8)) (.cons (.int .i64) (.one (.int .u64)))) false]
def rk_S_l1Cur_label : List (Ty × Bool) := [(.str, false)]
def h_S_l1Cur_label : Hints := { loops := [(0, { items := [.slot 3 (.data .str []), .cell 0 0 (.data (.sl (.int .u8)) []), .cell 0 1 (.data (.int .i64) []), .cell 0 2 (.data (.int .u64) [])], kill := [1, 2] ++ (sgN 4 14) })] }
noncomputable def M_S_l1Cur_label (x : ((List Int) × (Int × Int))) : (Option (ByteArray × ((List Int) × (Int × Int)))) :=
  (bindO (M_S_l1Cur_of (x, ((bytesOf []) :: ((bytesOf [97]) :: ((bytesOf [118, 111, 116, 101]) :: ((bytesOf [109, 105, 120]) :: ((bytesOf [98, 111, 97, 114, 100, 32, 49]) :: ((bytesOf [107, 101, 121]) :: ((bytesOf [108, 111, 110, 103, 32, 108, 97, 98, 101, 108, 32, 119, 105, 116, 104, 32, 115, 101, 118, 101, 114, 97, 108, 32, 119, 111, 114, 100, 115, 32, 105, 110, 32, 105, 116]) :: ([] : List ByteArray)))))))))) (fun (a0 : (ByteArray × ((List Int) × (Int × Int)))) => (bindO (M_S_l1Cur_one (a0.2, (16 : Int))) (fun (a1 : (Bool × ((List Int) × (Int × Int)))) => (cond a1.1 (loopO (fun (again2 : ((ByteArray × ((List Int) × (Int × Int))) → (Option (ByteArray × ((List Int) × (Int × Int)))))) => (fun (s3 : (ByteArray × ((List Int) × (Int × Int)))) => (bindO (M_S_l1Cur_pick (s3.2, (2 : Int))) (fun (a4 : (Int × ((List Int) × (Int × Int)))) => (bindO (some (IntKind.wrap .i64 ((40 : Int) + a4.1))) (fun (a5 : Int) => (cond (decide ((((ByteArray.size s3.1) : Nat) : Int) < a5)) (bindO (guardO (lenOk ((ByteArray.size s3.1) + (ByteArray.size (bytesOf [120]))))) (fun (a6 : Unit) => (again2 ((s3.1 ++ (bytesOf [120])), a4.2)))) (some (s3.1, a4.2))))))))) (a0.1, a1.2)) (some (a0.1, a1.2)))))))

noncomputable def c_S_l1Cur_label : Con0 := ⟨pk_S_l1Cur_label, rk_S_l1Cur_label, M_S_l1Cur_label⟩

set_option maxRecDepth 100000 in
theorem eq_S_l1Cur_label (x : In pk_S_l1Cur_label) : semF (mkE [(105, c_S_l1Cur_of), (31, c_S_l1Cur_one), (30, c_S_l1Cur_pick)]) h_S_l1Cur_label (info Tryz.f50) pk_S_l1Cur_label rk_S_l1Cur_label x = M_S_l1Cur_label x := (semFF_eq _ _ _ _ _ _).symm.trans (by kernel_rfl)

set_option maxRecDepth 100000 in
theorem m_S_l1Cur_label : ConOK Tryz.prog 50 c_S_l1Cur_label := fn_ok (tyOK _) (E := mkE [(105, c_S_l1Cur_of), (31, c_S_l1Cur_one), (30, c_S_l1Cur_pick)]) (consOK_cons m_S_l1Cur_of (consOK_cons m_S_l1Cur_one (consOK_cons m_S_l1Cur_pick (consOK_nil rfl)))) Tryz.func50 (h := h_S_l1Cur_label) (by kernel_rfl) eq_S_l1Cur_label

/-- S_l1Cur_expo -/
def pk_S_l1Cur_expo : List PK := [.mp (.cons (.sl (.int .u8)) (.cons (.int .i64) (.one (.int .u64)))) false, .data (.cons (.int .i64) (.cons (.int .i64) (.one (.int .i64))))]
def rk_S_l1Cur_expo : List (Ty × Bool) := [((.int .i64), false)]
def h_S_l1Cur_expo : Hints := { loops := [] }
noncomputable def M_S_l1Cur_expo (x : (((List Int) × (Int × Int)) × (Int × (Int × Int)))) : (Option (Int × ((List Int) × (Int × Int)))) :=
  (cond (decide (x.2.2.1 < (2 : Int))) (some ((0 : Int), (x.1.1, (x.1.2.1, x.1.2.2)))) (bindO (M_S_l1Cur_pick ((x.1.1, (x.1.2.1, x.1.2.2)), (60000 : Int))) (fun (a0 : (Int × ((List Int) × (Int × Int)))) => (bindO (some (IntKind.wrap .i64 (a0.1 * (60000 : Int)))) (fun (a1 : Int) => (bindO (M_S_l1Cur_pick ((a0.2.1, (a0.2.2.1, a0.2.2.2)), (60000 : Int))) (fun (a2 : (Int × ((List Int) × (Int × Int)))) => (bindO (some (IntKind.wrap .i64 (a1 + a2.1))) (fun (a3 : Int) => (bindO (guardO (x.2.2.1 != (0 : Int))) (fun (a4 : Unit) => (bindO (some (Int.tmod a3 x.2.2.1)) (fun (a5 : Int) => (some (a5, (a2.2.1, (a2.2.2.1, a2.2.2.2)))))))))))))))))

noncomputable def c_S_l1Cur_expo : Con0 := ⟨pk_S_l1Cur_expo, rk_S_l1Cur_expo, M_S_l1Cur_expo⟩

set_option maxRecDepth 100000 in
theorem eq_S_l1Cur_expo (x : In pk_S_l1Cur_expo) : semF (mkE [(30, c_S_l1Cur_pick)]) h_S_l1Cur_expo (info Tryz.f64) pk_S_l1Cur_expo rk_S_l1Cur_expo x = M_S_l1Cur_expo x := (semFF_eq _ _ _ _ _ _).symm.trans (by kernel_rfl)

set_option maxRecDepth 100000 in
theorem m_S_l1Cur_expo : ConOK Tryz.prog 64 c_S_l1Cur_expo := fn_ok (tyOK _) (E := mkE [(30, c_S_l1Cur_pick)]) (consOK_cons m_S_l1Cur_pick (consOK_nil rfl)) Tryz.func64 (h := h_S_l1Cur_expo) (by kernel_rfl) eq_S_l1Cur_expo

/-- S_l1Cur_element -/
def pk_S_l1Cur_element : List PK := [.mp (.cons (.sl (.int .u8)) (.cons (.int .i64) (.one (.int .u64)))) false, .data (.cons (.int .i64) (.cons (.int .i64) (.one (.int .i64))))]
def rk_S_l1Cur_element : List (Ty × Bool) := [((.int .i64), false)]
def h_S_l1Cur_element : Hints := { loops := [] }
noncomputable def M_S_l1Cur_element (x : (((List Int) × (Int × Int)) × (Int × (Int × Int)))) : (Option (Int × ((List Int) × (Int × Int)))) :=
  (cond (decide (x.2.1 < (3 : Int))) (some ((1 : Int), (x.1.1, (x.1.2.1, x.1.2.2)))) (cond (decide (x.2.2.1 < (1 : Int))) (some ((1 : Int), (x.1.1, (x.1.2.1, x.1.2.2)))) (bindO (M_S_nMod (x.2.2.2, x.2.1)) (fun (a0 : Int) => (bindO (M_S_l1Cur_expo ((x.1.1, (x.1.2.1, x.1.2.2)), (x.2.1, (x.2.2.1, x.2.2.2)))) (fun (a1 : (Int × ((List Int) × (Int × Int)))) => (bindO (M_S_gExp ((x.2.1, (x.2.2.1, x.2.2.2)), (a0, a1.1))) (fun (a2 : Int) => (some (a2, (a1.2.1, (a1.2.2.1, a1.2.2.2))))))))))))

noncomputable def c_S_l1Cur_element : Con0 := ⟨pk_S_l1Cur_element, rk_S_l1Cur_element, M_S_l1Cur_element⟩

set_option maxRecDepth 100000 in
theorem eq_S_l1Cur_element (x : In pk_S_l1Cur_element) : semF (mkE [(67, c_S_nMod), (64, c_S_l1Cur_expo), (86, c_S_gExp)]) h_S_l1Cur_element (info Tryz.f63) pk_S_l1Cur_element rk_S_l1Cur_element x = M_S_l1Cur_element x := (semFF_eq _ _ _ _ _ _).symm.trans (by kernel_rfl)

set_option maxRecDepth 100000 in
theorem m_S_l1Cur_element : ConOK Tryz.prog 63 c_S_l1Cur_element := fn_ok (tyOK _) (E := mkE [(67, c_S_nMod), (64, c_S_l1Cur_expo), (86, c_S_gExp)]) (consOK_cons m_S_nMod (consOK_cons m_S_l1Cur_expo (consOK_cons m_S_gExp (consOK_nil rfl)))) Tryz.func63 (h := h_S_l1Cur_element) (by kernel_rfl) eq_S_l1Cur_element

/-- S_l2Good -/
def pk_S_l2Good : List PK := [.data (.cons (.int .i64) (.cons (.int .i64) (.one (.int .i64))))]
def rk_S_l2Good : List (Ty × Bool) := [(.bool, false)]
def h_S_l2Good : Hints := { loops := [] }
noncomputable def M_S_l2Good (x : (Int × (Int × Int))) : (Option Bool) :=
  (bindO (M_S_l1In (x.1, ((3 : Int), (2000000000 : Int)))) (fun (a0 : Bool) => (cond a0 (bindO (some (IntKind.wrap .i64 (x.1 - (1 : Int)))) (fun (a1 : Int) => (bindO (M_S_l1In (x.2.1, ((2 : Int), a1))) (fun (a2 : Bool) => (cond a2 (bindO (some (IntKind.wrap .i64 (x.1 - (1 : Int)))) (fun (a3 : Int) => (bindO (guardO (x.2.1 != (0 : Int))) (fun (a4 : Unit) => (bindO (some (Int.tmod a3 x.2.1)) (fun (a5 : Int) => (cond (a5 == (0 : Int)) (bindO (some (IntKind.wrap .i64 (x.1 - (1 : Int)))) (fun (a6 : Int) => (bindO (M_S_l1In (x.2.2, ((2 : Int), a6))) (fun (a7 : Bool) => (cond a7 (bindO (M_S_nPower (x.2.2, (x.2.1, x.1))) (fun (a8 : Int) => (cond (a8 == (1 : Int)) (bindO (M_S_nPrime x.2.1) (fun (a9 : Bool) => (cond a9 (bindO (M_S_nPrime x.1) (fun (a10 : Bool) => (some a10))) (some false)))) (some false)))) (some false)))))) (some false)))))))) (some false)))))) (some false))))

noncomputable def c_S_l2Good : Con0 := ⟨pk_S_l2Good, rk_S_l2Good, M_S_l2Good⟩

set_option maxRecDepth 100000 in
theorem eq_S_l2Good (x : In pk_S_l2Good) : semF (mkE [(46, c_S_l1In), (66, c_S_nPower), (95, c_S_nPrime)]) h_S_l2Good (info Tryz.f37) pk_S_l2Good rk_S_l2Good x = M_S_l2Good x := (semFF_eq _ _ _ _ _ _).symm.trans (by kernel_rfl)

set_option maxRecDepth 100000 in
theorem m_S_l2Good : ConOK Tryz.prog 37 c_S_l2Good := fn_ok (tyOK _) (E := mkE [(46, c_S_l1In), (66, c_S_nPower), (95, c_S_nPrime)]) (consOK_cons m_S_l1In (consOK_cons m_S_nPower (consOK_cons m_S_nPrime (consOK_nil rfl)))) Tryz.func37 (h := h_S_l2Good) (by kernel_rfl) eq_S_l2Good

/-- S_gIs -/
def pk_S_gIs : List PK := [.data (.cons (.int .i64) (.cons (.int .i64) (.one (.int .i64)))), .data (.sl (.int .i64))]
def rk_S_gIs : List (Ty × Bool) := [(.bool, false)]
def h_S_gIs : Hints := { loops := [(0, { items := [.slot 9 (.data (.int .i64) [])], kill := [0, 1] ++ (sgN 3 4 ++ (sgN 10 19)) })] }
noncomputable def M_S_gIs (x : ((Int × (Int × Int)) × (List Int))) : (Option Bool) :=
  (loopO (fun (again0 : (Int → (Option Bool))) => (fun (s1 : Int) => (cond (decide (s1 < (((List.length x.2) : Nat) : Int))) (bindO (getI x.2 s1) (fun (a2 : Int) => (bindO (some (IntKind.wrap .i64 (x.1.1 - (1 : Int)))) (fun (a3 : Int) => (bindO (M_S_l1In (a2, ((1 : Int), a3))) (fun (a4 : Bool) => (cond (not a4) (some false) (bindO (M_S_nPower (a2, (x.1.2.1, x.1.1))) (fun (a5 : Int) => (cond (a5 != (1 : Int)) (some false) (bindO (some (IntKind.wrap .i64 (s1 + (1 : Int)))) (fun (a6 : Int) => (again0 a6))))))))))))) (some true)))) (0 : Int))

noncomputable def c_S_gIs : Con0 := ⟨pk_S_gIs, rk_S_gIs, M_S_gIs⟩

set_option maxRecDepth 100000 in
theorem eq_S_gIs (x : In pk_S_gIs) : semF (mkE [(46, c_S_l1In), (66, c_S_nPower)]) h_S_gIs (info Tryz.f80) pk_S_gIs rk_S_gIs x = M_S_gIs x := (semFF_eq _ _ _ _ _ _).symm.trans (by kernel_rfl)

set_option maxRecDepth 100000 in
theorem m_S_gIs : ConOK Tryz.prog 80 c_S_gIs := fn_ok (tyOK _) (E := mkE [(46, c_S_l1In), (66, c_S_nPower)]) (consOK_cons m_S_l1In (consOK_cons m_S_nPower (consOK_nil rfl))) Tryz.func80 (h := h_S_gIs) (by kernel_rfl) eq_S_gIs

/-- S_sElements -/
def pk_S_sElements : List PK := [.data (.cons (.int .i64) (.cons (.int .i64) (.one (.int .i64)))), .data (.cons (.int .i64) (.cons (.int .i64) (.cons (.int .i64) (.one (.int .i64)))))]
def rk_S_sElements : List (Ty × Bool) := [(.bool, false)]
def h_S_sElements : Hints := { loops := [] }
noncomputable def M_S_sElements (x : ((Int × (Int × Int)) × (Int × (Int × (Int × Int))))) : (Option Bool) :=
  (bindO (M_S_gIs ((x.1.1, (x.1.2.1, x.1.2.2)), (x.2.1 :: (x.2.2.1 :: (x.2.2.2.1 :: (x.2.2.2.2 :: ([] : List Int))))))) (fun (a0 : Bool) => (some a0)))

noncomputable def c_S_sElements : Con0 := ⟨pk_S_sElements, rk_S_sElements, M_S_sElements⟩

set_option maxRecDepth 100000 in
theorem eq_S_sElements (x : In pk_S_sElements) : semF (mkE [(80, c_S_gIs)]) h_S_sElements (info Tryz.f57) pk_S_sElements rk_S_sElements x = M_S_sElements x := (semFF_eq _ _ _ _ _ _).symm.trans (by kernel_rfl)

set_option maxRecDepth 100000 in
theorem m_S_sElements : ConOK Tryz.prog 57 c_S_sElements := fn_ok (tyOK _) (E := mkE [(80, c_S_gIs)]) (consOK_cons m_S_gIs (consOK_nil rfl)) Tryz.func57 (h := h_S_sElements) (by kernel_rfl) eq_S_sElements

/-- S_l1All -/
def pk_S_l1All : List PK := [.data (.sl (.int .i64)), .data (.int .i64), .data (.int .i64)]
def rk_S_l1All : List (Ty × Bool) := [(.bool, false)]
def h_S_l1All : Hints := { loops := [(0, { items := [.slot 11 (.data (.int .i64) [])], kill := [0] ++ (sgN 3 6 ++ (sgN 12 9)) })] }
noncomputable def M_S_l1All (x : ((List Int) × (Int × Int))) : (Option Bool) :=
  (loopO (fun (again0 : (Int → (Option Bool))) => (fun (s1 : Int) => (cond (decide (s1 < (((List.length x.1) : Nat) : Int))) (bindO (getI x.1 s1) (fun (a2 : Int) => (bindO (M_S_l1In (a2, (x.2.1, x.2.2))) (fun (a3 : Bool) => (cond (not a3) (some false) (bindO (some (IntKind.wrap .i64 (s1 + (1 : Int)))) (fun (a4 : Int) => (again0 a4)))))))) (some true)))) (0 : Int))

noncomputable def c_S_l1All : Con0 := ⟨pk_S_l1All, rk_S_l1All, M_S_l1All⟩

set_option maxRecDepth 100000 in
theorem eq_S_l1All (x : In pk_S_l1All) : semF (mkE [(46, c_S_l1In)]) h_S_l1All (info Tryz.f102) pk_S_l1All rk_S_l1All x = M_S_l1All x := (semFF_eq _ _ _ _ _ _).symm.trans (by kernel_rfl)

set_option maxRecDepth 100000 in
theorem m_S_l1All : ConOK Tryz.prog 102 c_S_l1All := fn_ok (tyOK _) (E := mkE [(46, c_S_l1In)]) (consOK_cons m_S_l1In (consOK_nil rfl)) Tryz.func102 (h := h_S_l1All) (by kernel_rfl) eq_S_l1All

/-- S_gExps -/
def pk_S_gExps : List PK := [.data (.cons (.int .i64) (.cons (.int .i64) (.one (.int .i64)))), .data (.sl (.int .i64))]
def rk_S_gExps : List (Ty × Bool) := [(.bool, false)]
def h_S_gExps : Hints := { loops := [] }
noncomputable def M_S_gExps (x : ((Int × (Int × Int)) × (List Int))) : (Option Bool) :=
  (bindO (some (IntKind.wrap .i64 (x.1.2.1 - (1 : Int)))) (fun (a0 : Int) => (bindO (M_S_l1All (x.2, ((0 : Int), a0))) (fun (a1 : Bool) => (some a1)))))

noncomputable def c_S_gExps : Con0 := ⟨pk_S_gExps, rk_S_gExps, M_S_gExps⟩

set_option maxRecDepth 100000 in
theorem eq_S_gExps (x : In pk_S_gExps) : semF (mkE [(102, c_S_l1All)]) h_S_gExps (info Tryz.f47) pk_S_gExps rk_S_gExps x = M_S_gExps x := (semFF_eq _ _ _ _ _ _).symm.trans (by kernel_rfl)

set_option maxRecDepth 100000 in
theorem m_S_gExps : ConOK Tryz.prog 47 c_S_gExps := fn_ok (tyOK _) (E := mkE [(102, c_S_l1All)]) (consOK_cons m_S_l1All (consOK_nil rfl)) Tryz.func47 (h := h_S_gExps) (by kernel_rfl) eq_S_gExps

/-- S_sTrue -/
def pk_S_sTrue : List PK := [.data (.cons (.int .i64) (.cons (.int .i64) (.one (.int .i64)))), .data (.cons (.int .i64) (.cons (.int .i64) (.cons (.int .i64) (.one (.int .i64))))), .data (.int .i64)]
def rk_S_sTrue : List (Ty × Bool) := [(.bool, false)]
def h_S_sTrue : Hints := { loops := [] }
noncomputable def M_S_sTrue (x : ((Int × (Int × Int)) × ((Int × (Int × (Int × Int))) × Int))) : (Option Bool) :=
  (bindO (M_S_gExp ((x.1.1, (x.1.2.1, x.1.2.2)), (x.2.1.1, x.2.2))) (fun (a0 : Int) => (cond (a0 == x.2.1.2.1) (bindO (M_S_gExp ((x.1.1, (x.1.2.1, x.1.2.2)), (x.2.1.2.2.1, x.2.2))) (fun (a1 : Int) => (some (a1 == x.2.1.2.2.2)))) (some false))))

noncomputable def c_S_sTrue : Con0 := ⟨pk_S_sTrue, rk_S_sTrue, M_S_sTrue⟩

set_option maxRecDepth 100000 in
theorem eq_S_sTrue (x : In pk_S_sTrue) : semF (mkE [(86, c_S_gExp)]) h_S_sTrue (info Tryz.f149) pk_S_sTrue rk_S_sTrue x = M_S_sTrue x := (semFF_eq _ _ _ _ _ _).symm.trans (by kernel_rfl)

set_option maxRecDepth 100000 in
theorem m_S_sTrue : ConOK Tryz.prog 149 c_S_sTrue := fn_ok (tyOK _) (E := mkE [(86, c_S_gExp)]) (consOK_cons m_S_gExp (consOK_nil rfl)) Tryz.func149 (h := h_S_sTrue) (by kernel_rfl) eq_S_sTrue

/-- S_IsTrueEqual -/
def pk_S_IsTrueEqual : List PK := [.data (.cons (.int .i64) (.cons (.int .i64) (.one (.int .i64)))), .data (.cons (.int .i64) (.cons (.int .i64) (.cons (.int .i64) (.one (.int .i64))))), .data (.int .i64)]
def rk_S_IsTrueEqual : List (Ty × Bool) := [(.bool, false), (.bool, false)]
def h_S_IsTrueEqual : Hints := { loops := [] }
noncomputable def M_S_IsTrueEqual (x : ((Int × (Int × Int)) × ((Int × (Int × (Int × Int))) × Int))) : (Option (Bool × Bool)) :=
  (bindO (M_S_l2Good (x.1.1, (x.1.2.1, x.1.2.2))) (fun (a0 : Bool) => (cond (not a0) (some (false, false)) (bindO (M_S_sElements ((x.1.1, (x.1.2.1, x.1.2.2)), (x.2.1.1, (x.2.1.2.1, (x.2.1.2.2.1, x.2.1.2.2.2))))) (fun (a1 : Bool) => (cond (not a1) (some (false, false)) (bindO (M_S_gExps ((x.1.1, (x.1.2.1, x.1.2.2)), (x.2.2 :: ([] : List Int)))) (fun (a2 : Bool) => (cond (not a2) (some (false, false)) (bindO (M_S_sTrue ((x.1.1, (x.1.2.1, x.1.2.2)), ((x.2.1.1, (x.2.1.2.1, (x.2.1.2.2.1, x.2.1.2.2.2))), x.2.2))) (fun (a3 : Bool) => (some (a3, true)))))))))))))

noncomputable def c_S_IsTrueEqual : Con0 := ⟨pk_S_IsTrueEqual, rk_S_IsTrueEqual, M_S_IsTrueEqual⟩

set_option maxRecDepth 100000 in
theorem eq_S_IsTrueEqual (x : In pk_S_IsTrueEqual) : semF (mkE [(37, c_S_l2Good), (57, c_S_sElements), (47, c_S_gExps), (149, c_S_sTrue)]) h_S_IsTrueEqual (info Tryz.f134) pk_S_IsTrueEqual rk_S_IsTrueEqual x = M_S_IsTrueEqual x := (semFF_eq _ _ _ _ _ _).symm.trans (by kernel_rfl)

set_option maxRecDepth 100000 in
theorem m_S_IsTrueEqual : ConOK Tryz.prog 134 c_S_IsTrueEqual := fn_ok (tyOK _) (E := mkE [(37, c_S_l2Good), (57, c_S_sElements), (47, c_S_gExps), (149, c_S_sTrue)]) (consOK_cons m_S_l2Good (consOK_cons m_S_sElements (consOK_cons m_S_gExps (consOK_cons m_S_sTrue (consOK_nil rfl))))) Tryz.func134 (h := h_S_IsTrueEqual) (by kernel_rfl) eq_S_IsTrueEqual

/-- S_gProd -/
def pk_S_gProd : List PK := [.data (.cons (.int .i64) (.cons (.int .i64) (.one (.int .i64)))), .data (.sl (.int .i64)), .data (.sl (.int .i64))]
def rk_S_gProd : List (Ty × Bool) := [((.int .i64), false)]
def h_S_gProd : Hints := { loops := [(0, { items := [.slot 7 (.data (.int .i64) []), .slot 12 (.data (.int .i64) [])], kill := [0, 1, 4, 5, 6, 8, 9] ++ (sgN 13 18) })] }
noncomputable def M_S_gProd (x : ((Int × (Int × Int)) × ((List Int) × (List Int)))) : (Option Int) :=
  (loopO (fun (again0 : ((Int × Int) → (Option Int))) => (fun (s1 : (Int × Int)) => (cond (decide (s1.2 < (((List.length x.2.1) : Nat) : Int))) (bindO (getI x.2.1 s1.2) (fun (a2 : Int) => (bindO (getI x.2.2 s1.2) (fun (a3 : Int) => (bindO (M_S_gExp ((x.1.1, (x.1.2.1, x.1.2.2)), (a2, a3))) (fun (a4 : Int) => (bindO (some (IntKind.wrap .i64 (s1.1 * a4))) (fun (a5 : Int) => (bindO (guardO (x.1.1 != (0 : Int))) (fun (a6 : Unit) => (bindO (some (Int.tmod a5 x.1.1)) (fun (a7 : Int) => (bindO (some (IntKind.wrap .i64 (s1.2 + (1 : Int)))) (fun (a8 : Int) => (again0 (a7, a8)))))))))))))))) (some s1.1)))) ((1 : Int), (0 : Int)))

noncomputable def c_S_gProd : Con0 := ⟨pk_S_gProd, rk_S_gProd, M_S_gProd⟩

set_option maxRecDepth 100000 in
theorem eq_S_gProd (x : In pk_S_gProd) : semF (mkE [(86, c_S_gExp)]) h_S_gProd (info Tryz.f138) pk_S_gProd rk_S_gProd x = M_S_gProd x := (semFF_eq _ _ _ _ _ _).symm.trans (by kernel_rfl)

set_option maxRecDepth 100000 in
theorem m_S_gProd : ConOK Tryz.prog 138 c_S_gProd := fn_ok (tyOK _) (E := mkE [(86, c_S_gExp)]) (consOK_cons m_S_gExp (consOK_nil rfl)) Tryz.func138 (h := h_S_gProd) (by kernel_rfl) eq_S_gProd

/-- S_sImages -/
def pk_S_sImages : List PK := [.data (.cons (.int .i64) (.cons (.int .i64) (.one (.int .i64)))), .data (.sl (.sl (.int .i64))), .data (.sl (.int .i64))]
def rk_S_sImages : List (Ty × Bool) := [((.sl (.int .i64)), true)]
def h_S_sImages : Hints := { loops := [(0, { items := [.slot 7 (.own (.int .i64) true), .slot 12 (.data (.int .i64) [])], kill := [0, 1, 4, 5, 6, 8, 9] ++ (sgN 13 12) })] }
noncomputable def M_S_sImages (x : ((Int × (Int × Int)) × ((List (List Int)) × (List Int)))) : (Option (List Int)) :=
  (loopO (fun (again0 : (((List Int) × Int) → (Option (List Int)))) => (fun (s1 : ((List Int) × Int)) => (cond (decide (s1.2 < (((List.length x.2.1) : Nat) : Int))) (bindO (getI x.2.1 s1.2) (fun (a2 : (List Int)) => (bindO (M_S_gProd ((x.1.1, (x.1.2.1, x.1.2.2)), (a2, x.2.2))) (fun (a3 : Int) => (bindO (guardO (lenOk ((List.length s1.1) + (List.length (a3 :: ([] : List Int)))))) (fun (a4 : Unit) => (bindO (some (s1.1 ++ (a3 :: ([] : List Int)))) (fun (a5 : (List Int)) => (bindO (some (IntKind.wrap .i64 (s1.2 + (1 : Int)))) (fun (a6 : Int) => (again0 (a5, a6)))))))))))) (some s1.1)))) (([] : List Int), (0 : Int)))

noncomputable def c_S_sImages : Con0 := ⟨pk_S_sImages, rk_S_sImages, M_S_sImages⟩

set_option maxRecDepth 100000 in
theorem eq_S_sImages (x : In pk_S_sImages) : semF (mkE [(138, c_S_gProd)]) h_S_sImages (info Tryz.f132) pk_S_sImages rk_S_sImages x = M_S_sImages x := (semFF_eq _ _ _ _ _ _).symm.trans (by kernel_rfl)

set_option maxRecDepth 100000 in
theorem m_S_sImages : ConOK Tryz.prog 132 c_S_sImages := fn_ok (tyOK _) (E := mkE [(138, c_S_gProd)]) (consOK_cons m_S_gProd (consOK_nil rfl)) Tryz.func132 (h := h_S_sImages) (by kernel_rfl) eq_S_sImages

/-- S_sStatement -/
def pk_S_sStatement : List PK := [.data (.sl (.sl (.int .i64))), .data (.sl (.int .i64)), .data (.sl (.int .i64))]
def rk_S_sStatement : List (Ty × Bool) := [((.sl (.int .i64)), true)]
def h_S_sStatement : Hints := { loops := [(0, { items := [.slot 7 (.own (.int .i64) true), .slot 12 (.data (.int .i64) [])], kill := [0] ++ (sgN 3 4 ++ ([8, 9] ++ (sgN 13 12))) })] }
noncomputable def M_S_sStatement (x : ((List (List Int)) × ((List Int) × (List Int)))) : (Option (List Int)) :=
  (loopO (fun (again0 : (((List Int) × Int) → (Option (List Int)))) => (fun (s1 : ((List Int) × Int)) => (cond (decide (s1.2 < (((List.length x.1) : Nat) : Int))) (bindO (getI x.1 s1.2) (fun (a2 : (List Int)) => (bindO (guardO (lenOk ((List.length s1.1) + (List.length a2)))) (fun (a3 : Unit) => (bindO (some (s1.1 ++ a2)) (fun (a4 : (List Int)) => (bindO (some (IntKind.wrap .i64 (s1.2 + (1 : Int)))) (fun (a5 : Int) => (again0 (a4, a5)))))))))) (bindO (guardO (lenOk ((List.length s1.1) + (List.length x.2.1)))) (fun (a6 : Unit) => (bindO (some (s1.1 ++ x.2.1)) (fun (a7 : (List Int)) => (bindO (guardO (lenOk ((List.length a7) + (List.length x.2.2)))) (fun (a8 : Unit) => (bindO (some (a7 ++ x.2.2)) (fun (a9 : (List Int)) => (some a9)))))))))))) (([] : List Int), (0 : Int)))

noncomputable def c_S_sStatement : Con0 := ⟨pk_S_sStatement, rk_S_sStatement, M_S_sStatement⟩

set_option maxRecDepth 100000 in
theorem eq_S_sStatement (x : In pk_S_sStatement) : semF (mkE []) h_S_sStatement (info Tryz.f133) pk_S_sStatement rk_S_sStatement x = M_S_sStatement x := (semFF_eq _ _ _ _ _ _).symm.trans (by kernel_rfl)

set_option maxRecDepth 100000 in
theorem m_S_sStatement : ConOK Tryz.prog 133 c_S_sStatement := fn_ok (tyOK _) (E := mkE []) (consOK_nil rfl) Tryz.func133 (h := h_S_sStatement) (by kernel_rfl) eq_S_sStatement

/-- S_l3With -/
def pk_S_l3With : List PK := [.data .str, .data (.sl (.int .i64))]
def rk_S_l3With : List (Ty × Bool) := [((.sl (.int .i64)), true)]
def h_S_l3With : Hints := { loops := [(0, { items := [.slot 5 (.own (.int .i64) true), .slot 6 (.data (.int .i64) [])], kill := [2, 3, 4] ++ (sgN 7 19) })] }
noncomputable def M_S_l3With (x : (ByteArray × (List Int))) : (Option (List Int)) :=
  (loopO (fun (again0 : (((List Int) × Int) → (Option (List Int)))) => (fun (s1 : ((List Int) × Int)) => (cond (decide (s1.2 < (((ByteArray.size x.1) : Nat) : Int))) (bindO (if ((0 : Int) ≤ s1.2) then (x.1[(Int.toNat s1.2)]?) else (none : Option (UInt8))) (fun (a2 : (UInt8)) => (bindO (guardO (lenOk ((List.length s1.1) + (List.length ((IntKind.wrap .i64 (((UInt8.toNat a2) : Nat) : Int)) :: ([] : List Int)))))) (fun (a3 : Unit) => (bindO (some (s1.1 ++ ((IntKind.wrap .i64 (((UInt8.toNat a2) : Nat) : Int)) :: ([] : List Int)))) (fun (a4 : (List Int)) => (bindO (some (IntKind.wrap .i64 (s1.2 + (1 : Int)))) (fun (a5 : Int) => (again0 (a4, a5)))))))))) (bindO (guardO (lenOk ((List.length s1.1) + (List.length x.2)))) (fun (a6 : Unit) => (bindO (some (s1.1 ++ x.2)) (fun (a7 : (List Int)) => (some a7)))))))) (((((ByteArray.size x.1) : Nat) : Int) :: ([] : List Int)), (0 : Int)))

noncomputable def c_S_l3With : Con0 := ⟨pk_S_l3With, rk_S_l3With, M_S_l3With⟩

set_option maxRecDepth 100000 in
theorem eq_S_l3With (x : In pk_S_l3With) : semF (mkE []) h_S_l3With (info Tryz.f146) pk_S_l3With rk_S_l3With x = M_S_l3With x := (semFF_eq _ _ _ _ _ _).symm.trans (by kernel_rfl)

set_option maxRecDepth 100000 in
theorem m_S_l3With : ConOK Tryz.prog 146 c_S_l3With := fn_ok (tyOK _) (E := mkE []) (consOK_nil rfl) Tryz.func146 (h := h_S_l3With) (by kernel_rfl) eq_S_l3With

/-- S_l3State_absorb -/
def pk_S_l3State_absorb : List PK := [.mp (.cons (.int .i64) (.one (.int .i64))) false, .data (.int .i64)]
def rk_S_l3State_absorb : List (Ty × Bool) := []
def h_S_l3State_absorb : Hints := { loops := [(0, { items := [.slot 12 (.data (.int .i64) []), .cell 0 0 (.data (.int .i64) []), .cell 0 1 (.data (.int .i64) [])], kill := sgN 1 9 ++ (sgN 13 28) })] }
noncomputable def M_S_l3State_absorb (x : ((Int × Int) × Int)) : (Option (Int × Int)) :=
  (bindO (guardO ((2147483648 : Int) != (0 : Int))) (fun (a0 : Unit) => (bindO (some (Int.tmod x.2 (2147483648 : Int))) (fun (a1 : Int) => (bindO (guardO ((2147483648 : Int) != (0 : Int))) (fun (a2 : Unit) => (bindO (some (IntKind.wrap .i64 (Int.tdiv x.2 (2147483648 : Int)))) (fun (a3 : Int) => (loopO (fun (again4 : ((Int × (Int × Int)) → (Option (Int × Int)))) => (fun (s5 : (Int × (Int × Int))) => (cond (decide (s5.1 < (((List.length (a1 :: (a3 :: ([] : List Int)))) : Nat) : Int))) (bindO (getI (a1 :: (a3 :: ([] : List Int))) s5.1) (fun (a6 : Int) => (bindO (some (IntKind.wrap .i64 ((48271 : Int) * s5.2.1))) (fun (a7 : Int) => (bindO (some (IntKind.wrap .i64 (a7 + a6))) (fun (a8 : Int) => (bindO (some (IntKind.wrap .i64 (a8 + (1 : Int)))) (fun (a9 : Int) => (bindO (guardO ((2147483647 : Int) != (0 : Int))) (fun (a10 : Unit) => (bindO (some (Int.tmod a9 (2147483647 : Int))) (fun (a11 : Int) => (bindO (some (IntKind.wrap .i64 ((69621 : Int) * s5.2.2))) (fun (a12 : Int) => (bindO (some (IntKind.wrap .i64 (a12 + a6))) (fun (a13 : Int) => (bindO (some (IntKind.wrap .i64 (a13 + (1 : Int)))) (fun (a14 : Int) => (bindO (guardO ((2147483647 : Int) != (0 : Int))) (fun (a15 : Unit) => (bindO (some (Int.tmod a14 (2147483647 : Int))) (fun (a16 : Int) => (bindO (some (IntKind.wrap .i64 (s5.1 + (1 : Int)))) (fun (a17 : Int) => (again4 (a17, (a11, a16))))))))))))))))))))))))))) (some (s5.2.1, s5.2.2))))) ((0 : Int), (x.1.1, x.1.2)))))))))))

noncomputable def c_S_l3State_absorb : Con0 := ⟨pk_S_l3State_absorb, rk_S_l3State_absorb, M_S_l3State_absorb⟩

set_option maxRecDepth 100000 in
theorem eq_S_l3State_absorb (x : In pk_S_l3State_absorb) : semF (mkE []) h_S_l3State_absorb (info Tryz.f154) pk_S_l3State_absorb rk_S_l3State_absorb x = M_S_l3State_absorb x := (semFF_eq _ _ _ _ _ _).symm.trans (by kernel_rfl)

set_option maxRecDepth 100000 in
theorem m_S_l3State_absorb : ConOK Tryz.prog 154 c_S_l3State_absorb := fn_ok (tyOK _) (E := mkE []) (consOK_nil rfl) Tryz.func154 (h := h_S_l3State_absorb) (by kernel_rfl) eq_S_l3State_absorb

/-- S_hInts -/
def pk_S_hInts : List PK := [.data (.sl (.int .i64))]
def rk_S_hInts : List (Ty × Bool) := [((.int .i64), false)]
def h_S_hInts : Hints := { loops := [(0, { items := [.slot 14 (.data (.int .i64) []), .cell 7 0 (.data (.int .i64) []), .cell 7 1 (.data (.int .i64) [])], kill := [0, 1, 2, 4, 5, 6] ++ (sgN 8 4 ++ (sgN 15 17)) })] }
noncomputable def M_S_hInts (x : (List Int)) : (Option Int) :=
  (bindO (M_S_l3State_absorb (((1 : Int), (2 : Int)), (((List.length x) : Nat) : Int))) (fun (a0 : (Int × Int)) => (loopO (fun (again1 : ((Int × (Int × Int)) → (Option Int))) => (fun (s2 : (Int × (Int × Int))) => (cond (decide (s2.1 < (((List.length x) : Nat) : Int))) (bindO (getI x s2.1) (fun (a3 : Int) => (bindO (M_S_l3State_absorb ((s2.2.1, s2.2.2), a3)) (fun (a4 : (Int × Int)) => (bindO (some (IntKind.wrap .i64 (s2.1 + (1 : Int)))) (fun (a5 : Int) => (again1 (a5, (a4.1, a4.2))))))))) (bindO (some (IntKind.wrap .i64 (s2.2.1 * (2147483648 : Int)))) (fun (a6 : Int) => (bindO (some (IntKind.wrap .i64 (a6 + s2.2.2))) (fun (a7 : Int) => (some a7)))))))) ((0 : Int), (a0.1, a0.2)))))

noncomputable def c_S_hInts : Con0 := ⟨pk_S_hInts, rk_S_hInts, M_S_hInts⟩

set_option maxRecDepth 100000 in
theorem eq_S_hInts (x : In pk_S_hInts) : semF (mkE [(154, c_S_l3State_absorb)]) h_S_hInts (info Tryz.f145) pk_S_hInts rk_S_hInts x = M_S_hInts x := (semFF_eq _ _ _ _ _ _).symm.trans (by kernel_rfl)

set_option maxRecDepth 100000 in
theorem m_S_hInts : ConOK Tryz.prog 145 c_S_hInts := fn_ok (tyOK _) (E := mkE [(154, c_S_l3State_absorb)]) (consOK_cons m_S_l3State_absorb (consOK_nil rfl)) Tryz.func145 (h := h_S_hInts) (by kernel_rfl) eq_S_hInts

/-- S_hLabelled -/
def pk_S_hLabelled : List PK := [.data .str, .data (.sl (.int .i64))]
def rk_S_hLabelled : List (Ty × Bool) := [((.int .i64), false)]
def h_S_hLabelled : Hints := { loops := [] }
noncomputable def M_S_hLabelled (x : (ByteArray × (List Int))) : (Option Int) :=
  (bindO (M_S_l3With (x.1, x.2)) (fun (a0 : (List Int)) => (bindO (M_S_hInts a0) (fun (a1 : Int) => (some a1)))))

noncomputable def c_S_hLabelled : Con0 := ⟨pk_S_hLabelled, rk_S_hLabelled, M_S_hLabelled⟩

set_option maxRecDepth 100000 in
theorem eq_S_hLabelled (x : In pk_S_hLabelled) : semF (mkE [(146, c_S_l3With), (145, c_S_hInts)]) h_S_hLabelled (info Tryz.f122) pk_S_hLabelled rk_S_hLabelled x = M_S_hLabelled x := (semFF_eq _ _ _ _ _ _).symm.trans (by kernel_rfl)

set_option maxRecDepth 100000 in
theorem m_S_hLabelled : ConOK Tryz.prog 122 c_S_hLabelled := fn_ok (tyOK _) (E := mkE [(146, c_S_l3With), (145, c_S_hInts)]) (consOK_cons m_S_l3With (consOK_cons m_S_hInts (consOK_nil rfl))) Tryz.func122 (h := h_S_hLabelled) (by kernel_rfl) eq_S_hLabelled

/-- S_hChallenge -/
def pk_S_hChallenge : List PK := [.data (.cons (.int .i64) (.cons (.int .i64) (.one (.int .i64)))), .data .str, .data (.sl (.int .i64))]
def rk_S_hChallenge : List (Ty × Bool) := [((.int .i64), false)]
def h_S_hChallenge : Hints := { loops := [] }
noncomputable def M_S_hChallenge (x : ((Int × (Int × Int)) × (ByteArray × (List Int)))) : (Option Int) :=
  (bindO (guardO (lenOk ((List.length (x.1.1 :: (x.1.2.1 :: (x.1.2.2 :: ([] : List Int))))) + (List.length x.2.2)))) (fun (a0 : Unit) => (bindO (some ((x.1.1 :: (x.1.2.1 :: (x.1.2.2 :: ([] : List Int)))) ++ x.2.2)) (fun (a1 : (List Int)) => (bindO (M_S_hLabelled (x.2.1, a1)) (fun (a2 : Int) => (bindO (guardO (x.1.2.1 != (0 : Int))) (fun (a3 : Unit) => (bindO (some (Int.tmod a2 x.1.2.1)) (fun (a4 : Int) => (some a4)))))))))))

noncomputable def c_S_hChallenge : Con0 := ⟨pk_S_hChallenge, rk_S_hChallenge, M_S_hChallenge⟩

set_option maxRecDepth 100000 in
theorem eq_S_hChallenge (x : In pk_S_hChallenge) : semF (mkE [(122, c_S_hLabelled)]) h_S_hChallenge (info Tryz.f82) pk_S_hChallenge rk_S_hChallenge x = M_S_hChallenge x := (semFF_eq _ _ _ _ _ _).symm.trans (by kernel_rfl)

set_option maxRecDepth 100000 in
theorem m_S_hChallenge : ConOK Tryz.prog 82 c_S_hChallenge := fn_ok (tyOK _) (E := mkE [(122, c_S_hLabelled)]) (consOK_cons m_S_hLabelled (consOK_nil rfl)) Tryz.func82 (h := h_S_hChallenge) (by kernel_rfl) eq_S_hChallenge

/-- S_sProve -/
def pk_S_sProve : List PK := [.data (.cons (.int .i64) (.cons (.int .i64) (.one (.int .i64)))), .data .str, .data (.sl (.sl (.int .i64))), .data (.sl (.int .i64)), .data (.sl (.int .i64))]
def rk_S_sProve : List (Ty × Bool) := [((.cons (.sl (.int .i64)) (.cons (.sl (.int .i64)) (.one (.sl (.int .i64))))), true)]
def h_S_sProve : Hints := { loops := [(0, { items := [.slot 36 (.data (.int .i64) []), .cell 11 0 (.own (.int .i64) true), .cell 11 1 (.own (.int .i64) true), .cell 11 2 (.own (.int .i64) true)], kill := sgN 0 4 ++ (sgN 6 4 ++ (sgN 13 21 ++ (sgN 37 22))) })] }
noncomputable def M_S_sProve (x : ((Int × (Int × Int)) × (ByteArray × ((List (List Int)) × ((List Int) × (List Int)))))) : (Option ((List Int) × ((List Int) × (List Int)))) :=
  (bindO (M_S_sImages ((x.1.1, (x.1.2.1, x.1.2.2)), (x.2.2.1, x.2.2.2.2))) (fun (a0 : (List Int)) => (bindO (M_S_sImages ((x.1.1, (x.1.2.1, x.1.2.2)), (x.2.2.1, x.2.2.2.1))) (fun (a1 : (List Int)) => (bindO (M_S_sStatement (x.2.2.1, (a1, a0))) (fun (a2 : (List Int)) => (bindO (M_S_hChallenge ((x.1.1, (x.1.2.1, x.1.2.2)), (x.2.1, a2))) (fun (a3 : Int) => (loopO (fun (again4 : ((Int × ((List Int) × ((List Int) × (List Int)))) → (Option ((List Int) × ((List Int) × (List Int)))))) => (fun (s5 : (Int × ((List Int) × ((List Int) × (List Int))))) => (cond (decide (s5.1 < (((List.length x.2.2.2.1) : Nat) : Int))) (bindO (getI x.2.2.2.1 s5.1) (fun (a6 : Int) => (bindO (getI x.2.2.2.2 s5.1) (fun (a7 : Int) => (bindO (some (IntKind.wrap .i64 (a3 * a6))) (fun (a8 : Int) => (bindO (some (IntKind.wrap .i64 (a7 + a8))) (fun (a9 : Int) => (bindO (guardO (x.1.2.1 != (0 : Int))) (fun (a10 : Unit) => (bindO (some (Int.tmod a9 x.1.2.1)) (fun (a11 : Int) => (bindO (guardO (lenOk ((List.length s5.2.2.2) + (List.length (a11 :: ([] : List Int)))))) (fun (a12 : Unit) => (bindO (some (s5.2.2.2 ++ (a11 :: ([] : List Int)))) (fun (a13 : (List Int)) => (bindO (some (IntKind.wrap .i64 (s5.1 + (1 : Int)))) (fun (a14 : Int) => (again4 (a14, (s5.2.1, (s5.2.2.1, a13)))))))))))))))))))))) (some (s5.2.1, (s5.2.2.1, s5.2.2.2)))))) ((0 : Int), (a0, ((a3 :: ([] : List Int)), ([] : List Int)))))))))))))

noncomputable def c_S_sProve : Con0 := ⟨pk_S_sProve, rk_S_sProve, M_S_sProve⟩

set_option maxRecDepth 100000 in
theorem eq_S_sProve (x : In pk_S_sProve) : semF (mkE [(132, c_S_sImages), (133, c_S_sStatement), (82, c_S_hChallenge)]) h_S_sProve (info Tryz.f104) pk_S_sProve rk_S_sProve x = M_S_sProve x := (semFF_eq _ _ _ _ _ _).symm.trans (by kernel_rfl)

set_option maxRecDepth 100000 in
theorem m_S_sProve : ConOK Tryz.prog 104 c_S_sProve := fn_ok (tyOK _) (E := mkE [(132, c_S_sImages), (133, c_S_sStatement), (82, c_S_hChallenge)]) (consOK_cons m_S_sImages (consOK_cons m_S_sStatement (consOK_cons m_S_hChallenge (consOK_nil rfl)))) Tryz.func104 (h := h_S_sProve) (by kernel_rfl) eq_S_sProve

/-- S_ProveEqual -/
def pk_S_ProveEqual : List PK := [.data (.cons (.int .i64) (.cons (.int .i64) (.one (.int .i64)))), .data .str, .data (.cons (.int .i64) (.cons (.int .i64) (.cons (.int .i64) (.one (.int .i64))))), .data (.int .i64), .data (.int .i64)]
def rk_S_ProveEqual : List (Ty × Bool) := [((.cons (.sl (.int .i64)) (.cons (.sl (.int .i64)) (.one (.sl (.int .i64))))), true), (.bool, false)]
def h_S_ProveEqual : Hints := { loops := [] }
noncomputable def M_S_ProveEqual (x : ((Int × (Int × Int)) × (ByteArray × ((Int × (Int × (Int × Int))) × (Int × Int))))) : (Option (((List Int) × ((List Int) × (List Int))) × Bool)) :=
  (bindO (M_S_IsTrueEqual ((x.1.1, (x.1.2.1, x.1.2.2)), ((x.2.2.1.1, (x.2.2.1.2.1, (x.2.2.1.2.2.1, x.2.2.1.2.2.2))), x.2.2.2.1))) (fun (a0 : (Bool × Bool)) => (cond (not a0.2) (some ((([] : List Int), (([] : List Int), ([] : List Int))), false)) (cond (not a0.1) (some ((([] : List Int), (([] : List Int), ([] : List Int))), false)) (cond (decide ((((ByteArray.size x.2.1) : Nat) : Int) > (40 : Int))) (some ((([] : List Int), (([] : List Int), ([] : List Int))), false)) (bindO (M_S_gExps ((x.1.1, (x.1.2.1, x.1.2.2)), (x.2.2.2.2 :: ([] : List Int)))) (fun (a1 : Bool) => (cond (not a1) (some ((([] : List Int), (([] : List Int), ([] : List Int))), false)) (bindO (M_S_sProve ((x.1.1, (x.1.2.1, x.1.2.2)), (x.2.1, (((x.2.2.1.1 :: ([] : List Int)) :: ((x.2.2.1.2.2.1 :: ([] : List Int)) :: ([] : List (List Int)))), ((x.2.2.2.1 :: ([] : List Int)), (x.2.2.2.2 :: ([] : List Int))))))) (fun (a2 : ((List Int) × ((List Int) × (List Int)))) => (some ((a2.1, (a2.2.1, a2.2.2)), true))))))))))))

noncomputable def c_S_ProveEqual : Con0 := ⟨pk_S_ProveEqual, rk_S_ProveEqual, M_S_ProveEqual⟩

set_option maxRecDepth 100000 in
theorem eq_S_ProveEqual (x : In pk_S_ProveEqual) : semF (mkE [(134, c_S_IsTrueEqual), (47, c_S_gExps), (104, c_S_sProve)]) h_S_ProveEqual (info Tryz.f106) pk_S_ProveEqual rk_S_ProveEqual x = M_S_ProveEqual x := (semFF_eq _ _ _ _ _ _).symm.trans (by kernel_rfl)

set_option maxRecDepth 100000 in
theorem m_S_ProveEqual : ConOK Tryz.prog 106 c_S_ProveEqual := fn_ok (tyOK _) (E := mkE [(134, c_S_IsTrueEqual), (47, c_S_gExps), (104, c_S_sProve)]) (consOK_cons m_S_IsTrueEqual (consOK_cons m_S_gExps (consOK_cons m_S_sProve (consOK_nil rfl)))) Tryz.func106 (h := h_S_ProveEqual) (by kernel_rfl) eq_S_ProveEqual

/-- S_l1Own -/
def pk_S_l1Own : List PK := [.data (.sl (.int .i64))]
def rk_S_l1Own : List (Ty × Bool) := [((.sl (.int .i64)), true)]
def h_S_l1Own : Hints := { loops := [] }
noncomputable def M_S_l1Own (x : (List Int)) : (Option (List Int)) :=
  (bindO (guardO (lenOk ((List.length ([] : List Int)) + (List.length x)))) (fun (a0 : Unit) => (bindO (some (([] : List Int) ++ x)) (fun (a1 : (List Int)) => (some a1)))))

noncomputable def c_S_l1Own : Con0 := ⟨pk_S_l1Own, rk_S_l1Own, M_S_l1Own⟩

set_option maxRecDepth 100000 in
theorem eq_S_l1Own (x : In pk_S_l1Own) : semF (mkE []) h_S_l1Own (info Tryz.f116) pk_S_l1Own rk_S_l1Own x = M_S_l1Own x := (semFF_eq _ _ _ _ _ _).symm.trans (by kernel_rfl)

set_option maxRecDepth 100000 in
theorem m_S_l1Own : ConOK Tryz.prog 116 c_S_l1Own := fn_ok (tyOK _) (E := mkE []) (consOK_nil rfl) Tryz.func116 (h := h_S_l1Own) (by kernel_rfl) eq_S_l1Own

/-- S_l1Cur_anyExpo -/
def pk_S_l1Cur_anyExpo : List PK := [.mp (.cons (.sl (.int .u8)) (.cons (.int .i64) (.one (.int .u64)))) false, .data (.cons (.int .i64) (.cons (.int .i64) (.one (.int .i64))))]
def rk_S_l1Cur_anyExpo : List (Ty × Bool) := [((.int .i64), false)]
def h_S_l1Cur_anyExpo : Hints := { loops := [] }
noncomputable def M_S_l1Cur_anyExpo (x : (((List Int) × (Int × Int)) × (Int × (Int × Int)))) : (Option (Int × ((List Int) × (Int × Int)))) :=
  (bindO (M_S_l1Cur_one ((x.1.1, (x.1.2.1, x.1.2.2)), (24 : Int))) (fun (a0 : (Bool × ((List Int) × (Int × Int)))) => (cond a0.1 (bindO (some (IntKind.wrap .i64 (x.2.2.1 - (1 : Int)))) (fun (a1 : Int) => (bindO (M_S_l1Cur_among ((a0.2.1, (a0.2.2.1, a0.2.2.2)), (x.2.2.1 :: ((- (1 : Int)) :: (a1 :: ([] : List Int)))))) (fun (a2 : (Int × ((List Int) × (Int × Int)))) => (some (a2.1, (a2.2.1, (a2.2.2.1, a2.2.2.2)))))))) (bindO (M_S_l1Cur_expo ((a0.2.1, (a0.2.2.1, a0.2.2.2)), (x.2.1, (x.2.2.1, x.2.2.2)))) (fun (a3 : (Int × ((List Int) × (Int × Int)))) => (some (a3.1, (a3.2.1, (a3.2.2.1, a3.2.2.2)))))))))

noncomputable def c_S_l1Cur_anyExpo : Con0 := ⟨pk_S_l1Cur_anyExpo, rk_S_l1Cur_anyExpo, M_S_l1Cur_anyExpo⟩

set_option maxRecDepth 100000 in
theorem eq_S_l1Cur_anyExpo (x : In pk_S_l1Cur_anyExpo) : semF (mkE [(31, c_S_l1Cur_one), (88, c_S_l1Cur_among), (64, c_S_l1Cur_expo)]) h_S_l1Cur_anyExpo (info Tryz.f40) pk_S_l1Cur_anyExpo rk_S_l1Cur_anyExpo x = M_S_l1Cur_anyExpo x := (semFF_eq _ _ _ _ _ _).symm.trans (by kernel_rfl)

set_option maxRecDepth 100000 in
theorem m_S_l1Cur_anyExpo : ConOK Tryz.prog 40 c_S_l1Cur_anyExpo := fn_ok (tyOK _) (E := mkE [(31, c_S_l1Cur_one), (88, c_S_l1Cur_among), (64, c_S_l1Cur_expo)]) (consOK_cons m_S_l1Cur_one (consOK_cons m_S_l1Cur_among (consOK_cons m_S_l1Cur_expo (consOK_nil rfl)))) Tryz.func40 (h := h_S_l1Cur_anyExpo) (by kernel_rfl) eq_S_l1Cur_anyExpo

/-- S_l1Cur_anyElement -/
def pk_S_l1Cur_anyElement : List PK := [.mp (.cons (.sl (.int .u8)) (.cons (.int .i64) (.one (.int .u64)))) false, .data (.cons (.int .i64) (.cons (.int .i64) (.one (.int .i64))))]
def rk_S_l1Cur_anyElement : List (Ty × Bool) := [((.int .i64), false)]
def h_S_l1Cur_anyElement : Hints := { loops := [] }
noncomputable def M_S_l1Cur_anyElement (x : (((List Int) × (Int × Int)) × (Int × (Int × Int)))) : (Option (Int × ((List Int) × (Int × Int)))) :=
  (bindO (M_S_l1Cur_one ((x.1.1, (x.1.2.1, x.1.2.2)), (20 : Int))) (fun (a0 : (Bool × ((List Int) × (Int × Int)))) => (cond a0.1 (bindO (some (IntKind.wrap .i64 (x.2.1 - (1 : Int)))) (fun (a1 : Int) => (bindO (M_S_l1Cur_among ((a0.2.1, (a0.2.2.1, a0.2.2.2)), ((0 : Int) :: ((1 : Int) :: (a1 :: (x.2.1 :: ((- (1 : Int)) :: ((5 : Int) :: ([] : List Int))))))))) (fun (a2 : (Int × ((List Int) × (Int × Int)))) => (some (a2.1, (a2.2.1, (a2.2.2.1, a2.2.2.2)))))))) (bindO (M_S_l1Cur_element ((a0.2.1, (a0.2.2.1, a0.2.2.2)), (x.2.1, (x.2.2.1, x.2.2.2)))) (fun (a3 : (Int × ((List Int) × (Int × Int)))) => (some (a3.1, (a3.2.1, (a3.2.2.1, a3.2.2.2)))))))))

noncomputable def c_S_l1Cur_anyElement : Con0 := ⟨pk_S_l1Cur_anyElement, rk_S_l1Cur_anyElement, M_S_l1Cur_anyElement⟩

set_option maxRecDepth 100000 in
theorem eq_S_l1Cur_anyElement (x : In pk_S_l1Cur_anyElement) : semF (mkE [(31, c_S_l1Cur_one), (88, c_S_l1Cur_among), (63, c_S_l1Cur_element)]) h_S_l1Cur_anyElement (info Tryz.f69) pk_S_l1Cur_anyElement rk_S_l1Cur_anyElement x = M_S_l1Cur_anyElement x := (semFF_eq _ _ _ _ _ _).symm.trans (by kernel_rfl)

set_option maxRecDepth 100000 in
theorem m_S_l1Cur_anyElement : ConOK Tryz.prog 69 c_S_l1Cur_anyElement := fn_ok (tyOK _) (E := mkE [(31, c_S_l1Cur_one), (88, c_S_l1Cur_among), (63, c_S_l1Cur_element)]) (consOK_cons m_S_l1Cur_one (consOK_cons m_S_l1Cur_among (consOK_cons m_S_l1Cur_element (consOK_nil rfl)))) Tryz.func69 (h := h_S_l1Cur_anyElement) (by kernel_rfl) eq_S_l1Cur_anyElement

/-- S_l1Cur_spoiltProof -/
def pk_S_l1Cur_spoiltProof : List PK := [.mp (.cons (.sl (.int .u8)) (.cons (.int .i64) (.one (.int .u64)))) false, .data (.cons (.int .i64) (.cons (.int .i64) (.one (.int .i64)))), .mv (.cons (.sl (.int .i64)) (.cons (.sl (.int .i64)) (.one (.sl (.int .i64)))))]
def rk_S_l1Cur_spoiltProof : List (Ty × Bool) := [((.cons (.sl (.int .i64)) (.cons (.sl (.int .i64)) (.one (.sl (.int .i64))))), true)]
def h_S_l1Cur_spoiltProof : Hints := { loops := [] }
noncomputable def M_S_l1Cur_spoiltProof (x : (((List Int) × (Int × Int)) × ((Int × (Int × Int)) × ((List Int) × ((List Int) × (List Int)))))) : (Option (((List Int) × ((List Int) × (List Int))) × (((List Int) × (Int × Int)) × ((List Int) × ((List Int) × (List Int)))))) :=
  (bindO (M_S_l1Own x.2.2.1) (fun (a0 : (List Int)) => (bindO (M_S_l1Own x.2.2.2.1) (fun (a1 : (List Int)) => (bindO (M_S_l1Own x.2.2.2.2) (fun (a2 : (List Int)) => (bindO (M_S_l1Cur_pick ((x.1.1, (x.1.2.1, x.1.2.2)), (12 : Int))) (fun (a3 : (Int × ((List Int) × (Int × Int)))) => (cond (a3.1 == (0 : Int)) (cond (decide ((((List.length a2) : Nat) : Int) > (0 : Int))) (bindO (M_S_l1Cur_pick ((a3.2.1, (a3.2.2.1, a3.2.2.2)), (((List.length a2) : Nat) : Int))) (fun (a4 : (Int × ((List Int) × (Int × Int)))) => (bindO (M_S_l1Cur_anyExpo ((a4.2.1, (a4.2.2.1, a4.2.2.2)), (x.2.1.1, (x.2.1.2.1, x.2.1.2.2)))) (fun (a5 : (Int × ((List Int) × (Int × Int)))) => (bindO (getI a2 a4.1) (fun (a6 : Int) => (bindO (some (List.set a2 (Int.toNat a4.1) a5.1)) (fun (a7 : (List Int)) => (some ((a0, (a1, a7)), ((a5.2.1, (a5.2.2.1, a5.2.2.2)), (x.2.2.1, (x.2.2.2.1, x.2.2.2.2))))))))))))) (some ((a0, (a1, a2)), ((a3.2.1, (a3.2.2.1, a3.2.2.2)), (x.2.2.1, (x.2.2.2.1, x.2.2.2.2)))))) (cond (a3.1 == (1 : Int)) (cond (decide ((((List.length a0) : Nat) : Int) > (0 : Int))) (bindO (M_S_l1Cur_pick ((a3.2.1, (a3.2.2.1, a3.2.2.2)), (((List.length a0) : Nat) : Int))) (fun (a8 : (Int × ((List Int) × (Int × Int)))) => (bindO (M_S_l1Cur_anyElement ((a8.2.1, (a8.2.2.1, a8.2.2.2)), (x.2.1.1, (x.2.1.2.1, x.2.1.2.2)))) (fun (a9 : (Int × ((List Int) × (Int × Int)))) => (bindO (getI a0 a8.1) (fun (a10 : Int) => (bindO (some (List.set a0 (Int.toNat a8.1) a9.1)) (fun (a11 : (List Int)) => (some ((a11, (a1, a2)), ((a9.2.1, (a9.2.2.1, a9.2.2.2)), (x.2.2.1, (x.2.2.2.1, x.2.2.2.2))))))))))))) (some ((a0, (a1, a2)), ((a3.2.1, (a3.2.2.1, a3.2.2.2)), (x.2.2.1, (x.2.2.2.1, x.2.2.2.2)))))) (cond (a3.1 == (2 : Int)) (cond (decide ((((List.length a1) : Nat) : Int) > (0 : Int))) (bindO (M_S_l1Cur_pick ((a3.2.1, (a3.2.2.1, a3.2.2.2)), (((List.length a1) : Nat) : Int))) (fun (a12 : (Int × ((List Int) × (Int × Int)))) => (bindO (M_S_l1Cur_anyExpo ((a12.2.1, (a12.2.2.1, a12.2.2.2)), (x.2.1.1, (x.2.1.2.1, x.2.1.2.2)))) (fun (a13 : (Int × ((List Int) × (Int × Int)))) => (bindO (getI a1 a12.1) (fun (a14 : Int) => (bindO (some (List.set a1 (Int.toNat a12.1) a13.1)) (fun (a15 : (List Int)) => (some ((a0, (a15, a2)), ((a13.2.1, (a13.2.2.1, a13.2.2.2)), (x.2.2.1, (x.2.2.2.1, x.2.2.2.2))))))))))))) (some ((a0, (a1, a2)), ((a3.2.1, (a3.2.2.1, a3.2.2.2)), (x.2.2.1, (x.2.2.2.1, x.2.2.2.2)))))) (cond (a3.1 == (3 : Int)) (bindO (guardO (lenOk ((List.length a2) + (List.length ((0 : Int) :: ([] : List Int)))))) (fun (a16 : Unit) => (bindO (some (a2 ++ ((0 : Int) :: ([] : List Int)))) (fun (a17 : (List Int)) => (some ((a0, (a1, a17)), ((a3.2.1, (a3.2.2.1, a3.2.2.2)), (x.2.2.1, (x.2.2.2.1, x.2.2.2.2))))))))) (cond (a3.1 == (4 : Int)) (some ((([] : List Int), (([] : List Int), ([] : List Int))), ((a3.2.1, (a3.2.2.1, a3.2.2.2)), (x.2.2.1, (x.2.2.2.1, x.2.2.2.2))))) (some ((a0, (a1, a2)), ((a3.2.1, (a3.2.2.1, a3.2.2.2)), (x.2.2.1, (x.2.2.2.1, x.2.2.2.2))))))))))))))))))

noncomputable def c_S_l1Cur_spoiltProof : Con0 := ⟨pk_S_l1Cur_spoiltProof, rk_S_l1Cur_spoiltProof, M_S_l1Cur_spoiltProof⟩

set_option maxRecDepth 100000 in
theorem eq_S_l1Cur_spoiltProof (x : In pk_S_l1Cur_spoiltProof) : semF (mkE [(116, c_S_l1Own), (30, c_S_l1Cur_pick), (40, c_S_l1Cur_anyExpo), (69, c_S_l1Cur_anyElement)]) h_S_l1Cur_spoiltProof (info Tryz.f68) pk_S_l1Cur_spoiltProof rk_S_l1Cur_spoiltProof x = M_S_l1Cur_spoiltProof x := (semFF_eq _ _ _ _ _ _).symm.trans (by kernel_rfl)

set_option maxRecDepth 100000 in
theorem m_S_l1Cur_spoiltProof : ConOK Tryz.prog 68 c_S_l1Cur_spoiltProof := fn_ok (tyOK _) (E := mkE [(116, c_S_l1Own), (30, c_S_l1Cur_pick), (40, c_S_l1Cur_anyExpo), (69, c_S_l1Cur_anyElement)]) (consOK_cons m_S_l1Own (consOK_cons m_S_l1Cur_pick (consOK_cons m_S_l1Cur_anyExpo (consOK_cons m_S_l1Cur_anyElement (consOK_nil rfl))))) Tryz.func68 (h := h_S_l1Cur_spoiltProof) (by kernel_rfl) eq_S_l1Cur_spoiltProof

/-- S_l1Cur_equals -/
def pk_S_l1Cur_equals : List PK := [.mp (.cons (.sl (.int .u8)) (.cons (.int .i64) (.one (.int .u64)))) false, .data (.cons (.int .i64) (.cons (.int .i64) (.one (.int .i64)))), .data .str]
def rk_S_l1Cur_equals : List (Ty × Bool) := [((.sl (.cons (.int .i64) (.cons (.int .i64) (.cons (.int .i64) (.one (.int .i64)))))), true), ((.sl (.cons (.sl (.int .i64)) (.cons (.sl (.int .i64)) (.one (.sl (.int .i64)))))), true)]
def h_S_l1Cur_equals : Hints := { loops := [(0, { items := [.slot 8 (.own (.cons (.int .i64) (.cons (.int .i64) (.cons (.int .i64) (.one (.int .i64))))) true), .slot 9 (.own (.cons (.sl (.int .i64)) (.cons (.sl (.int .i64)) (.one (.sl (.int .i64))))) true), .slot 10 (.data (.int .i64) []), .cell 0 0 (.data (.sl (.int .u8)) []), .cell 0 1 (.data (.int .i64) []), .cell 0 2 (.data (.int .u64) [])], kill := [1, 3, 5, 6, 7] ++ (sgN 11 75) })] }
noncomputable def M_S_l1Cur_equals (x : (((List Int) × (Int × Int)) × ((Int × (Int × Int)) × ByteArray))) : (Option ((List (Int × (Int × (Int × Int)))) × ((List ((List Int) × ((List Int) × (List Int)))) × ((List Int) × (Int × Int))))) :=
  (bindO (M_S_l1Cur_pick ((x.1.1, (x.1.2.1, x.1.2.2)), (7 : Int))) (fun (a0 : (Int × ((List Int) × (Int × Int)))) => (bindO (M_S_l1Cur_one ((a0.2.1, (a0.2.2.1, a0.2.2.2)), (24 : Int))) (fun (a1 : (Bool × ((List Int) × (Int × Int)))) => (cond a1.1 (bindO (M_S_l1Cur_pick ((a1.2.1, (a1.2.2.1, a1.2.2.2)), (2 : Int))) (fun (a2 : (Int × ((List Int) × (Int × Int)))) => (bindO (some (IntKind.wrap .i64 ((12 : Int) + a2.1))) (fun (a3 : Int) => (loopO (fun (again4 : (((List (Int × (Int × (Int × Int)))) × ((List ((List Int) × ((List Int) × (List Int)))) × (Int × ((List Int) × (Int × Int))))) → (Option ((List (Int × (Int × (Int × Int)))) × ((List ((List Int) × ((List Int) × (List Int)))) × ((List Int) × (Int × Int))))))) => (fun (s5 : ((List (Int × (Int × (Int × Int)))) × ((List ((List Int) × ((List Int) × (List Int)))) × (Int × ((List Int) × (Int × Int)))))) => (cond (decide (s5.2.2.1 > (0 : Int))) (bindO (M_S_l1Cur_expo ((s5.2.2.2.1, (s5.2.2.2.2.1, s5.2.2.2.2.2)), (x.2.1.1, (x.2.1.2.1, x.2.1.2.2)))) (fun (a6 : (Int × ((List Int) × (Int × Int)))) => (bindO (M_S_l1Cur_element ((a6.2.1, (a6.2.2.1, a6.2.2.2)), (x.2.1.1, (x.2.1.2.1, x.2.1.2.2)))) (fun (a7 : (Int × ((List Int) × (Int × Int)))) => (bindO (M_S_l1Cur_element ((a7.2.1, (a7.2.2.1, a7.2.2.2)), (x.2.1.1, (x.2.1.2.1, x.2.1.2.2)))) (fun (a8 : (Int × ((List Int) × (Int × Int)))) => (bindO (M_S_l2Good (x.2.1.1, (x.2.1.2.1, x.2.1.2.2))) (fun (a9 : Bool) => (cond a9 (bindO (M_S_gExp ((x.2.1.1, (x.2.1.2.1, x.2.1.2.2)), (a7.1, a6.1))) (fun (a10 : Int) => (bindO (M_S_gExp ((x.2.1.1, (x.2.1.2.1, x.2.1.2.2)), (a8.1, a6.1))) (fun (a11 : Int) => (bindO (M_S_l1Cur_expo ((a8.2.1, (a8.2.2.1, a8.2.2.2)), (x.2.1.1, (x.2.1.2.1, x.2.1.2.2)))) (fun (a12 : (Int × ((List Int) × (Int × Int)))) => (bindO (M_S_ProveEqual ((x.2.1.1, (x.2.1.2.1, x.2.1.2.2)), (x.2.2, ((a7.1, (a10, (a8.1, a11))), (a6.1, a12.1))))) (fun (a13 : (((List Int) × ((List Int) × (List Int))) × Bool)) => (bindO (M_S_l1Cur_one ((a12.2.1, (a12.2.2.1, a12.2.2.2)), (5 : Int))) (fun (a14 : (Bool × ((List Int) × (Int × Int)))) => (cond a14.1 (bindO (M_S_l1Cur_spoiltProof ((a14.2.1, (a14.2.2.1, a14.2.2.2)), ((x.2.1.1, (x.2.1.2.1, x.2.1.2.2)), (a13.1.1, (a13.1.2.1, a13.1.2.2))))) (fun (a15 : (((List Int) × ((List Int) × (List Int))) × (((List Int) × (Int × Int)) × ((List Int) × ((List Int) × (List Int)))))) => (bindO (M_S_l1Cur_one ((a15.2.1.1, (a15.2.1.2.1, a15.2.1.2.2)), (24 : Int))) (fun (a16 : (Bool × ((List Int) × (Int × Int)))) => (cond a16.1 (bindO (M_S_l1Cur_anyElement ((a16.2.1, (a16.2.2.1, a16.2.2.2)), (x.2.1.1, (x.2.1.2.1, x.2.1.2.2)))) (fun (a17 : (Int × ((List Int) × (Int × Int)))) => (bindO (guardO (lenOk ((List.length s5.1) + (List.length ((a7.1, (a10, (a8.1, a17.1))) :: ([] : List (Int × (Int × (Int × Int))))))))) (fun (a18 : Unit) => (bindO (some (s5.1 ++ ((a7.1, (a10, (a8.1, a17.1))) :: ([] : List (Int × (Int × (Int × Int))))))) (fun (a19 : (List (Int × (Int × (Int × Int))))) => (bindO (guardO (lenOk ((List.length s5.2.1) + (List.length ((a15.1.1, (a15.1.2.1, a15.1.2.2)) :: ([] : List ((List Int) × ((List Int) × (List Int))))))))) (fun (a20 : Unit) => (bindO (some (s5.2.1 ++ ((a15.1.1, (a15.1.2.1, a15.1.2.2)) :: ([] : List ((List Int) × ((List Int) × (List Int))))))) (fun (a21 : (List ((List Int) × ((List Int) × (List Int))))) => (bindO (some (IntKind.wrap .i64 (s5.2.2.1 - (1 : Int)))) (fun (a22 : Int) => (again4 (a19, (a21, (a22, (a17.2.1, (a17.2.2.1, a17.2.2.2)))))))))))))))))) (bindO (guardO (lenOk ((List.length s5.1) + (List.length ((a7.1, (a10, (a8.1, a11))) :: ([] : List (Int × (Int × (Int × Int))))))))) (fun (a23 : Unit) => (bindO (some (s5.1 ++ ((a7.1, (a10, (a8.1, a11))) :: ([] : List (Int × (Int × (Int × Int))))))) (fun (a24 : (List (Int × (Int × (Int × Int))))) => (bindO (guardO (lenOk ((List.length s5.2.1) + (List.length ((a15.1.1, (a15.1.2.1, a15.1.2.2)) :: ([] : List ((List Int) × ((List Int) × (List Int))))))))) (fun (a25 : Unit) => (bindO (some (s5.2.1 ++ ((a15.1.1, (a15.1.2.1, a15.1.2.2)) :: ([] : List ((List Int) × ((List Int) × (List Int))))))) (fun (a26 : (List ((List Int) × ((List Int) × (List Int))))) => (bindO (some (IntKind.wrap .i64 (s5.2.2.1 - (1 : Int)))) (fun (a27 : Int) => (again4 (a24, (a26, (a27, (a16.2.1, (a16.2.2.1, a16.2.2.2))))))))))))))))))))) (bindO (M_S_l1Cur_one ((a14.2.1, (a14.2.2.1, a14.2.2.2)), (24 : Int))) (fun (a28 : (Bool × ((List Int) × (Int × Int)))) => (cond a28.1 (bindO (M_S_l1Cur_anyElement ((a28.2.1, (a28.2.2.1, a28.2.2.2)), (x.2.1.1, (x.2.1.2.1, x.2.1.2.2)))) (fun (a29 : (Int × ((List Int) × (Int × Int)))) => (bindO (guardO (lenOk ((List.length s5.1) + (List.length ((a7.1, (a10, (a8.1, a29.1))) :: ([] : List (Int × (Int × (Int × Int))))))))) (fun (a30 : Unit) => (bindO (some (s5.1 ++ ((a7.1, (a10, (a8.1, a29.1))) :: ([] : List (Int × (Int × (Int × Int))))))) (fun (a31 : (List (Int × (Int × (Int × Int))))) => (bindO (guardO (lenOk ((List.length s5.2.1) + (List.length ((a13.1.1, (a13.1.2.1, a13.1.2.2)) :: ([] : List ((List Int) × ((List Int) × (List Int))))))))) (fun (a32 : Unit) => (bindO (some (s5.2.1 ++ ((a13.1.1, (a13.1.2.1, a13.1.2.2)) :: ([] : List ((List Int) × ((List Int) × (List Int))))))) (fun (a33 : (List ((List Int) × ((List Int) × (List Int))))) => (bindO (some (IntKind.wrap .i64 (s5.2.2.1 - (1 : Int)))) (fun (a34 : Int) => (again4 (a31, (a33, (a34, (a29.2.1, (a29.2.2.1, a29.2.2.2)))))))))))))))))) (bindO (guardO (lenOk ((List.length s5.1) + (List.length ((a7.1, (a10, (a8.1, a11))) :: ([] : List (Int × (Int × (Int × Int))))))))) (fun (a35 : Unit) => (bindO (some (s5.1 ++ ((a7.1, (a10, (a8.1, a11))) :: ([] : List (Int × (Int × (Int × Int))))))) (fun (a36 : (List (Int × (Int × (Int × Int))))) => (bindO (guardO (lenOk ((List.length s5.2.1) + (List.length ((a13.1.1, (a13.1.2.1, a13.1.2.2)) :: ([] : List ((List Int) × ((List Int) × (List Int))))))))) (fun (a37 : Unit) => (bindO (some (s5.2.1 ++ ((a13.1.1, (a13.1.2.1, a13.1.2.2)) :: ([] : List ((List Int) × ((List Int) × (List Int))))))) (fun (a38 : (List ((List Int) × ((List Int) × (List Int))))) => (bindO (some (IntKind.wrap .i64 (s5.2.2.1 - (1 : Int)))) (fun (a39 : Int) => (again4 (a36, (a38, (a39, (a28.2.1, (a28.2.2.1, a28.2.2.2)))))))))))))))))))))))))))))) (bindO (M_S_l1Cur_expo ((a8.2.1, (a8.2.2.1, a8.2.2.2)), (x.2.1.1, (x.2.1.2.1, x.2.1.2.2)))) (fun (a40 : (Int × ((List Int) × (Int × Int)))) => (bindO (M_S_ProveEqual ((x.2.1.1, (x.2.1.2.1, x.2.1.2.2)), (x.2.2, ((a7.1, ((1 : Int), (a8.1, (1 : Int)))), (a6.1, a40.1))))) (fun (a41 : (((List Int) × ((List Int) × (List Int))) × Bool)) => (bindO (M_S_l1Cur_one ((a40.2.1, (a40.2.2.1, a40.2.2.2)), (5 : Int))) (fun (a42 : (Bool × ((List Int) × (Int × Int)))) => (cond a42.1 (bindO (M_S_l1Cur_spoiltProof ((a42.2.1, (a42.2.2.1, a42.2.2.2)), ((x.2.1.1, (x.2.1.2.1, x.2.1.2.2)), (a41.1.1, (a41.1.2.1, a41.1.2.2))))) (fun (a43 : (((List Int) × ((List Int) × (List Int))) × (((List Int) × (Int × Int)) × ((List Int) × ((List Int) × (List Int)))))) => (bindO (M_S_l1Cur_one ((a43.2.1.1, (a43.2.1.2.1, a43.2.1.2.2)), (24 : Int))) (fun (a44 : (Bool × ((List Int) × (Int × Int)))) => (cond a44.1 (bindO (M_S_l1Cur_anyElement ((a44.2.1, (a44.2.2.1, a44.2.2.2)), (x.2.1.1, (x.2.1.2.1, x.2.1.2.2)))) (fun (a45 : (Int × ((List Int) × (Int × Int)))) => (bindO (guardO (lenOk ((List.length s5.1) + (List.length ((a7.1, ((1 : Int), (a8.1, a45.1))) :: ([] : List (Int × (Int × (Int × Int))))))))) (fun (a46 : Unit) => (bindO (some (s5.1 ++ ((a7.1, ((1 : Int), (a8.1, a45.1))) :: ([] : List (Int × (Int × (Int × Int))))))) (fun (a47 : (List (Int × (Int × (Int × Int))))) => (bindO (guardO (lenOk ((List.length s5.2.1) + (List.length ((a43.1.1, (a43.1.2.1, a43.1.2.2)) :: ([] : List ((List Int) × ((List Int) × (List Int))))))))) (fun (a48 : Unit) => (bindO (some (s5.2.1 ++ ((a43.1.1, (a43.1.2.1, a43.1.2.2)) :: ([] : List ((List Int) × ((List Int) × (List Int))))))) (fun (a49 : (List ((List Int) × ((List Int) × (List Int))))) => (bindO (some (IntKind.wrap .i64 (s5.2.2.1 - (1 : Int)))) (fun (a50 : Int) => (again4 (a47, (a49, (a50, (a45.2.1, (a45.2.2.1, a45.2.2.2)))))))))))))))))) (bindO (guardO (lenOk ((List.length s5.1) + (List.length ((a7.1, ((1 : Int), (a8.1, (1 : Int)))) :: ([] : List (Int × (Int × (Int × Int))))))))) (fun (a51 : Unit) => (bindO (some (s5.1 ++ ((a7.1, ((1 : Int), (a8.1, (1 : Int)))) :: ([] : List (Int × (Int × (Int × Int))))))) (fun (a52 : (List (Int × (Int × (Int × Int))))) => (bindO (guardO (lenOk ((List.length s5.2.1) + (List.length ((a43.1.1, (a43.1.2.1, a43.1.2.2)) :: ([] : List ((List Int) × ((List Int) × (List Int))))))))) (fun (a53 : Unit) => (bindO (some (s5.2.1 ++ ((a43.1.1, (a43.1.2.1, a43.1.2.2)) :: ([] : List ((List Int) × ((List Int) × (List Int))))))) (fun (a54 : (List ((List Int) × ((List Int) × (List Int))))) => (bindO (some (IntKind.wrap .i64 (s5.2.2.1 - (1 : Int)))) (fun (a55 : Int) => (again4 (a52, (a54, (a55, (a44.2.1, (a44.2.2.1, a44.2.2.2))))))))))))))))))))) (bindO (M_S_l1Cur_one ((a42.2.1, (a42.2.2.1, a42.2.2.2)), (24 : Int))) (fun (a56 : (Bool × ((List Int) × (Int × Int)))) => (cond a56.1 (bindO (M_S_l1Cur_anyElement ((a56.2.1, (a56.2.2.1, a56.2.2.2)), (x.2.1.1, (x.2.1.2.1, x.2.1.2.2)))) (fun (a57 : (Int × ((List Int) × (Int × Int)))) => (bindO (guardO (lenOk ((List.length s5.1) + (List.length ((a7.1, ((1 : Int), (a8.1, a57.1))) :: ([] : List (Int × (Int × (Int × Int))))))))) (fun (a58 : Unit) => (bindO (some (s5.1 ++ ((a7.1, ((1 : Int), (a8.1, a57.1))) :: ([] : List (Int × (Int × (Int × Int))))))) (fun (a59 : (List (Int × (Int × (Int × Int))))) => (bindO (guardO (lenOk ((List.length s5.2.1) + (List.length ((a41.1.1, (a41.1.2.1, a41.1.2.2)) :: ([] : List ((List Int) × ((List Int) × (List Int))))))))) (fun (a60 : Unit) => (bindO (some (s5.2.1 ++ ((a41.1.1, (a41.1.2.1, a41.1.2.2)) :: ([] : List ((List Int) × ((List Int) × (List Int))))))) (fun (a61 : (List ((List Int) × ((List Int) × (List Int))))) => (bindO (some (IntKind.wrap .i64 (s5.2.2.1 - (1 : Int)))) (fun (a62 : Int) => (again4 (a59, (a61, (a62, (a57.2.1, (a57.2.2.1, a57.2.2.2)))))))))))))))))) (bindO (guardO (lenOk ((List.length s5.1) + (List.length ((a7.1, ((1 : Int), (a8.1, (1 : Int)))) :: ([] : List (Int × (Int × (Int × Int))))))))) (fun (a63 : Unit) => (bindO (some (s5.1 ++ ((a7.1, ((1 : Int), (a8.1, (1 : Int)))) :: ([] : List (Int × (Int × (Int × Int))))))) (fun (a64 : (List (Int × (Int × (Int × Int))))) => (bindO (guardO (lenOk ((List.length s5.2.1) + (List.length ((a41.1.1, (a41.1.2.1, a41.1.2.2)) :: ([] : List ((List Int) × ((List Int) × (List Int))))))))) (fun (a65 : Unit) => (bindO (some (s5.2.1 ++ ((a41.1.1, (a41.1.2.1, a41.1.2.2)) :: ([] : List ((List Int) × ((List Int) × (List Int))))))) (fun (a66 : (List ((List Int) × ((List Int) × (List Int))))) => (bindO (some (IntKind.wrap .i64 (s5.2.2.1 - (1 : Int)))) (fun (a67 : Int) => (again4 (a64, (a66, (a67, (a56.2.1, (a56.2.2.1, a56.2.2.2))))))))))))))))))))))))))))))))))) (some (s5.1, (s5.2.1, (s5.2.2.2.1, (s5.2.2.2.2.1, s5.2.2.2.2.2)))))))) (([] : List (Int × (Int × (Int × Int)))), (([] : List ((List Int) × ((List Int) × (List Int)))), (a3, (a2.2.1, (a2.2.2.1, a2.2.2.2)))))))))) (loopO (fun (again68 : (((List (Int × (Int × (Int × Int)))) × ((List ((List Int) × ((List Int) × (List Int)))) × (Int × ((List Int) × (Int × Int))))) → (Option ((List (Int × (Int × (Int × Int)))) × ((List ((List Int) × ((List Int) × (List Int)))) × ((List Int) × (Int × Int))))))) => (fun (s69 : ((List (Int × (Int × (Int × Int)))) × ((List ((List Int) × ((List Int) × (List Int)))) × (Int × ((List Int) × (Int × Int)))))) => (cond (decide (s69.2.2.1 > (0 : Int))) (bindO (M_S_l1Cur_expo ((s69.2.2.2.1, (s69.2.2.2.2.1, s69.2.2.2.2.2)), (x.2.1.1, (x.2.1.2.1, x.2.1.2.2)))) (fun (a70 : (Int × ((List Int) × (Int × Int)))) => (bindO (M_S_l1Cur_element ((a70.2.1, (a70.2.2.1, a70.2.2.2)), (x.2.1.1, (x.2.1.2.1, x.2.1.2.2)))) (fun (a71 : (Int × ((List Int) × (Int × Int)))) => (bindO (M_S_l1Cur_element ((a71.2.1, (a71.2.2.1, a71.2.2.2)), (x.2.1.1, (x.2.1.2.1, x.2.1.2.2)))) (fun (a72 : (Int × ((List Int) × (Int × Int)))) => (bindO (M_S_l2Good (x.2.1.1, (x.2.1.2.1, x.2.1.2.2))) (fun (a73 : Bool) => (cond a73 (bindO (M_S_gExp ((x.2.1.1, (x.2.1.2.1, x.2.1.2.2)), (a71.1, a70.1))) (fun (a74 : Int) => (bindO (M_S_gExp ((x.2.1.1, (x.2.1.2.1, x.2.1.2.2)), (a72.1, a70.1))) (fun (a75 : Int) => (bindO (M_S_l1Cur_expo ((a72.2.1, (a72.2.2.1, a72.2.2.2)), (x.2.1.1, (x.2.1.2.1, x.2.1.2.2)))) (fun (a76 : (Int × ((List Int) × (Int × Int)))) => (bindO (M_S_ProveEqual ((x.2.1.1, (x.2.1.2.1, x.2.1.2.2)), (x.2.2, ((a71.1, (a74, (a72.1, a75))), (a70.1, a76.1))))) (fun (a77 : (((List Int) × ((List Int) × (List Int))) × Bool)) => (bindO (M_S_l1Cur_one ((a76.2.1, (a76.2.2.1, a76.2.2.2)), (5 : Int))) (fun (a78 : (Bool × ((List Int) × (Int × Int)))) => (cond a78.1 (bindO (M_S_l1Cur_spoiltProof ((a78.2.1, (a78.2.2.1, a78.2.2.2)), ((x.2.1.1, (x.2.1.2.1, x.2.1.2.2)), (a77.1.1, (a77.1.2.1, a77.1.2.2))))) (fun (a79 : (((List Int) × ((List Int) × (List Int))) × (((List Int) × (Int × Int)) × ((List Int) × ((List Int) × (List Int)))))) => (bindO (M_S_l1Cur_one ((a79.2.1.1, (a79.2.1.2.1, a79.2.1.2.2)), (24 : Int))) (fun (a80 : (Bool × ((List Int) × (Int × Int)))) => (cond a80.1 (bindO (M_S_l1Cur_anyElement ((a80.2.1, (a80.2.2.1, a80.2.2.2)), (x.2.1.1, (x.2.1.2.1, x.2.1.2.2)))) (fun (a81 : (Int × ((List Int) × (Int × Int)))) => (bindO (guardO (lenOk ((List.length s69.1) + (List.length ((a71.1, (a74, (a72.1, a81.1))) :: ([] : List (Int × (Int × (Int × Int))))))))) (fun (a82 : Unit) => (bindO (some (s69.1 ++ ((a71.1, (a74, (a72.1, a81.1))) :: ([] : List (Int × (Int × (Int × Int))))))) (fun (a83 : (List (Int × (Int × (Int × Int))))) => (bindO (guardO (lenOk ((List.length s69.2.1) + (List.length ((a79.1.1, (a79.1.2.1, a79.1.2.2)) :: ([] : List ((List Int) × ((List Int) × (List Int))))))))) (fun (a84 : Unit) => (bindO (some (s69.2.1 ++ ((a79.1.1, (a79.1.2.1, a79.1.2.2)) :: ([] : List ((List Int) × ((List Int) × (List Int))))))) (fun (a85 : (List ((List Int) × ((List Int) × (List Int))))) => (bindO (some (IntKind.wrap .i64 (s69.2.2.1 - (1 : Int)))) (fun (a86 : Int) => (again68 (a83, (a85, (a86, (a81.2.1, (a81.2.2.1, a81.2.2.2)))))))))))))))))) (bindO (guardO (lenOk ((List.length s69.1) + (List.length ((a71.1, (a74, (a72.1, a75))) :: ([] : List (Int × (Int × (Int × Int))))))))) (fun (a87 : Unit) => (bindO (some (s69.1 ++ ((a71.1, (a74, (a72.1, a75))) :: ([] : List (Int × (Int × (Int × Int))))))) (fun (a88 : (List (Int × (Int × (Int × Int))))) => (bindO (guardO (lenOk ((List.length s69.2.1) + (List.length ((a79.1.1, (a79.1.2.1, a79.1.2.2)) :: ([] : List ((List Int) × ((List Int) × (List Int))))))))) (fun (a89 : Unit) => (bindO (some (s69.2.1 ++ ((a79.1.1, (a79.1.2.1, a79.1.2.2)) :: ([] : List ((List Int) × ((List Int) × (List Int))))))) (fun (a90 : (List ((List Int) × ((List Int) × (List Int))))) => (bindO (some (IntKind.wrap .i64 (s69.2.2.1 - (1 : Int)))) (fun (a91 : Int) => (again68 (a88, (a90, (a91, (a80.2.1, (a80.2.2.1, a80.2.2.2))))))))))))))))))))) (bindO (M_S_l1Cur_one ((a78.2.1, (a78.2.2.1, a78.2.2.2)), (24 : Int))) (fun (a92 : (Bool × ((List Int) × (Int × Int)))) => (cond a92.1 (bindO (M_S_l1Cur_anyElement ((a92.2.1, (a92.2.2.1, a92.2.2.2)), (x.2.1.1, (x.2.1.2.1, x.2.1.2.2)))) (fun (a93 : (Int × ((List Int) × (Int × Int)))) => (bindO (guardO (lenOk ((List.length s69.1) + (List.length ((a71.1, (a74, (a72.1, a93.1))) :: ([] : List (Int × (Int × (Int × Int))))))))) (fun (a94 : Unit) => (bindO (some (s69.1 ++ ((a71.1, (a74, (a72.1, a93.1))) :: ([] : List (Int × (Int × (Int × Int))))))) (fun (a95 : (List (Int × (Int × (Int × Int))))) => (bindO (guardO (lenOk ((List.length s69.2.1) + (List.length ((a77.1.1, (a77.1.2.1, a77.1.2.2)) :: ([] : List ((List Int) × ((List Int) × (List Int))))))))) (fun (a96 : Unit) => (bindO (some (s69.2.1 ++ ((a77.1.1, (a77.1.2.1, a77.1.2.2)) :: ([] : List ((List Int) × ((List Int) × (List Int))))))) (fun (a97 : (List ((List Int) × ((List Int) × (List Int))))) => (bindO (some (IntKind.wrap .i64 (s69.2.2.1 - (1 : Int)))) (fun (a98 : Int) => (again68 (a95, (a97, (a98, (a93.2.1, (a93.2.2.1, a93.2.2.2)))))))))))))))))) (bindO (guardO (lenOk ((List.length s69.1) + (List.length ((a71.1, (a74, (a72.1, a75))) :: ([] : List (Int × (Int × (Int × Int))))))))) (fun (a99 : Unit) => (bindO (some (s69.1 ++ ((a71.1, (a74, (a72.1, a75))) :: ([] : List (Int × (Int × (Int × Int))))))) (fun (a100 : (List (Int × (Int × (Int × Int))))) => (bindO (guardO (lenOk ((List.length s69.2.1) + (List.length ((a77.1.1, (a77.1.2.1, a77.1.2.2)) :: ([] : List ((List Int) × ((List Int) × (List Int))))))))) (fun (a101 : Unit) => (bindO (some (s69.2.1 ++ ((a77.1.1, (a77.1.2.1, a77.1.2.2)) :: ([] : List ((List Int) × ((List Int) × (List Int))))))) (fun (a102 : (List ((List Int) × ((List Int) × (List Int))))) => (bindO (some (IntKind.wrap .i64 (s69.2.2.1 - (1 : Int)))) (fun (a103 : Int) => (again68 (a100, (a102, (a103, (a92.2.1, (a92.2.2.1, a92.2.2.2)))))))))))))))))))))))))))))) (bindO (M_S_l1Cur_expo ((a72.2.1, (a72.2.2.1, a72.2.2.2)), (x.2.1.1, (x.2.1.2.1, x.2.1.2.2)))) (fun (a104 : (Int × ((List Int) × (Int × Int)))) => (bindO (M_S_ProveEqual ((x.2.1.1, (x.2.1.2.1, x.2.1.2.2)), (x.2.2, ((a71.1, ((1 : Int), (a72.1, (1 : Int)))), (a70.1, a104.1))))) (fun (a105 : (((List Int) × ((List Int) × (List Int))) × Bool)) => (bindO (M_S_l1Cur_one ((a104.2.1, (a104.2.2.1, a104.2.2.2)), (5 : Int))) (fun (a106 : (Bool × ((List Int) × (Int × Int)))) => (cond a106.1 (bindO (M_S_l1Cur_spoiltProof ((a106.2.1, (a106.2.2.1, a106.2.2.2)), ((x.2.1.1, (x.2.1.2.1, x.2.1.2.2)), (a105.1.1, (a105.1.2.1, a105.1.2.2))))) (fun (a107 : (((List Int) × ((List Int) × (List Int))) × (((List Int) × (Int × Int)) × ((List Int) × ((List Int) × (List Int)))))) => (bindO (M_S_l1Cur_one ((a107.2.1.1, (a107.2.1.2.1, a107.2.1.2.2)), (24 : Int))) (fun (a108 : (Bool × ((List Int) × (Int × Int)))) => (cond a108.1 (bindO (M_S_l1Cur_anyElement ((a108.2.1, (a108.2.2.1, a108.2.2.2)), (x.2.1.1, (x.2.1.2.1, x.2.1.2.2)))) (fun (a109 : (Int × ((List Int) × (Int × Int)))) => (bindO (guardO (lenOk ((List.length s69.1) + (List.length ((a71.1, ((1 : Int), (a72.1, a109.1))) :: ([] : List (Int × (Int × (Int × Int))))))))) (fun (a110 : Unit) => (bindO (some (s69.1 ++ ((a71.1, ((1 : Int), (a72.1, a109.1))) :: ([] : List (Int × (Int × (Int × Int))))))) (fun (a111 : (List (Int × (Int × (Int × Int))))) => (bindO (guardO (lenOk ((List.length s69.2.1) + (List.length ((a107.1.1, (a107.1.2.1, a107.1.2.2)) :: ([] : List ((List Int) × ((List Int) × (List Int))))))))) (fun (a112 : Unit) => (bindO (some (s69.2.1 ++ ((a107.1.1, (a107.1.2.1, a107.1.2.2)) :: ([] : List ((List Int) × ((List Int) × (List Int))))))) (fun (a113 : (List ((List Int) × ((List Int) × (List Int))))) => (bindO (some (IntKind.wrap .i64 (s69.2.2.1 - (1 : Int)))) (fun (a114 : Int) => (again68 (a111, (a113, (a114, (a109.2.1, (a109.2.2.1, a109.2.2.2)))))))))))))))))) (bindO (guardO (lenOk ((List.length s69.1) + (List.length ((a71.1, ((1 : Int), (a72.1, (1 : Int)))) :: ([] : List (Int × (Int × (Int × Int))))))))) (fun (a115 : Unit) => (bindO (some (s69.1 ++ ((a71.1, ((1 : Int), (a72.1, (1 : Int)))) :: ([] : List (Int × (Int × (Int × Int))))))) (fun (a116 : (List (Int × (Int × (Int × Int))))) => (bindO (guardO (lenOk ((List.length s69.2.1) + (List.length ((a107.1.1, (a107.1.2.1, a107.1.2.2)) :: ([] : List ((List Int) × ((List Int) × (List Int))))))))) (fun (a117 : Unit) => (bindO (some (s69.2.1 ++ ((a107.1.1, (a107.1.2.1, a107.1.2.2)) :: ([] : List ((List Int) × ((List Int) × (List Int))))))) (fun (a118 : (List ((List Int) × ((List Int) × (List Int))))) => (bindO (some (IntKind.wrap .i64 (s69.2.2.1 - (1 : Int)))) (fun (a119 : Int) => (again68 (a116, (a118, (a119, (a108.2.1, (a108.2.2.1, a108.2.2.2))))))))))))))))))))) (bindO (M_S_l1Cur_one ((a106.2.1, (a106.2.2.1, a106.2.2.2)), (24 : Int))) (fun (a120 : (Bool × ((List Int) × (Int × Int)))) => (cond a120.1 (bindO (M_S_l1Cur_anyElement ((a120.2.1, (a120.2.2.1, a120.2.2.2)), (x.2.1.1, (x.2.1.2.1, x.2.1.2.2)))) (fun (a121 : (Int × ((List Int) × (Int × Int)))) => (bindO (guardO (lenOk ((List.length s69.1) + (List.length ((a71.1, ((1 : Int), (a72.1, a121.1))) :: ([] : List (Int × (Int × (Int × Int))))))))) (fun (a122 : Unit) => (bindO (some (s69.1 ++ ((a71.1, ((1 : Int), (a72.1, a121.1))) :: ([] : List (Int × (Int × (Int × Int))))))) (fun (a123 : (List (Int × (Int × (Int × Int))))) => (bindO (guardO (lenOk ((List.length s69.2.1) + (List.length ((a105.1.1, (a105.1.2.1, a105.1.2.2)) :: ([] : List ((List Int) × ((List Int) × (List Int))))))))) (fun (a124 : Unit) => (bindO (some (s69.2.1 ++ ((a105.1.1, (a105.1.2.1, a105.1.2.2)) :: ([] : List ((List Int) × ((List Int) × (List Int))))))) (fun (a125 : (List ((List Int) × ((List Int) × (List Int))))) => (bindO (some (IntKind.wrap .i64 (s69.2.2.1 - (1 : Int)))) (fun (a126 : Int) => (again68 (a123, (a125, (a126, (a121.2.1, (a121.2.2.1, a121.2.2.2)))))))))))))))))) (bindO (guardO (lenOk ((List.length s69.1) + (List.length ((a71.1, ((1 : Int), (a72.1, (1 : Int)))) :: ([] : List (Int × (Int × (Int × Int))))))))) (fun (a127 : Unit) => (bindO (some (s69.1 ++ ((a71.1, ((1 : Int), (a72.1, (1 : Int)))) :: ([] : List (Int × (Int × (Int × Int))))))) (fun (a128 : (List (Int × (Int × (Int × Int))))) => (bindO (guardO (lenOk ((List.length s69.2.1) + (List.length ((a105.1.1, (a105.1.2.1, a105.1.2.2)) :: ([] : List ((List Int) × ((List Int) × (List Int))))))))) (fun (a129 : Unit) => (bindO (some (s69.2.1 ++ ((a105.1.1, (a105.1.2.1, a105.1.2.2)) :: ([] : List ((List Int) × ((List Int) × (List Int))))))) (fun (a130 : (List ((List Int) × ((List Int) × (List Int))))) => (bindO (some (IntKind.wrap .i64 (s69.2.2.1 - (1 : Int)))) (fun (a131 : Int) => (again68 (a128, (a130, (a131, (a120.2.1, (a120.2.2.1, a120.2.2.2))))))))))))))))))))))))))))))))))) (some (s69.1, (s69.2.1, (s69.2.2.2.1, (s69.2.2.2.2.1, s69.2.2.2.2.2)))))))) (([] : List (Int × (Int × (Int × Int)))), (([] : List ((List Int) × ((List Int) × (List Int)))), (a0.1, (a1.2.1, (a1.2.2.1, a1.2.2.2)))))))))))

noncomputable def c_S_l1Cur_equals : Con0 := ⟨pk_S_l1Cur_equals, rk_S_l1Cur_equals, M_S_l1Cur_equals⟩

set_option maxRecDepth 100000 in
theorem eq_S_l1Cur_equals (x : In pk_S_l1Cur_equals) : semF (mkE [(30, c_S_l1Cur_pick), (31, c_S_l1Cur_one), (64, c_S_l1Cur_expo), (63, c_S_l1Cur_element), (37, c_S_l2Good), (86, c_S_gExp), (106, c_S_ProveEqual), (68, c_S_l1Cur_spoiltProof), (69, c_S_l1Cur_anyElement)]) h_S_l1Cur_equals (info Tryz.f51) pk_S_l1Cur_equals rk_S_l1Cur_equals x = M_S_l1Cur_equals x := (semFF_eq _ _ _ _ _ _).symm.trans (by kernel_rfl)

set_option maxRecDepth 100000 in
theorem m_S_l1Cur_equals : ConOK Tryz.prog 51 c_S_l1Cur_equals := fn_ok (tyOK _) (E := mkE [(30, c_S_l1Cur_pick), (31, c_S_l1Cur_one), (64, c_S_l1Cur_expo), (63, c_S_l1Cur_element), (37, c_S_l2Good), (86, c_S_gExp), (106, c_S_ProveEqual), (68, c_S_l1Cur_spoiltProof), (69, c_S_l1Cur_anyElement)]) (consOK_cons m_S_l1Cur_pick (consOK_cons m_S_l1Cur_one (consOK_cons m_S_l1Cur_expo (consOK_cons m_S_l1Cur_element (consOK_cons m_S_l2Good (consOK_cons m_S_gExp (consOK_cons m_S_ProveEqual (consOK_cons m_S_l1Cur_spoiltProof (consOK_cons m_S_l1Cur_anyElement (consOK_nil rfl)))))))))) Tryz.func51 (h := h_S_l1Cur_equals) (by kernel_rfl) eq_S_l1Cur_equals

/-- S_DrawBatchEqual -/
def pk_S_DrawBatchEqual : List PK := [.data (.sl (.int .u8))]
def rk_S_DrawBatchEqual : List (Ty × Bool) := [((.cons (.int .i64) (.cons (.int .i64) (.one (.int .i64)))), false), (.str, false), ((.sl (.cons (.int .i64) (.cons (.int .i64) (.cons (.int .i64) (.one (.int .i64)))))), true), ((.sl (.cons (.sl (.int .i64)) (.cons (.sl (.int .i64)) (.one (.sl (.int .i64)))))), true)]
def h_S_DrawBatchEqual : Hints := { loops := [] }
noncomputable def M_S_DrawBatchEqual (x : (List Int)) : (Option ((Int × (Int × Int)) × (ByteArray × ((List (Int × (Int × (Int × Int)))) × (List ((List Int) × ((List Int) × (List Int)))))))) :=
  (bindO (M_S_l1Cur_anyGroup (x, ((0 : Int), (0 : Int)))) (fun (a0 : ((Int × (Int × Int)) × ((List Int) × (Int × Int)))) => (bindO (M_S_l1Cur_label (a0.2.1, (a0.2.2.1, a0.2.2.2))) (fun (a1 : (ByteArray × ((List Int) × (Int × Int)))) => (bindO (M_S_l1Cur_equals ((a1.2.1, (a1.2.2.1, a1.2.2.2)), ((a0.1.1, (a0.1.2.1, a0.1.2.2)), a1.1))) (fun (a2 : ((List (Int × (Int × (Int × Int)))) × ((List ((List Int) × ((List Int) × (List Int)))) × ((List Int) × (Int × Int))))) => (bindO (M_S_l1Cur_one ((a2.2.2.1, (a2.2.2.2.1, a2.2.2.2.2)), (24 : Int))) (fun (a3 : (Bool × ((List Int) × (Int × Int)))) => (cond a3.1 (bindO (guardO (lenOk ((List.length a2.2.1) + (List.length ((([] : List Int), (([] : List Int), ([] : List Int))) :: ([] : List ((List Int) × ((List Int) × (List Int))))))))) (fun (a4 : Unit) => (bindO (some (a2.2.1 ++ ((([] : List Int), (([] : List Int), ([] : List Int))) :: ([] : List ((List Int) × ((List Int) × (List Int))))))) (fun (a5 : (List ((List Int) × ((List Int) × (List Int))))) => (some ((a0.1.1, (a0.1.2.1, a0.1.2.2)), (a1.1, (a2.1, a5)))))))) (some ((a0.1.1, (a0.1.2.1, a0.1.2.2)), (a1.1, (a2.1, a2.2.1)))))))))))))

noncomputable def c_S_DrawBatchEqual : Con0 := ⟨pk_S_DrawBatchEqual, rk_S_DrawBatchEqual, M_S_DrawBatchEqual⟩

set_option maxRecDepth 100000 in
theorem eq_S_DrawBatchEqual (x : In pk_S_DrawBatchEqual) : semF (mkE [(27, c_S_l1Cur_anyGroup), (50, c_S_l1Cur_label), (51, c_S_l1Cur_equals), (31, c_S_l1Cur_one)]) h_S_DrawBatchEqual (info Tryz.f16) pk_S_DrawBatchEqual rk_S_DrawBatchEqual x = M_S_DrawBatchEqual x := (semFF_eq _ _ _ _ _ _).symm.trans (by kernel_rfl)

set_option maxRecDepth 100000 in
theorem m_S_DrawBatchEqual : ConOK Tryz.prog 16 c_S_DrawBatchEqual := fn_ok (tyOK _) (E := mkE [(27, c_S_l1Cur_anyGroup), (50, c_S_l1Cur_label), (51, c_S_l1Cur_equals), (31, c_S_l1Cur_one)]) (consOK_cons m_S_l1Cur_anyGroup (consOK_cons m_S_l1Cur_label (consOK_cons m_S_l1Cur_equals (consOK_cons m_S_l1Cur_one (consOK_nil rfl))))) Tryz.func16 (h := h_S_DrawBatchEqual) (by kernel_rfl) eq_S_DrawBatchEqual

/-- I_within -/
def pk_I_within : List PK := [.data (.int .i64), .data (.int .i64), .data (.int .i64)]
def rk_I_within : List (Ty × Bool) := [(.bool, false)]
def h_I_within : Hints := { loops := [] }
noncomputable def M_I_within (x : (Int × (Int × Int))) : (Option Bool) :=
  (cond (decide (x.1 ≥ x.2.1)) (some (decide (x.1 ≤ x.2.2))) (some false))

noncomputable def c_I_within : Con0 := ⟨pk_I_within, rk_I_within, M_I_within⟩

set_option maxRecDepth 100000 in
theorem eq_I_within (x : In pk_I_within) : semF (mkE []) h_I_within (info Tryz.f91) pk_I_within rk_I_within x = M_I_within x := (semFF_eq _ _ _ _ _ _).symm.trans (by kernel_rfl)

set_option maxRecDepth 100000 in
theorem m_I_within : ConOK Tryz.prog 91 c_I_within := fn_ok (tyOK _) (E := mkE []) (consOK_nil rfl) Tryz.func91 (h := h_I_within) (by kernel_rfl) eq_I_within

/-- I_isModulus -/
def pk_I_isModulus : List PK := [.data (.int .i64)]
def rk_I_isModulus : List (Ty × Bool) := [(.bool, false)]
def h_I_isModulus : Hints := { loops := [] }
noncomputable def M_I_isModulus (x : Int) : (Option Bool) :=
  (bindO (M_I_within (x, ((2 : Int), (2000000000 : Int)))) (fun (a0 : Bool) => (some a0)))

noncomputable def c_I_isModulus : Con0 := ⟨pk_I_isModulus, rk_I_isModulus, M_I_isModulus⟩

set_option maxRecDepth 100000 in
theorem eq_I_isModulus (x : In pk_I_isModulus) : semF (mkE [(91, c_I_within)]) h_I_isModulus (info Tryz.f126) pk_I_isModulus rk_I_isModulus x = M_I_isModulus x := (semFF_eq _ _ _ _ _ _).symm.trans (by kernel_rfl)

set_option maxRecDepth 100000 in
theorem m_I_isModulus : ConOK Tryz.prog 126 c_I_isModulus := fn_ok (tyOK _) (E := mkE [(91, c_I_within)]) (consOK_cons m_I_within (consOK_nil rfl)) Tryz.func126 (h := h_I_isModulus) (by kernel_rfl) eq_I_isModulus

/-- I_isPrime -/
def pk_I_isPrime : List PK := [.data (.int .i64)]
def rk_I_isPrime : List (Ty × Bool) := [(.bool, false)]
def h_I_isPrime : Hints := { loops := [(0, { items := [.slot 3 (.data (.int .i64) [])], kill := [1, 2] ++ (sgN 4 23) })] }
noncomputable def M_I_isPrime (x : Int) : (Option Bool) :=
  (bindO (M_I_isModulus x) (fun (a0 : Bool) => (cond (not a0) (some false) (bindO (guardO ((2 : Int) != (0 : Int))) (fun (a1 : Unit) => (bindO (some (Int.tmod x (2 : Int))) (fun (a2 : Int) => (cond (a2 == (0 : Int)) (cond (x != (2 : Int)) (some false) (loopO (fun (again3 : (Int → (Option Bool))) => (fun (s4 : Int) => (bindO (some (IntKind.wrap .i64 (s4 * s4))) (fun (a5 : Int) => (cond (decide (a5 ≤ x)) (bindO (guardO (s4 != (0 : Int))) (fun (a6 : Unit) => (bindO (some (Int.tmod x s4)) (fun (a7 : Int) => (cond (a7 == (0 : Int)) (some false) (bindO (some (IntKind.wrap .i64 (s4 + (2 : Int)))) (fun (a8 : Int) => (again3 a8)))))))) (some true)))))) (3 : Int))) (loopO (fun (again9 : (Int → (Option Bool))) => (fun (s10 : Int) => (bindO (some (IntKind.wrap .i64 (s10 * s10))) (fun (a11 : Int) => (cond (decide (a11 ≤ x)) (bindO (guardO (s10 != (0 : Int))) (fun (a12 : Unit) => (bindO (some (Int.tmod x s10)) (fun (a13 : Int) => (cond (a13 == (0 : Int)) (some false) (bindO (some (IntKind.wrap .i64 (s10 + (2 : Int)))) (fun (a14 : Int) => (again9 a14)))))))) (some true)))))) (3 : Int))))))))))

noncomputable def c_I_isPrime : Con0 := ⟨pk_I_isPrime, rk_I_isPrime, M_I_isPrime⟩

set_option maxRecDepth 100000 in
theorem eq_I_isPrime (x : In pk_I_isPrime) : semF (mkE [(126, c_I_isModulus)]) h_I_isPrime (info Tryz.f92) pk_I_isPrime rk_I_isPrime x = M_I_isPrime x := (semFF_eq _ _ _ _ _ _).symm.trans (by kernel_rfl)

set_option maxRecDepth 100000 in
theorem m_I_isPrime : ConOK Tryz.prog 92 c_I_isPrime := fn_ok (tyOK _) (E := mkE [(126, c_I_isModulus)]) (consOK_cons m_I_isModulus (consOK_nil rfl)) Tryz.func92 (h := h_I_isPrime) (by kernel_rfl) eq_I_isPrime

/-- I_power -/
def pk_I_power : List PK := [.data (.int .i64), .data (.int .i64), .data (.int .i64)]
def rk_I_power : List (Ty × Bool) := [((.int .i64), false)]
def h_I_power : Hints := { loops := [(0, { items := [.slot 0 (.data (.int .i64) []), .slot 1 (.data (.int .i64) []), .slot 7 (.data (.int .i64) [])], kill := sgN 3 4 ++ (sgN 8 20) })] }
noncomputable def M_I_power (x : (Int × (Int × Int))) : (Option Int) :=
  (bindO (guardO (x.2.2 != (0 : Int))) (fun (a0 : Unit) => (bindO (some (Int.tmod (1 : Int) x.2.2)) (fun (a1 : Int) => (loopO (fun (again2 : ((Int × (Int × Int)) → (Option Int))) => (fun (s3 : (Int × (Int × Int))) => (cond (decide (s3.2.1 > (0 : Int))) (bindO (some (bits .and .i64 s3.2.1 (1 : Int))) (fun (a4 : Int) => (cond (a4 == (1 : Int)) (bindO (some (IntKind.wrap .i64 (s3.2.2 * s3.1))) (fun (a5 : Int) => (bindO (guardO (x.2.2 != (0 : Int))) (fun (a6 : Unit) => (bindO (some (Int.tmod a5 x.2.2)) (fun (a7 : Int) => (bindO (some (IntKind.wrap .i64 (s3.1 * s3.1))) (fun (a8 : Int) => (bindO (guardO (x.2.2 != (0 : Int))) (fun (a9 : Unit) => (bindO (some (Int.tmod a8 x.2.2)) (fun (a10 : Int) => (bindO (guardO (decide ((0 : Int) ≤ (1 : Int)))) (fun (a11 : Unit) => (bindO (some (shr .i64 s3.2.1 (1 : Int))) (fun (a12 : Int) => (again2 (a10, (a12, a7))))))))))))))))))) (bindO (some (IntKind.wrap .i64 (s3.1 * s3.1))) (fun (a13 : Int) => (bindO (guardO (x.2.2 != (0 : Int))) (fun (a14 : Unit) => (bindO (some (Int.tmod a13 x.2.2)) (fun (a15 : Int) => (bindO (guardO (decide ((0 : Int) ≤ (1 : Int)))) (fun (a16 : Unit) => (bindO (some (shr .i64 s3.2.1 (1 : Int))) (fun (a17 : Int) => (again2 (a15, (a17, s3.2.2)))))))))))))))) (some s3.2.2)))) (x.1, (x.2.1, a1)))))))

noncomputable def c_I_power : Con0 := ⟨pk_I_power, rk_I_power, M_I_power⟩

set_option maxRecDepth 100000 in
theorem eq_I_power (x : In pk_I_power) : semF (mkE []) h_I_power (info Tryz.f93) pk_I_power rk_I_power x = M_I_power x := (semFF_eq _ _ _ _ _ _).symm.trans (by kernel_rfl)

set_option maxRecDepth 100000 in
theorem m_I_power : ConOK Tryz.prog 93 c_I_power := fn_ok (tyOK _) (E := mkE []) (consOK_nil rfl) Tryz.func93 (h := h_I_power) (by kernel_rfl) eq_I_power

/-- I_IsValidGroup -/
def pk_I_IsValidGroup : List PK := [.data (.cons (.int .i64) (.cons (.int .i64) (.one (.int .i64))))]
def rk_I_IsValidGroup : List (Ty × Bool) := [(.bool, false)]
def h_I_IsValidGroup : Hints := { loops := [] }
noncomputable def M_I_IsValidGroup (x : (Int × (Int × Int))) : (Option Bool) :=
  (bindO (M_I_within (x.1, ((3 : Int), (2000000000 : Int)))) (fun (a0 : Bool) => (cond a0 (bindO (some (IntKind.wrap .i64 (x.1 - (1 : Int)))) (fun (a1 : Int) => (bindO (M_I_within (x.2.1, ((2 : Int), a1))) (fun (a2 : Bool) => (cond a2 (bindO (some (IntKind.wrap .i64 (x.1 - (1 : Int)))) (fun (a3 : Int) => (bindO (guardO (x.2.1 != (0 : Int))) (fun (a4 : Unit) => (bindO (some (Int.tmod a3 x.2.1)) (fun (a5 : Int) => (cond (a5 == (0 : Int)) (bindO (some (IntKind.wrap .i64 (x.1 - (1 : Int)))) (fun (a6 : Int) => (bindO (M_I_within (x.2.2, ((2 : Int), a6))) (fun (a7 : Bool) => (cond a7 (bindO (M_I_isPrime x.1) (fun (a8 : Bool) => (cond a8 (bindO (M_I_isPrime x.2.1) (fun (a9 : Bool) => (cond a9 (bindO (M_I_power (x.2.2, (x.2.1, x.1))) (fun (a10 : Int) => (some (a10 == (1 : Int))))) (some false)))) (some false)))) (some false)))))) (some false)))))))) (some false)))))) (some false))))

noncomputable def c_I_IsValidGroup : Con0 := ⟨pk_I_IsValidGroup, rk_I_IsValidGroup, M_I_IsValidGroup⟩

set_option maxRecDepth 100000 in
theorem eq_I_IsValidGroup (x : In pk_I_IsValidGroup) : semF (mkE [(91, c_I_within), (92, c_I_isPrime), (93, c_I_power)]) h_I_IsValidGroup (info Tryz.f32) pk_I_IsValidGroup rk_I_IsValidGroup x = M_I_IsValidGroup x := (semFF_eq _ _ _ _ _ _).symm.trans (by kernel_rfl)

set_option maxRecDepth 100000 in
theorem m_I_IsValidGroup : ConOK Tryz.prog 32 c_I_IsValidGroup := fn_ok (tyOK _) (E := mkE [(91, c_I_within), (92, c_I_isPrime), (93, c_I_power)]) (consOK_cons m_I_within (consOK_cons m_I_isPrime (consOK_cons m_I_power (consOK_nil rfl)))) Tryz.func32 (h := h_I_IsValidGroup) (by kernel_rfl) eq_I_IsValidGroup

/-- I_isLabel -/
def pk_I_isLabel : List PK := [.data .str]
def rk_I_isLabel : List (Ty × Bool) := [(.bool, false)]
def h_I_isLabel : Hints := { loops := [] }
noncomputable def M_I_isLabel (x : ByteArray) : (Option Bool) :=
  (some (decide ((((ByteArray.size x) : Nat) : Int) ≤ (40 : Int))))

noncomputable def c_I_isLabel : Con0 := ⟨pk_I_isLabel, rk_I_isLabel, M_I_isLabel⟩

set_option maxRecDepth 100000 in
theorem eq_I_isLabel (x : In pk_I_isLabel) : semF (mkE []) h_I_isLabel (info Tryz.f70) pk_I_isLabel rk_I_isLabel x = M_I_isLabel x := (semFF_eq _ _ _ _ _ _).symm.trans (by kernel_rfl)

set_option maxRecDepth 100000 in
theorem m_I_isLabel : ConOK Tryz.prog 70 c_I_isLabel := fn_ok (tyOK _) (E := mkE []) (consOK_nil rfl) Tryz.func70 (h := h_I_isLabel) (by kernel_rfl) eq_I_isLabel

/-- slices_IndexFunc_sI_EqualLog_I_EqualLog -/
def pk_slices_IndexFunc_sI_EqualLog_I_EqualLog : List PK := [.data (.sl (.cons (.int .i64) (.cons (.int .i64) (.cons (.int .i64) (.one (.int .i64)))))), .fn [(.cons (.int .i64) (.cons (.int .i64) (.cons (.int .i64) (.one (.int .i64)))))] .bool]
def rk_slices_IndexFunc_sI_EqualLog_I_EqualLog : List (Ty × Bool) := [((.int .i64), false)]
def h_slices_IndexFunc_sI_EqualLog_I_EqualLog : Hints := { loops := [(0, { items := [.slot 8 (.data (.int .i64) [])], kill := sgN 2 5 ++ (sgN 9 10) })] }
noncomputable def M_slices_IndexFunc_sI_EqualLog_I_EqualLog (x : ((List (Int × (Int × (Int × Int)))) × ((Int × (Int × (Int × Int))) → (Option Bool)))) : (Option Int) :=
  (loopO (fun (again0 : (Int → (Option Int))) => (fun (s1 : Int) => (cond (decide (s1 < (((List.length x.1) : Nat) : Int))) (bindO (getI x.1 s1) (fun (a2 : (Int × (Int × (Int × Int)))) => (bindO (x.2 (a2.1, (a2.2.1, (a2.2.2.1, a2.2.2.2)))) (fun (a3 : Bool) => (cond a3 (some s1) (bindO (some (IntKind.wrap .i64 (s1 + (1 : Int)))) (fun (a4 : Int) => (again0 a4)))))))) (some (- (1 : Int)))))) (0 : Int))

noncomputable def c_slices_IndexFunc_sI_EqualLog_I_EqualLog : Con0 := ⟨pk_slices_IndexFunc_sI_EqualLog_I_EqualLog, rk_slices_IndexFunc_sI_EqualLog_I_EqualLog, M_slices_IndexFunc_sI_EqualLog_I_EqualLog⟩

set_option maxRecDepth 100000 in
theorem eq_slices_IndexFunc_sI_EqualLog_I_EqualLog (x : In pk_slices_IndexFunc_sI_EqualLog_I_EqualLog) : semF (mkE []) h_slices_IndexFunc_sI_EqualLog_I_EqualLog (info Tryz.f135) pk_slices_IndexFunc_sI_EqualLog_I_EqualLog rk_slices_IndexFunc_sI_EqualLog_I_EqualLog x = M_slices_IndexFunc_sI_EqualLog_I_EqualLog x := (semFF_eq _ _ _ _ _ _).symm.trans (by kernel_rfl)

set_option maxRecDepth 100000 in
theorem m_slices_IndexFunc_sI_EqualLog_I_EqualLog : ConOK Tryz.prog 135 c_slices_IndexFunc_sI_EqualLog_I_EqualLog := fn_ok (tyOK _) (E := mkE []) (consOK_nil rfl) Tryz.func135 (h := h_slices_IndexFunc_sI_EqualLog_I_EqualLog) (by kernel_rfl) eq_slices_IndexFunc_sI_EqualLog_I_EqualLog

/-- slices_ContainsFunc_sI_EqualLog_I_EqualLog -/
def pk_slices_ContainsFunc_sI_EqualLog_I_EqualLog : List PK := [.data (.sl (.cons (.int .i64) (.cons (.int .i64) (.cons (.int .i64) (.one (.int .i64)))))), .fn [(.cons (.int .i64) (.cons (.int .i64) (.cons (.int .i64) (.one (.int .i64)))))] .bool]
def rk_slices_ContainsFunc_sI_EqualLog_I_EqualLog : List (Ty × Bool) := [(.bool, false)]
def h_slices_ContainsFunc_sI_EqualLog_I_EqualLog : Hints := { loops := [] }
noncomputable def M_slices_ContainsFunc_sI_EqualLog_I_EqualLog (x : ((List (Int × (Int × (Int × Int)))) × ((Int × (Int × (Int × Int))) → (Option Bool)))) : (Option Bool) :=
  (bindO (M_slices_IndexFunc_sI_EqualLog_I_EqualLog (x.1, x.2)) (fun (a0 : Int) => (some (decide (a0 ≥ (0 : Int))))))

noncomputable def c_slices_ContainsFunc_sI_EqualLog_I_EqualLog : Con0 := ⟨pk_slices_ContainsFunc_sI_EqualLog_I_EqualLog, rk_slices_ContainsFunc_sI_EqualLog_I_EqualLog, M_slices_ContainsFunc_sI_EqualLog_I_EqualLog⟩

set_option maxRecDepth 100000 in
theorem eq_slices_ContainsFunc_sI_EqualLog_I_EqualLog (x : In pk_slices_ContainsFunc_sI_EqualLog_I_EqualLog) : semF (mkE [(135, c_slices_IndexFunc_sI_EqualLog_I_EqualLog)]) h_slices_ContainsFunc_sI_EqualLog_I_EqualLog (info Tryz.f107) pk_slices_ContainsFunc_sI_EqualLog_I_EqualLog rk_slices_ContainsFunc_sI_EqualLog_I_EqualLog x = M_slices_ContainsFunc_sI_EqualLog_I_EqualLog x := (semFF_eq _ _ _ _ _ _).symm.trans (by kernel_rfl)

set_option maxRecDepth 100000 in
theorem m_slices_ContainsFunc_sI_EqualLog_I_EqualLog : ConOK Tryz.prog 107 c_slices_ContainsFunc_sI_EqualLog_I_EqualLog := fn_ok (tyOK _) (E := mkE [(135, c_slices_IndexFunc_sI_EqualLog_I_EqualLog)]) (consOK_cons m_slices_IndexFunc_sI_EqualLog_I_EqualLog (consOK_nil rfl)) Tryz.func107 (h := h_slices_ContainsFunc_sI_EqualLog_I_EqualLog) (by kernel_rfl) eq_slices_ContainsFunc_sI_EqualLog_I_EqualLog

/-- slices_IndexFunc_sint_int -/
def pk_slices_IndexFunc_sint_int : List PK := [.data (.sl (.int .i64)), .fn [(.int .i64)] .bool]
def rk_slices_IndexFunc_sint_int : List (Ty × Bool) := [((.int .i64), false)]
def h_slices_IndexFunc_sint_int : Hints := { loops := [(0, { items := [.slot 8 (.data (.int .i64) [])], kill := sgN 2 5 ++ (sgN 9 10) })] }
noncomputable def M_slices_IndexFunc_sint_int (x : ((List Int) × (Int → (Option Bool)))) : (Option Int) :=
  (loopO (fun (again0 : (Int → (Option Int))) => (fun (s1 : Int) => (cond (decide (s1 < (((List.length x.1) : Nat) : Int))) (bindO (getI x.1 s1) (fun (a2 : Int) => (bindO (x.2 a2) (fun (a3 : Bool) => (cond a3 (some s1) (bindO (some (IntKind.wrap .i64 (s1 + (1 : Int)))) (fun (a4 : Int) => (again0 a4)))))))) (some (- (1 : Int)))))) (0 : Int))

noncomputable def c_slices_IndexFunc_sint_int : Con0 := ⟨pk_slices_IndexFunc_sint_int, rk_slices_IndexFunc_sint_int, M_slices_IndexFunc_sint_int⟩

set_option maxRecDepth 100000 in
theorem eq_slices_IndexFunc_sint_int (x : In pk_slices_IndexFunc_sint_int) : semF (mkE []) h_slices_IndexFunc_sint_int (info Tryz.f147) pk_slices_IndexFunc_sint_int rk_slices_IndexFunc_sint_int x = M_slices_IndexFunc_sint_int x := (semFF_eq _ _ _ _ _ _).symm.trans (by kernel_rfl)

set_option maxRecDepth 100000 in
theorem m_slices_IndexFunc_sint_int : ConOK Tryz.prog 147 c_slices_IndexFunc_sint_int := fn_ok (tyOK _) (E := mkE []) (consOK_nil rfl) Tryz.func147 (h := h_slices_IndexFunc_sint_int) (by kernel_rfl) eq_slices_IndexFunc_sint_int

/-- slices_ContainsFunc_sint_int -/
def pk_slices_ContainsFunc_sint_int : List PK := [.data (.sl (.int .i64)), .fn [(.int .i64)] .bool]
def rk_slices_ContainsFunc_sint_int : List (Ty × Bool) := [(.bool, false)]
def h_slices_ContainsFunc_sint_int : Hints := { loops := [] }
noncomputable def M_slices_ContainsFunc_sint_int (x : ((List Int) × (Int → (Option Bool)))) : (Option Bool) :=
  (bindO (M_slices_IndexFunc_sint_int (x.1, x.2)) (fun (a0 : Int) => (some (decide (a0 ≥ (0 : Int))))))

noncomputable def c_slices_ContainsFunc_sint_int : Con0 := ⟨pk_slices_ContainsFunc_sint_int, rk_slices_ContainsFunc_sint_int, M_slices_ContainsFunc_sint_int⟩

set_option maxRecDepth 100000 in
theorem eq_slices_ContainsFunc_sint_int (x : In pk_slices_ContainsFunc_sint_int) : semF (mkE [(147, c_slices_IndexFunc_sint_int)]) h_slices_ContainsFunc_sint_int (info Tryz.f128) pk_slices_ContainsFunc_sint_int rk_slices_ContainsFunc_sint_int x = M_slices_ContainsFunc_sint_int x := (semFF_eq _ _ _ _ _ _).symm.trans (by kernel_rfl)

set_option maxRecDepth 100000 in
theorem m_slices_ContainsFunc_sint_int : ConOK Tryz.prog 128 c_slices_ContainsFunc_sint_int := fn_ok (tyOK _) (E := mkE [(147, c_slices_IndexFunc_sint_int)]) (consOK_cons m_slices_IndexFunc_sint_int (consOK_nil rfl)) Tryz.func128 (h := h_slices_ContainsFunc_sint_int) (by kernel_rfl) eq_slices_ContainsFunc_sint_int

/-- I_areAll_1 -/
def pk_I_areAll_1 : List PK := [.data (.int .i64), .rfn [(.int .i64)] .bool]
def rk_I_areAll_1 : List (Ty × Bool) := [(.bool, false)]
def h_I_areAll_1 : Hints := { loops := [] }
noncomputable def M_I_areAll_1 (x : (Int × (Int → (Option Bool)))) : (Option Bool) :=
  (bindO (x.2 x.1) (fun (a0 : Bool) => (some (not a0))))

noncomputable def c_I_areAll_1 : Con0 := ⟨pk_I_areAll_1, rk_I_areAll_1, M_I_areAll_1⟩

set_option maxRecDepth 100000 in
theorem eq_I_areAll_1 (x : In pk_I_areAll_1) : semF (mkE []) h_I_areAll_1 (info Tryz.f129) pk_I_areAll_1 rk_I_areAll_1 x = M_I_areAll_1 x := (semFF_eq _ _ _ _ _ _).symm.trans (by kernel_rfl)

set_option maxRecDepth 100000 in
theorem m_I_areAll_1 : ConOK Tryz.prog 129 c_I_areAll_1 := fn_ok (tyOK _) (E := mkE []) (consOK_nil rfl) Tryz.func129 (h := h_I_areAll_1) (by kernel_rfl) eq_I_areAll_1

/-- I_areAll -/
def pk_I_areAll : List PK := [.data (.sl (.int .i64)), .fn [(.int .i64)] .bool]
def rk_I_areAll : List (Ty × Bool) := [(.bool, false)]
def h_I_areAll : Hints := { loops := [] }
noncomputable def M_I_areAll (x : ((List Int) × (Int → (Option Bool)))) : (Option Bool) :=
  (bindO (M_slices_ContainsFunc_sint_int (x.1, (fun (a0 : Int) => (bindO (M_I_areAll_1 (a0, x.2)) (fun (a1 : Bool) => (some a1)))))) (fun (a2 : Bool) => (some (not a2))))

noncomputable def c_I_areAll : Con0 := ⟨pk_I_areAll, rk_I_areAll, M_I_areAll⟩

set_option maxRecDepth 100000 in
theorem eq_I_areAll (x : In pk_I_areAll) : semF (mkE [(128, c_slices_ContainsFunc_sint_int), (129, c_I_areAll_1)]) h_I_areAll (info Tryz.f99) pk_I_areAll rk_I_areAll x = M_I_areAll x := (semFF_eq _ _ _ _ _ _).symm.trans (by kernel_rfl)

set_option maxRecDepth 100000 in
theorem m_I_areAll : ConOK Tryz.prog 99 c_I_areAll := fn_ok (tyOK _) (E := mkE [(128, c_slices_ContainsFunc_sint_int), (129, c_I_areAll_1)]) (consOK_cons m_slices_ContainsFunc_sint_int (consOK_cons m_I_areAll_1 (consOK_nil rfl))) Tryz.func99 (h := h_I_areAll) (by kernel_rfl) eq_I_areAll

/-- I_Group_has -/
def pk_I_Group_has : List PK := [.data (.cons (.int .i64) (.cons (.int .i64) (.one (.int .i64)))), .data (.int .i64)]
def rk_I_Group_has : List (Ty × Bool) := [(.bool, false)]
def h_I_Group_has : Hints := { loops := [] }
noncomputable def M_I_Group_has (x : ((Int × (Int × Int)) × Int)) : (Option Bool) :=
  (bindO (some (IntKind.wrap .i64 (x.1.1 - (1 : Int)))) (fun (a0 : Int) => (bindO (M_I_within (x.2, ((1 : Int), a0))) (fun (a1 : Bool) => (cond a1 (bindO (M_I_power (x.2, (x.1.2.1, x.1.1))) (fun (a2 : Int) => (some (a2 == (1 : Int))))) (some false))))))

noncomputable def c_I_Group_has : Con0 := ⟨pk_I_Group_has, rk_I_Group_has, M_I_Group_has⟩

set_option maxRecDepth 100000 in
theorem eq_I_Group_has (x : In pk_I_Group_has) : semF (mkE [(91, c_I_within), (93, c_I_power)]) h_I_Group_has (info Tryz.f71) pk_I_Group_has rk_I_Group_has x = M_I_Group_has x := (semFF_eq _ _ _ _ _ _).symm.trans (by kernel_rfl)

set_option maxRecDepth 100000 in
theorem m_I_Group_has : ConOK Tryz.prog 71 c_I_Group_has := fn_ok (tyOK _) (E := mkE [(91, c_I_within), (93, c_I_power)]) (consOK_cons m_I_within (consOK_cons m_I_power (consOK_nil rfl))) Tryz.func71 (h := h_I_Group_has) (by kernel_rfl) eq_I_Group_has

/-- I_Group_hasAll -/
def pk_I_Group_hasAll : List PK := [.data (.cons (.int .i64) (.cons (.int .i64) (.one (.int .i64)))), .data (.sl (.int .i64))]
def rk_I_Group_hasAll : List (Ty × Bool) := [(.bool, false)]
def h_I_Group_hasAll : Hints := { loops := [] }
noncomputable def M_I_Group_hasAll (x : ((Int × (Int × Int)) × (List Int))) : (Option Bool) :=
  (bindO (M_I_areAll (x.2, (fun (a0 : Int) => (bindO (M_I_Group_has ((x.1.1, (x.1.2.1, x.1.2.2)), a0)) (fun (a1 : Bool) => (some a1)))))) (fun (a2 : Bool) => (some a2)))

noncomputable def c_I_Group_hasAll : Con0 := ⟨pk_I_Group_hasAll, rk_I_Group_hasAll, M_I_Group_hasAll⟩

set_option maxRecDepth 100000 in
theorem eq_I_Group_hasAll (x : In pk_I_Group_hasAll) : semF (mkE [(99, c_I_areAll), (71, c_I_Group_has)]) h_I_Group_hasAll (info Tryz.f72) pk_I_Group_hasAll rk_I_Group_hasAll x = M_I_Group_hasAll x := (semFF_eq _ _ _ _ _ _).symm.trans (by kernel_rfl)

set_option maxRecDepth 100000 in
theorem m_I_Group_hasAll : ConOK Tryz.prog 72 c_I_Group_hasAll := fn_ok (tyOK _) (E := mkE [(99, c_I_areAll), (71, c_I_Group_has)]) (consOK_cons m_I_areAll (consOK_cons m_I_Group_has (consOK_nil rfl))) Tryz.func72 (h := h_I_Group_hasAll) (by kernel_rfl) eq_I_Group_hasAll

/-- I_Group_hasEqual -/
def pk_I_Group_hasEqual : List PK := [.data (.cons (.int .i64) (.cons (.int .i64) (.one (.int .i64)))), .data (.cons (.int .i64) (.cons (.int .i64) (.cons (.int .i64) (.one (.int .i64)))))]
def rk_I_Group_hasEqual : List (Ty × Bool) := [(.bool, false)]
def h_I_Group_hasEqual : Hints := { loops := [] }
noncomputable def M_I_Group_hasEqual (x : ((Int × (Int × Int)) × (Int × (Int × (Int × Int))))) : (Option Bool) :=
  (bindO (M_I_Group_hasAll ((x.1.1, (x.1.2.1, x.1.2.2)), (x.2.1 :: (x.2.2.1 :: (x.2.2.2.1 :: (x.2.2.2.2 :: ([] : List Int))))))) (fun (a0 : Bool) => (some a0)))

noncomputable def c_I_Group_hasEqual : Con0 := ⟨pk_I_Group_hasEqual, rk_I_Group_hasEqual, M_I_Group_hasEqual⟩

set_option maxRecDepth 100000 in
theorem eq_I_Group_hasEqual (x : In pk_I_Group_hasEqual) : semF (mkE [(72, c_I_Group_hasAll)]) h_I_Group_hasEqual (info Tryz.f109) pk_I_Group_hasEqual rk_I_Group_hasEqual x = M_I_Group_hasEqual x := (semFF_eq _ _ _ _ _ _).symm.trans (by kernel_rfl)

set_option maxRecDepth 100000 in
theorem m_I_Group_hasEqual : ConOK Tryz.prog 109 c_I_Group_hasEqual := fn_ok (tyOK _) (E := mkE [(72, c_I_Group_hasAll)]) (consOK_cons m_I_Group_hasAll (consOK_nil rfl)) Tryz.func109 (h := h_I_Group_hasEqual) (by kernel_rfl) eq_I_Group_hasEqual

/-- I_areBatch_1 -/
def pk_I_areBatch_1 : List PK := [.data (.cons (.int .i64) (.cons (.int .i64) (.cons (.int .i64) (.one (.int .i64))))), .rp (.cons (.int .i64) (.cons (.int .i64) (.one (.int .i64))))]
def rk_I_areBatch_1 : List (Ty × Bool) := [(.bool, false)]
def h_I_areBatch_1 : Hints := { loops := [] }
noncomputable def M_I_areBatch_1 (x : ((Int × (Int × (Int × Int))) × (Int × (Int × Int)))) : (Option Bool) :=
  (bindO (M_I_Group_hasEqual ((x.2.1, (x.2.2.1, x.2.2.2)), (x.1.1, (x.1.2.1, (x.1.2.2.1, x.1.2.2.2))))) (fun (a0 : Bool) => (some (not a0))))

noncomputable def c_I_areBatch_1 : Con0 := ⟨pk_I_areBatch_1, rk_I_areBatch_1, M_I_areBatch_1⟩

set_option maxRecDepth 100000 in
theorem eq_I_areBatch_1 (x : In pk_I_areBatch_1) : semF (mkE [(109, c_I_Group_hasEqual)]) h_I_areBatch_1 (info Tryz.f108) pk_I_areBatch_1 rk_I_areBatch_1 x = M_I_areBatch_1 x := (semFF_eq _ _ _ _ _ _).symm.trans (by kernel_rfl)

set_option maxRecDepth 100000 in
theorem m_I_areBatch_1 : ConOK Tryz.prog 108 c_I_areBatch_1 := fn_ok (tyOK _) (E := mkE [(109, c_I_Group_hasEqual)]) (consOK_cons m_I_Group_hasEqual (consOK_nil rfl)) Tryz.func108 (h := h_I_areBatch_1) (by kernel_rfl) eq_I_areBatch_1

/-- I_areBatch -/
def pk_I_areBatch : List PK := [.data (.cons (.int .i64) (.cons (.int .i64) (.one (.int .i64)))), .data .str, .data (.sl (.cons (.int .i64) (.cons (.int .i64) (.cons (.int .i64) (.one (.int .i64)))))), .data (.sl (.cons (.sl (.int .i64)) (.cons (.sl (.int .i64)) (.one (.sl (.int .i64))))))]
def rk_I_areBatch : List (Ty × Bool) := [(.bool, false)]
def h_I_areBatch : Hints := { loops := [] }
noncomputable def M_I_areBatch (x : ((Int × (Int × Int)) × (ByteArray × ((List (Int × (Int × (Int × Int)))) × (List ((List Int) × ((List Int) × (List Int)))))))) : (Option Bool) :=
  (bindO (M_I_IsValidGroup (x.1.1, (x.1.2.1, x.1.2.2))) (fun (a0 : Bool) => (cond a0 (bindO (M_I_isLabel x.2.1) (fun (a1 : Bool) => (cond a1 (cond (decide ((((List.length x.2.2.1) : Nat) : Int) ≤ (12 : Int))) (cond ((((List.length x.2.2.2) : Nat) : Int) == (((List.length x.2.2.1) : Nat) : Int)) (bindO (M_slices_ContainsFunc_sI_EqualLog_I_EqualLog (x.2.2.1, (fun (a2 : (Int × (Int × (Int × Int)))) => (bindO (M_I_areBatch_1 (a2, (x.1.1, (x.1.2.1, x.1.2.2)))) (fun (a3 : Bool) => (some a3)))))) (fun (a4 : Bool) => (some (not a4)))) (some false)) (some false)) (some false)))) (some false))))

noncomputable def c_I_areBatch : Con0 := ⟨pk_I_areBatch, rk_I_areBatch, M_I_areBatch⟩

set_option maxRecDepth 100000 in
theorem eq_I_areBatch (x : In pk_I_areBatch) : semF (mkE [(32, c_I_IsValidGroup), (70, c_I_isLabel), (107, c_slices_ContainsFunc_sI_EqualLog_I_EqualLog), (108, c_I_areBatch_1)]) h_I_areBatch (info Tryz.f52) pk_I_areBatch rk_I_areBatch x = M_I_areBatch x := (semFF_eq _ _ _ _ _ _).symm.trans (by kernel_rfl)

set_option maxRecDepth 100000 in
theorem m_I_areBatch : ConOK Tryz.prog 52 c_I_areBatch := fn_ok (tyOK _) (E := mkE [(32, c_I_IsValidGroup), (70, c_I_isLabel), (107, c_slices_ContainsFunc_sI_EqualLog_I_EqualLog), (108, c_I_areBatch_1)]) (consOK_cons m_I_IsValidGroup (consOK_cons m_I_isLabel (consOK_cons m_slices_ContainsFunc_sI_EqualLog_I_EqualLog (consOK_cons m_I_areBatch_1 (consOK_nil rfl))))) Tryz.func52 (h := h_I_areBatch) (by kernel_rfl) eq_I_areBatch

/-- I_Group_isExp -/
def pk_I_Group_isExp : List PK := [.data (.cons (.int .i64) (.cons (.int .i64) (.one (.int .i64)))), .data (.int .i64)]
def rk_I_Group_isExp : List (Ty × Bool) := [(.bool, false)]
def h_I_Group_isExp : Hints := { loops := [] }
noncomputable def M_I_Group_isExp (x : ((Int × (Int × Int)) × Int)) : (Option Bool) :=
  (bindO (some (IntKind.wrap .i64 (x.1.2.1 - (1 : Int)))) (fun (a0 : Int) => (bindO (M_I_within (x.2, ((0 : Int), a0))) (fun (a1 : Bool) => (some a1)))))

noncomputable def c_I_Group_isExp : Con0 := ⟨pk_I_Group_isExp, rk_I_Group_isExp, M_I_Group_isExp⟩

set_option maxRecDepth 100000 in
theorem eq_I_Group_isExp (x : In pk_I_Group_isExp) : semF (mkE [(91, c_I_within)]) h_I_Group_isExp (info Tryz.f49) pk_I_Group_isExp rk_I_Group_isExp x = M_I_Group_isExp x := (semFF_eq _ _ _ _ _ _).symm.trans (by kernel_rfl)

set_option maxRecDepth 100000 in
theorem m_I_Group_isExp : ConOK Tryz.prog 49 c_I_Group_isExp := fn_ok (tyOK _) (E := mkE [(91, c_I_within)]) (consOK_cons m_I_within (consOK_nil rfl)) Tryz.func49 (h := h_I_Group_isExp) (by kernel_rfl) eq_I_Group_isExp

/-- slices_Grow_sint_int -/
def pk_slices_Grow_sint_int : List PK := [.ow (.sl (.int .i64)), .data (.int .i64)]
def rk_slices_Grow_sint_int : List (Ty × Bool) := [((.sl (.int .i64)), true)]
noncomputable def M_slices_Grow_sint_int (x : ((List Int) × Int)) : (Option (List Int)) :=
  (if 0 ≤ x.2 ∧ (x.1.length : Int) + x.2 ≤ 68719476736 then some x.1 else Option.none)

noncomputable def c_slices_Grow_sint_int : Con0 := ⟨pk_slices_Grow_sint_int, rk_slices_Grow_sint_int, M_slices_Grow_sint_int⟩

def grow_ren : Go.Shelf.Ren := ⟨fun | 4 => 120 | n => n, fun | 0 => 0 | 3 => 3 | 4 => 4 | 9 => 9 | 20 => 20 | 22 => 30 | 25 => 3 | n => n, fun n => n⟩
set_option maxRecDepth 100000 in
theorem grow_lays : Go.Proofs.Lays8.n4 Tryz.prog grow_ren where
  mixed := by kernel_rfl
  f4 := ⟨Tryz.f120.name, of_decide_eq_true (by kernel_rfl), Tryz.func120.trans (congrArg some (by kernel_rfl))⟩
  t0 := Tryz.underlying0
  a0 := Tryz.isAgg0
  z0 := Tryz.sizeOf0
  v0 := Tryz.zeroValue0
  t3 := Tryz.underlying3
  a3 := Tryz.isAgg3
  z3 := Tryz.sizeOf3
  v3 := Tryz.zeroValue3
  t4 := Tryz.underlying4
  a4 := Tryz.isAgg4
  z4 := Tryz.sizeOf4
  v4 := Tryz.zeroValue4
  t9 := Tryz.underlying9
  a9 := Tryz.isAgg9
  z9 := Tryz.sizeOf9
  v9 := Tryz.zeroValue9
  t20 := Tryz.underlying20
  a20 := Tryz.isAgg20
  z20 := Tryz.sizeOf20
  v20 := Tryz.zeroValue20
  t22 := Tryz.underlying30
  a22 := Tryz.isAgg30
  z22 := Tryz.sizeOf30
  v22 := Tryz.zeroValue30

theorem m_slices_Grow_sint_int : ConOK Tryz.prog 120 c_slices_Grow_sint_int := grow_ok ⟨Tryz.f120, Tryz.func120, of_decide_eq_true (by kernel_rfl), by kernel_rfl⟩ (grow_room grow_lays) (grow_more grow_lays (tyOK []) (by kernel_rfl))

/-- slices_Concat_sint_int -/
def pk_slices_Concat_sint_int : List PK := [.data (.sl (.sl (.int .i64)))]
def rk_slices_Concat_sint_int : List (Ty × Bool) := [((.sl (.int .i64)), true)]
def h_slices_Concat_sint_int : Hints := { loops := [(0, { items := [.slot 3 (.data (.int .i64) []), .slot 11 (.data (.int .i64) [])], kill := [1, 2] ++ (sgN 4 5 ++ (sgN 12 24)) }), (2, { items := [.slot 6 (.own (.int .i64) true), .slot 27 (.data (.int .i64) [])], kill := sgN 0 6 ++ (sgN 7 18 ++ (sgN 28 8)) })] }
noncomputable def M_slices_Concat_sint_int (x : (List (List Int))) : (Option (List Int)) :=
  (loopO (fun (again0 : ((Int × Int) → (Option (List Int)))) => (fun (s1 : (Int × Int)) => (cond (decide (s1.2 < (((List.length x) : Nat) : Int))) (bindO (getI x s1.2) (fun (a2 : (List Int)) => (bindO (some (IntKind.wrap .i64 (s1.1 + (((List.length a2) : Nat) : Int)))) (fun (a3 : Int) => (cond (decide (a3 < (0 : Int))) (none : Option (List Int)) (bindO (some (IntKind.wrap .i64 (s1.2 + (1 : Int)))) (fun (a4 : Int) => (again0 (a3, a4))))))))) (bindO (M_slices_Grow_sint_int (([] : List Int), s1.1)) (fun (a5 : (List Int)) => (loopO (fun (again6 : (((List Int) × Int) → (Option (List Int)))) => (fun (s7 : ((List Int) × Int)) => (cond (decide (s7.2 < (((List.length x) : Nat) : Int))) (bindO (getI x s7.2) (fun (a8 : (List Int)) => (bindO (guardO (lenOk ((List.length s7.1) + (List.length a8)))) (fun (a9 : Unit) => (bindO (some (s7.1 ++ a8)) (fun (a10 : (List Int)) => (bindO (some (IntKind.wrap .i64 (s7.2 + (1 : Int)))) (fun (a11 : Int) => (again6 (a10, a11)))))))))) (some s7.1)))) (a5, (0 : Int)))))))) ((0 : Int), (0 : Int)))

noncomputable def c_slices_Concat_sint_int : Con0 := ⟨pk_slices_Concat_sint_int, rk_slices_Concat_sint_int, M_slices_Concat_sint_int⟩

set_option maxRecDepth 100000 in
theorem eq_slices_Concat_sint_int (x : In pk_slices_Concat_sint_int) : semF (mkE [(120, c_slices_Grow_sint_int)]) h_slices_Concat_sint_int (info Tryz.f76) pk_slices_Concat_sint_int rk_slices_Concat_sint_int x = M_slices_Concat_sint_int x := (semFF_eq _ _ _ _ _ _).symm.trans (by kernel_rfl)

set_option maxRecDepth 100000 in
theorem m_slices_Concat_sint_int : ConOK Tryz.prog 76 c_slices_Concat_sint_int := fn_ok (tyOK _) (E := mkE [(120, c_slices_Grow_sint_int)]) (consOK_cons m_slices_Grow_sint_int (consOK_nil rfl)) Tryz.func76 (h := h_slices_Concat_sint_int) (by kernel_rfl) eq_slices_Concat_sint_int

/-- I_labelled -/
def pk_I_labelled : List PK := [.data .str, .data (.sl (.int .i64))]
def rk_I_labelled : List (Ty × Bool) := [((.sl (.int .i64)), true)]
def h_I_labelled : Hints := { loops := [(0, { items := [.slot 5 (.own (.int .i64) true), .slot 12 (.data (.int .i64) [])], kill := [2, 3, 4] ++ (sgN 6 5 ++ (sgN 13 13)) })] }
noncomputable def M_I_labelled (x : (ByteArray × (List Int))) : (Option (List Int)) :=
  (loopO (fun (again0 : (((List Int) × Int) → (Option (List Int)))) => (fun (s1 : ((List Int) × Int)) => (cond (decide (s1.2 < (((ByteArray.size x.1) : Nat) : Int))) (bindO (if ((0 : Int) ≤ s1.2) then (x.1[(Int.toNat s1.2)]?) else (none : Option (UInt8))) (fun (a2 : (UInt8)) => (bindO (guardO (lenOk ((List.length s1.1) + (List.length ((IntKind.wrap .i64 (((UInt8.toNat a2) : Nat) : Int)) :: ([] : List Int)))))) (fun (a3 : Unit) => (bindO (some (s1.1 ++ ((IntKind.wrap .i64 (((UInt8.toNat a2) : Nat) : Int)) :: ([] : List Int)))) (fun (a4 : (List Int)) => (bindO (some (IntKind.wrap .i64 (s1.2 + (1 : Int)))) (fun (a5 : Int) => (again0 (a4, a5)))))))))) (bindO (guardO (lenOk ((List.length s1.1) + (List.length x.2)))) (fun (a6 : Unit) => (bindO (some (s1.1 ++ x.2)) (fun (a7 : (List Int)) => (some a7)))))))) (((((ByteArray.size x.1) : Nat) : Int) :: ([] : List Int)), (0 : Int)))

noncomputable def c_I_labelled : Con0 := ⟨pk_I_labelled, rk_I_labelled, M_I_labelled⟩

set_option maxRecDepth 100000 in
theorem eq_I_labelled (x : In pk_I_labelled) : semF (mkE []) h_I_labelled (info Tryz.f144) pk_I_labelled rk_I_labelled x = M_I_labelled x := (semFF_eq _ _ _ _ _ _).symm.trans (by kernel_rfl)

set_option maxRecDepth 100000 in
theorem m_I_labelled : ConOK Tryz.prog 144 c_I_labelled := fn_ok (tyOK _) (E := mkE []) (consOK_nil rfl) Tryz.func144 (h := h_I_labelled) (by kernel_rfl) eq_I_labelled

/-- I_isDigest -/
def pk_I_isDigest : List PK := [.data (.int .i64)]
def rk_I_isDigest : List (Ty × Bool) := [(.bool, false)]
def h_I_isDigest : Hints := { loops := [] }
noncomputable def M_I_isDigest (x : Int) : (Option Bool) :=
  (bindO (M_I_within (x, ((0 : Int), (4611686018427387903 : Int)))) (fun (a0 : Bool) => (some a0)))

noncomputable def c_I_isDigest : Con0 := ⟨pk_I_isDigest, rk_I_isDigest, M_I_isDigest⟩

set_option maxRecDepth 100000 in
theorem eq_I_isDigest (x : In pk_I_isDigest) : semF (mkE [(91, c_I_within)]) h_I_isDigest (info Tryz.f155) pk_I_isDigest rk_I_isDigest x = M_I_isDigest x := (semFF_eq _ _ _ _ _ _).symm.trans (by kernel_rfl)

set_option maxRecDepth 100000 in
theorem m_I_isDigest : ConOK Tryz.prog 155 c_I_isDigest := fn_ok (tyOK _) (E := mkE [(91, c_I_within)]) (consOK_cons m_I_within (consOK_nil rfl)) Tryz.func155 (h := h_I_isDigest) (by kernel_rfl) eq_I_isDigest

/-- I_areDigests -/
def pk_I_areDigests : List PK := [.data (.sl (.int .i64))]
def rk_I_areDigests : List (Ty × Bool) := [(.bool, false)]
def h_I_areDigests : Hints := { loops := [] }
noncomputable def M_I_areDigests (x : (List Int)) : (Option Bool) :=
  (cond (decide ((((List.length x) : Nat) : Int) ≤ (400 : Int))) (bindO (M_I_areAll (x, (fun (a0 : Int) => (bindO (M_I_isDigest a0) (fun (a1 : Bool) => (some a1)))))) (fun (a2 : Bool) => (some a2))) (some false))

noncomputable def c_I_areDigests : Con0 := ⟨pk_I_areDigests, rk_I_areDigests, M_I_areDigests⟩

set_option maxRecDepth 100000 in
theorem eq_I_areDigests (x : In pk_I_areDigests) : semF (mkE [(99, c_I_areAll), (155, c_I_isDigest)]) h_I_areDigests (info Tryz.f152) pk_I_areDigests rk_I_areDigests x = M_I_areDigests x := (semFF_eq _ _ _ _ _ _).symm.trans (by kernel_rfl)

set_option maxRecDepth 100000 in
theorem m_I_areDigests : ConOK Tryz.prog 152 c_I_areDigests := fn_ok (tyOK _) (E := mkE [(99, c_I_areAll), (155, c_I_isDigest)]) (consOK_cons m_I_areAll (consOK_cons m_I_isDigest (consOK_nil rfl))) Tryz.func152 (h := h_I_areDigests) (by kernel_rfl) eq_I_areDigests

/-- I_hash -/
def pk_I_hash : List PK := [.data (.sl (.int .i64))]
def rk_I_hash : List (Ty × Bool) := [((.int .i64), false)]
def h_I_hash : Hints := { loops := [(0, { items := [.slot 3 (.data (.int .i64) []), .slot 4 (.data (.int .i64) []), .slot 15 (.data (.int .i64) [])], kill := [0, 1, 2] ++ (sgN 5 8 ++ (sgN 16 36)) })] }
noncomputable def M_I_hash (x : (List Int)) : (Option Int) :=
  (bindO (guardO (lenOk ((List.length ((((List.length x) : Nat) : Int) :: ([] : List Int))) + (List.length x)))) (fun (a0 : Unit) => (bindO (some (((((List.length x) : Nat) : Int) :: ([] : List Int)) ++ x)) (fun (a1 : (List Int)) => (loopO (fun (again2 : ((Int × (Int × Int)) → (Option Int))) => (fun (s3 : (Int × (Int × Int))) => (cond (decide (s3.2.2 < (((List.length a1) : Nat) : Int))) (bindO (getI a1 s3.2.2) (fun (a4 : Int) => (bindO (guardO (decide ((0 : Int) ≤ (31 : Int)))) (fun (a5 : Unit) => (bindO (some (shr .i64 a4 (31 : Int))) (fun (a6 : Int) => (bindO (some (bits .and .i64 a4 (2147483647 : Int))) (fun (a7 : Int) => (bindO (some (IntKind.wrap .i64 ((48271 : Int) * s3.1))) (fun (a8 : Int) => (bindO (some (IntKind.wrap .i64 (a8 + a7))) (fun (a9 : Int) => (bindO (some (IntKind.wrap .i64 (a9 + (1 : Int)))) (fun (a10 : Int) => (bindO (guardO ((2147483647 : Int) != (0 : Int))) (fun (a11 : Unit) => (bindO (some (Int.tmod a10 (2147483647 : Int))) (fun (a12 : Int) => (bindO (some (IntKind.wrap .i64 ((48271 : Int) * a12))) (fun (a13 : Int) => (bindO (some (IntKind.wrap .i64 (a13 + a6))) (fun (a14 : Int) => (bindO (some (IntKind.wrap .i64 (a14 + (1 : Int)))) (fun (a15 : Int) => (bindO (guardO ((2147483647 : Int) != (0 : Int))) (fun (a16 : Unit) => (bindO (some (Int.tmod a15 (2147483647 : Int))) (fun (a17 : Int) => (bindO (some (IntKind.wrap .i64 ((69621 : Int) * s3.2.1))) (fun (a18 : Int) => (bindO (some (IntKind.wrap .i64 (a18 + a7))) (fun (a19 : Int) => (bindO (some (IntKind.wrap .i64 (a19 + (1 : Int)))) (fun (a20 : Int) => (bindO (guardO ((2147483647 : Int) != (0 : Int))) (fun (a21 : Unit) => (bindO (some (Int.tmod a20 (2147483647 : Int))) (fun (a22 : Int) => (bindO (some (IntKind.wrap .i64 ((69621 : Int) * a22))) (fun (a23 : Int) => (bindO (some (IntKind.wrap .i64 (a23 + a6))) (fun (a24 : Int) => (bindO (some (IntKind.wrap .i64 (a24 + (1 : Int)))) (fun (a25 : Int) => (bindO (guardO ((2147483647 : Int) != (0 : Int))) (fun (a26 : Unit) => (bindO (some (Int.tmod a25 (2147483647 : Int))) (fun (a27 : Int) => (bindO (some (IntKind.wrap .i64 (s3.2.2 + (1 : Int)))) (fun (a28 : Int) => (again2 (a17, (a27, a28))))))))))))))))))))))))))))))))))))))))))))))))))))) (bindO (guardO (decide ((0 : Int) ≤ (31 : Int)))) (fun (a29 : Unit) => (bindO (some (shl .i64 s3.1 (31 : Int))) (fun (a30 : Int) => (bindO (some (IntKind.wrap .i64 (a30 + s3.2.1))) (fun (a31 : Int) => (some a31)))))))))) ((1 : Int), ((2 : Int), (0 : Int))))))))

noncomputable def c_I_hash : Con0 := ⟨pk_I_hash, rk_I_hash, M_I_hash⟩

set_option maxRecDepth 100000 in
theorem eq_I_hash (x : In pk_I_hash) : semF (mkE []) h_I_hash (info Tryz.f153) pk_I_hash rk_I_hash x = M_I_hash x := (semFF_eq _ _ _ _ _ _).symm.trans (by kernel_rfl)

set_option maxRecDepth 100000 in
theorem m_I_hash : ConOK Tryz.prog 153 c_I_hash := fn_ok (tyOK _) (E := mkE []) (consOK_nil rfl) Tryz.func153 (h := h_I_hash) (by kernel_rfl) eq_I_hash

/-- I_HashInts -/
def pk_I_HashInts : List PK := [.data (.sl (.int .i64))]
def rk_I_HashInts : List (Ty × Bool) := [((.int .i64), false), (.bool, false)]
def h_I_HashInts : Hints := { loops := [] }
noncomputable def M_I_HashInts (x : (List Int)) : (Option (Int × Bool)) :=
  (bindO (M_I_areDigests x) (fun (a0 : Bool) => (cond (not a0) (some ((0 : Int), false)) (bindO (M_I_hash x) (fun (a1 : Int) => (some (a1, true)))))))

noncomputable def c_I_HashInts : Con0 := ⟨pk_I_HashInts, rk_I_HashInts, M_I_HashInts⟩

set_option maxRecDepth 100000 in
theorem eq_I_HashInts (x : In pk_I_HashInts) : semF (mkE [(152, c_I_areDigests), (153, c_I_hash)]) h_I_HashInts (info Tryz.f143) pk_I_HashInts rk_I_HashInts x = M_I_HashInts x := (semFF_eq _ _ _ _ _ _).symm.trans (by kernel_rfl)

set_option maxRecDepth 100000 in
theorem m_I_HashInts : ConOK Tryz.prog 143 c_I_HashInts := fn_ok (tyOK _) (E := mkE [(152, c_I_areDigests), (153, c_I_hash)]) (consOK_cons m_I_areDigests (consOK_cons m_I_hash (consOK_nil rfl))) Tryz.func143 (h := h_I_HashInts) (by kernel_rfl) eq_I_HashInts

/-- I_HashLabelled -/
def pk_I_HashLabelled : List PK := [.data .str, .data (.sl (.int .i64))]
def rk_I_HashLabelled : List (Ty × Bool) := [((.int .i64), false), (.bool, false)]
def h_I_HashLabelled : Hints := { loops := [] }
noncomputable def M_I_HashLabelled (x : (ByteArray × (List Int))) : (Option (Int × Bool)) :=
  (cond (decide ((((ByteArray.size x.1) : Nat) : Int) > (40 : Int))) (some ((0 : Int), false)) (cond (decide ((((List.length x.2) : Nat) : Int) > (400 : Int))) (some ((0 : Int), false)) (bindO (M_I_labelled (x.1, x.2)) (fun (a0 : (List Int)) => (bindO (M_I_HashInts a0) (fun (a1 : (Int × Bool)) => (some (a1.1, a1.2))))))))

noncomputable def c_I_HashLabelled : Con0 := ⟨pk_I_HashLabelled, rk_I_HashLabelled, M_I_HashLabelled⟩

set_option maxRecDepth 100000 in
theorem eq_I_HashLabelled (x : In pk_I_HashLabelled) : semF (mkE [(144, c_I_labelled), (143, c_I_HashInts)]) h_I_HashLabelled (info Tryz.f118) pk_I_HashLabelled rk_I_HashLabelled x = M_I_HashLabelled x := (semFF_eq _ _ _ _ _ _).symm.trans (by kernel_rfl)

set_option maxRecDepth 100000 in
theorem m_I_HashLabelled : ConOK Tryz.prog 118 c_I_HashLabelled := fn_ok (tyOK _) (E := mkE [(144, c_I_labelled), (143, c_I_HashInts)]) (consOK_cons m_I_labelled (consOK_cons m_I_HashInts (consOK_nil rfl))) Tryz.func118 (h := h_I_HashLabelled) (by kernel_rfl) eq_I_HashLabelled

/-- I_Group_challenge -/
def pk_I_Group_challenge : List PK := [.data (.cons (.int .i64) (.cons (.int .i64) (.one (.int .i64)))), .data .str, .data (.sl (.int .i64))]
def rk_I_Group_challenge : List (Ty × Bool) := [((.int .i64), false), (.bool, false)]
def h_I_Group_challenge : Hints := { loops := [] }
noncomputable def M_I_Group_challenge (x : ((Int × (Int × Int)) × (ByteArray × (List Int)))) : (Option (Int × Bool)) :=
  (bindO (guardO (lenOk ((List.length (x.1.1 :: (x.1.2.1 :: (x.1.2.2 :: ([] : List Int))))) + (List.length x.2.2)))) (fun (a0 : Unit) => (bindO (some ((x.1.1 :: (x.1.2.1 :: (x.1.2.2 :: ([] : List Int)))) ++ x.2.2)) (fun (a1 : (List Int)) => (bindO (M_I_HashLabelled (x.2.1, a1)) (fun (a2 : (Int × Bool)) => (cond (not a2.2) (some ((0 : Int), false)) (bindO (guardO (x.1.2.1 != (0 : Int))) (fun (a3 : Unit) => (bindO (some (Int.tmod a2.1 x.1.2.1)) (fun (a4 : Int) => (some (a4, true)))))))))))))

noncomputable def c_I_Group_challenge : Con0 := ⟨pk_I_Group_challenge, rk_I_Group_challenge, M_I_Group_challenge⟩

set_option maxRecDepth 100000 in
theorem eq_I_Group_challenge (x : In pk_I_Group_challenge) : semF (mkE [(118, c_I_HashLabelled)]) h_I_Group_challenge (info Tryz.f117) pk_I_Group_challenge rk_I_Group_challenge x = M_I_Group_challenge x := (semFF_eq _ _ _ _ _ _).symm.trans (by kernel_rfl)

set_option maxRecDepth 100000 in
theorem m_I_Group_challenge : ConOK Tryz.prog 117 c_I_Group_challenge := fn_ok (tyOK _) (E := mkE [(118, c_I_HashLabelled)]) (consOK_cons m_I_HashLabelled (consOK_nil rfl)) Tryz.func117 (h := h_I_Group_challenge) (by kernel_rfl) eq_I_Group_challenge

/-- I_Group_isLinearForm -/
def pk_I_Group_isLinearForm : List PK := [.data (.cons (.int .i64) (.cons (.int .i64) (.one (.int .i64)))), .data .str, .data (.sl (.int .i64)), .data (.sl (.int .i64)), .data (.cons (.sl (.int .i64)) (.cons (.sl (.int .i64)) (.one (.sl (.int .i64)))))]
def rk_I_Group_isLinearForm : List (Ty × Bool) := [(.bool, false)]
def h_I_Group_isLinearForm : Hints := { loops := [] }
noncomputable def M_I_Group_isLinearForm (x : ((Int × (Int × Int)) × (ByteArray × ((List Int) × ((List Int) × ((List Int) × ((List Int) × (List Int)))))))) : (Option Bool) :=
  (cond ((((List.length x.2.2.2.2.1) : Nat) : Int) != (((List.length x.2.2.1) : Nat) : Int)) (some false) (cond ((((List.length x.2.2.2.2.2.1) : Nat) : Int) != (1 : Int)) (some false) (cond ((((List.length x.2.2.2.2.2.2) : Nat) : Int) != (1 : Int)) (some false) (bindO (M_I_Group_hasAll ((x.1.1, (x.1.2.1, x.1.2.2)), x.2.2.2.2.1)) (fun (a0 : Bool) => (cond (not a0) (some false) (bindO (getI x.2.2.2.2.2.2 (0 : Int)) (fun (a1 : Int) => (bindO (M_I_Group_isExp ((x.1.1, (x.1.2.1, x.1.2.2)), a1)) (fun (a2 : Bool) => (cond (not a2) (some false) (bindO (M_slices_Concat_sint_int (x.2.2.1 :: (x.2.2.2.1 :: (x.2.2.2.2.1 :: ([] : List (List Int)))))) (fun (a3 : (List Int)) => (bindO (M_I_Group_challenge ((x.1.1, (x.1.2.1, x.1.2.2)), (x.2.1, a3))) (fun (a4 : (Int × Bool)) => (cond a4.2 (bindO (getI x.2.2.2.2.2.1 (0 : Int)) (fun (a5 : Int) => (some (a5 == a4.1)))) (some false)))))))))))))))))

noncomputable def c_I_Group_isLinearForm : Con0 := ⟨pk_I_Group_isLinearForm, rk_I_Group_isLinearForm, M_I_Group_isLinearForm⟩

set_option maxRecDepth 100000 in
theorem eq_I_Group_isLinearForm (x : In pk_I_Group_isLinearForm) : semF (mkE [(72, c_I_Group_hasAll), (49, c_I_Group_isExp), (76, c_slices_Concat_sint_int), (117, c_I_Group_challenge)]) h_I_Group_isLinearForm (info Tryz.f73) pk_I_Group_isLinearForm rk_I_Group_isLinearForm x = M_I_Group_isLinearForm x := (semFF_eq _ _ _ _ _ _).symm.trans (by kernel_rfl)

set_option maxRecDepth 100000 in
theorem m_I_Group_isLinearForm : ConOK Tryz.prog 73 c_I_Group_isLinearForm := fn_ok (tyOK _) (E := mkE [(72, c_I_Group_hasAll), (49, c_I_Group_isExp), (76, c_slices_Concat_sint_int), (117, c_I_Group_challenge)]) (consOK_cons m_I_Group_hasAll (consOK_cons m_I_Group_isExp (consOK_cons m_slices_Concat_sint_int (consOK_cons m_I_Group_challenge (consOK_nil rfl))))) Tryz.func73 (h := h_I_Group_isLinearForm) (by kernel_rfl) eq_I_Group_isLinearForm

/-- I_tops -/
def pk_I_tops : List PK := [.data (.sl (.cons (.sl (.int .i64)) (.cons (.sl (.int .i64)) (.one (.sl (.int .i64))))))]
def rk_I_tops : List (Ty × Bool) := [((.sl (.int .i64)), true), ((.sl (.int .i64)), true)]
def h_I_tops : Hints := { loops := [(0, { items := [.slot 4 (.own (.int .i64) true), .slot 5 (.own (.int .i64) true), .slot 12 (.data (.int .i64) [])], kill := sgN 0 4 ++ (sgN 6 4 ++ (sgN 13 20)) })] }
noncomputable def M_I_tops (x : (List ((List Int) × ((List Int) × (List Int))))) : (Option ((List Int) × (List Int))) :=
  (loopO (fun (again0 : (((List Int) × ((List Int) × Int)) → (Option ((List Int) × (List Int))))) => (fun (s1 : ((List Int) × ((List Int) × Int))) => (cond (decide (s1.2.2 < (((List.length x) : Nat) : Int))) (bindO (getI x s1.2.2) (fun (a2 : ((List Int) × ((List Int) × (List Int)))) => (bindO (getI a2.2.1 (0 : Int)) (fun (a3 : Int) => (bindO (guardO (lenOk ((List.length s1.1) + (List.length (a3 :: ([] : List Int)))))) (fun (a4 : Unit) => (bindO (some (s1.1 ++ (a3 :: ([] : List Int)))) (fun (a5 : (List Int)) => (bindO (getI a2.2.2 (0 : Int)) (fun (a6 : Int) => (bindO (guardO (lenOk ((List.length s1.2.1) + (List.length (a6 :: ([] : List Int)))))) (fun (a7 : Unit) => (bindO (some (s1.2.1 ++ (a6 :: ([] : List Int)))) (fun (a8 : (List Int)) => (bindO (some (IntKind.wrap .i64 (s1.2.2 + (1 : Int)))) (fun (a9 : Int) => (again0 (a5, (a8, a9))))))))))))))))))) (some (s1.1, s1.2.1))))) (([] : List Int), (([] : List Int), (0 : Int))))

noncomputable def c_I_tops : Con0 := ⟨pk_I_tops, rk_I_tops, M_I_tops⟩

set_option maxRecDepth 100000 in
theorem eq_I_tops (x : In pk_I_tops) : semF (mkE []) h_I_tops (info Tryz.f74) pk_I_tops rk_I_tops x = M_I_tops x := (semFF_eq _ _ _ _ _ _).symm.trans (by kernel_rfl)

set_option maxRecDepth 100000 in
theorem m_I_tops : ConOK Tryz.prog 74 c_I_tops := fn_ok (tyOK _) (E := mkE []) (consOK_nil rfl) Tryz.func74 (h := h_I_tops) (by kernel_rfl) eq_I_tops

/-- slices_Clone_sint_int -/
def pk_slices_Clone_sint_int : List PK := [.data (.sl (.int .i64))]
def rk_slices_Clone_sint_int : List (Ty × Bool) := [((.sl (.int .i64)), true)]
def h_slices_Clone_sint_int : Hints := { loops := [] }
noncomputable def M_slices_Clone_sint_int (x : (List Int)) : (Option (List Int)) :=
  (cond (List.isEmpty x) (ambO (some ([] : List Int)) (cond (not true) (some ([] : List Int)) (bindO (guardO (lenOk ((List.length ([] : List Int)) + (List.length x)))) (fun (a0 : Unit) => (bindO (some (([] : List Int) ++ x)) (fun (a1 : (List Int)) => (some a1))))))) (cond (not true) (some ([] : List Int)) (bindO (guardO (lenOk ((List.length ([] : List Int)) + (List.length x)))) (fun (a2 : Unit) => (bindO (some (([] : List Int) ++ x)) (fun (a3 : (List Int)) => (some a3)))))))

noncomputable def c_slices_Clone_sint_int : Con0 := ⟨pk_slices_Clone_sint_int, rk_slices_Clone_sint_int, M_slices_Clone_sint_int⟩

set_option maxRecDepth 100000 in
theorem eq_slices_Clone_sint_int (x : In pk_slices_Clone_sint_int) : semF (mkE []) h_slices_Clone_sint_int (info Tryz.f119) pk_slices_Clone_sint_int rk_slices_Clone_sint_int x = M_slices_Clone_sint_int x := (semFF_eq _ _ _ _ _ _).symm.trans (by kernel_rfl)

set_option maxRecDepth 100000 in
theorem m_slices_Clone_sint_int : ConOK Tryz.prog 119 c_slices_Clone_sint_int := fn_ok (tyOK _) (E := mkE []) (consOK_nil rfl) Tryz.func119 (h := h_slices_Clone_sint_int) (by kernel_rfl) eq_slices_Clone_sint_int

/-- I_Group_smallExponents -/
def pk_I_Group_smallExponents : List PK := [.data (.cons (.int .i64) (.cons (.int .i64) (.one (.int .i64)))), .data (.sl (.int .i64)), .data (.int .i64)]
def rk_I_Group_smallExponents : List (Ty × Bool) := [((.sl (.int .i64)), true), (.bool, false)]
def h_I_Group_smallExponents : Hints := { loops := [(0, { items := [.slot 8 (.own (.int .i64) true), .slot 15 (.data (.int .i64) [])], kill := [0] ++ (sgN 4 4 ++ (sgN 9 5 ++ (sgN 16 27))) })] }
noncomputable def M_I_Group_smallExponents (x : ((Int × (Int × Int)) × ((List Int) × Int))) : (Option ((List Int) × Bool)) :=
  (loopO (fun (again0 : (((List Int) × Int) → (Option ((List Int) × Bool)))) => (fun (s1 : ((List Int) × Int)) => (cond (decide (s1.2 < (if (x.2.2 < (1 : Int)) then (1 : Int) else x.2.2))) (bindO (M_slices_Clone_sint_int x.2.1) (fun (a2 : (List Int)) => (bindO (guardO (lenOk ((List.length a2) + (List.length (s1.2 :: ([] : List Int)))))) (fun (a3 : Unit) => (bindO (some (a2 ++ (s1.2 :: ([] : List Int)))) (fun (a4 : (List Int)) => (bindO (M_I_HashLabelled ((bytesOf [115, 109, 97, 108, 108]), a4)) (fun (a5 : (Int × Bool)) => (cond (not a5.2) (some (([] : List Int), false)) (bindO (some (IntKind.wrap .i64 (x.1.2.1 - (1 : Int)))) (fun (a6 : Int) => (bindO (guardO ((if (a6 < (65535 : Int)) then a6 else (65535 : Int)) != (0 : Int))) (fun (a7 : Unit) => (bindO (some (Int.tmod a5.1 (if (a6 < (65535 : Int)) then a6 else (65535 : Int)))) (fun (a8 : Int) => (bindO (some (IntKind.wrap .i64 ((1 : Int) + a8))) (fun (a9 : Int) => (bindO (guardO (lenOk ((List.length s1.1) + (List.length (a9 :: ([] : List Int)))))) (fun (a10 : Unit) => (bindO (some (s1.1 ++ (a9 :: ([] : List Int)))) (fun (a11 : (List Int)) => (bindO (some (IntKind.wrap .i64 (s1.2 + (1 : Int)))) (fun (a12 : Int) => (again0 (a11, a12))))))))))))))))))))))))) (bindO (sliceNH x.2.2 (List.length s1.1)) (fun (a13 : (Nat × Nat)) => (some ((List.take a13.2 s1.1), true))))))) (([] : List Int), (0 : Int)))

noncomputable def c_I_Group_smallExponents : Con0 := ⟨pk_I_Group_smallExponents, rk_I_Group_smallExponents, M_I_Group_smallExponents⟩

set_option maxRecDepth 100000 in
theorem eq_I_Group_smallExponents (x : In pk_I_Group_smallExponents) : semF (mkE [(119, c_slices_Clone_sint_int), (118, c_I_HashLabelled)]) h_I_Group_smallExponents (info Tryz.f75) pk_I_Group_smallExponents rk_I_Group_smallExponents x = M_I_Group_smallExponents x := (semFF_eq _ _ _ _ _ _).symm.trans (by kernel_rfl)

set_option maxRecDepth 100000 in
theorem m_I_Group_smallExponents : ConOK Tryz.prog 75 c_I_Group_smallExponents := fn_ok (tyOK _) (E := mkE [(119, c_slices_Clone_sint_int), (118, c_I_HashLabelled)]) (consOK_cons m_slices_Clone_sint_int (consOK_cons m_I_HashLabelled (consOK_nil rfl))) Tryz.func75 (h := h_I_Group_smallExponents) (by kernel_rfl) eq_I_Group_smallExponents

/-- I_mod -/
def pk_I_mod : List PK := [.data (.int .i64), .data (.int .i64)]
def rk_I_mod : List (Ty × Bool) := [((.int .i64), false)]
def h_I_mod : Hints := { loops := [] }
noncomputable def M_I_mod (x : (Int × Int)) : (Option Int) :=
  (bindO (guardO (x.2 != (0 : Int))) (fun (a0 : Unit) => (bindO (some (Int.tmod x.1 x.2)) (fun (a1 : Int) => (bindO (some (IntKind.wrap .i64 (a1 + x.2))) (fun (a2 : Int) => (bindO (guardO (x.2 != (0 : Int))) (fun (a3 : Unit) => (bindO (some (Int.tmod a2 x.2)) (fun (a4 : Int) => (some a4)))))))))))

noncomputable def c_I_mod : Con0 := ⟨pk_I_mod, rk_I_mod, M_I_mod⟩

set_option maxRecDepth 100000 in
theorem eq_I_mod (x : In pk_I_mod) : semF (mkE []) h_I_mod (info Tryz.f121) pk_I_mod rk_I_mod x = M_I_mod x := (semFF_eq _ _ _ _ _ _).symm.trans (by kernel_rfl)

set_option maxRecDepth 100000 in
theorem m_I_mod : ConOK Tryz.prog 121 c_I_mod := fn_ok (tyOK _) (E := mkE []) (consOK_nil rfl) Tryz.func121 (h := h_I_mod) (by kernel_rfl) eq_I_mod

/-- I_Group_pow -/
def pk_I_Group_pow : List PK := [.data (.cons (.int .i64) (.cons (.int .i64) (.one (.int .i64)))), .data (.int .i64), .data (.int .i64)]
def rk_I_Group_pow : List (Ty × Bool) := [((.int .i64), false)]
def h_I_Group_pow : Hints := { loops := [] }
noncomputable def M_I_Group_pow (x : ((Int × (Int × Int)) × (Int × Int))) : (Option Int) :=
  (bindO (M_I_mod (x.2.2, x.1.2.1)) (fun (a0 : Int) => (bindO (M_I_power (x.2.1, (a0, x.1.1))) (fun (a1 : Int) => (some a1)))))

noncomputable def c_I_Group_pow : Con0 := ⟨pk_I_Group_pow, rk_I_Group_pow, M_I_Group_pow⟩

set_option maxRecDepth 100000 in
theorem eq_I_Group_pow (x : In pk_I_Group_pow) : semF (mkE [(121, c_I_mod), (93, c_I_power)]) h_I_Group_pow (info Tryz.f78) pk_I_Group_pow rk_I_Group_pow x = M_I_Group_pow x := (semFF_eq _ _ _ _ _ _).symm.trans (by kernel_rfl)

set_option maxRecDepth 100000 in
theorem m_I_Group_pow : ConOK Tryz.prog 78 c_I_Group_pow := fn_ok (tyOK _) (E := mkE [(121, c_I_mod), (93, c_I_power)]) (consOK_cons m_I_mod (consOK_cons m_I_power (consOK_nil rfl))) Tryz.func78 (h := h_I_Group_pow) (by kernel_rfl) eq_I_Group_pow

/-- I_Group_mul -/
def pk_I_Group_mul : List PK := [.data (.cons (.int .i64) (.cons (.int .i64) (.one (.int .i64)))), .data (.sl (.int .i64))]
def rk_I_Group_mul : List (Ty × Bool) := [((.int .i64), false)]
def h_I_Group_mul : Hints := { loops := [(0, { items := [.slot 5 (.data (.int .i64) []), .slot 10 (.data (.int .i64) [])], kill := [0, 1, 3, 4, 6, 7] ++ (sgN 11 11) })] }
noncomputable def M_I_Group_mul (x : ((Int × (Int × Int)) × (List Int))) : (Option Int) :=
  (loopO (fun (again0 : ((Int × Int) → (Option Int))) => (fun (s1 : (Int × Int)) => (cond (decide (s1.2 < (((List.length x.2) : Nat) : Int))) (bindO (getI x.2 s1.2) (fun (a2 : Int) => (bindO (some (IntKind.wrap .i64 (s1.1 * a2))) (fun (a3 : Int) => (bindO (guardO (x.1.1 != (0 : Int))) (fun (a4 : Unit) => (bindO (some (Int.tmod a3 x.1.1)) (fun (a5 : Int) => (bindO (some (IntKind.wrap .i64 (s1.2 + (1 : Int)))) (fun (a6 : Int) => (again0 (a5, a6)))))))))))) (some s1.1)))) ((1 : Int), (0 : Int)))

noncomputable def c_I_Group_mul : Con0 := ⟨pk_I_Group_mul, rk_I_Group_mul, M_I_Group_mul⟩

set_option maxRecDepth 100000 in
theorem eq_I_Group_mul (x : In pk_I_Group_mul) : semF (mkE []) h_I_Group_mul (info Tryz.f77) pk_I_Group_mul rk_I_Group_mul x = M_I_Group_mul x := (semFF_eq _ _ _ _ _ _).symm.trans (by kernel_rfl)

set_option maxRecDepth 100000 in
theorem m_I_Group_mul : ConOK Tryz.prog 77 c_I_Group_mul := fn_ok (tyOK _) (E := mkE []) (consOK_nil rfl) Tryz.func77 (h := h_I_Group_mul) (by kernel_rfl) eq_I_Group_mul

/-- I_Group_inv -/
def pk_I_Group_inv : List PK := [.data (.cons (.int .i64) (.cons (.int .i64) (.one (.int .i64)))), .data (.int .i64)]
def rk_I_Group_inv : List (Ty × Bool) := [((.int .i64), false)]
def h_I_Group_inv : Hints := { loops := [] }
noncomputable def M_I_Group_inv (x : ((Int × (Int × Int)) × Int)) : (Option Int) :=
  (bindO (M_I_Group_pow ((x.1.1, (x.1.2.1, x.1.2.2)), (x.2, (- (1 : Int))))) (fun (a0 : Int) => (some a0)))

noncomputable def c_I_Group_inv : Con0 := ⟨pk_I_Group_inv, rk_I_Group_inv, M_I_Group_inv⟩

set_option maxRecDepth 100000 in
theorem eq_I_Group_inv (x : In pk_I_Group_inv) : semF (mkE [(78, c_I_Group_pow)]) h_I_Group_inv (info Tryz.f136) pk_I_Group_inv rk_I_Group_inv x = M_I_Group_inv x := (semFF_eq _ _ _ _ _ _).symm.trans (by kernel_rfl)

set_option maxRecDepth 100000 in
theorem m_I_Group_inv : ConOK Tryz.prog 136 c_I_Group_inv := fn_ok (tyOK _) (E := mkE [(78, c_I_Group_pow)]) (consOK_cons m_I_Group_pow (consOK_nil rfl)) Tryz.func136 (h := h_I_Group_inv) (by kernel_rfl) eq_I_Group_inv

/-- I_Group_over -/
def pk_I_Group_over : List PK := [.data (.cons (.int .i64) (.cons (.int .i64) (.one (.int .i64)))), .data (.int .i64), .data (.int .i64)]
def rk_I_Group_over : List (Ty × Bool) := [((.int .i64), false)]
def h_I_Group_over : Hints := { loops := [] }
noncomputable def M_I_Group_over (x : ((Int × (Int × Int)) × (Int × Int))) : (Option Int) :=
  (bindO (M_I_Group_inv ((x.1.1, (x.1.2.1, x.1.2.2)), x.2.2)) (fun (a0 : Int) => (bindO (M_I_Group_mul ((x.1.1, (x.1.2.1, x.1.2.2)), (x.2.1 :: (a0 :: ([] : List Int))))) (fun (a1 : Int) => (some a1)))))

noncomputable def c_I_Group_over : Con0 := ⟨pk_I_Group_over, rk_I_Group_over, M_I_Group_over⟩

set_option maxRecDepth 100000 in
theorem eq_I_Group_over (x : In pk_I_Group_over) : semF (mkE [(136, c_I_Group_inv), (77, c_I_Group_mul)]) h_I_Group_over (info Tryz.f110) pk_I_Group_over rk_I_Group_over x = M_I_Group_over x := (semFF_eq _ _ _ _ _ _).symm.trans (by kernel_rfl)

set_option maxRecDepth 100000 in
theorem m_I_Group_over : ConOK Tryz.prog 110 c_I_Group_over := fn_ok (tyOK _) (E := mkE [(136, c_I_Group_inv), (77, c_I_Group_mul)]) (consOK_cons m_I_Group_inv (consOK_cons m_I_Group_mul (consOK_nil rfl))) Tryz.func110 (h := h_I_Group_over) (by kernel_rfl) eq_I_Group_over

/-- I_Group_batchEqual -/
def pk_I_Group_batchEqual : List PK := [.data (.cons (.int .i64) (.cons (.int .i64) (.one (.int .i64)))), .data .str, .data (.sl (.cons (.int .i64) (.cons (.int .i64) (.cons (.int .i64) (.one (.int .i64)))))), .data (.sl (.cons (.sl (.int .i64)) (.cons (.sl (.int .i64)) (.one (.sl (.int .i64))))))]
def rk_I_Group_batchEqual : List (Ty × Bool) := [(.bool, false), (.bool, false)]
def h_I_Group_batchEqual : Hints := { loops := [(0, { items := [.slot 24 (.data (.int .i64) [])], kill := [0] ++ (sgN 5 17 ++ (sgN 25 144)) }), (2, { items := [.slot 17 (.data (.int .i64) []), .slot 79 (.data (.int .i64) [])], kill := [0, 1, 3] ++ (sgN 5 7 ++ ([16] ++ (sgN 18 59 ++ (sgN 80 89)))) })] }
noncomputable def M_I_Group_batchEqual (x : ((Int × (Int × Int)) × (ByteArray × ((List (Int × (Int × (Int × Int)))) × (List ((List Int) × ((List Int) × (List Int)))))))) : (Option (Bool × Bool)) :=
  (loopO (fun (again0 : (Int → (Option (Bool × Bool)))) => (fun (s1 : Int) => (cond (decide (s1 < (((List.length x.2.2.2) : Nat) : Int))) (bindO (getI x.2.2.2 s1) (fun (a2 : ((List Int) × ((List Int) × (List Int)))) => (bindO (getI x.2.2.1 s1) (fun (a3 : (Int × (Int × (Int × Int)))) => (bindO (getI x.2.2.1 s1) (fun (a4 : (Int × (Int × (Int × Int)))) => (bindO (getI x.2.2.1 s1) (fun (a5 : (Int × (Int × (Int × Int)))) => (bindO (getI x.2.2.1 s1) (fun (a6 : (Int × (Int × (Int × Int)))) => (bindO (M_I_Group_isLinearForm ((x.1.1, (x.1.2.1, x.1.2.2)), (x.2.1, ((a3.1 :: (a4.2.2.1 :: ([] : List Int))), ((a5.2.1 :: (a6.2.2.2 :: ([] : List Int))), (a2.1, (a2.2.1, a2.2.2))))))) (fun (a7 : Bool) => (cond (not a7) (some (false, true)) (bindO (some (IntKind.wrap .i64 (s1 + (1 : Int)))) (fun (a8 : Int) => (again0 a8)))))))))))))))) (bindO (M_I_tops x.2.2.2) (fun (a9 : ((List Int) × (List Int))) => (bindO (M_slices_Concat_sint_int (a9.1 :: (a9.2 :: ([] : List (List Int))))) (fun (a10 : (List Int)) => (bindO (some (IntKind.wrap .i64 ((2 : Int) * (((List.length x.2.2.2) : Nat) : Int)))) (fun (a11 : Int) => (bindO (M_I_Group_smallExponents ((x.1.1, (x.1.2.1, x.1.2.2)), (a10, a11))) (fun (a12 : ((List Int) × Bool)) => (cond (not a12.2) (some (false, false)) (loopO (fun (again13 : ((Int × Int) → (Option (Bool × Bool)))) => (fun (s14 : (Int × Int)) => (cond (decide (s14.2 < (((List.length x.2.2.2) : Nat) : Int))) (bindO (getI x.2.2.2 s14.2) (fun (a15 : ((List Int) × ((List Int) × (List Int)))) => (bindO (getI x.2.2.1 s14.2) (fun (a16 : (Int × (Int × (Int × Int)))) => (bindO (getI a9.2 s14.2) (fun (a17 : Int) => (bindO (M_I_Group_pow ((x.1.1, (x.1.2.1, x.1.2.2)), (a16.1, a17))) (fun (a18 : Int) => (bindO (getI a15.1 (0 : Int)) (fun (a19 : Int) => (bindO (getI x.2.2.1 s14.2) (fun (a20 : (Int × (Int × (Int × Int)))) => (bindO (getI a9.1 s14.2) (fun (a21 : Int) => (bindO (M_I_Group_pow ((x.1.1, (x.1.2.1, x.1.2.2)), (a20.2.1, a21))) (fun (a22 : Int) => (bindO (M_I_Group_mul ((x.1.1, (x.1.2.1, x.1.2.2)), (a19 :: (a22 :: ([] : List Int))))) (fun (a23 : Int) => (bindO (M_I_Group_over ((x.1.1, (x.1.2.1, x.1.2.2)), (a18, a23))) (fun (a24 : Int) => (bindO (getI x.2.2.1 s14.2) (fun (a25 : (Int × (Int × (Int × Int)))) => (bindO (getI a9.2 s14.2) (fun (a26 : Int) => (bindO (M_I_Group_pow ((x.1.1, (x.1.2.1, x.1.2.2)), (a25.2.2.1, a26))) (fun (a27 : Int) => (bindO (getI a15.1 (1 : Int)) (fun (a28 : Int) => (bindO (getI x.2.2.1 s14.2) (fun (a29 : (Int × (Int × (Int × Int)))) => (bindO (getI a9.1 s14.2) (fun (a30 : Int) => (bindO (M_I_Group_pow ((x.1.1, (x.1.2.1, x.1.2.2)), (a29.2.2.2, a30))) (fun (a31 : Int) => (bindO (M_I_Group_mul ((x.1.1, (x.1.2.1, x.1.2.2)), (a28 :: (a31 :: ([] : List Int))))) (fun (a32 : Int) => (bindO (M_I_Group_over ((x.1.1, (x.1.2.1, x.1.2.2)), (a27, a32))) (fun (a33 : Int) => (bindO (getI a12.1 s14.2) (fun (a34 : Int) => (bindO (M_I_Group_pow ((x.1.1, (x.1.2.1, x.1.2.2)), (a24, a34))) (fun (a35 : Int) => (bindO (some (IntKind.wrap .i64 ((((List.length x.2.2.2) : Nat) : Int) + s14.2))) (fun (a36 : Int) => (bindO (getI a12.1 a36) (fun (a37 : Int) => (bindO (M_I_Group_pow ((x.1.1, (x.1.2.1, x.1.2.2)), (a33, a37))) (fun (a38 : Int) => (bindO (M_I_Group_mul ((x.1.1, (x.1.2.1, x.1.2.2)), (s14.1 :: (a35 :: (a38 :: ([] : List Int)))))) (fun (a39 : Int) => (bindO (some (IntKind.wrap .i64 (s14.2 + (1 : Int)))) (fun (a40 : Int) => (again13 (a39, a40)))))))))))))))))))))))))))))))))))))))))))))))))))))) (some ((s14.1 == (1 : Int)), true))))) ((1 : Int), (0 : Int))))))))))))))) (0 : Int))

noncomputable def c_I_Group_batchEqual : Con0 := ⟨pk_I_Group_batchEqual, rk_I_Group_batchEqual, M_I_Group_batchEqual⟩

set_option maxRecDepth 100000 in
theorem eq_I_Group_batchEqual (x : In pk_I_Group_batchEqual) : semF (mkE [(73, c_I_Group_isLinearForm), (74, c_I_tops), (76, c_slices_Concat_sint_int), (75, c_I_Group_smallExponents), (78, c_I_Group_pow), (77, c_I_Group_mul), (110, c_I_Group_over)]) h_I_Group_batchEqual (info Tryz.f53) pk_I_Group_batchEqual rk_I_Group_batchEqual x = M_I_Group_batchEqual x := (semFF_eq _ _ _ _ _ _).symm.trans (by kernel_rfl)

set_option maxRecDepth 100000 in
theorem m_I_Group_batchEqual : ConOK Tryz.prog 53 c_I_Group_batchEqual := fn_ok (tyOK _) (E := mkE [(73, c_I_Group_isLinearForm), (74, c_I_tops), (76, c_slices_Concat_sint_int), (75, c_I_Group_smallExponents), (78, c_I_Group_pow), (77, c_I_Group_mul), (110, c_I_Group_over)]) (consOK_cons m_I_Group_isLinearForm (consOK_cons m_I_tops (consOK_cons m_slices_Concat_sint_int (consOK_cons m_I_Group_smallExponents (consOK_cons m_I_Group_pow (consOK_cons m_I_Group_mul (consOK_cons m_I_Group_over (consOK_nil rfl)))))))) Tryz.func53 (h := h_I_Group_batchEqual) (by kernel_rfl) eq_I_Group_batchEqual

/-- I_BatchEqual -/
def pk_I_BatchEqual : List PK := [.data (.cons (.int .i64) (.cons (.int .i64) (.one (.int .i64)))), .data .str, .data (.sl (.cons (.int .i64) (.cons (.int .i64) (.cons (.int .i64) (.one (.int .i64)))))), .data (.sl (.cons (.sl (.int .i64)) (.cons (.sl (.int .i64)) (.one (.sl (.int .i64))))))]
def rk_I_BatchEqual : List (Ty × Bool) := [(.bool, false), (.bool, false)]
def h_I_BatchEqual : Hints := { loops := [] }
noncomputable def M_I_BatchEqual (x : ((Int × (Int × Int)) × (ByteArray × ((List (Int × (Int × (Int × Int)))) × (List ((List Int) × ((List Int) × (List Int)))))))) : (Option (Bool × Bool)) :=
  (bindO (M_I_areBatch ((x.1.1, (x.1.2.1, x.1.2.2)), (x.2.1, (x.2.2.1, x.2.2.2)))) (fun (a0 : Bool) => (cond (not a0) (some (false, false)) (bindO (M_I_Group_batchEqual ((x.1.1, (x.1.2.1, x.1.2.2)), (x.2.1, (x.2.2.1, x.2.2.2)))) (fun (a1 : (Bool × Bool)) => (some (a1.1, a1.2)))))))

noncomputable def c_I_BatchEqual : Con0 := ⟨pk_I_BatchEqual, rk_I_BatchEqual, M_I_BatchEqual⟩

set_option maxRecDepth 100000 in
theorem eq_I_BatchEqual (x : In pk_I_BatchEqual) : semF (mkE [(52, c_I_areBatch), (53, c_I_Group_batchEqual)]) h_I_BatchEqual (info Tryz.f17) pk_I_BatchEqual rk_I_BatchEqual x = M_I_BatchEqual x := (semFF_eq _ _ _ _ _ _).symm.trans (by kernel_rfl)

set_option maxRecDepth 100000 in
theorem m_I_BatchEqual : ConOK Tryz.prog 17 c_I_BatchEqual := fn_ok (tyOK _) (E := mkE [(52, c_I_areBatch), (53, c_I_Group_batchEqual)]) (consOK_cons m_I_areBatch (consOK_cons m_I_Group_batchEqual (consOK_nil rfl))) Tryz.func17 (h := h_I_BatchEqual) (by kernel_rfl) eq_I_BatchEqual

/-- S_sLabel -/
def pk_S_sLabel : List PK := [.data (.cons (.int .i64) (.cons (.int .i64) (.one (.int .i64)))), .data .str]
def rk_S_sLabel : List (Ty × Bool) := [(.bool, false)]
def h_S_sLabel : Hints := { loops := [] }
noncomputable def M_S_sLabel (x : ((Int × (Int × Int)) × ByteArray)) : (Option Bool) :=
  (bindO (M_S_l2Good (x.1.1, (x.1.2.1, x.1.2.2))) (fun (a0 : Bool) => (cond a0 (some (decide ((((ByteArray.size x.2) : Nat) : Int) ≤ (40 : Int)))) (some false))))

noncomputable def c_S_sLabel : Con0 := ⟨pk_S_sLabel, rk_S_sLabel, M_S_sLabel⟩

set_option maxRecDepth 100000 in
theorem eq_S_sLabel (x : In pk_S_sLabel) : semF (mkE [(37, c_S_l2Good)]) h_S_sLabel (info Tryz.f56) pk_S_sLabel rk_S_sLabel x = M_S_sLabel x := (semFF_eq _ _ _ _ _ _).symm.trans (by kernel_rfl)

set_option maxRecDepth 100000 in
theorem m_S_sLabel : ConOK Tryz.prog 56 c_S_sLabel := fn_ok (tyOK _) (E := mkE [(37, c_S_l2Good)]) (consOK_cons m_S_l2Good (consOK_nil rfl)) Tryz.func56 (h := h_S_sLabel) (by kernel_rfl) eq_S_sLabel

/-- S_wStatements -/
def pk_S_wStatements : List PK := [.data (.cons (.int .i64) (.cons (.int .i64) (.one (.int .i64)))), .data .str, .data (.sl (.cons (.int .i64) (.cons (.int .i64) (.cons (.int .i64) (.one (.int .i64)))))), .data (.sl (.cons (.sl (.int .i64)) (.cons (.sl (.int .i64)) (.one (.sl (.int .i64))))))]
def rk_S_wStatements : List (Ty × Bool) := [(.bool, false)]
def h_S_wStatements : Hints := { loops := [(0, { items := [.slot 29 (.data (.int .i64) [])], kill := sgN 0 4 ++ (sgN 5 22 ++ (sgN 30 8)) })] }
noncomputable def M_S_wStatements (x : ((Int × (Int × Int)) × (ByteArray × ((List (Int × (Int × (Int × Int)))) × (List ((List Int) × ((List Int) × (List Int)))))))) : (Option Bool) :=
  (bindO (M_S_sLabel ((x.1.1, (x.1.2.1, x.1.2.2)), x.2.1)) (fun (a0 : Bool) => (cond (not a0) (some false) (cond (decide ((((List.length x.2.2.1) : Nat) : Int) > (12 : Int))) (some false) (cond ((((List.length x.2.2.2) : Nat) : Int) != (((List.length x.2.2.1) : Nat) : Int)) (some false) (loopO (fun (again1 : (Int → (Option Bool))) => (fun (s2 : Int) => (cond (decide (s2 < (((List.length x.2.2.1) : Nat) : Int))) (bindO (getI x.2.2.1 s2) (fun (a3 : (Int × (Int × (Int × Int)))) => (bindO (M_S_sElements ((x.1.1, (x.1.2.1, x.1.2.2)), (a3.1, (a3.2.1, (a3.2.2.1, a3.2.2.2))))) (fun (a4 : Bool) => (cond (not a4) (some false) (bindO (some (IntKind.wrap .i64 (s2 + (1 : Int)))) (fun (a5 : Int) => (again1 a5)))))))) (some true)))) (0 : Int)))))))

noncomputable def c_S_wStatements : Con0 := ⟨pk_S_wStatements, rk_S_wStatements, M_S_wStatements⟩

set_option maxRecDepth 100000 in
theorem eq_S_wStatements (x : In pk_S_wStatements) : semF (mkE [(56, c_S_sLabel), (57, c_S_sElements)]) h_S_wStatements (info Tryz.f54) pk_S_wStatements rk_S_wStatements x = M_S_wStatements x := (semFF_eq _ _ _ _ _ _).symm.trans (by kernel_rfl)

set_option maxRecDepth 100000 in
theorem m_S_wStatements : ConOK Tryz.prog 54 c_S_wStatements := fn_ok (tyOK _) (E := mkE [(56, c_S_sLabel), (57, c_S_sElements)]) (consOK_cons m_S_sLabel (consOK_cons m_S_sElements (consOK_nil rfl))) Tryz.func54 (h := h_S_wStatements) (by kernel_rfl) eq_S_wStatements

/-- S_l9Form -/
def pk_S_l9Form : List PK := [.data (.cons (.int .i64) (.cons (.int .i64) (.one (.int .i64)))), .data (.cons (.sl (.int .i64)) (.cons (.sl (.int .i64)) (.one (.sl (.int .i64))))), .data (.int .i64), .data (.int .i64), .data (.int .i64)]
def rk_S_l9Form : List (Ty × Bool) := [(.bool, false)]
def h_S_l9Form : Hints := { loops := [] }
noncomputable def M_S_l9Form (x : ((Int × (Int × Int)) × (((List Int) × ((List Int) × (List Int))) × (Int × (Int × Int))))) : (Option Bool) :=
  (cond ((((List.length x.2.1.1) : Nat) : Int) == x.2.2.1) (cond ((((List.length x.2.1.2.1) : Nat) : Int) == x.2.2.2.1) (cond ((((List.length x.2.1.2.2) : Nat) : Int) == x.2.2.2.2) (bindO (M_S_gIs ((x.1.1, (x.1.2.1, x.1.2.2)), x.2.1.1)) (fun (a0 : Bool) => (cond a0 (bindO (M_S_gExps ((x.1.1, (x.1.2.1, x.1.2.2)), x.2.1.2.1)) (fun (a1 : Bool) => (cond a1 (bindO (M_S_gExps ((x.1.1, (x.1.2.1, x.1.2.2)), x.2.1.2.2)) (fun (a2 : Bool) => (some a2))) (some false)))) (some false)))) (some false)) (some false)) (some false))

noncomputable def c_S_l9Form : Con0 := ⟨pk_S_l9Form, rk_S_l9Form, M_S_l9Form⟩

set_option maxRecDepth 100000 in
theorem eq_S_l9Form (x : In pk_S_l9Form) : semF (mkE [(80, c_S_gIs), (47, c_S_gExps)]) h_S_l9Form (info Tryz.f81) pk_S_l9Form rk_S_l9Form x = M_S_l9Form x := (semFF_eq _ _ _ _ _ _).symm.trans (by kernel_rfl)

set_option maxRecDepth 100000 in
theorem m_S_l9Form : ConOK Tryz.prog 81 c_S_l9Form := fn_ok (tyOK _) (E := mkE [(80, c_S_gIs), (47, c_S_gExps)]) (consOK_cons m_S_gIs (consOK_cons m_S_gExps (consOK_nil rfl))) Tryz.func81 (h := h_S_l9Form) (by kernel_rfl) eq_S_l9Form

/-- S_wBoth -/
def pk_S_wBoth : List PK := [.data (.sl (.cons (.sl (.int .i64)) (.cons (.sl (.int .i64)) (.one (.sl (.int .i64))))))]
def rk_S_wBoth : List (Ty × Bool) := [((.sl (.int .i64)), true)]
def h_S_wBoth : Hints := { loops := [(0, { items := [.slot 3 (.own (.int .i64) true), .slot 4 (.own (.int .i64) true), .slot 9 (.data (.int .i64) [])], kill := [0, 1, 2, 5, 6] ++ (sgN 10 15) })] }
noncomputable def M_S_wBoth (x : (List ((List Int) × ((List Int) × (List Int))))) : (Option (List Int)) :=
  (loopO (fun (again0 : (((List Int) × ((List Int) × Int)) → (Option (List Int)))) => (fun (s1 : ((List Int) × ((List Int) × Int))) => (cond (decide (s1.2.2 < (((List.length x) : Nat) : Int))) (bindO (getI x s1.2.2) (fun (a2 : ((List Int) × ((List Int) × (List Int)))) => (bindO (guardO (lenOk ((List.length s1.1) + (List.length a2.2.1)))) (fun (a3 : Unit) => (bindO (some (s1.1 ++ a2.2.1)) (fun (a4 : (List Int)) => (bindO (guardO (lenOk ((List.length s1.2.1) + (List.length a2.2.2)))) (fun (a5 : Unit) => (bindO (some (s1.2.1 ++ a2.2.2)) (fun (a6 : (List Int)) => (bindO (some (IntKind.wrap .i64 (s1.2.2 + (1 : Int)))) (fun (a7 : Int) => (again0 (a4, (a6, a7))))))))))))))) (bindO (guardO (lenOk ((List.length s1.1) + (List.length s1.2.1)))) (fun (a8 : Unit) => (bindO (some (s1.1 ++ s1.2.1)) (fun (a9 : (List Int)) => (some a9)))))))) (([] : List Int), (([] : List Int), (0 : Int))))

noncomputable def c_S_wBoth : Con0 := ⟨pk_S_wBoth, rk_S_wBoth, M_S_wBoth⟩

set_option maxRecDepth 100000 in
theorem eq_S_wBoth (x : In pk_S_wBoth) : semF (mkE []) h_S_wBoth (info Tryz.f84) pk_S_wBoth rk_S_wBoth x = M_S_wBoth x := (semFF_eq _ _ _ _ _ _).symm.trans (by kernel_rfl)

set_option maxRecDepth 100000 in
theorem m_S_wBoth : ConOK Tryz.prog 84 c_S_wBoth := fn_ok (tyOK _) (E := mkE []) (consOK_nil rfl) Tryz.func84 (h := h_S_wBoth) (by kernel_rfl) eq_S_wBoth

/-- S_l1Least -/
def pk_S_l1Least : List PK := [.data (.int .i64), .data (.int .i64)]
def rk_S_l1Least : List (Ty × Bool) := [((.int .i64), false)]
def h_S_l1Least : Hints := { loops := [] }
noncomputable def M_S_l1Least (x : (Int × Int)) : (Option Int) :=
  (cond (decide (x.1 < x.2)) (some x.1) (some x.2))

noncomputable def c_S_l1Least : Con0 := ⟨pk_S_l1Least, rk_S_l1Least, M_S_l1Least⟩

set_option maxRecDepth 100000 in
theorem eq_S_l1Least (x : In pk_S_l1Least) : semF (mkE []) h_S_l1Least (info Tryz.f123) pk_S_l1Least rk_S_l1Least x = M_S_l1Least x := (semFF_eq _ _ _ _ _ _).symm.trans (by kernel_rfl)

set_option maxRecDepth 100000 in
theorem m_S_l1Least : ConOK Tryz.prog 123 c_S_l1Least := fn_ok (tyOK _) (E := mkE []) (consOK_nil rfl) Tryz.func123 (h := h_S_l1Least) (by kernel_rfl) eq_S_l1Least

/-- S_wSmall -/
def pk_S_wSmall : List PK := [.data (.cons (.int .i64) (.cons (.int .i64) (.one (.int .i64)))), .data (.sl (.int .i64)), .data (.int .i64)]
def rk_S_wSmall : List (Ty × Bool) := [((.sl (.int .i64)), true)]
def h_S_wSmall : Hints := { loops := [(0, { items := [.slot 8 (.own (.int .i64) true), .slot 9 (.data (.int .i64) [])], kill := [0] ++ (sgN 3 4 ++ (sgN 10 22)) })] }
noncomputable def M_S_wSmall (x : ((Int × (Int × Int)) × ((List Int) × Int))) : (Option (List Int)) :=
  (bindO (some (IntKind.wrap .i64 (x.1.2.1 - (1 : Int)))) (fun (a0 : Int) => (bindO (M_S_l1Least ((65535 : Int), a0)) (fun (a1 : Int) => (loopO (fun (again2 : (((List Int) × Int) → (Option (List Int)))) => (fun (s3 : ((List Int) × Int)) => (cond (decide (s3.2 < x.2.2)) (bindO (M_S_l1Own x.2.1) (fun (a4 : (List Int)) => (bindO (guardO (lenOk ((List.length a4) + (List.length (s3.2 :: ([] : List Int)))))) (fun (a5 : Unit) => (bindO (some (a4 ++ (s3.2 :: ([] : List Int)))) (fun (a6 : (List Int)) => (bindO (M_S_hLabelled ((bytesOf [115, 109, 97, 108, 108]), a6)) (fun (a7 : Int) => (bindO (guardO (a1 != (0 : Int))) (fun (a8 : Unit) => (bindO (some (Int.tmod a7 a1)) (fun (a9 : Int) => (bindO (some (IntKind.wrap .i64 ((1 : Int) + a9))) (fun (a10 : Int) => (bindO (guardO (lenOk ((List.length s3.1) + (List.length (a10 :: ([] : List Int)))))) (fun (a11 : Unit) => (bindO (some (s3.1 ++ (a10 :: ([] : List Int)))) (fun (a12 : (List Int)) => (bindO (some (IntKind.wrap .i64 (s3.2 + (1 : Int)))) (fun (a13 : Int) => (again2 (a12, a13)))))))))))))))))))))) (some s3.1)))) (([] : List Int), (0 : Int)))))))

noncomputable def c_S_wSmall : Con0 := ⟨pk_S_wSmall, rk_S_wSmall, M_S_wSmall⟩

set_option maxRecDepth 100000 in
theorem eq_S_wSmall (x : In pk_S_wSmall) : semF (mkE [(123, c_S_l1Least), (116, c_S_l1Own), (122, c_S_hLabelled)]) h_S_wSmall (info Tryz.f83) pk_S_wSmall rk_S_wSmall x = M_S_wSmall x := (semFF_eq _ _ _ _ _ _).symm.trans (by kernel_rfl)

set_option maxRecDepth 100000 in
theorem m_S_wSmall : ConOK Tryz.prog 83 c_S_wSmall := fn_ok (tyOK _) (E := mkE [(123, c_S_l1Least), (116, c_S_l1Own), (122, c_S_hLabelled)]) (consOK_cons m_S_l1Least (consOK_cons m_S_l1Own (consOK_cons m_S_hLabelled (consOK_nil rfl)))) Tryz.func83 (h := h_S_wSmall) (by kernel_rfl) eq_S_wSmall

/-- S_gMul -/
def pk_S_gMul : List PK := [.data (.cons (.int .i64) (.cons (.int .i64) (.one (.int .i64)))), .data (.sl (.int .i64))]
def rk_S_gMul : List (Ty × Bool) := [((.int .i64), false)]
def h_S_gMul : Hints := { loops := [(0, { items := [.slot 5 (.data (.int .i64) []), .slot 10 (.data (.int .i64) [])], kill := [0, 1, 3, 4, 6, 7] ++ (sgN 11 11) })] }
noncomputable def M_S_gMul (x : ((Int × (Int × Int)) × (List Int))) : (Option Int) :=
  (loopO (fun (again0 : ((Int × Int) → (Option Int))) => (fun (s1 : (Int × Int)) => (cond (decide (s1.2 < (((List.length x.2) : Nat) : Int))) (bindO (getI x.2 s1.2) (fun (a2 : Int) => (bindO (some (IntKind.wrap .i64 (s1.1 * a2))) (fun (a3 : Int) => (bindO (guardO (x.1.1 != (0 : Int))) (fun (a4 : Unit) => (bindO (some (Int.tmod a3 x.1.1)) (fun (a5 : Int) => (bindO (some (IntKind.wrap .i64 (s1.2 + (1 : Int)))) (fun (a6 : Int) => (again0 (a5, a6)))))))))))) (some s1.1)))) ((1 : Int), (0 : Int)))

noncomputable def c_S_gMul : Con0 := ⟨pk_S_gMul, rk_S_gMul, M_S_gMul⟩

set_option maxRecDepth 100000 in
theorem eq_S_gMul (x : In pk_S_gMul) : semF (mkE []) h_S_gMul (info Tryz.f85) pk_S_gMul rk_S_gMul x = M_S_gMul x := (semFF_eq _ _ _ _ _ _).symm.trans (by kernel_rfl)

set_option maxRecDepth 100000 in
theorem m_S_gMul : ConOK Tryz.prog 85 c_S_gMul := fn_ok (tyOK _) (E := mkE []) (consOK_nil rfl) Tryz.func85 (h := h_S_gMul) (by kernel_rfl) eq_S_gMul

/-- S_gInv -/
def pk_S_gInv : List PK := [.data (.cons (.int .i64) (.cons (.int .i64) (.one (.int .i64)))), .data (.int .i64)]
def rk_S_gInv : List (Ty × Bool) := [((.int .i64), false)]
def h_S_gInv : Hints := { loops := [] }
noncomputable def M_S_gInv (x : ((Int × (Int × Int)) × Int)) : (Option Int) :=
  (bindO (some (IntKind.wrap .i64 (x.1.2.1 - (1 : Int)))) (fun (a0 : Int) => (bindO (M_S_nPower (x.2, (a0, x.1.1))) (fun (a1 : Int) => (some a1)))))

noncomputable def c_S_gInv : Con0 := ⟨pk_S_gInv, rk_S_gInv, M_S_gInv⟩

set_option maxRecDepth 100000 in
theorem eq_S_gInv (x : In pk_S_gInv) : semF (mkE [(66, c_S_nPower)]) h_S_gInv (info Tryz.f137) pk_S_gInv rk_S_gInv x = M_S_gInv x := (semFF_eq _ _ _ _ _ _).symm.trans (by kernel_rfl)

set_option maxRecDepth 100000 in
theorem m_S_gInv : ConOK Tryz.prog 137 c_S_gInv := fn_ok (tyOK _) (E := mkE [(66, c_S_nPower)]) (consOK_cons m_S_nPower (consOK_nil rfl)) Tryz.func137 (h := h_S_gInv) (by kernel_rfl) eq_S_gInv

/-- S_wRatio -/
def pk_S_wRatio : List PK := [.data (.cons (.int .i64) (.cons (.int .i64) (.one (.int .i64)))), .data (.int .i64), .data (.int .i64), .data (.int .i64), .data (.int .i64), .data (.int .i64)]
def rk_S_wRatio : List (Ty × Bool) := [((.int .i64), false)]
def h_S_wRatio : Hints := { loops := [] }
noncomputable def M_S_wRatio (x : ((Int × (Int × Int)) × (Int × (Int × (Int × (Int × Int)))))) : (Option Int) :=
  (bindO (M_S_gExp ((x.1.1, (x.1.2.1, x.1.2.2)), (x.2.1, x.2.2.1))) (fun (a0 : Int) => (bindO (M_S_gExp ((x.1.1, (x.1.2.1, x.1.2.2)), (x.2.2.2.2.1, x.2.2.2.2.2))) (fun (a1 : Int) => (bindO (M_S_gMul ((x.1.1, (x.1.2.1, x.1.2.2)), (x.2.2.2.1 :: (a1 :: ([] : List Int))))) (fun (a2 : Int) => (bindO (M_S_gInv ((x.1.1, (x.1.2.1, x.1.2.2)), a2)) (fun (a3 : Int) => (bindO (M_S_gMul ((x.1.1, (x.1.2.1, x.1.2.2)), (a0 :: (a3 :: ([] : List Int))))) (fun (a4 : Int) => (some a4)))))))))))

noncomputable def c_S_wRatio : Con0 := ⟨pk_S_wRatio, rk_S_wRatio, M_S_wRatio⟩

set_option maxRecDepth 100000 in
theorem eq_S_wRatio (x : In pk_S_wRatio) : semF (mkE [(86, c_S_gExp), (85, c_S_gMul), (137, c_S_gInv)]) h_S_wRatio (info Tryz.f111) pk_S_wRatio rk_S_wRatio x = M_S_wRatio x := (semFF_eq _ _ _ _ _ _).symm.trans (by kernel_rfl)

set_option maxRecDepth 100000 in
theorem m_S_wRatio : ConOK Tryz.prog 111 c_S_wRatio := fn_ok (tyOK _) (E := mkE [(86, c_S_gExp), (85, c_S_gMul), (137, c_S_gInv)]) (consOK_cons m_S_gExp (consOK_cons m_S_gMul (consOK_cons m_S_gInv (consOK_nil rfl)))) Tryz.func111 (h := h_S_wRatio) (by kernel_rfl) eq_S_wRatio

/-- S_wEqual -/
def pk_S_wEqual : List PK := [.data (.cons (.int .i64) (.cons (.int .i64) (.one (.int .i64)))), .data .str, .data (.sl (.cons (.int .i64) (.cons (.int .i64) (.cons (.int .i64) (.one (.int .i64)))))), .data (.sl (.cons (.sl (.int .i64)) (.cons (.sl (.int .i64)) (.one (.sl (.int .i64))))))]
def rk_S_wEqual : List (Ty × Bool) := [(.bool, false)]
def h_S_wEqual : Hints := { loops := [(0, { items := [.slot 22 (.data (.int .i64) [])], kill := [0] ++ (sgN 5 15 ++ (sgN 23 112)) }), (2, { items := [.slot 14 (.data (.int .i64) []), .slot 73 (.data (.int .i64) [])], kill := [0, 1, 3] ++ (sgN 5 7 ++ (sgN 15 56 ++ (sgN 74 61))) })] }
noncomputable def M_S_wEqual (x : ((Int × (Int × Int)) × (ByteArray × ((List (Int × (Int × (Int × Int)))) × (List ((List Int) × ((List Int) × (List Int)))))))) : (Option Bool) :=
  (loopO (fun (again0 : (Int → (Option Bool))) => (fun (s1 : Int) => (cond (decide (s1 < (((List.length x.2.2.2) : Nat) : Int))) (bindO (getI x.2.2.2 s1) (fun (a2 : ((List Int) × ((List Int) × (List Int)))) => (bindO (getI x.2.2.1 s1) (fun (a3 : (Int × (Int × (Int × Int)))) => (bindO (M_S_l9Form ((x.1.1, (x.1.2.1, x.1.2.2)), ((a2.1, (a2.2.1, a2.2.2)), ((2 : Int), ((1 : Int), (1 : Int)))))) (fun (a4 : Bool) => (cond (not a4) (some false) (bindO (getI a2.2.1 (0 : Int)) (fun (a5 : Int) => (bindO (getI a2.1 (0 : Int)) (fun (a6 : Int) => (bindO (getI a2.1 (1 : Int)) (fun (a7 : Int) => (bindO (M_S_hChallenge ((x.1.1, (x.1.2.1, x.1.2.2)), (x.2.1, (a3.1 :: (a3.2.2.1 :: (a3.2.1 :: (a3.2.2.2 :: (a6 :: (a7 :: ([] : List Int)))))))))) (fun (a8 : Int) => (cond (a5 != a8) (some false) (bindO (some (IntKind.wrap .i64 (s1 + (1 : Int)))) (fun (a9 : Int) => (again0 a9))))))))))))))))))) (bindO (M_S_wBoth x.2.2.2) (fun (a10 : (List Int)) => (bindO (some (IntKind.wrap .i64 ((2 : Int) * (((List.length x.2.2.2) : Nat) : Int)))) (fun (a11 : Int) => (bindO (M_S_wSmall ((x.1.1, (x.1.2.1, x.1.2.2)), (a10, a11))) (fun (a12 : (List Int)) => (loopO (fun (again13 : ((Int × Int) → (Option Bool))) => (fun (s14 : (Int × Int)) => (cond (decide (s14.2 < (((List.length x.2.2.2) : Nat) : Int))) (bindO (getI x.2.2.2 s14.2) (fun (a15 : ((List Int) × ((List Int) × (List Int)))) => (bindO (getI x.2.2.1 s14.2) (fun (a16 : (Int × (Int × (Int × Int)))) => (bindO (getI a15.2.1 (0 : Int)) (fun (a17 : Int) => (bindO (getI a15.2.2 (0 : Int)) (fun (a18 : Int) => (bindO (getI a15.1 (0 : Int)) (fun (a19 : Int) => (bindO (M_S_wRatio ((x.1.1, (x.1.2.1, x.1.2.2)), (a16.1, (a18, (a19, (a16.2.1, a17)))))) (fun (a20 : Int) => (bindO (getI a12 s14.2) (fun (a21 : Int) => (bindO (M_S_gExp ((x.1.1, (x.1.2.1, x.1.2.2)), (a20, a21))) (fun (a22 : Int) => (bindO (getI a15.1 (1 : Int)) (fun (a23 : Int) => (bindO (M_S_wRatio ((x.1.1, (x.1.2.1, x.1.2.2)), (a16.2.2.1, (a18, (a23, (a16.2.2.2, a17)))))) (fun (a24 : Int) => (bindO (some (IntKind.wrap .i64 ((((List.length x.2.2.2) : Nat) : Int) + s14.2))) (fun (a25 : Int) => (bindO (getI a12 a25) (fun (a26 : Int) => (bindO (M_S_gExp ((x.1.1, (x.1.2.1, x.1.2.2)), (a24, a26))) (fun (a27 : Int) => (bindO (M_S_gMul ((x.1.1, (x.1.2.1, x.1.2.2)), (s14.1 :: (a22 :: (a27 :: ([] : List Int)))))) (fun (a28 : Int) => (bindO (some (IntKind.wrap .i64 (s14.2 + (1 : Int)))) (fun (a29 : Int) => (again13 (a28, a29)))))))))))))))))))))))))))))))) (some (s14.1 == (1 : Int)))))) ((1 : Int), (0 : Int)))))))))))) (0 : Int))

noncomputable def c_S_wEqual : Con0 := ⟨pk_S_wEqual, rk_S_wEqual, M_S_wEqual⟩

set_option maxRecDepth 100000 in
theorem eq_S_wEqual (x : In pk_S_wEqual) : semF (mkE [(81, c_S_l9Form), (82, c_S_hChallenge), (84, c_S_wBoth), (83, c_S_wSmall), (111, c_S_wRatio), (86, c_S_gExp), (85, c_S_gMul)]) h_S_wEqual (info Tryz.f55) pk_S_wEqual rk_S_wEqual x = M_S_wEqual x := (semFF_eq _ _ _ _ _ _).symm.trans (by kernel_rfl)

set_option maxRecDepth 100000 in
theorem m_S_wEqual : ConOK Tryz.prog 55 c_S_wEqual := fn_ok (tyOK _) (E := mkE [(81, c_S_l9Form), (82, c_S_hChallenge), (84, c_S_wBoth), (83, c_S_wSmall), (111, c_S_wRatio), (86, c_S_gExp), (85, c_S_gMul)]) (consOK_cons m_S_l9Form (consOK_cons m_S_hChallenge (consOK_cons m_S_wBoth (consOK_cons m_S_wSmall (consOK_cons m_S_wRatio (consOK_cons m_S_gExp (consOK_cons m_S_gMul (consOK_nil rfl)))))))) Tryz.func55 (h := h_S_wEqual) (by kernel_rfl) eq_S_wEqual

/-- S_BatchEqual -/
def pk_S_BatchEqual : List PK := [.data (.cons (.int .i64) (.cons (.int .i64) (.one (.int .i64)))), .data .str, .data (.sl (.cons (.int .i64) (.cons (.int .i64) (.cons (.int .i64) (.one (.int .i64)))))), .data (.sl (.cons (.sl (.int .i64)) (.cons (.sl (.int .i64)) (.one (.sl (.int .i64))))))]
def rk_S_BatchEqual : List (Ty × Bool) := [(.bool, false), (.bool, false)]
def h_S_BatchEqual : Hints := { loops := [] }
noncomputable def M_S_BatchEqual (x : ((Int × (Int × Int)) × (ByteArray × ((List (Int × (Int × (Int × Int)))) × (List ((List Int) × ((List Int) × (List Int)))))))) : (Option (Bool × Bool)) :=
  (bindO (M_S_wStatements ((x.1.1, (x.1.2.1, x.1.2.2)), (x.2.1, (x.2.2.1, x.2.2.2)))) (fun (a0 : Bool) => (cond (not a0) (some (false, false)) (bindO (M_S_wEqual ((x.1.1, (x.1.2.1, x.1.2.2)), (x.2.1, (x.2.2.1, x.2.2.2)))) (fun (a1 : Bool) => (some (a1, true)))))))

noncomputable def c_S_BatchEqual : Con0 := ⟨pk_S_BatchEqual, rk_S_BatchEqual, M_S_BatchEqual⟩

set_option maxRecDepth 100000 in
theorem eq_S_BatchEqual (x : In pk_S_BatchEqual) : semF (mkE [(54, c_S_wStatements), (55, c_S_wEqual)]) h_S_BatchEqual (info Tryz.f18) pk_S_BatchEqual rk_S_BatchEqual x = M_S_BatchEqual x := (semFF_eq _ _ _ _ _ _).symm.trans (by kernel_rfl)

set_option maxRecDepth 100000 in
theorem m_S_BatchEqual : ConOK Tryz.prog 18 c_S_BatchEqual := fn_ok (tyOK _) (E := mkE [(54, c_S_wStatements), (55, c_S_wEqual)]) (consOK_cons m_S_wStatements (consOK_cons m_S_wEqual (consOK_nil rfl))) Tryz.func18 (h := h_S_BatchEqual) (by kernel_rfl) eq_S_BatchEqual

/-- S_sVerify -/
def pk_S_sVerify : List PK := [.data (.cons (.int .i64) (.cons (.int .i64) (.one (.int .i64)))), .data .str, .data (.sl (.sl (.int .i64))), .data (.sl (.int .i64)), .data (.cons (.sl (.int .i64)) (.cons (.sl (.int .i64)) (.one (.sl (.int .i64)))))]
def rk_S_sVerify : List (Ty × Bool) := [(.bool, false)]
def h_S_sVerify : Hints := { loops := [(0, { items := [.slot 66 (.data (.int .i64) [])], kill := [0, 1, 2, 4, 6, 7, 8, 10] ++ (sgN 12 52 ++ (sgN 67 26)) })] }
noncomputable def M_S_sVerify (x : ((Int × (Int × Int)) × (ByteArray × ((List (List Int)) × ((List Int) × ((List Int) × ((List Int) × (List Int)))))))) : (Option Bool) :=
  (cond ((((List.length x.2.2.2.2.1) : Nat) : Int) != (((List.length x.2.2.1) : Nat) : Int)) (some false) (cond ((((List.length x.2.2.2.2.2.1) : Nat) : Int) != (1 : Int)) (some false) (bindO (getI x.2.2.1 (0 : Int)) (fun (a0 : (List Int)) => (cond ((((List.length x.2.2.2.2.2.2) : Nat) : Int) != (((List.length a0) : Nat) : Int)) (some false) (bindO (M_S_gIs ((x.1.1, (x.1.2.1, x.1.2.2)), x.2.2.2.2.1)) (fun (a1 : Bool) => (cond (not a1) (some false) (bindO (M_S_gExps ((x.1.1, (x.1.2.1, x.1.2.2)), x.2.2.2.2.2.2)) (fun (a2 : Bool) => (cond (not a2) (some false) (bindO (getI x.2.2.2.2.2.1 (0 : Int)) (fun (a3 : Int) => (bindO (M_S_sStatement (x.2.2.1, (x.2.2.2.1, x.2.2.2.2.1))) (fun (a4 : (List Int)) => (bindO (M_S_hChallenge ((x.1.1, (x.1.2.1, x.1.2.2)), (x.2.1, a4))) (fun (a5 : Int) => (cond (a3 != a5) (some false) (loopO (fun (again6 : (Int → (Option Bool))) => (fun (s7 : Int) => (cond (decide (s7 < (((List.length x.2.2.1) : Nat) : Int))) (bindO (getI x.2.2.1 s7) (fun (a8 : (List Int)) => (bindO (M_S_gProd ((x.1.1, (x.1.2.1, x.1.2.2)), (a8, x.2.2.2.2.2.2))) (fun (a9 : Int) => (bindO (getI x.2.2.2.2.1 s7) (fun (a10 : Int) => (bindO (getI x.2.2.2.1 s7) (fun (a11 : Int) => (bindO (M_S_gExp ((x.1.1, (x.1.2.1, x.1.2.2)), (a11, a3))) (fun (a12 : Int) => (bindO (M_S_gMul ((x.1.1, (x.1.2.1, x.1.2.2)), (a10 :: (a12 :: ([] : List Int))))) (fun (a13 : Int) => (cond (a9 != a13) (some false) (bindO (some (IntKind.wrap .i64 (s7 + (1 : Int)))) (fun (a14 : Int) => (again6 a14)))))))))))))))) (some true)))) (0 : Int))))))))))))))))))))

noncomputable def c_S_sVerify : Con0 := ⟨pk_S_sVerify, rk_S_sVerify, M_S_sVerify⟩

set_option maxRecDepth 100000 in
theorem eq_S_sVerify (x : In pk_S_sVerify) : semF (mkE [(80, c_S_gIs), (47, c_S_gExps), (133, c_S_sStatement), (82, c_S_hChallenge), (138, c_S_gProd), (86, c_S_gExp), (85, c_S_gMul)]) h_S_sVerify (info Tryz.f112) pk_S_sVerify rk_S_sVerify x = M_S_sVerify x := (semFF_eq _ _ _ _ _ _).symm.trans (by kernel_rfl)

set_option maxRecDepth 100000 in
theorem m_S_sVerify : ConOK Tryz.prog 112 c_S_sVerify := fn_ok (tyOK _) (E := mkE [(80, c_S_gIs), (47, c_S_gExps), (133, c_S_sStatement), (82, c_S_hChallenge), (138, c_S_gProd), (86, c_S_gExp), (85, c_S_gMul)]) (consOK_cons m_S_gIs (consOK_cons m_S_gExps (consOK_cons m_S_sStatement (consOK_cons m_S_hChallenge (consOK_cons m_S_gProd (consOK_cons m_S_gExp (consOK_cons m_S_gMul (consOK_nil rfl)))))))) Tryz.func112 (h := h_S_sVerify) (by kernel_rfl) eq_S_sVerify

/-- S_sVerifyEq -/
def pk_S_sVerifyEq : List PK := [.data (.cons (.int .i64) (.cons (.int .i64) (.one (.int .i64)))), .data .str, .data (.cons (.int .i64) (.cons (.int .i64) (.cons (.int .i64) (.one (.int .i64))))), .data (.cons (.sl (.int .i64)) (.cons (.sl (.int .i64)) (.one (.sl (.int .i64)))))]
def rk_S_sVerifyEq : List (Ty × Bool) := [(.bool, false)]
def h_S_sVerifyEq : Hints := { loops := [] }
noncomputable def M_S_sVerifyEq (x : ((Int × (Int × Int)) × (ByteArray × ((Int × (Int × (Int × Int))) × ((List Int) × ((List Int) × (List Int))))))) : (Option Bool) :=
  (bindO (M_S_sVerify ((x.1.1, (x.1.2.1, x.1.2.2)), (x.2.1, (((x.2.2.1.1 :: ([] : List Int)) :: ((x.2.2.1.2.2.1 :: ([] : List Int)) :: ([] : List (List Int)))), ((x.2.2.1.2.1 :: (x.2.2.1.2.2.2 :: ([] : List Int))), (x.2.2.2.1, (x.2.2.2.2.1, x.2.2.2.2.2))))))) (fun (a0 : Bool) => (some a0)))

noncomputable def c_S_sVerifyEq : Con0 := ⟨pk_S_sVerifyEq, rk_S_sVerifyEq, M_S_sVerifyEq⟩

set_option maxRecDepth 100000 in
theorem eq_S_sVerifyEq (x : In pk_S_sVerifyEq) : semF (mkE [(112, c_S_sVerify)]) h_S_sVerifyEq (info Tryz.f58) pk_S_sVerifyEq rk_S_sVerifyEq x = M_S_sVerifyEq x := (semFF_eq _ _ _ _ _ _).symm.trans (by kernel_rfl)

set_option maxRecDepth 100000 in
theorem m_S_sVerifyEq : ConOK Tryz.prog 58 c_S_sVerifyEq := fn_ok (tyOK _) (E := mkE [(112, c_S_sVerify)]) (consOK_cons m_S_sVerify (consOK_nil rfl)) Tryz.func58 (h := h_S_sVerifyEq) (by kernel_rfl) eq_S_sVerifyEq

/-- S_VerifyEqual -/
def pk_S_VerifyEqual : List PK := [.data (.cons (.int .i64) (.cons (.int .i64) (.one (.int .i64)))), .data .str, .data (.cons (.int .i64) (.cons (.int .i64) (.cons (.int .i64) (.one (.int .i64))))), .data (.cons (.sl (.int .i64)) (.cons (.sl (.int .i64)) (.one (.sl (.int .i64)))))]
def rk_S_VerifyEqual : List (Ty × Bool) := [(.bool, false), (.bool, false)]
def h_S_VerifyEqual : Hints := { loops := [] }
noncomputable def M_S_VerifyEqual (x : ((Int × (Int × Int)) × (ByteArray × ((Int × (Int × (Int × Int))) × ((List Int) × ((List Int) × (List Int))))))) : (Option (Bool × Bool)) :=
  (bindO (M_S_sLabel ((x.1.1, (x.1.2.1, x.1.2.2)), x.2.1)) (fun (a0 : Bool) => (cond (not a0) (some (false, false)) (bindO (M_S_sElements ((x.1.1, (x.1.2.1, x.1.2.2)), (x.2.2.1.1, (x.2.2.1.2.1, (x.2.2.1.2.2.1, x.2.2.1.2.2.2))))) (fun (a1 : Bool) => (cond (not a1) (some (false, false)) (bindO (M_S_sVerifyEq ((x.1.1, (x.1.2.1, x.1.2.2)), (x.2.1, ((x.2.2.1.1, (x.2.2.1.2.1, (x.2.2.1.2.2.1, x.2.2.1.2.2.2))), (x.2.2.2.1, (x.2.2.2.2.1, x.2.2.2.2.2)))))) (fun (a2 : Bool) => (some (a2, true))))))))))

noncomputable def c_S_VerifyEqual : Con0 := ⟨pk_S_VerifyEqual, rk_S_VerifyEqual, M_S_VerifyEqual⟩

set_option maxRecDepth 100000 in
theorem eq_S_VerifyEqual (x : In pk_S_VerifyEqual) : semF (mkE [(56, c_S_sLabel), (57, c_S_sElements), (58, c_S_sVerifyEq)]) h_S_VerifyEqual (info Tryz.f19) pk_S_VerifyEqual rk_S_VerifyEqual x = M_S_VerifyEqual x := (semFF_eq _ _ _ _ _ _).symm.trans (by kernel_rfl)

set_option maxRecDepth 100000 in
theorem m_S_VerifyEqual : ConOK Tryz.prog 19 c_S_VerifyEqual := fn_ok (tyOK _) (E := mkE [(56, c_S_sLabel), (57, c_S_sElements), (58, c_S_sVerifyEq)]) (consOK_cons m_S_sLabel (consOK_cons m_S_sElements (consOK_cons m_S_sVerifyEq (consOK_nil rfl)))) Tryz.func19 (h := h_S_VerifyEqual) (by kernel_rfl) eq_S_VerifyEqual

/-- I_Group_findBad -/
def pk_I_Group_findBad : List PK := [.data (.cons (.int .i64) (.cons (.int .i64) (.one (.int .i64)))), .data .str, .data (.sl (.cons (.int .i64) (.cons (.int .i64) (.cons (.int .i64) (.one (.int .i64)))))), .data (.sl (.cons (.sl (.int .i64)) (.cons (.sl (.int .i64)) (.one (.sl (.int .i64)))))), .data (.int .i64), .data (.int .i64), .mp (.sl (.int .i64)) true, .mp (.int .i64) false]
def rk_I_Group_findBad : List (Ty × Bool) := [(.bool, false)]
def h_I_Group_findBad : Hints := { loops := [] }
noncomputable def R_I_Group_findBad : Nat → ((Int × (Int × Int)) × (ByteArray × ((List (Int × (Int × (Int × Int)))) × ((List ((List Int) × ((List Int) × (List Int)))) × (Int × (Int × ((List Int) × Int))))))) → (Option (Bool × ((List Int) × Int)))
  | 0, _ => none
  | n + 1, x => (bindO (some (IntKind.wrap .i64 (x.2.2.2.2.2.2.2 + (1 : Int)))) (fun (a0 : Int) => (bindO (sliceLH x.2.2.2.2.1 x.2.2.2.2.2.1 (List.length x.2.2.1)) (fun (a1 : (Nat × Nat)) => (bindO (sliceLH x.2.2.2.2.1 x.2.2.2.2.2.1 (List.length x.2.2.2.1)) (fun (a2 : (Nat × Nat)) => (bindO (M_I_Group_batchEqual ((x.1.1, (x.1.2.1, x.1.2.2)), (x.2.1, ((List.drop a1.1 (List.take a1.2 x.2.2.1)), (List.drop a2.1 (List.take a2.2 x.2.2.2.1)))))) (fun (a3 : (Bool × Bool)) => (cond (not a3.2) (some (false, (x.2.2.2.2.2.2.1, a0))) (cond a3.1 (some (true, (x.2.2.2.2.2.2.1, a0))) (bindO (some (IntKind.wrap .i64 (x.2.2.2.2.2.1 - x.2.2.2.2.1))) (fun (a4 : Int) => (cond (a4 == (1 : Int)) (bindO (guardO (lenOk ((List.length x.2.2.2.2.2.2.1) + (List.length (x.2.2.2.2.1 :: ([] : List Int)))))) (fun (a5 : Unit) => (bindO (some (x.2.2.2.2.2.2.1 ++ (x.2.2.2.2.1 :: ([] : List Int)))) (fun (a6 : (List Int)) => (some (true, (a6, a0))))))) (bindO (some (IntKind.wrap .i64 (x.2.2.2.2.2.1 - x.2.2.2.2.1))) (fun (a7 : Int) => (bindO (some (IntKind.wrap .i64 (a7 + (1 : Int)))) (fun (a8 : Int) => (bindO (guardO ((2 : Int) != (0 : Int))) (fun (a9 : Unit) => (bindO (some (IntKind.wrap .i64 (Int.tdiv a8 (2 : Int)))) (fun (a10 : Int) => (bindO (some (IntKind.wrap .i64 (x.2.2.2.2.1 + a10))) (fun (a11 : Int) => (bindO (R_I_Group_findBad n ((x.1.1, (x.1.2.1, x.1.2.2)), (x.2.1, (x.2.2.1, (x.2.2.2.1, (x.2.2.2.2.1, (a11, (x.2.2.2.2.2.2.1, a0)))))))) (fun (a12 : (Bool × ((List Int) × Int))) => (cond a12.1 (bindO (R_I_Group_findBad n ((x.1.1, (x.1.2.1, x.1.2.2)), (x.2.1, (x.2.2.1, (x.2.2.2.1, (a11, (x.2.2.2.2.2.1, (a12.2.1, a12.2.2)))))))) (fun (a13 : (Bool × ((List Int) × Int))) => (some (a13.1, (a13.2.1, a13.2.2))))) (some (false, (a12.2.1, a12.2.2)))))))))))))))))))))))))))))

noncomputable def M_I_Group_findBad (x : ((Int × (Int × Int)) × (ByteArray × ((List (Int × (Int × (Int × Int)))) × ((List ((List Int) × ((List Int) × (List Int)))) × (Int × (Int × ((List Int) × Int)))))))) : (Option (Bool × ((List Int) × Int))) := limO R_I_Group_findBad x

noncomputable def c_I_Group_findBad : Con0 := ⟨pk_I_Group_findBad, rk_I_Group_findBad, M_I_Group_findBad⟩

set_option maxRecDepth 100000 in
theorem eq_I_Group_findBad (n : Nat) (x : In pk_I_Group_findBad) : semF (mkE ((59, ⟨pk_I_Group_findBad, rk_I_Group_findBad, R_I_Group_findBad n⟩) :: [(53, c_I_Group_batchEqual)])) h_I_Group_findBad (info Tryz.f59) pk_I_Group_findBad rk_I_Group_findBad x = R_I_Group_findBad (n + 1) x := (semFF_eq _ _ _ _ _ _).symm.trans (by kernel_rfl)

set_option maxRecDepth 100000 in
theorem mR_I_Group_findBad : ∀ n, ConOK Tryz.prog 59 ⟨pk_I_Group_findBad, rk_I_Group_findBad, R_I_Group_findBad n⟩
  | 0 => conOK_none Tryz.func59 (h := h_I_Group_findBad) (by kernel_rfl)
  | n + 1 => fn_ok (tyOK _) (E := mkE ((59, ⟨pk_I_Group_findBad, rk_I_Group_findBad, R_I_Group_findBad n⟩) :: [(53, c_I_Group_batchEqual)])) (consOK_cons (mR_I_Group_findBad n) (consOK_cons m_I_Group_batchEqual (consOK_nil rfl))) Tryz.func59 (h := h_I_Group_findBad) (by kernel_rfl) (eq_I_Group_findBad n)

theorem m_I_Group_findBad : ConOK Tryz.prog 59 c_I_Group_findBad := conOK_lim mR_I_Group_findBad

/-- I_FindBadEqual -/
def pk_I_FindBadEqual : List PK := [.data (.cons (.int .i64) (.cons (.int .i64) (.one (.int .i64)))), .data .str, .data (.sl (.cons (.int .i64) (.cons (.int .i64) (.cons (.int .i64) (.one (.int .i64)))))), .data (.sl (.cons (.sl (.int .i64)) (.cons (.sl (.int .i64)) (.one (.sl (.int .i64))))))]
def rk_I_FindBadEqual : List (Ty × Bool) := [((.sl (.int .i64)), true), ((.int .i64), false), (.bool, false)]
def h_I_FindBadEqual : Hints := { loops := [] }
noncomputable def M_I_FindBadEqual (x : ((Int × (Int × Int)) × (ByteArray × ((List (Int × (Int × (Int × Int)))) × (List ((List Int) × ((List Int) × (List Int)))))))) : (Option ((List Int) × (Int × Bool))) :=
  (bindO (M_I_areBatch ((x.1.1, (x.1.2.1, x.1.2.2)), (x.2.1, (x.2.2.1, x.2.2.2)))) (fun (a0 : Bool) => (cond (not a0) (some (([] : List Int), ((0 : Int), false))) (cond (decide ((((List.length x.2.2.2) : Nat) : Int) > (0 : Int))) (bindO (M_I_Group_findBad ((x.1.1, (x.1.2.1, x.1.2.2)), (x.2.1, (x.2.2.1, (x.2.2.2, ((0 : Int), ((((List.length x.2.2.2) : Nat) : Int), (([] : List Int), (0 : Int))))))))) (fun (a1 : (Bool × ((List Int) × Int))) => (cond (not a1.1) (some (([] : List Int), ((0 : Int), false))) (some (a1.2.1, (a1.2.2, true)))))) (some (([] : List Int), ((0 : Int), true)))))))

noncomputable def c_I_FindBadEqual : Con0 := ⟨pk_I_FindBadEqual, rk_I_FindBadEqual, M_I_FindBadEqual⟩

set_option maxRecDepth 100000 in
theorem eq_I_FindBadEqual (x : In pk_I_FindBadEqual) : semF (mkE [(52, c_I_areBatch), (59, c_I_Group_findBad)]) h_I_FindBadEqual (info Tryz.f20) pk_I_FindBadEqual rk_I_FindBadEqual x = M_I_FindBadEqual x := (semFF_eq _ _ _ _ _ _).symm.trans (by kernel_rfl)

set_option maxRecDepth 100000 in
theorem m_I_FindBadEqual : ConOK Tryz.prog 20 c_I_FindBadEqual := fn_ok (tyOK _) (E := mkE [(52, c_I_areBatch), (59, c_I_Group_findBad)]) (consOK_cons m_I_areBatch (consOK_cons m_I_Group_findBad (consOK_nil rfl))) Tryz.func20 (h := h_I_FindBadEqual) (by kernel_rfl) eq_I_FindBadEqual

/-- S_wSearch -/
def pk_S_wSearch : List PK := [.data (.cons (.int .i64) (.cons (.int .i64) (.one (.int .i64)))), .data .str, .data (.sl (.cons (.int .i64) (.cons (.int .i64) (.cons (.int .i64) (.one (.int .i64)))))), .data (.sl (.cons (.sl (.int .i64)) (.cons (.sl (.int .i64)) (.one (.sl (.int .i64)))))), .data (.int .i64), .data (.int .i64)]
def rk_S_wSearch : List (Ty × Bool) := [((.sl (.int .i64)), true), ((.int .i64), false)]
def h_S_wSearch : Hints := { loops := [] }
noncomputable def R_S_wSearch : Nat → ((Int × (Int × Int)) × (ByteArray × ((List (Int × (Int × (Int × Int)))) × ((List ((List Int) × ((List Int) × (List Int)))) × (Int × Int))))) → (Option ((List Int) × Int))
  | 0, _ => none
  | n + 1, x => (bindO (sliceLH x.2.2.2.2.1 x.2.2.2.2.2 (List.length x.2.2.1)) (fun (a0 : (Nat × Nat)) => (bindO (sliceLH x.2.2.2.2.1 x.2.2.2.2.2 (List.length x.2.2.2.1)) (fun (a1 : (Nat × Nat)) => (bindO (M_S_wEqual ((x.1.1, (x.1.2.1, x.1.2.2)), (x.2.1, ((List.drop a0.1 (List.take a0.2 x.2.2.1)), (List.drop a1.1 (List.take a1.2 x.2.2.2.1)))))) (fun (a2 : Bool) => (cond a2 (some (([] : List Int), (1 : Int))) (bindO (some (IntKind.wrap .i64 (x.2.2.2.2.2 - x.2.2.2.2.1))) (fun (a3 : Int) => (cond (a3 == (1 : Int)) (some ((x.2.2.2.2.1 :: ([] : List Int)), (1 : Int))) (bindO (some (IntKind.wrap .i64 (x.2.2.2.2.2 - x.2.2.2.2.1))) (fun (a4 : Int) => (bindO (some (IntKind.wrap .i64 (a4 + (1 : Int)))) (fun (a5 : Int) => (bindO (guardO ((2 : Int) != (0 : Int))) (fun (a6 : Unit) => (bindO (some (IntKind.wrap .i64 (Int.tdiv a5 (2 : Int)))) (fun (a7 : Int) => (bindO (some (IntKind.wrap .i64 (x.2.2.2.2.1 + a7))) (fun (a8 : Int) => (bindO (R_S_wSearch n ((x.1.1, (x.1.2.1, x.1.2.2)), (x.2.1, (x.2.2.1, (x.2.2.2.1, (x.2.2.2.2.1, a8)))))) (fun (a9 : ((List Int) × Int)) => (bindO (R_S_wSearch n ((x.1.1, (x.1.2.1, x.1.2.2)), (x.2.1, (x.2.2.1, (x.2.2.2.1, (a8, x.2.2.2.2.2)))))) (fun (a10 : ((List Int) × Int)) => (bindO (guardO (lenOk ((List.length a9.1) + (List.length a10.1)))) (fun (a11 : Unit) => (bindO (some (a9.1 ++ a10.1)) (fun (a12 : (List Int)) => (bindO (some (IntKind.wrap .i64 (a9.2 + a10.2))) (fun (a13 : Int) => (bindO (some (IntKind.wrap .i64 (a13 + (1 : Int)))) (fun (a14 : Int) => (some (a12, a14))))))))))))))))))))))))))))))))))

noncomputable def M_S_wSearch (x : ((Int × (Int × Int)) × (ByteArray × ((List (Int × (Int × (Int × Int)))) × ((List ((List Int) × ((List Int) × (List Int)))) × (Int × Int)))))) : (Option ((List Int) × Int)) := limO R_S_wSearch x

noncomputable def c_S_wSearch : Con0 := ⟨pk_S_wSearch, rk_S_wSearch, M_S_wSearch⟩

set_option maxRecDepth 100000 in
theorem eq_S_wSearch (n : Nat) (x : In pk_S_wSearch) : semF (mkE ((60, ⟨pk_S_wSearch, rk_S_wSearch, R_S_wSearch n⟩) :: [(55, c_S_wEqual)])) h_S_wSearch (info Tryz.f60) pk_S_wSearch rk_S_wSearch x = R_S_wSearch (n + 1) x := (semFF_eq _ _ _ _ _ _).symm.trans (by kernel_rfl)

set_option maxRecDepth 100000 in
theorem mR_S_wSearch : ∀ n, ConOK Tryz.prog 60 ⟨pk_S_wSearch, rk_S_wSearch, R_S_wSearch n⟩
  | 0 => conOK_none Tryz.func60 (h := h_S_wSearch) (by kernel_rfl)
  | n + 1 => fn_ok (tyOK _) (E := mkE ((60, ⟨pk_S_wSearch, rk_S_wSearch, R_S_wSearch n⟩) :: [(55, c_S_wEqual)])) (consOK_cons (mR_S_wSearch n) (consOK_cons m_S_wEqual (consOK_nil rfl))) Tryz.func60 (h := h_S_wSearch) (by kernel_rfl) (eq_S_wSearch n)

theorem m_S_wSearch : ConOK Tryz.prog 60 c_S_wSearch := conOK_lim mR_S_wSearch

/-- S_FindBadEqual -/
def pk_S_FindBadEqual : List PK := [.data (.cons (.int .i64) (.cons (.int .i64) (.one (.int .i64)))), .data .str, .data (.sl (.cons (.int .i64) (.cons (.int .i64) (.cons (.int .i64) (.one (.int .i64)))))), .data (.sl (.cons (.sl (.int .i64)) (.cons (.sl (.int .i64)) (.one (.sl (.int .i64))))))]
def rk_S_FindBadEqual : List (Ty × Bool) := [((.sl (.int .i64)), true), ((.int .i64), false), (.bool, false)]
def h_S_FindBadEqual : Hints := { loops := [] }
noncomputable def M_S_FindBadEqual (x : ((Int × (Int × Int)) × (ByteArray × ((List (Int × (Int × (Int × Int)))) × (List ((List Int) × ((List Int) × (List Int)))))))) : (Option ((List Int) × (Int × Bool))) :=
  (bindO (M_S_wStatements ((x.1.1, (x.1.2.1, x.1.2.2)), (x.2.1, (x.2.2.1, x.2.2.2)))) (fun (a0 : Bool) => (cond (not a0) (some (([] : List Int), ((0 : Int), false))) (cond ((((List.length x.2.2.2) : Nat) : Int) == (0 : Int)) (some (([] : List Int), ((0 : Int), true))) (bindO (M_S_wSearch ((x.1.1, (x.1.2.1, x.1.2.2)), (x.2.1, (x.2.2.1, (x.2.2.2, ((0 : Int), (((List.length x.2.2.2) : Nat) : Int))))))) (fun (a1 : ((List Int) × Int)) => (some (a1.1, (a1.2, true)))))))))

noncomputable def c_S_FindBadEqual : Con0 := ⟨pk_S_FindBadEqual, rk_S_FindBadEqual, M_S_FindBadEqual⟩

set_option maxRecDepth 100000 in
theorem eq_S_FindBadEqual (x : In pk_S_FindBadEqual) : semF (mkE [(54, c_S_wStatements), (60, c_S_wSearch)]) h_S_FindBadEqual (info Tryz.f21) pk_S_FindBadEqual rk_S_FindBadEqual x = M_S_FindBadEqual x := (semFF_eq _ _ _ _ _ _).symm.trans (by kernel_rfl)

set_option maxRecDepth 100000 in
theorem m_S_FindBadEqual : ConOK Tryz.prog 21 c_S_FindBadEqual := fn_ok (tyOK _) (E := mkE [(54, c_S_wStatements), (60, c_S_wSearch)]) (consOK_cons m_S_wStatements (consOK_cons m_S_wSearch (consOK_nil rfl))) Tryz.func21 (h := h_S_FindBadEqual) (by kernel_rfl) eq_S_FindBadEqual

/-- L_sameInts -/
def pk_L_sameInts : List PK := [.data (.sl (.int .i64)), .data (.sl (.int .i64))]
def rk_L_sameInts : List (Ty × Bool) := [(.bool, false)]
def h_L_sameInts : Hints := { loops := [(0, { items := [.slot 13 (.data (.int .i64) [])], kill := sgN 2 10 ++ (sgN 14 12) })] }
noncomputable def M_L_sameInts (x : ((List Int) × (List Int))) : (Option Bool) :=
  (cond ((((List.length x.1) : Nat) : Int) != (((List.length x.2) : Nat) : Int)) (some false) (loopO (fun (again0 : (Int → (Option Bool))) => (fun (s1 : Int) => (cond (decide (s1 < (((List.length x.1) : Nat) : Int))) (bindO (getI x.1 s1) (fun (a2 : Int) => (bindO (getI x.2 s1) (fun (a3 : Int) => (cond (a2 != a3) (some false) (bindO (some (IntKind.wrap .i64 (s1 + (1 : Int)))) (fun (a4 : Int) => (again0 a4)))))))) (some true)))) (0 : Int)))

noncomputable def c_L_sameInts : Con0 := ⟨pk_L_sameInts, rk_L_sameInts, M_L_sameInts⟩

set_option maxRecDepth 100000 in
theorem eq_L_sameInts (x : In pk_L_sameInts) : semF (mkE []) h_L_sameInts (info Tryz.f22) pk_L_sameInts rk_L_sameInts x = M_L_sameInts x := (semFF_eq _ _ _ _ _ _).symm.trans (by kernel_rfl)

set_option maxRecDepth 100000 in
theorem m_L_sameInts : ConOK Tryz.prog 22 c_L_sameInts := fn_ok (tyOK _) (E := mkE []) (consOK_nil rfl) Tryz.func22 (h := h_L_sameInts) (by kernel_rfl) eq_L_sameInts

/-- I_equalRows -/
def pk_I_equalRows : List PK := [.data (.cons (.int .i64) (.cons (.int .i64) (.cons (.int .i64) (.one (.int .i64)))))]
def rk_I_equalRows : List (Ty × Bool) := [((.sl (.sl (.int .i64))), false)]
def h_I_equalRows : Hints := { loops := [] }
noncomputable def M_I_equalRows (x : (Int × (Int × (Int × Int)))) : (Option (List (List Int))) :=
  (some ((x.1 :: ([] : List Int)) :: ((x.2.2.1 :: ([] : List Int)) :: ([] : List (List Int)))))

noncomputable def c_I_equalRows : Con0 := ⟨pk_I_equalRows, rk_I_equalRows, M_I_equalRows⟩

set_option maxRecDepth 100000 in
theorem eq_I_equalRows (x : In pk_I_equalRows) : semF (mkE []) h_I_equalRows (info Tryz.f62) pk_I_equalRows rk_I_equalRows x = M_I_equalRows x := (semFF_eq _ _ _ _ _ _).symm.trans (by kernel_rfl)

set_option maxRecDepth 100000 in
theorem m_I_equalRows : ConOK Tryz.prog 62 c_I_equalRows := fn_ok (tyOK _) (E := mkE []) (consOK_nil rfl) Tryz.func62 (h := h_I_equalRows) (by kernel_rfl) eq_I_equalRows

/-- slices_IndexFunc_ssint_sint -/
def pk_slices_IndexFunc_ssint_sint : List PK := [.data (.sl (.sl (.int .i64))), .fn [(.sl (.int .i64))] .bool]
def rk_slices_IndexFunc_ssint_sint : List (Ty × Bool) := [((.int .i64), false)]
def h_slices_IndexFunc_ssint_sint : Hints := { loops := [(0, { items := [.slot 8 (.data (.int .i64) [])], kill := sgN 2 5 ++ (sgN 9 10) })] }
noncomputable def M_slices_IndexFunc_ssint_sint (x : ((List (List Int)) × ((List Int) → (Option Bool)))) : (Option Int) :=
  (loopO (fun (again0 : (Int → (Option Int))) => (fun (s1 : Int) => (cond (decide (s1 < (((List.length x.1) : Nat) : Int))) (bindO (getI x.1 s1) (fun (a2 : (List Int)) => (bindO (x.2 a2) (fun (a3 : Bool) => (cond a3 (some s1) (bindO (some (IntKind.wrap .i64 (s1 + (1 : Int)))) (fun (a4 : Int) => (again0 a4)))))))) (some (- (1 : Int)))))) (0 : Int))

noncomputable def c_slices_IndexFunc_ssint_sint : Con0 := ⟨pk_slices_IndexFunc_ssint_sint, rk_slices_IndexFunc_ssint_sint, M_slices_IndexFunc_ssint_sint⟩

set_option maxRecDepth 100000 in
theorem eq_slices_IndexFunc_ssint_sint (x : In pk_slices_IndexFunc_ssint_sint) : semF (mkE []) h_slices_IndexFunc_ssint_sint (info Tryz.f150) pk_slices_IndexFunc_ssint_sint rk_slices_IndexFunc_ssint_sint x = M_slices_IndexFunc_ssint_sint x := (semFF_eq _ _ _ _ _ _).symm.trans (by kernel_rfl)

set_option maxRecDepth 100000 in
theorem m_slices_IndexFunc_ssint_sint : ConOK Tryz.prog 150 c_slices_IndexFunc_ssint_sint := fn_ok (tyOK _) (E := mkE []) (consOK_nil rfl) Tryz.func150 (h := h_slices_IndexFunc_ssint_sint) (by kernel_rfl) eq_slices_IndexFunc_ssint_sint

/-- slices_ContainsFunc_ssint_sint -/
def pk_slices_ContainsFunc_ssint_sint : List PK := [.data (.sl (.sl (.int .i64))), .fn [(.sl (.int .i64))] .bool]
def rk_slices_ContainsFunc_ssint_sint : List (Ty × Bool) := [(.bool, false)]
def h_slices_ContainsFunc_ssint_sint : Hints := { loops := [] }
noncomputable def M_slices_ContainsFunc_ssint_sint (x : ((List (List Int)) × ((List Int) → (Option Bool)))) : (Option Bool) :=
  (bindO (M_slices_IndexFunc_ssint_sint (x.1, x.2)) (fun (a0 : Int) => (some (decide (a0 ≥ (0 : Int))))))

noncomputable def c_slices_ContainsFunc_ssint_sint : Con0 := ⟨pk_slices_ContainsFunc_ssint_sint, rk_slices_ContainsFunc_ssint_sint, M_slices_ContainsFunc_ssint_sint⟩

set_option maxRecDepth 100000 in
theorem eq_slices_ContainsFunc_ssint_sint (x : In pk_slices_ContainsFunc_ssint_sint) : semF (mkE [(150, c_slices_IndexFunc_ssint_sint)]) h_slices_ContainsFunc_ssint_sint (info Tryz.f139) pk_slices_ContainsFunc_ssint_sint rk_slices_ContainsFunc_ssint_sint x = M_slices_ContainsFunc_ssint_sint x := (semFF_eq _ _ _ _ _ _).symm.trans (by kernel_rfl)

set_option maxRecDepth 100000 in
theorem m_slices_ContainsFunc_ssint_sint : ConOK Tryz.prog 139 c_slices_ContainsFunc_ssint_sint := fn_ok (tyOK _) (E := mkE [(150, c_slices_IndexFunc_ssint_sint)]) (consOK_cons m_slices_IndexFunc_ssint_sint (consOK_nil rfl)) Tryz.func139 (h := h_slices_ContainsFunc_ssint_sint) (by kernel_rfl) eq_slices_ContainsFunc_ssint_sint

/-- I_Group_areRows_1 -/
def pk_I_Group_areRows_1 : List PK := [.data (.sl (.int .i64)), .rp (.sl (.sl (.int .i64))), .rp (.cons (.int .i64) (.cons (.int .i64) (.one (.int .i64))))]
def rk_I_Group_areRows_1 : List (Ty × Bool) := [(.bool, false)]
def h_I_Group_areRows_1 : Hints := { loops := [] }
noncomputable def M_I_Group_areRows_1 (x : ((List Int) × ((List (List Int)) × (Int × (Int × Int))))) : (Option Bool) :=
  (bindO (getI x.2.1 (0 : Int)) (fun (a0 : (List Int)) => (cond ((((List.length x.1) : Nat) : Int) != (((List.length a0) : Nat) : Int)) (some true) (bindO (M_I_Group_hasAll ((x.2.2.1, (x.2.2.2.1, x.2.2.2.2)), x.1)) (fun (a1 : Bool) => (some (not a1)))))))

noncomputable def c_I_Group_areRows_1 : Con0 := ⟨pk_I_Group_areRows_1, rk_I_Group_areRows_1, M_I_Group_areRows_1⟩

set_option maxRecDepth 100000 in
theorem eq_I_Group_areRows_1 (x : In pk_I_Group_areRows_1) : semF (mkE [(72, c_I_Group_hasAll)]) h_I_Group_areRows_1 (info Tryz.f140) pk_I_Group_areRows_1 rk_I_Group_areRows_1 x = M_I_Group_areRows_1 x := (semFF_eq _ _ _ _ _ _).symm.trans (by kernel_rfl)

set_option maxRecDepth 100000 in
theorem m_I_Group_areRows_1 : ConOK Tryz.prog 140 c_I_Group_areRows_1 := fn_ok (tyOK _) (E := mkE [(72, c_I_Group_hasAll)]) (consOK_cons m_I_Group_hasAll (consOK_nil rfl)) Tryz.func140 (h := h_I_Group_areRows_1) (by kernel_rfl) eq_I_Group_areRows_1

/-- I_Group_areRows -/
def pk_I_Group_areRows : List PK := [.data (.cons (.int .i64) (.cons (.int .i64) (.one (.int .i64)))), .data (.sl (.sl (.int .i64)))]
def rk_I_Group_areRows : List (Ty × Bool) := [(.bool, false)]
def h_I_Group_areRows : Hints := { loops := [] }
noncomputable def M_I_Group_areRows (x : ((Int × (Int × Int)) × (List (List Int)))) : (Option Bool) :=
  (bindO (M_I_within ((((List.length x.2) : Nat) : Int), ((1 : Int), (8 : Int)))) (fun (a0 : Bool) => (cond (not a0) (some false) (bindO (getI x.2 (0 : Int)) (fun (a1 : (List Int)) => (bindO (M_I_within ((((List.length a1) : Nat) : Int), ((1 : Int), (8 : Int)))) (fun (a2 : Bool) => (cond (not a2) (some false) (bindO (M_slices_ContainsFunc_ssint_sint (x.2, (fun (a3 : (List Int)) => (bindO (M_I_Group_areRows_1 (a3, (x.2, (x.1.1, (x.1.2.1, x.1.2.2))))) (fun (a4 : Bool) => (some a4)))))) (fun (a5 : Bool) => (some (not a5))))))))))))

noncomputable def c_I_Group_areRows : Con0 := ⟨pk_I_Group_areRows, rk_I_Group_areRows, M_I_Group_areRows⟩

set_option maxRecDepth 100000 in
theorem eq_I_Group_areRows (x : In pk_I_Group_areRows) : semF (mkE [(91, c_I_within), (139, c_slices_ContainsFunc_ssint_sint), (140, c_I_Group_areRows_1)]) h_I_Group_areRows (info Tryz.f113) pk_I_Group_areRows rk_I_Group_areRows x = M_I_Group_areRows x := (semFF_eq _ _ _ _ _ _).symm.trans (by kernel_rfl)

set_option maxRecDepth 100000 in
theorem m_I_Group_areRows : ConOK Tryz.prog 113 c_I_Group_areRows := fn_ok (tyOK _) (E := mkE [(91, c_I_within), (139, c_slices_ContainsFunc_ssint_sint), (140, c_I_Group_areRows_1)]) (consOK_cons m_I_within (consOK_cons m_slices_ContainsFunc_ssint_sint (consOK_cons m_I_Group_areRows_1 (consOK_nil rfl)))) Tryz.func113 (h := h_I_Group_areRows) (by kernel_rfl) eq_I_Group_areRows

/-- I_Group_areExps -/
def pk_I_Group_areExps : List PK := [.data (.cons (.int .i64) (.cons (.int .i64) (.one (.int .i64)))), .data (.sl (.int .i64))]
def rk_I_Group_areExps : List (Ty × Bool) := [(.bool, false)]
def h_I_Group_areExps : Hints := { loops := [] }
noncomputable def M_I_Group_areExps (x : ((Int × (Int × Int)) × (List Int))) : (Option Bool) :=
  (bindO (M_I_areAll (x.2, (fun (a0 : Int) => (bindO (M_I_Group_isExp ((x.1.1, (x.1.2.1, x.1.2.2)), a0)) (fun (a1 : Bool) => (some a1)))))) (fun (a2 : Bool) => (some a2)))

noncomputable def c_I_Group_areExps : Con0 := ⟨pk_I_Group_areExps, rk_I_Group_areExps, M_I_Group_areExps⟩

set_option maxRecDepth 100000 in
theorem eq_I_Group_areExps (x : In pk_I_Group_areExps) : semF (mkE [(99, c_I_areAll), (49, c_I_Group_isExp)]) h_I_Group_areExps (info Tryz.f42) pk_I_Group_areExps rk_I_Group_areExps x = M_I_Group_areExps x := (semFF_eq _ _ _ _ _ _).symm.trans (by kernel_rfl)

set_option maxRecDepth 100000 in
theorem m_I_Group_areExps : ConOK Tryz.prog 42 c_I_Group_areExps := fn_ok (tyOK _) (E := mkE [(99, c_I_areAll), (49, c_I_Group_isExp)]) (consOK_cons m_I_areAll (consOK_cons m_I_Group_isExp (consOK_nil rfl))) Tryz.func42 (h := h_I_Group_areExps) (by kernel_rfl) eq_I_Group_areExps

/-- I_Group_powers -/
def pk_I_Group_powers : List PK := [.data (.cons (.int .i64) (.cons (.int .i64) (.one (.int .i64)))), .data (.sl (.int .i64)), .data (.sl (.int .i64))]
def rk_I_Group_powers : List (Ty × Bool) := [((.int .i64), false)]
def h_I_Group_powers : Hints := { loops := [(0, { items := [.slot 7 (.data (.int .i64) []), .slot 12 (.data (.int .i64) [])], kill := [0, 1, 4, 5, 6, 8, 9] ++ (sgN 13 17) })] }
noncomputable def M_I_Group_powers (x : ((Int × (Int × Int)) × ((List Int) × (List Int)))) : (Option Int) :=
  (loopO (fun (again0 : ((Int × Int) → (Option Int))) => (fun (s1 : (Int × Int)) => (cond (decide (s1.2 < (((List.length x.2.1) : Nat) : Int))) (bindO (getI x.2.1 s1.2) (fun (a2 : Int) => (bindO (getI x.2.2 s1.2) (fun (a3 : Int) => (bindO (M_I_Group_pow ((x.1.1, (x.1.2.1, x.1.2.2)), (a2, a3))) (fun (a4 : Int) => (bindO (M_I_Group_mul ((x.1.1, (x.1.2.1, x.1.2.2)), (s1.1 :: (a4 :: ([] : List Int))))) (fun (a5 : Int) => (bindO (some (IntKind.wrap .i64 (s1.2 + (1 : Int)))) (fun (a6 : Int) => (again0 (a5, a6)))))))))))) (some s1.1)))) ((1 : Int), (0 : Int)))

noncomputable def c_I_Group_powers : Con0 := ⟨pk_I_Group_powers, rk_I_Group_powers, M_I_Group_powers⟩

set_option maxRecDepth 100000 in
theorem eq_I_Group_powers (x : In pk_I_Group_powers) : semF (mkE [(78, c_I_Group_pow), (77, c_I_Group_mul)]) h_I_Group_powers (info Tryz.f151) pk_I_Group_powers rk_I_Group_powers x = M_I_Group_powers x := (semFF_eq _ _ _ _ _ _).symm.trans (by kernel_rfl)

set_option maxRecDepth 100000 in
theorem m_I_Group_powers : ConOK Tryz.prog 151 c_I_Group_powers := fn_ok (tyOK _) (E := mkE [(78, c_I_Group_pow), (77, c_I_Group_mul)]) (consOK_cons m_I_Group_pow (consOK_cons m_I_Group_mul (consOK_nil rfl))) Tryz.func151 (h := h_I_Group_powers) (by kernel_rfl) eq_I_Group_powers

/-- I_Group_images -/
def pk_I_Group_images : List PK := [.data (.cons (.int .i64) (.cons (.int .i64) (.one (.int .i64)))), .data (.sl (.sl (.int .i64))), .data (.sl (.int .i64))]
def rk_I_Group_images : List (Ty × Bool) := [((.sl (.int .i64)), true)]
def h_I_Group_images : Hints := { loops := [(0, { items := [.slot 7 (.own (.int .i64) true), .slot 13 (.data (.int .i64) [])], kill := [0, 1, 4, 5, 6, 8, 9, 10] ++ (sgN 14 12) })] }
noncomputable def M_I_Group_images (x : ((Int × (Int × Int)) × ((List (List Int)) × (List Int)))) : (Option (List Int)) :=
  (loopO (fun (again0 : (((List Int) × Int) → (Option (List Int)))) => (fun (s1 : ((List Int) × Int)) => (cond (decide (s1.2 < (((List.length x.2.1) : Nat) : Int))) (bindO (getI x.2.1 s1.2) (fun (a2 : (List Int)) => (bindO (M_I_Group_powers ((x.1.1, (x.1.2.1, x.1.2.2)), (a2, x.2.2))) (fun (a3 : Int) => (bindO (guardO (lenOk ((List.length s1.1) + (List.length (a3 :: ([] : List Int)))))) (fun (a4 : Unit) => (bindO (some (s1.1 ++ (a3 :: ([] : List Int)))) (fun (a5 : (List Int)) => (bindO (some (IntKind.wrap .i64 (s1.2 + (1 : Int)))) (fun (a6 : Int) => (again0 (a5, a6)))))))))))) (some s1.1)))) (([] : List Int), (0 : Int)))

noncomputable def c_I_Group_images : Con0 := ⟨pk_I_Group_images, rk_I_Group_images, M_I_Group_images⟩

set_option maxRecDepth 100000 in
theorem eq_I_Group_images (x : In pk_I_Group_images) : semF (mkE [(151, c_I_Group_powers)]) h_I_Group_images (info Tryz.f141) pk_I_Group_images rk_I_Group_images x = M_I_Group_images x := (semFF_eq _ _ _ _ _ _).symm.trans (by kernel_rfl)

set_option maxRecDepth 100000 in
theorem m_I_Group_images : ConOK Tryz.prog 141 c_I_Group_images := fn_ok (tyOK _) (E := mkE [(151, c_I_Group_powers)]) (consOK_cons m_I_Group_powers (consOK_nil rfl)) Tryz.func141 (h := h_I_Group_images) (by kernel_rfl) eq_I_Group_images

/-- I_Group_verifyLinear -/
def pk_I_Group_verifyLinear : List PK := [.data (.cons (.int .i64) (.cons (.int .i64) (.one (.int .i64)))), .data .str, .data (.sl (.sl (.int .i64))), .data (.sl (.int .i64)), .data (.cons (.sl (.int .i64)) (.cons (.sl (.int .i64)) (.one (.sl (.int .i64)))))]
def rk_I_Group_verifyLinear : List (Ty × Bool) := [(.bool, false)]
def h_I_Group_verifyLinear : Hints := { loops := [(0, { items := [.slot 80 (.data (.int .i64) [])], kill := [0, 1, 2, 4, 6, 7, 8, 10] ++ (sgN 12 66 ++ (sgN 81 22)) })] }
noncomputable def M_I_Group_verifyLinear (x : ((Int × (Int × Int)) × (ByteArray × ((List (List Int)) × ((List Int) × ((List Int) × ((List Int) × (List Int)))))))) : (Option Bool) :=
  (cond ((((List.length x.2.2.2.2.1) : Nat) : Int) != (((List.length x.2.2.1) : Nat) : Int)) (some false) (cond ((((List.length x.2.2.2.2.2.1) : Nat) : Int) != (1 : Int)) (some false) (bindO (getI x.2.2.1 (0 : Int)) (fun (a0 : (List Int)) => (cond ((((List.length x.2.2.2.2.2.2) : Nat) : Int) != (((List.length a0) : Nat) : Int)) (some false) (bindO (M_I_Group_hasAll ((x.1.1, (x.1.2.1, x.1.2.2)), x.2.2.2.2.1)) (fun (a1 : Bool) => (cond (not a1) (some false) (bindO (M_I_Group_areExps ((x.1.1, (x.1.2.1, x.1.2.2)), x.2.2.2.2.2.2)) (fun (a2 : Bool) => (cond (not a2) (some false) (bindO (M_slices_Concat_sint_int x.2.2.1) (fun (a3 : (List Int)) => (bindO (M_slices_Concat_sint_int (a3 :: (x.2.2.2.1 :: (x.2.2.2.2.1 :: ([] : List (List Int)))))) (fun (a4 : (List Int)) => (bindO (M_I_Group_challenge ((x.1.1, (x.1.2.1, x.1.2.2)), (x.2.1, a4))) (fun (a5 : (Int × Bool)) => (cond (not a5.2) (some false) (bindO (getI x.2.2.2.2.2.1 (0 : Int)) (fun (a6 : Int) => (cond (a6 != a5.1) (some false) (bindO (M_I_Group_images ((x.1.1, (x.1.2.1, x.1.2.2)), (x.2.2.1, x.2.2.2.2.2.2))) (fun (a7 : (List Int)) => (loopO (fun (again8 : (Int → (Option Bool))) => (fun (s9 : Int) => (cond (decide (s9 < (((List.length a7) : Nat) : Int))) (bindO (getI a7 s9) (fun (a10 : Int) => (bindO (getI x.2.2.2.2.1 s9) (fun (a11 : Int) => (bindO (getI x.2.2.2.1 s9) (fun (a12 : Int) => (bindO (M_I_Group_pow ((x.1.1, (x.1.2.1, x.1.2.2)), (a12, a5.1))) (fun (a13 : Int) => (bindO (M_I_Group_mul ((x.1.1, (x.1.2.1, x.1.2.2)), (a11 :: (a13 :: ([] : List Int))))) (fun (a14 : Int) => (cond (a10 != a14) (some false) (bindO (some (IntKind.wrap .i64 (s9 + (1 : Int)))) (fun (a15 : Int) => (again8 a15)))))))))))))) (some true)))) (0 : Int)))))))))))))))))))))))))

noncomputable def c_I_Group_verifyLinear : Con0 := ⟨pk_I_Group_verifyLinear, rk_I_Group_verifyLinear, M_I_Group_verifyLinear⟩

set_option maxRecDepth 100000 in
theorem eq_I_Group_verifyLinear (x : In pk_I_Group_verifyLinear) : semF (mkE [(72, c_I_Group_hasAll), (42, c_I_Group_areExps), (76, c_slices_Concat_sint_int), (117, c_I_Group_challenge), (141, c_I_Group_images), (78, c_I_Group_pow), (77, c_I_Group_mul)]) h_I_Group_verifyLinear (info Tryz.f114) pk_I_Group_verifyLinear rk_I_Group_verifyLinear x = M_I_Group_verifyLinear x := (semFF_eq _ _ _ _ _ _).symm.trans (by kernel_rfl)

set_option maxRecDepth 100000 in
theorem m_I_Group_verifyLinear : ConOK Tryz.prog 114 c_I_Group_verifyLinear := fn_ok (tyOK _) (E := mkE [(72, c_I_Group_hasAll), (42, c_I_Group_areExps), (76, c_slices_Concat_sint_int), (117, c_I_Group_challenge), (141, c_I_Group_images), (78, c_I_Group_pow), (77, c_I_Group_mul)]) (consOK_cons m_I_Group_hasAll (consOK_cons m_I_Group_areExps (consOK_cons m_slices_Concat_sint_int (consOK_cons m_I_Group_challenge (consOK_cons m_I_Group_images (consOK_cons m_I_Group_pow (consOK_cons m_I_Group_mul (consOK_nil rfl)))))))) Tryz.func114 (h := h_I_Group_verifyLinear) (by kernel_rfl) eq_I_Group_verifyLinear

/-- I_VerifyLinear -/
def pk_I_VerifyLinear : List PK := [.data (.cons (.int .i64) (.cons (.int .i64) (.one (.int .i64)))), .data .str, .data (.sl (.sl (.int .i64))), .data (.sl (.int .i64)), .data (.cons (.sl (.int .i64)) (.cons (.sl (.int .i64)) (.one (.sl (.int .i64)))))]
def rk_I_VerifyLinear : List (Ty × Bool) := [(.bool, false), (.bool, false)]
def h_I_VerifyLinear : Hints := { loops := [] }
noncomputable def M_I_VerifyLinear (x : ((Int × (Int × Int)) × (ByteArray × ((List (List Int)) × ((List Int) × ((List Int) × ((List Int) × (List Int)))))))) : (Option (Bool × Bool)) :=
  (bindO (M_I_IsValidGroup (x.1.1, (x.1.2.1, x.1.2.2))) (fun (a0 : Bool) => (cond (not a0) (some (false, false)) (bindO (M_I_isLabel x.2.1) (fun (a1 : Bool) => (cond (not a1) (some (false, false)) (bindO (M_I_Group_areRows ((x.1.1, (x.1.2.1, x.1.2.2)), x.2.2.1)) (fun (a2 : Bool) => (cond (not a2) (some (false, false)) (cond ((((List.length x.2.2.2.1) : Nat) : Int) != (((List.length x.2.2.1) : Nat) : Int)) (some (false, false)) (bindO (M_I_Group_hasAll ((x.1.1, (x.1.2.1, x.1.2.2)), x.2.2.2.1)) (fun (a3 : Bool) => (cond (not a3) (some (false, false)) (bindO (M_I_Group_verifyLinear ((x.1.1, (x.1.2.1, x.1.2.2)), (x.2.1, (x.2.2.1, (x.2.2.2.1, (x.2.2.2.2.1, (x.2.2.2.2.2.1, x.2.2.2.2.2.2))))))) (fun (a4 : Bool) => (some (a4, true)))))))))))))))))

noncomputable def c_I_VerifyLinear : Con0 := ⟨pk_I_VerifyLinear, rk_I_VerifyLinear, M_I_VerifyLinear⟩

set_option maxRecDepth 100000 in
theorem eq_I_VerifyLinear (x : In pk_I_VerifyLinear) : semF (mkE [(32, c_I_IsValidGroup), (70, c_I_isLabel), (113, c_I_Group_areRows), (72, c_I_Group_hasAll), (114, c_I_Group_verifyLinear)]) h_I_VerifyLinear (info Tryz.f61) pk_I_VerifyLinear rk_I_VerifyLinear x = M_I_VerifyLinear x := (semFF_eq _ _ _ _ _ _).symm.trans (by kernel_rfl)

set_option maxRecDepth 100000 in
theorem m_I_VerifyLinear : ConOK Tryz.prog 61 c_I_VerifyLinear := fn_ok (tyOK _) (E := mkE [(32, c_I_IsValidGroup), (70, c_I_isLabel), (113, c_I_Group_areRows), (72, c_I_Group_hasAll), (114, c_I_Group_verifyLinear)]) (consOK_cons m_I_IsValidGroup (consOK_cons m_I_isLabel (consOK_cons m_I_Group_areRows (consOK_cons m_I_Group_hasAll (consOK_cons m_I_Group_verifyLinear (consOK_nil rfl)))))) Tryz.func61 (h := h_I_VerifyLinear) (by kernel_rfl) eq_I_VerifyLinear

/-- I_VerifyEqual -/
def pk_I_VerifyEqual : List PK := [.data (.cons (.int .i64) (.cons (.int .i64) (.one (.int .i64)))), .data .str, .data (.cons (.int .i64) (.cons (.int .i64) (.cons (.int .i64) (.one (.int .i64))))), .data (.cons (.sl (.int .i64)) (.cons (.sl (.int .i64)) (.one (.sl (.int .i64)))))]
def rk_I_VerifyEqual : List (Ty × Bool) := [(.bool, false), (.bool, false)]
def h_I_VerifyEqual : Hints := { loops := [] }
noncomputable def M_I_VerifyEqual (x : ((Int × (Int × Int)) × (ByteArray × ((Int × (Int × (Int × Int))) × ((List Int) × ((List Int) × (List Int))))))) : (Option (Bool × Bool)) :=
  (bindO (M_I_equalRows (x.2.2.1.1, (x.2.2.1.2.1, (x.2.2.1.2.2.1, x.2.2.1.2.2.2)))) (fun (a0 : (List (List Int))) => (bindO (M_I_VerifyLinear ((x.1.1, (x.1.2.1, x.1.2.2)), (x.2.1, (a0, ((x.2.2.1.2.1 :: (x.2.2.1.2.2.2 :: ([] : List Int))), (x.2.2.2.1, (x.2.2.2.2.1, x.2.2.2.2.2))))))) (fun (a1 : (Bool × Bool)) => (some (a1.1, a1.2))))))

noncomputable def c_I_VerifyEqual : Con0 := ⟨pk_I_VerifyEqual, rk_I_VerifyEqual, M_I_VerifyEqual⟩

set_option maxRecDepth 100000 in
theorem eq_I_VerifyEqual (x : In pk_I_VerifyEqual) : semF (mkE [(62, c_I_equalRows), (61, c_I_VerifyLinear)]) h_I_VerifyEqual (info Tryz.f23) pk_I_VerifyEqual rk_I_VerifyEqual x = M_I_VerifyEqual x := (semFF_eq _ _ _ _ _ _).symm.trans (by kernel_rfl)

set_option maxRecDepth 100000 in
theorem m_I_VerifyEqual : ConOK Tryz.prog 23 c_I_VerifyEqual := fn_ok (tyOK _) (E := mkE [(62, c_I_equalRows), (61, c_I_VerifyLinear)]) (consOK_cons m_I_equalRows (consOK_cons m_I_VerifyLinear (consOK_nil rfl))) Tryz.func23 (h := h_I_VerifyEqual) (by kernel_rfl) eq_I_VerifyEqual

/-- S_sBases -/
def pk_S_sBases : List PK := [.data (.cons (.int .i64) (.cons (.int .i64) (.one (.int .i64)))), .data (.sl (.sl (.int .i64)))]
def rk_S_sBases : List (Ty × Bool) := [(.bool, false)]
def h_S_sBases : Hints := { loops := [(0, { items := [.slot 21 (.data (.int .i64) [])], kill := [0] ++ (sgN 3 16 ++ (sgN 22 17)) })] }
noncomputable def M_S_sBases (x : ((Int × (Int × Int)) × (List (List Int)))) : (Option Bool) :=
  (bindO (M_S_l1In ((((List.length x.2) : Nat) : Int), ((1 : Int), (8 : Int)))) (fun (a0 : Bool) => (cond (not a0) (some false) (bindO (getI x.2 (0 : Int)) (fun (a1 : (List Int)) => (bindO (M_S_l1In ((((List.length a1) : Nat) : Int), ((1 : Int), (8 : Int)))) (fun (a2 : Bool) => (cond (not a2) (some false) (loopO (fun (again3 : (Int → (Option Bool))) => (fun (s4 : Int) => (cond (decide (s4 < (((List.length x.2) : Nat) : Int))) (bindO (getI x.2 s4) (fun (a5 : (List Int)) => (bindO (getI x.2 (0 : Int)) (fun (a6 : (List Int)) => (cond ((((List.length a5) : Nat) : Int) != (((List.length a6) : Nat) : Int)) (some false) (bindO (M_S_gIs ((x.1.1, (x.1.2.1, x.1.2.2)), a5)) (fun (a7 : Bool) => (cond (not a7) (some false) (bindO (some (IntKind.wrap .i64 (s4 + (1 : Int)))) (fun (a8 : Int) => (again3 a8))))))))))) (some true)))) (0 : Int))))))))))

noncomputable def c_S_sBases : Con0 := ⟨pk_S_sBases, rk_S_sBases, M_S_sBases⟩

set_option maxRecDepth 100000 in
theorem eq_S_sBases (x : In pk_S_sBases) : semF (mkE [(46, c_S_l1In), (80, c_S_gIs)]) h_S_sBases (info Tryz.f142) pk_S_sBases rk_S_sBases x = M_S_sBases x := (semFF_eq _ _ _ _ _ _).symm.trans (by kernel_rfl)

set_option maxRecDepth 100000 in
theorem m_S_sBases : ConOK Tryz.prog 142 c_S_sBases := fn_ok (tyOK _) (E := mkE [(46, c_S_l1In), (80, c_S_gIs)]) (consOK_cons m_S_l1In (consOK_cons m_S_gIs (consOK_nil rfl))) Tryz.func142 (h := h_S_sBases) (by kernel_rfl) eq_S_sBases

/-- S_ProveLinear -/
def pk_S_ProveLinear : List PK := [.data (.cons (.int .i64) (.cons (.int .i64) (.one (.int .i64)))), .data .str, .data (.sl (.sl (.int .i64))), .data (.sl (.int .i64)), .data (.sl (.int .i64))]
def rk_S_ProveLinear : List (Ty × Bool) := [((.cons (.sl (.int .i64)) (.cons (.sl (.int .i64)) (.one (.sl (.int .i64))))), true), (.bool, false)]
def h_S_ProveLinear : Hints := { loops := [] }
noncomputable def M_S_ProveLinear (x : ((Int × (Int × Int)) × (ByteArray × ((List (List Int)) × ((List Int) × (List Int)))))) : (Option (((List Int) × ((List Int) × (List Int))) × Bool)) :=
  (bindO (M_S_sLabel ((x.1.1, (x.1.2.1, x.1.2.2)), x.2.1)) (fun (a0 : Bool) => (cond (not a0) (some ((([] : List Int), (([] : List Int), ([] : List Int))), false)) (bindO (M_S_sBases ((x.1.1, (x.1.2.1, x.1.2.2)), x.2.2.1)) (fun (a1 : Bool) => (cond (not a1) (some ((([] : List Int), (([] : List Int), ([] : List Int))), false)) (bindO (getI x.2.2.1 (0 : Int)) (fun (a2 : (List Int)) => (cond ((((List.length x.2.2.2.1) : Nat) : Int) != (((List.length a2) : Nat) : Int)) (some ((([] : List Int), (([] : List Int), ([] : List Int))), false)) (cond ((((List.length x.2.2.2.2) : Nat) : Int) != (((List.length x.2.2.2.1) : Nat) : Int)) (some ((([] : List Int), (([] : List Int), ([] : List Int))), false)) (bindO (M_S_gExps ((x.1.1, (x.1.2.1, x.1.2.2)), x.2.2.2.1)) (fun (a3 : Bool) => (cond (not a3) (some ((([] : List Int), (([] : List Int), ([] : List Int))), false)) (bindO (M_S_gExps ((x.1.1, (x.1.2.1, x.1.2.2)), x.2.2.2.2)) (fun (a4 : Bool) => (cond (not a4) (some ((([] : List Int), (([] : List Int), ([] : List Int))), false)) (bindO (M_S_sProve ((x.1.1, (x.1.2.1, x.1.2.2)), (x.2.1, (x.2.2.1, (x.2.2.2.1, x.2.2.2.2))))) (fun (a5 : ((List Int) × ((List Int) × (List Int)))) => (some ((a5.1, (a5.2.1, a5.2.2)), true))))))))))))))))))))

noncomputable def c_S_ProveLinear : Con0 := ⟨pk_S_ProveLinear, rk_S_ProveLinear, M_S_ProveLinear⟩

set_option maxRecDepth 100000 in
theorem eq_S_ProveLinear (x : In pk_S_ProveLinear) : semF (mkE [(56, c_S_sLabel), (142, c_S_sBases), (47, c_S_gExps), (104, c_S_sProve)]) h_S_ProveLinear (info Tryz.f115) pk_S_ProveLinear rk_S_ProveLinear x = M_S_ProveLinear x := (semFF_eq _ _ _ _ _ _).symm.trans (by kernel_rfl)

set_option maxRecDepth 100000 in
theorem m_S_ProveLinear : ConOK Tryz.prog 115 c_S_ProveLinear := fn_ok (tyOK _) (E := mkE [(56, c_S_sLabel), (142, c_S_sBases), (47, c_S_gExps), (104, c_S_sProve)]) (consOK_cons m_S_sLabel (consOK_cons m_S_sBases (consOK_cons m_S_gExps (consOK_cons m_S_sProve (consOK_nil rfl))))) Tryz.func115 (h := h_S_ProveLinear) (by kernel_rfl) eq_S_ProveLinear

/-- S_ProveKnowledge -/
def pk_S_ProveKnowledge : List PK := [.data (.cons (.int .i64) (.cons (.int .i64) (.one (.int .i64)))), .data .str, .data (.int .i64), .data (.int .i64), .data (.int .i64)]
def rk_S_ProveKnowledge : List (Ty × Bool) := [((.cons (.sl (.int .i64)) (.cons (.sl (.int .i64)) (.one (.sl (.int .i64))))), true), (.bool, false)]
def h_S_ProveKnowledge : Hints := { loops := [] }
noncomputable def M_S_ProveKnowledge (x : ((Int × (Int × Int)) × (ByteArray × (Int × (Int × Int))))) : (Option (((List Int) × ((List Int) × (List Int))) × Bool)) :=
  (bindO (M_S_ProveLinear ((x.1.1, (x.1.2.1, x.1.2.2)), (x.2.1, (((x.2.2.1 :: ([] : List Int)) :: ([] : List (List Int))), ((x.2.2.2.1 :: ([] : List Int)), (x.2.2.2.2 :: ([] : List Int))))))) (fun (a0 : (((List Int) × ((List Int) × (List Int))) × Bool)) => (some ((a0.1.1, (a0.1.2.1, a0.1.2.2)), a0.2))))

noncomputable def c_S_ProveKnowledge : Con0 := ⟨pk_S_ProveKnowledge, rk_S_ProveKnowledge, M_S_ProveKnowledge⟩

set_option maxRecDepth 100000 in
theorem eq_S_ProveKnowledge (x : In pk_S_ProveKnowledge) : semF (mkE [(115, c_S_ProveLinear)]) h_S_ProveKnowledge (info Tryz.f65) pk_S_ProveKnowledge rk_S_ProveKnowledge x = M_S_ProveKnowledge x := (semFF_eq _ _ _ _ _ _).symm.trans (by kernel_rfl)

set_option maxRecDepth 100000 in
theorem m_S_ProveKnowledge : ConOK Tryz.prog 65 c_S_ProveKnowledge := fn_ok (tyOK _) (E := mkE [(115, c_S_ProveLinear)]) (consOK_cons m_S_ProveLinear (consOK_nil rfl)) Tryz.func65 (h := h_S_ProveKnowledge) (by kernel_rfl) eq_S_ProveKnowledge

/-- S_DrawBatchKnowledge -/
def pk_S_DrawBatchKnowledge : List PK := [.data (.sl (.int .u8))]
def rk_S_DrawBatchKnowledge : List (Ty × Bool) := [((.cons (.int .i64) (.cons (.int .i64) (.one (.int .i64)))), false), (.str, false), ((.int .i64), false), ((.sl (.int .i64)), true), ((.sl (.cons (.sl (.int .i64)) (.cons (.sl (.int .i64)) (.one (.sl (.int .i64)))))), true)]
def h_S_DrawBatchKnowledge : Hints := { loops := [(0, { items := [.slot 11 (.own (.int .i64) true), .slot 12 (.own (.cons (.sl (.int .i64)) (.cons (.sl (.int .i64)) (.one (.sl (.int .i64))))) true), .slot 13 (.data (.int .i64) []), .cell 20 0 (.data (.sl (.int .u8)) []), .cell 20 1 (.data (.int .i64) []), .cell 20 2 (.data (.int .u64) [])], kill := [0, 1] ++ (sgN 3 4 ++ (sgN 14 6 ++ (sgN 21 67))) })] }
noncomputable def M_S_DrawBatchKnowledge (x : (List Int)) : (Option ((Int × (Int × Int)) × (ByteArray × (Int × ((List Int) × (List ((List Int) × ((List Int) × (List Int))))))))) :=
  (bindO (M_S_l1Cur_anyGroup (x, ((0 : Int), (0 : Int)))) (fun (a0 : ((Int × (Int × Int)) × ((List Int) × (Int × Int)))) => (bindO (M_S_l1Cur_label (a0.2.1, (a0.2.2.1, a0.2.2.2))) (fun (a1 : (ByteArray × ((List Int) × (Int × Int)))) => (bindO (M_S_l1Cur_element ((a1.2.1, (a1.2.2.1, a1.2.2.2)), (a0.1.1, (a0.1.2.1, a0.1.2.2)))) (fun (a2 : (Int × ((List Int) × (Int × Int)))) => (bindO (M_S_l1Cur_pick ((a2.2.1, (a2.2.2.1, a2.2.2.2)), (6 : Int))) (fun (a3 : (Int × ((List Int) × (Int × Int)))) => (bindO (M_S_l1Cur_one ((a3.2.1, (a3.2.2.1, a3.2.2.2)), (24 : Int))) (fun (a4 : (Bool × ((List Int) × (Int × Int)))) => (cond a4.1 (bindO (M_S_l1Cur_pick ((a4.2.1, (a4.2.2.1, a4.2.2.2)), (2 : Int))) (fun (a5 : (Int × ((List Int) × (Int × Int)))) => (bindO (some (IntKind.wrap .i64 ((24 : Int) + a5.1))) (fun (a6 : Int) => (loopO (fun (again7 : (((List Int) × ((List ((List Int) × ((List Int) × (List Int)))) × (Int × ((List Int) × (Int × Int))))) → (Option ((Int × (Int × Int)) × (ByteArray × (Int × ((List Int) × (List ((List Int) × ((List Int) × (List Int))))))))))) => (fun (s8 : ((List Int) × ((List ((List Int) × ((List Int) × (List Int)))) × (Int × ((List Int) × (Int × Int)))))) => (cond (decide (s8.2.2.1 > (0 : Int))) (bindO (M_S_l1Cur_expo ((s8.2.2.2.1, (s8.2.2.2.2.1, s8.2.2.2.2.2)), (a0.1.1, (a0.1.2.1, a0.1.2.2)))) (fun (a9 : (Int × ((List Int) × (Int × Int)))) => (bindO (M_S_l1Cur_expo ((a9.2.1, (a9.2.2.1, a9.2.2.2)), (a0.1.1, (a0.1.2.1, a0.1.2.2)))) (fun (a10 : (Int × ((List Int) × (Int × Int)))) => (bindO (M_S_ProveKnowledge ((a0.1.1, (a0.1.2.1, a0.1.2.2)), (a1.1, (a2.1, (a9.1, a10.1))))) (fun (a11 : (((List Int) × ((List Int) × (List Int))) × Bool)) => (cond (decide (a0.1.1 > (1 : Int))) (bindO (M_S_nMod (a2.1, a0.1.1)) (fun (a12 : Int) => (bindO (M_S_nPower (a12, (a9.1, a0.1.1))) (fun (a13 : Int) => (bindO (guardO (lenOk ((List.length s8.1) + (List.length (a13 :: ([] : List Int)))))) (fun (a14 : Unit) => (bindO (some (s8.1 ++ (a13 :: ([] : List Int)))) (fun (a15 : (List Int)) => (bindO (M_S_l1Cur_one ((a10.2.1, (a10.2.2.1, a10.2.2.2)), (6 : Int))) (fun (a16 : (Bool × ((List Int) × (Int × Int)))) => (cond a16.1 (bindO (M_S_l1Cur_spoiltProof ((a16.2.1, (a16.2.2.1, a16.2.2.2)), ((a0.1.1, (a0.1.2.1, a0.1.2.2)), (a11.1.1, (a11.1.2.1, a11.1.2.2))))) (fun (a17 : (((List Int) × ((List Int) × (List Int))) × (((List Int) × (Int × Int)) × ((List Int) × ((List Int) × (List Int)))))) => (bindO (guardO (lenOk ((List.length s8.2.1) + (List.length ((a17.1.1, (a17.1.2.1, a17.1.2.2)) :: ([] : List ((List Int) × ((List Int) × (List Int))))))))) (fun (a18 : Unit) => (bindO (some (s8.2.1 ++ ((a17.1.1, (a17.1.2.1, a17.1.2.2)) :: ([] : List ((List Int) × ((List Int) × (List Int))))))) (fun (a19 : (List ((List Int) × ((List Int) × (List Int))))) => (bindO (some (IntKind.wrap .i64 (s8.2.2.1 - (1 : Int)))) (fun (a20 : Int) => (again7 (a15, (a19, (a20, (a17.2.1.1, (a17.2.1.2.1, a17.2.1.2.2)))))))))))))) (bindO (guardO (lenOk ((List.length s8.2.1) + (List.length ((a11.1.1, (a11.1.2.1, a11.1.2.2)) :: ([] : List ((List Int) × ((List Int) × (List Int))))))))) (fun (a21 : Unit) => (bindO (some (s8.2.1 ++ ((a11.1.1, (a11.1.2.1, a11.1.2.2)) :: ([] : List ((List Int) × ((List Int) × (List Int))))))) (fun (a22 : (List ((List Int) × ((List Int) × (List Int))))) => (bindO (some (IntKind.wrap .i64 (s8.2.2.1 - (1 : Int)))) (fun (a23 : Int) => (again7 (a15, (a22, (a23, (a16.2.1, (a16.2.2.1, a16.2.2.2))))))))))))))))))))))) (bindO (guardO (lenOk ((List.length s8.1) + (List.length ((1 : Int) :: ([] : List Int)))))) (fun (a24 : Unit) => (bindO (some (s8.1 ++ ((1 : Int) :: ([] : List Int)))) (fun (a25 : (List Int)) => (bindO (M_S_l1Cur_one ((a10.2.1, (a10.2.2.1, a10.2.2.2)), (6 : Int))) (fun (a26 : (Bool × ((List Int) × (Int × Int)))) => (cond a26.1 (bindO (M_S_l1Cur_spoiltProof ((a26.2.1, (a26.2.2.1, a26.2.2.2)), ((a0.1.1, (a0.1.2.1, a0.1.2.2)), (a11.1.1, (a11.1.2.1, a11.1.2.2))))) (fun (a27 : (((List Int) × ((List Int) × (List Int))) × (((List Int) × (Int × Int)) × ((List Int) × ((List Int) × (List Int)))))) => (bindO (guardO (lenOk ((List.length s8.2.1) + (List.length ((a27.1.1, (a27.1.2.1, a27.1.2.2)) :: ([] : List ((List Int) × ((List Int) × (List Int))))))))) (fun (a28 : Unit) => (bindO (some (s8.2.1 ++ ((a27.1.1, (a27.1.2.1, a27.1.2.2)) :: ([] : List ((List Int) × ((List Int) × (List Int))))))) (fun (a29 : (List ((List Int) × ((List Int) × (List Int))))) => (bindO (some (IntKind.wrap .i64 (s8.2.2.1 - (1 : Int)))) (fun (a30 : Int) => (again7 (a25, (a29, (a30, (a27.2.1.1, (a27.2.1.2.1, a27.2.1.2.2)))))))))))))) (bindO (guardO (lenOk ((List.length s8.2.1) + (List.length ((a11.1.1, (a11.1.2.1, a11.1.2.2)) :: ([] : List ((List Int) × ((List Int) × (List Int))))))))) (fun (a31 : Unit) => (bindO (some (s8.2.1 ++ ((a11.1.1, (a11.1.2.1, a11.1.2.2)) :: ([] : List ((List Int) × ((List Int) × (List Int))))))) (fun (a32 : (List ((List Int) × ((List Int) × (List Int))))) => (bindO (some (IntKind.wrap .i64 (s8.2.2.1 - (1 : Int)))) (fun (a33 : Int) => (again7 (a25, (a32, (a33, (a26.2.1, (a26.2.2.1, a26.2.2.2)))))))))))))))))))))))))) (bindO (M_S_l1Cur_one ((s8.2.2.2.1, (s8.2.2.2.2.1, s8.2.2.2.2.2)), (16 : Int))) (fun (a34 : (Bool × ((List Int) × (Int × Int)))) => (cond a34.1 (bindO (M_S_l1Cur_anyElement ((a34.2.1, (a34.2.2.1, a34.2.2.2)), (a0.1.1, (a0.1.2.1, a0.1.2.2)))) (fun (a35 : (Int × ((List Int) × (Int × Int)))) => (some ((a0.1.1, (a0.1.2.1, a0.1.2.2)), (a1.1, (a35.1, (s8.1, s8.2.1))))))) (some ((a0.1.1, (a0.1.2.1, a0.1.2.2)), (a1.1, (a2.1, (s8.1, s8.2.1))))))))))) (([] : List Int), (([] : List ((List Int) × ((List Int) × (List Int)))), (a6, (a5.2.1, (a5.2.2.1, a5.2.2.2)))))))))) (loopO (fun (again36 : (((List Int) × ((List ((List Int) × ((List Int) × (List Int)))) × (Int × ((List Int) × (Int × Int))))) → (Option ((Int × (Int × Int)) × (ByteArray × (Int × ((List Int) × (List ((List Int) × ((List Int) × (List Int))))))))))) => (fun (s37 : ((List Int) × ((List ((List Int) × ((List Int) × (List Int)))) × (Int × ((List Int) × (Int × Int)))))) => (cond (decide (s37.2.2.1 > (0 : Int))) (bindO (M_S_l1Cur_expo ((s37.2.2.2.1, (s37.2.2.2.2.1, s37.2.2.2.2.2)), (a0.1.1, (a0.1.2.1, a0.1.2.2)))) (fun (a38 : (Int × ((List Int) × (Int × Int)))) => (bindO (M_S_l1Cur_expo ((a38.2.1, (a38.2.2.1, a38.2.2.2)), (a0.1.1, (a0.1.2.1, a0.1.2.2)))) (fun (a39 : (Int × ((List Int) × (Int × Int)))) => (bindO (M_S_ProveKnowledge ((a0.1.1, (a0.1.2.1, a0.1.2.2)), (a1.1, (a2.1, (a38.1, a39.1))))) (fun (a40 : (((List Int) × ((List Int) × (List Int))) × Bool)) => (cond (decide (a0.1.1 > (1 : Int))) (bindO (M_S_nMod (a2.1, a0.1.1)) (fun (a41 : Int) => (bindO (M_S_nPower (a41, (a38.1, a0.1.1))) (fun (a42 : Int) => (bindO (guardO (lenOk ((List.length s37.1) + (List.length (a42 :: ([] : List Int)))))) (fun (a43 : Unit) => (bindO (some (s37.1 ++ (a42 :: ([] : List Int)))) (fun (a44 : (List Int)) => (bindO (M_S_l1Cur_one ((a39.2.1, (a39.2.2.1, a39.2.2.2)), (6 : Int))) (fun (a45 : (Bool × ((List Int) × (Int × Int)))) => (cond a45.1 (bindO (M_S_l1Cur_spoiltProof ((a45.2.1, (a45.2.2.1, a45.2.2.2)), ((a0.1.1, (a0.1.2.1, a0.1.2.2)), (a40.1.1, (a40.1.2.1, a40.1.2.2))))) (fun (a46 : (((List Int) × ((List Int) × (List Int))) × (((List Int) × (Int × Int)) × ((List Int) × ((List Int) × (List Int)))))) => (bindO (guardO (lenOk ((List.length s37.2.1) + (List.length ((a46.1.1, (a46.1.2.1, a46.1.2.2)) :: ([] : List ((List Int) × ((List Int) × (List Int))))))))) (fun (a47 : Unit) => (bindO (some (s37.2.1 ++ ((a46.1.1, (a46.1.2.1, a46.1.2.2)) :: ([] : List ((List Int) × ((List Int) × (List Int))))))) (fun (a48 : (List ((List Int) × ((List Int) × (List Int))))) => (bindO (some (IntKind.wrap .i64 (s37.2.2.1 - (1 : Int)))) (fun (a49 : Int) => (again36 (a44, (a48, (a49, (a46.2.1.1, (a46.2.1.2.1, a46.2.1.2.2)))))))))))))) (bindO (guardO (lenOk ((List.length s37.2.1) + (List.length ((a40.1.1, (a40.1.2.1, a40.1.2.2)) :: ([] : List ((List Int) × ((List Int) × (List Int))))))))) (fun (a50 : Unit) => (bindO (some (s37.2.1 ++ ((a40.1.1, (a40.1.2.1, a40.1.2.2)) :: ([] : List ((List Int) × ((List Int) × (List Int))))))) (fun (a51 : (List ((List Int) × ((List Int) × (List Int))))) => (bindO (some (IntKind.wrap .i64 (s37.2.2.1 - (1 : Int)))) (fun (a52 : Int) => (again36 (a44, (a51, (a52, (a45.2.1, (a45.2.2.1, a45.2.2.2))))))))))))))))))))))) (bindO (guardO (lenOk ((List.length s37.1) + (List.length ((1 : Int) :: ([] : List Int)))))) (fun (a53 : Unit) => (bindO (some (s37.1 ++ ((1 : Int) :: ([] : List Int)))) (fun (a54 : (List Int)) => (bindO (M_S_l1Cur_one ((a39.2.1, (a39.2.2.1, a39.2.2.2)), (6 : Int))) (fun (a55 : (Bool × ((List Int) × (Int × Int)))) => (cond a55.1 (bindO (M_S_l1Cur_spoiltProof ((a55.2.1, (a55.2.2.1, a55.2.2.2)), ((a0.1.1, (a0.1.2.1, a0.1.2.2)), (a40.1.1, (a40.1.2.1, a40.1.2.2))))) (fun (a56 : (((List Int) × ((List Int) × (List Int))) × (((List Int) × (Int × Int)) × ((List Int) × ((List Int) × (List Int)))))) => (bindO (guardO (lenOk ((List.length s37.2.1) + (List.length ((a56.1.1, (a56.1.2.1, a56.1.2.2)) :: ([] : List ((List Int) × ((List Int) × (List Int))))))))) (fun (a57 : Unit) => (bindO (some (s37.2.1 ++ ((a56.1.1, (a56.1.2.1, a56.1.2.2)) :: ([] : List ((List Int) × ((List Int) × (List Int))))))) (fun (a58 : (List ((List Int) × ((List Int) × (List Int))))) => (bindO (some (IntKind.wrap .i64 (s37.2.2.1 - (1 : Int)))) (fun (a59 : Int) => (again36 (a54, (a58, (a59, (a56.2.1.1, (a56.2.1.2.1, a56.2.1.2.2)))))))))))))) (bindO (guardO (lenOk ((List.length s37.2.1) + (List.length ((a40.1.1, (a40.1.2.1, a40.1.2.2)) :: ([] : List ((List Int) × ((List Int) × (List Int))))))))) (fun (a60 : Unit) => (bindO (some (s37.2.1 ++ ((a40.1.1, (a40.1.2.1, a40.1.2.2)) :: ([] : List ((List Int) × ((List Int) × (List Int))))))) (fun (a61 : (List ((List Int) × ((List Int) × (List Int))))) => (bindO (some (IntKind.wrap .i64 (s37.2.2.1 - (1 : Int)))) (fun (a62 : Int) => (again36 (a54, (a61, (a62, (a55.2.1, (a55.2.2.1, a55.2.2.2)))))))))))))))))))))))))) (bindO (M_S_l1Cur_one ((s37.2.2.2.1, (s37.2.2.2.2.1, s37.2.2.2.2.2)), (16 : Int))) (fun (a63 : (Bool × ((List Int) × (Int × Int)))) => (cond a63.1 (bindO (M_S_l1Cur_anyElement ((a63.2.1, (a63.2.2.1, a63.2.2.2)), (a0.1.1, (a0.1.2.1, a0.1.2.2)))) (fun (a64 : (Int × ((List Int) × (Int × Int)))) => (some ((a0.1.1, (a0.1.2.1, a0.1.2.2)), (a1.1, (a64.1, (s37.1, s37.2.1))))))) (some ((a0.1.1, (a0.1.2.1, a0.1.2.2)), (a1.1, (a2.1, (s37.1, s37.2.1))))))))))) (([] : List Int), (([] : List ((List Int) × ((List Int) × (List Int)))), (a3.1, (a4.2.1, (a4.2.2.1, a4.2.2.2)))))))))))))))))

noncomputable def c_S_DrawBatchKnowledge : Con0 := ⟨pk_S_DrawBatchKnowledge, rk_S_DrawBatchKnowledge, M_S_DrawBatchKnowledge⟩

set_option maxRecDepth 100000 in
theorem eq_S_DrawBatchKnowledge (x : In pk_S_DrawBatchKnowledge) : semF (mkE [(27, c_S_l1Cur_anyGroup), (50, c_S_l1Cur_label), (63, c_S_l1Cur_element), (30, c_S_l1Cur_pick), (31, c_S_l1Cur_one), (64, c_S_l1Cur_expo), (65, c_S_ProveKnowledge), (67, c_S_nMod), (66, c_S_nPower), (68, c_S_l1Cur_spoiltProof), (69, c_S_l1Cur_anyElement)]) h_S_DrawBatchKnowledge (info Tryz.f24) pk_S_DrawBatchKnowledge rk_S_DrawBatchKnowledge x = M_S_DrawBatchKnowledge x := (semFF_eq _ _ _ _ _ _).symm.trans (by kernel_rfl)

set_option maxRecDepth 100000 in
theorem m_S_DrawBatchKnowledge : ConOK Tryz.prog 24 c_S_DrawBatchKnowledge := fn_ok (tyOK _) (E := mkE [(27, c_S_l1Cur_anyGroup), (50, c_S_l1Cur_label), (63, c_S_l1Cur_element), (30, c_S_l1Cur_pick), (31, c_S_l1Cur_one), (64, c_S_l1Cur_expo), (65, c_S_ProveKnowledge), (67, c_S_nMod), (66, c_S_nPower), (68, c_S_l1Cur_spoiltProof), (69, c_S_l1Cur_anyElement)]) (consOK_cons m_S_l1Cur_anyGroup (consOK_cons m_S_l1Cur_label (consOK_cons m_S_l1Cur_element (consOK_cons m_S_l1Cur_pick (consOK_cons m_S_l1Cur_one (consOK_cons m_S_l1Cur_expo (consOK_cons m_S_ProveKnowledge (consOK_cons m_S_nMod (consOK_cons m_S_nPower (consOK_cons m_S_l1Cur_spoiltProof (consOK_cons m_S_l1Cur_anyElement (consOK_nil rfl)))))))))))) Tryz.func24 (h := h_S_DrawBatchKnowledge) (by kernel_rfl) eq_S_DrawBatchKnowledge

/-- I_dot -/
def pk_I_dot : List PK := [.data (.sl (.int .i64)), .data (.sl (.int .i64)), .data (.int .i64)]
def rk_I_dot : List (Ty × Bool) := [((.int .i64), false)]
def h_I_dot : Hints := { loops := [(0, { items := [.slot 7 (.data (.int .i64) []), .slot 11 (.data (.int .i64) [])], kill := sgN 3 4 ++ ([8, 9] ++ (sgN 12 19)) })] }
noncomputable def M_I_dot (x : ((List Int) × ((List Int) × Int))) : (Option Int) :=
  (loopO (fun (again0 : ((Int × Int) → (Option Int))) => (fun (s1 : (Int × Int)) => (cond (decide (s1.2 < (((List.length x.1) : Nat) : Int))) (bindO (getI x.1 s1.2) (fun (a2 : Int) => (bindO (getI x.2.1 s1.2) (fun (a3 : Int) => (bindO (some (IntKind.wrap .i64 (a2 * a3))) (fun (a4 : Int) => (bindO (guardO (x.2.2 != (0 : Int))) (fun (a5 : Unit) => (bindO (some (Int.tmod a4 x.2.2)) (fun (a6 : Int) => (bindO (some (IntKind.wrap .i64 (s1.1 + a6))) (fun (a7 : Int) => (bindO (guardO (x.2.2 != (0 : Int))) (fun (a8 : Unit) => (bindO (some (Int.tmod a7 x.2.2)) (fun (a9 : Int) => (bindO (some (IntKind.wrap .i64 (s1.2 + (1 : Int)))) (fun (a10 : Int) => (again0 (a9, a10)))))))))))))))))))) (some s1.1)))) ((0 : Int), (0 : Int)))

noncomputable def c_I_dot : Con0 := ⟨pk_I_dot, rk_I_dot, M_I_dot⟩

set_option maxRecDepth 100000 in
theorem eq_I_dot (x : In pk_I_dot) : semF (mkE []) h_I_dot (info Tryz.f79) pk_I_dot rk_I_dot x = M_I_dot x := (semFF_eq _ _ _ _ _ _).symm.trans (by kernel_rfl)

set_option maxRecDepth 100000 in
theorem m_I_dot : ConOK Tryz.prog 79 c_I_dot := fn_ok (tyOK _) (E := mkE []) (consOK_nil rfl) Tryz.func79 (h := h_I_dot) (by kernel_rfl) eq_I_dot

/-- I_BatchKnowledge -/
def pk_I_BatchKnowledge : List PK := [.data (.cons (.int .i64) (.cons (.int .i64) (.one (.int .i64)))), .data .str, .data (.int .i64), .data (.sl (.int .i64)), .data (.sl (.cons (.sl (.int .i64)) (.cons (.sl (.int .i64)) (.one (.sl (.int .i64))))))]
def rk_I_BatchKnowledge : List (Ty × Bool) := [(.bool, false), (.bool, false)]
def h_I_BatchKnowledge : Hints := { loops := [(0, { items := [.slot 55 (.data (.int .i64) [])], kill := [0] ++ (sgN 6 47 ++ (sgN 56 80)) }), (2, { items := [.slot 18 (.data (.int .i64) []), .slot 93 (.data (.int .i64) [])], kill := [0, 1, 4] ++ (sgN 6 8 ++ ([17] ++ (sgN 19 72 ++ (sgN 94 42)))) })] }
noncomputable def M_I_BatchKnowledge (x : ((Int × (Int × Int)) × (ByteArray × (Int × ((List Int) × (List ((List Int) × ((List Int) × (List Int))))))))) : (Option (Bool × Bool)) :=
  (bindO (M_I_IsValidGroup (x.1.1, (x.1.2.1, x.1.2.2))) (fun (a0 : Bool) => (cond (not a0) (some (false, false)) (bindO (M_I_isLabel x.2.1) (fun (a1 : Bool) => (cond (not a1) (some (false, false)) (bindO (M_I_Group_has ((x.1.1, (x.1.2.1, x.1.2.2)), x.2.2.1)) (fun (a2 : Bool) => (cond (not a2) (some (false, false)) (cond (decide ((((List.length x.2.2.2.1) : Nat) : Int) > (24 : Int))) (some (false, false)) (cond ((((List.length x.2.2.2.2) : Nat) : Int) != (((List.length x.2.2.2.1) : Nat) : Int)) (some (false, false)) (bindO (M_I_Group_hasAll ((x.1.1, (x.1.2.1, x.1.2.2)), x.2.2.2.1)) (fun (a3 : Bool) => (cond (not a3) (some (false, false)) (loopO (fun (again4 : (Int → (Option (Bool × Bool)))) => (fun (s5 : Int) => (cond (decide (s5 < (((List.length x.2.2.2.2) : Nat) : Int))) (bindO (getI x.2.2.2.2 s5) (fun (a6 : ((List Int) × ((List Int) × (List Int)))) => (bindO (getI x.2.2.2.1 s5) (fun (a7 : Int) => (bindO (M_I_Group_isLinearForm ((x.1.1, (x.1.2.1, x.1.2.2)), (x.2.1, ((x.2.2.1 :: ([] : List Int)), ((a7 :: ([] : List Int)), (a6.1, (a6.2.1, a6.2.2))))))) (fun (a8 : Bool) => (cond (not a8) (some (false, true)) (bindO (some (IntKind.wrap .i64 (s5 + (1 : Int)))) (fun (a9 : Int) => (again4 a9)))))))))) (bindO (M_I_tops x.2.2.2.2) (fun (a10 : ((List Int) × (List Int))) => (bindO (M_slices_Concat_sint_int (a10.1 :: (a10.2 :: ([] : List (List Int))))) (fun (a11 : (List Int)) => (bindO (M_I_Group_smallExponents ((x.1.1, (x.1.2.1, x.1.2.2)), (a11, (((List.length x.2.2.2.2) : Nat) : Int)))) (fun (a12 : ((List Int) × Bool)) => (cond (not a12.2) (some (false, false)) (loopO (fun (again13 : ((Int × Int) → (Option (Bool × Bool)))) => (fun (s14 : (Int × Int)) => (cond (decide (s14.2 < (((List.length x.2.2.2.2) : Nat) : Int))) (bindO (getI x.2.2.2.2 s14.2) (fun (a15 : ((List Int) × ((List Int) × (List Int)))) => (bindO (getI a15.1 (0 : Int)) (fun (a16 : Int) => (bindO (getI x.2.2.2.1 s14.2) (fun (a17 : Int) => (bindO (getI a10.1 s14.2) (fun (a18 : Int) => (bindO (M_I_Group_pow ((x.1.1, (x.1.2.1, x.1.2.2)), (a17, a18))) (fun (a19 : Int) => (bindO (M_I_Group_mul ((x.1.1, (x.1.2.1, x.1.2.2)), (a16 :: (a19 :: ([] : List Int))))) (fun (a20 : Int) => (bindO (getI a12.1 s14.2) (fun (a21 : Int) => (bindO (M_I_Group_pow ((x.1.1, (x.1.2.1, x.1.2.2)), (a20, a21))) (fun (a22 : Int) => (bindO (M_I_Group_mul ((x.1.1, (x.1.2.1, x.1.2.2)), (s14.1 :: (a22 :: ([] : List Int))))) (fun (a23 : Int) => (bindO (some (IntKind.wrap .i64 (s14.2 + (1 : Int)))) (fun (a24 : Int) => (again13 (a23, a24)))))))))))))))))))))) (bindO (M_I_dot (a12.1, (a10.2, x.1.2.1))) (fun (a25 : Int) => (bindO (M_I_Group_pow ((x.1.1, (x.1.2.1, x.1.2.2)), (x.2.2.1, a25))) (fun (a26 : Int) => (some ((a26 == s14.1), true))))))))) ((1 : Int), (0 : Int))))))))))))) (0 : Int))))))))))))))))

noncomputable def c_I_BatchKnowledge : Con0 := ⟨pk_I_BatchKnowledge, rk_I_BatchKnowledge, M_I_BatchKnowledge⟩

set_option maxRecDepth 100000 in
theorem eq_I_BatchKnowledge (x : In pk_I_BatchKnowledge) : semF (mkE [(32, c_I_IsValidGroup), (70, c_I_isLabel), (71, c_I_Group_has), (72, c_I_Group_hasAll), (73, c_I_Group_isLinearForm), (74, c_I_tops), (76, c_slices_Concat_sint_int), (75, c_I_Group_smallExponents), (78, c_I_Group_pow), (77, c_I_Group_mul), (79, c_I_dot)]) h_I_BatchKnowledge (info Tryz.f25) pk_I_BatchKnowledge rk_I_BatchKnowledge x = M_I_BatchKnowledge x := (semFF_eq _ _ _ _ _ _).symm.trans (by kernel_rfl)

set_option maxRecDepth 100000 in
theorem m_I_BatchKnowledge : ConOK Tryz.prog 25 c_I_BatchKnowledge := fn_ok (tyOK _) (E := mkE [(32, c_I_IsValidGroup), (70, c_I_isLabel), (71, c_I_Group_has), (72, c_I_Group_hasAll), (73, c_I_Group_isLinearForm), (74, c_I_tops), (76, c_slices_Concat_sint_int), (75, c_I_Group_smallExponents), (78, c_I_Group_pow), (77, c_I_Group_mul), (79, c_I_dot)]) (consOK_cons m_I_IsValidGroup (consOK_cons m_I_isLabel (consOK_cons m_I_Group_has (consOK_cons m_I_Group_hasAll (consOK_cons m_I_Group_isLinearForm (consOK_cons m_I_tops (consOK_cons m_slices_Concat_sint_int (consOK_cons m_I_Group_smallExponents (consOK_cons m_I_Group_pow (consOK_cons m_I_Group_mul (consOK_cons m_I_dot (consOK_nil rfl)))))))))))) Tryz.func25 (h := h_I_BatchKnowledge) (by kernel_rfl) eq_I_BatchKnowledge

end Go.Proofs.YtoaabialmenfiaaGreat.Vd
