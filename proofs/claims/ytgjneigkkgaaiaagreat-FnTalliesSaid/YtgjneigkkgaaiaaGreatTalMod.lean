/- The functions of the law as plain functions on data, and that the program's functions are these. No conditions. -/
import Derived.Test.YtgjneigkkgaaiaaGreatVd4
import Derived.Test.YtgjneigkkgaaiaaGreatChecked
import Derived.KernelRfl
set_option linter.unusedVariables false
namespace Go.Proofs.YtgjneigkkgaaiaaGreat.Vd
def tys : List (Option Ty) := [none, none, some (.int .i64), some (.int .i64), some .bool, some (.int .u8), some (.int .u8), some (.cons (.int .i64) (.cons (.int .i64) (.cons .bool (.one (.int .u8))))), some (.cons (.int .i64) (.cons (.int .i64) (.cons .bool (.one (.int .u8))))), some .str, some .str, some .str, some (.int .u64), some (.cons .str (.one (.int .u64))), some (.cons .str (.one (.int .u64))), none, none, none, none, none, none, some (.int .i32), some (.cons (.int .i64) (.cons (.int .i64) (.one (.int .i64)))), some (.cons (.int .i64) (.cons (.int .i64) (.one (.int .i64)))), some (.sl (.cons (.int .i64) (.one (.int .i64)))), some (.sl (.cons (.cons (.int .i64) (.one (.int .i64))) (.cons (.cons (.int .i64) (.one (.int .i64))) (.one (.cons (.sl (.int .i64)) (.cons (.sl (.int .i64)) (.one (.sl (.int .i64))))))))), none, none, some (.sl (.int .i64)), none, none, some (.cons (.int .i64) (.cons (.int .i64) (.one (.int .i64)))), none, some (.sl (.cons (.int .i64) (.one (.int .i64)))), none, some (.sl (.cons (.cons (.int .i64) (.one (.int .i64))) (.cons (.cons (.int .i64) (.one (.int .i64))) (.one (.cons (.sl (.int .i64)) (.cons (.sl (.int .i64)) (.one (.sl (.int .i64))))))))), none, none, none, none, none, none, none, none, some (.sl (.int .u8)), none, some (.cons (.int .i64) (.cons (.int .i64) (.cons (.int .i64) (.cons (.int .i64) (.one (.int .i64)))))), some (.cons (.int .i64) (.cons (.int .i64) (.cons (.int .i64) (.cons (.int .i64) (.one (.int .i64)))))), some (.sl (.sl (.int .i64))), none, none, none, some (.sl (.sl (.cons (.int .i64) (.one (.int .i64))))), none, some (.cons (.int .i64) (.one (.int .i64))), some (.cons (.int .i64) (.one (.int .i64))), none, none, none, none, none, none, none, none, none, none, some (.cons (.int .i64) (.one (.int .i64))), some (.cons (.sl (.int .i64)) (.cons (.sl (.int .i64)) (.one (.sl (.int .i64))))), some (.cons (.sl (.int .i64)) (.cons (.sl (.int .i64)) (.one (.sl (.int .i64))))), some (.cons (.cons (.int .i64) (.one (.int .i64))) (.cons (.cons (.int .i64) (.one (.int .i64))) (.one (.cons (.sl (.int .i64)) (.cons (.sl (.int .i64)) (.one (.sl (.int .i64)))))))), some (.cons (.cons (.int .i64) (.one (.int .i64))) (.cons (.cons (.int .i64) (.one (.int .i64))) (.one (.cons (.sl (.int .i64)) (.cons (.sl (.int .i64)) (.one (.sl (.int .i64)))))))), none, none, some (.cons (.sl (.int .i64)) (.cons (.sl (.int .i64)) (.one (.sl (.int .i64))))), some (.cons (.cons (.int .i64) (.one (.int .i64))) (.cons (.cons (.int .i64) (.one (.int .i64))) (.one (.cons (.sl (.int .i64)) (.cons (.sl (.int .i64)) (.one (.sl (.int .i64)))))))), some (.cons (.cons (.int .i64) (.one (.int .i64))) (.cons (.cons (.int .i64) (.one (.int .i64))) (.one (.cons (.sl (.int .i64)) (.cons (.sl (.int .i64)) (.one (.sl (.int .i64)))))))), none, none, none, none, none, none, none, none, some (.int .u64), some (.cons (.sl (.int .u8)) (.cons (.int .i64) (.one (.int .u64)))), some (.cons (.sl (.int .u8)) (.cons (.int .i64) (.one (.int .u64)))), none, none, none, none, none, none, none, none, none, none, none, none, none, none, none, none, none, none, none, none, none, none, none, none, none, none, none, none, none, none, none, none, none, none, none, none, none, none, none, none, none, none, none, none, some (.int .u64), none, none, none, none, none, none, none, none, none, none, none, none, none, none, none, some (.int .i64), none, none, none, none, none, none, some (.int .u32), none, none, none, none, none, none, none, none, none, none, none, none, some (.int .u64), none, none, none, none, none, none, none, none, none, none, none, none, none, some (.cons (.int .i64) (.one (.int .i64))), some (.cons (.int .i64) (.one (.int .i64))), none, none, none, none, none, none, none, some (.int .u8), some (.int .u8), none, none, some (.int .i32), some (.int .i32), none, none, none]
def others : List Nat := [1, 15, 16, 17, 26, 27, 30, 32, 34, 36, 37, 38, 39, 40, 41, 42, 43, 45, 50, 51, 53, 57, 59, 61, 63, 64, 65, 71, 72, 76, 77, 78, 79, 80, 81, 82, 83, 87, 88, 89, 90, 91, 92, 93, 94, 95, 96, 97, 98, 99, 100, 101, 102, 103, 104, 105, 106, 107, 108, 109, 110, 111, 112, 113, 114, 115, 116, 117, 118, 119, 120, 121, 122, 123, 124, 125, 126, 127, 128, 129, 130, 132, 133, 134, 135, 136, 138, 139, 140, 141, 142, 143, 144, 145, 146, 149, 150, 151, 152, 153, 155, 156, 157, 159, 161, 162, 164, 165, 166, 168, 169, 170, 171, 172, 173, 174, 175, 177, 178, 179, 180, 183, 184, 192, 193]
def pairs : List Nat := [54, 55, 66, 181, 182]
def sgN : Nat → Nat → List Nat
  | _, 0 => []
  | a, n + 1 => a :: sgN (a + 1) n

noncomputable def mkE (con : List (Nat × Con0)) : Env := ⟨[], tys, others, pairs, con, []⟩

set_option maxRecDepth 100000 in
theorem tyOK (con : List (Nat × Con0)) : TyOK Tryz.prog (mkE con) := tyOK_of (E := mkE con) (by kernel_rfl) (by kernel_rfl) (by kernel_rfl)

/-- L_big -/
def pk_L_big : List PK := [.data (.sl (.int .u8)), .data (.sl (.int .u8))]
def rk_L_big : List (Ty × Bool) := [(.bool, false)]
def h_L_big : Hints := { loops := [] }
noncomputable def M_L_big (x : ((List Int) × (List Int))) : (Option Bool) :=
  (cond (decide ((((List.length x.1) : Nat) : Int) > (1048576 : Int))) (some true) (bindO (some (IntKind.wrap .i64 ((1048576 : Int) - (((List.length x.1) : Nat) : Int)))) (fun (a0 : Int) => (some (decide ((((List.length x.2) : Nat) : Int) > a0))))))

noncomputable def c_L_big : Con0 := ⟨pk_L_big, rk_L_big, M_L_big⟩

set_option maxRecDepth 100000 in
theorem eq_L_big (x : In pk_L_big) : semF (mkE []) h_L_big (info Tryz.f19) pk_L_big rk_L_big x = M_L_big x := (semFF_eq _ _ _ _ _ _).symm.trans (by kernel_rfl)

set_option maxRecDepth 100000 in
theorem m_L_big : ConOK Tryz.prog 19 c_L_big := fn_ok (tyOK _) (E := mkE []) (consOK_nil rfl) Tryz.func19 (h := h_L_big) (by kernel_rfl) eq_L_big

/-- S_l1Cur_next -/
def pk_S_l1Cur_next : List PK := [.mp (.cons (.sl (.int .u8)) (.cons (.int .i64) (.one (.int .u64)))) false]
def rk_S_l1Cur_next : List (Ty × Bool) := [((.int .i64), false)]
def h_S_l1Cur_next : Hints := { loops := [] }
noncomputable def M_S_l1Cur_next (x : ((List Int) × (Int × Int))) : (Option (Int × ((List Int) × (Int × Int)))) :=
  (cond (decide (x.2.1 < (((List.length x.1) : Nat) : Int))) (bindO (getI x.1 x.2.1) (fun (a0 : Int) => (bindO (some (IntKind.wrap .i64 (x.2.1 + (1 : Int)))) (fun (a1 : Int) => (bindO (some (IntKind.wrap .u64 (x.2.2 * (6364136223846793005 : Int)))) (fun (a2 : Int) => (bindO (some (IntKind.wrap .u64 (a2 + (IntKind.wrap .u64 (IntKind.wrap .i64 a0))))) (fun (a3 : Int) => (bindO (some (IntKind.wrap .u64 (a3 + (1442695040888963407 : Int)))) (fun (a4 : Int) => (cond (decide (a1 ≤ (((List.length x.1) : Nat) : Int))) (some ((IntKind.wrap .i64 a0), (x.1, (a1, a4)))) (bindO (guardO (decide ((0 : Int) ≤ (40 : Int)))) (fun (a5 : Unit) => (bindO (some (shr .u64 a4 (40 : Int))) (fun (a6 : Int) => (bindO (some (bits .and .u64 a6 (255 : Int))) (fun (a7 : Int) => (some ((IntKind.wrap .i64 a7), (x.1, (a1, a4))))))))))))))))))))) (bindO (some (IntKind.wrap .i64 (x.2.1 + (1 : Int)))) (fun (a8 : Int) => (bindO (some (IntKind.wrap .u64 (x.2.2 * (6364136223846793005 : Int)))) (fun (a9 : Int) => (bindO (some (IntKind.wrap .u64 (a9 + (IntKind.wrap .u64 (0 : Int))))) (fun (a10 : Int) => (bindO (some (IntKind.wrap .u64 (a10 + (1442695040888963407 : Int)))) (fun (a11 : Int) => (cond (decide (a8 ≤ (((List.length x.1) : Nat) : Int))) (some ((0 : Int), (x.1, (a8, a11)))) (bindO (guardO (decide ((0 : Int) ≤ (40 : Int)))) (fun (a12 : Unit) => (bindO (some (shr .u64 a11 (40 : Int))) (fun (a13 : Int) => (bindO (some (bits .and .u64 a13 (255 : Int))) (fun (a14 : Int) => (some ((IntKind.wrap .i64 a14), (x.1, (a8, a11))))))))))))))))))))

noncomputable def c_S_l1Cur_next : Con0 := ⟨pk_S_l1Cur_next, rk_S_l1Cur_next, M_S_l1Cur_next⟩

set_option maxRecDepth 100000 in
theorem eq_S_l1Cur_next (x : In pk_S_l1Cur_next) : semF (mkE []) h_S_l1Cur_next (info Tryz.f120) pk_S_l1Cur_next rk_S_l1Cur_next x = M_S_l1Cur_next x := (semFF_eq _ _ _ _ _ _).symm.trans (by kernel_rfl)

set_option maxRecDepth 100000 in
theorem m_S_l1Cur_next : ConOK Tryz.prog 120 c_S_l1Cur_next := fn_ok (tyOK _) (E := mkE []) (consOK_nil rfl) Tryz.func120 (h := h_S_l1Cur_next) (by kernel_rfl) eq_S_l1Cur_next

/-- S_l1Cur_pick -/
def pk_S_l1Cur_pick : List PK := [.mp (.cons (.sl (.int .u8)) (.cons (.int .i64) (.one (.int .u64)))) false, .data (.int .i64)]
def rk_S_l1Cur_pick : List (Ty × Bool) := [((.int .i64), false)]
def h_S_l1Cur_pick : Hints := { loops := [] }
noncomputable def M_S_l1Cur_pick (x : (((List Int) × (Int × Int)) × Int)) : (Option (Int × ((List Int) × (Int × Int)))) :=
  (cond (decide (x.2 ≤ (1 : Int))) (some ((0 : Int), (x.1.1, (x.1.2.1, x.1.2.2)))) (bindO (M_S_l1Cur_next (x.1.1, (x.1.2.1, x.1.2.2))) (fun (a0 : (Int × ((List Int) × (Int × Int)))) => (cond (decide (x.2 > (200 : Int))) (bindO (some (IntKind.wrap .i64 (a0.1 * (256 : Int)))) (fun (a1 : Int) => (bindO (M_S_l1Cur_next (a0.2.1, (a0.2.2.1, a0.2.2.2))) (fun (a2 : (Int × ((List Int) × (Int × Int)))) => (bindO (some (IntKind.wrap .i64 (a1 + a2.1))) (fun (a3 : Int) => (bindO (guardO (x.2 != (0 : Int))) (fun (a4 : Unit) => (bindO (some (Int.tmod a3 x.2)) (fun (a5 : Int) => (some (a5, (a2.2.1, (a2.2.2.1, a2.2.2.2)))))))))))))) (bindO (guardO (x.2 != (0 : Int))) (fun (a6 : Unit) => (bindO (some (Int.tmod a0.1 x.2)) (fun (a7 : Int) => (some (a7, (a0.2.1, (a0.2.2.1, a0.2.2.2))))))))))))

noncomputable def c_S_l1Cur_pick : Con0 := ⟨pk_S_l1Cur_pick, rk_S_l1Cur_pick, M_S_l1Cur_pick⟩

set_option maxRecDepth 100000 in
theorem eq_S_l1Cur_pick (x : In pk_S_l1Cur_pick) : semF (mkE [(120, c_S_l1Cur_next)]) h_S_l1Cur_pick (info Tryz.f68) pk_S_l1Cur_pick rk_S_l1Cur_pick x = M_S_l1Cur_pick x := (semFF_eq _ _ _ _ _ _).symm.trans (by kernel_rfl)

set_option maxRecDepth 100000 in
theorem m_S_l1Cur_pick : ConOK Tryz.prog 68 c_S_l1Cur_pick := fn_ok (tyOK _) (E := mkE [(120, c_S_l1Cur_next)]) (consOK_cons m_S_l1Cur_next (consOK_nil rfl)) Tryz.func68 (h := h_S_l1Cur_pick) (by kernel_rfl) eq_S_l1Cur_pick

/-- S_l1Cur_one -/
def pk_S_l1Cur_one : List PK := [.mp (.cons (.sl (.int .u8)) (.cons (.int .i64) (.one (.int .u64)))) false, .data (.int .i64)]
def rk_S_l1Cur_one : List (Ty × Bool) := [(.bool, false)]
def h_S_l1Cur_one : Hints := { loops := [] }
noncomputable def M_S_l1Cur_one (x : (((List Int) × (Int × Int)) × Int)) : (Option (Bool × ((List Int) × (Int × Int)))) :=
  (bindO (M_S_l1Cur_pick ((x.1.1, (x.1.2.1, x.1.2.2)), x.2)) (fun (a0 : (Int × ((List Int) × (Int × Int)))) => (some ((a0.1 == (0 : Int)), (a0.2.1, (a0.2.2.1, a0.2.2.2))))))

noncomputable def c_S_l1Cur_one : Con0 := ⟨pk_S_l1Cur_one, rk_S_l1Cur_one, M_S_l1Cur_one⟩

set_option maxRecDepth 100000 in
theorem eq_S_l1Cur_one (x : In pk_S_l1Cur_one) : semF (mkE [(68, c_S_l1Cur_pick)]) h_S_l1Cur_one (info Tryz.f45) pk_S_l1Cur_one rk_S_l1Cur_one x = M_S_l1Cur_one x := (semFF_eq _ _ _ _ _ _).symm.trans (by kernel_rfl)

set_option maxRecDepth 100000 in
theorem m_S_l1Cur_one : ConOK Tryz.prog 45 c_S_l1Cur_one := fn_ok (tyOK _) (E := mkE [(68, c_S_l1Cur_pick)]) (consOK_cons m_S_l1Cur_pick (consOK_nil rfl)) Tryz.func45 (h := h_S_l1Cur_one) (by kernel_rfl) eq_S_l1Cur_one

/-- S_l1Least -/
def pk_S_l1Least : List PK := [.data (.int .i64), .data (.int .i64)]
def rk_S_l1Least : List (Ty × Bool) := [((.int .i64), false)]
def h_S_l1Least : Hints := { loops := [] }
noncomputable def M_S_l1Least (x : (Int × Int)) : (Option Int) :=
  (cond (decide (x.1 < x.2)) (some x.1) (some x.2))

noncomputable def c_S_l1Least : Con0 := ⟨pk_S_l1Least, rk_S_l1Least, M_S_l1Least⟩

set_option maxRecDepth 100000 in
theorem eq_S_l1Least (x : In pk_S_l1Least) : semF (mkE []) h_S_l1Least (info Tryz.f144) pk_S_l1Least rk_S_l1Least x = M_S_l1Least x := (semFF_eq _ _ _ _ _ _).symm.trans (by kernel_rfl)

set_option maxRecDepth 100000 in
theorem m_S_l1Least : ConOK Tryz.prog 144 c_S_l1Least := fn_ok (tyOK _) (E := mkE []) (consOK_nil rfl) Tryz.func144 (h := h_S_l1Least) (by kernel_rfl) eq_S_l1Least

/-- S_l1Cur_contest -/
def pk_S_l1Cur_contest : List PK := [.mp (.cons (.sl (.int .u8)) (.cons (.int .i64) (.one (.int .u64)))) false]
def rk_S_l1Cur_contest : List (Ty × Bool) := [((.cons (.int .i64) (.cons (.int .i64) (.cons (.int .i64) (.cons (.int .i64) (.one (.int .i64)))))), false)]
def h_S_l1Cur_contest : Hints := { loops := [] }
noncomputable def M_S_l1Cur_contest (x : ((List Int) × (Int × Int))) : (Option ((Int × (Int × (Int × (Int × Int)))) × ((List Int) × (Int × Int)))) :=
  (bindO (M_S_l1Cur_pick ((x.1, (x.2.1, x.2.2)), (4 : Int))) (fun (a0 : (Int × ((List Int) × (Int × Int)))) => (bindO (some (IntKind.wrap .i64 ((1 : Int) + a0.1))) (fun (a1 : Int) => (bindO (M_S_l1Cur_pick ((a0.2.1, (a0.2.2.1, a0.2.2.2)), (5 : Int))) (fun (a2 : (Int × ((List Int) × (Int × Int)))) => (bindO (some (IntKind.wrap .i64 ((1 : Int) + a2.1))) (fun (a3 : Int) => (bindO (M_S_l1Cur_one ((a2.2.1, (a2.2.2.1, a2.2.2.2)), (12 : Int))) (fun (a4 : (Bool × ((List Int) × (Int × Int)))) => (cond a4.1 (cond (a1 == (2 : Int)) (bindO (M_S_l1Cur_pick ((a4.2.1, (a4.2.2.1, a4.2.2.2)), (5 : Int))) (fun (a5 : (Int × ((List Int) × (Int × Int)))) => (bindO (some (IntKind.wrap .i64 ((1 : Int) + a5.1))) (fun (a6 : Int) => (bindO (some (IntKind.wrap .i64 ((8 : Int) * a6))) (fun (a7 : Int) => (bindO (M_S_l1Least (a7, (3 : Int))) (fun (a8 : Int) => (bindO (M_S_l1Cur_pick ((a5.2.1, (a5.2.2.1, a5.2.2.2)), a8)) (fun (a9 : (Int × ((List Int) × (Int × Int)))) => (bindO (some (IntKind.wrap .i64 (a7 - a9.1))) (fun (a10 : Int) => (bindO (some (IntKind.wrap .i64 (a10 + (1 : Int)))) (fun (a11 : Int) => (bindO (M_S_l1Cur_pick ((a9.2.1, (a9.2.2.1, a9.2.2.2)), a11)) (fun (a12 : (Int × ((List Int) × (Int × Int)))) => (bindO (some (IntKind.wrap .i64 (a9.1 + a12.1))) (fun (a13 : Int) => (some ((a1, ((8 : Int), (a9.1, (a13, a6)))), (a12.2.1, (a12.2.2.1, a12.2.2.2)))))))))))))))))))))) (cond (a1 == (4 : Int)) (bindO (M_S_l1Least ((3 : Int), (3 : Int))) (fun (a14 : Int) => (bindO (M_S_l1Cur_pick ((a4.2.1, (a4.2.2.1, a4.2.2.2)), a14)) (fun (a15 : (Int × ((List Int) × (Int × Int)))) => (bindO (some (IntKind.wrap .i64 ((3 : Int) - a15.1))) (fun (a16 : Int) => (bindO (some (IntKind.wrap .i64 (a16 + (1 : Int)))) (fun (a17 : Int) => (bindO (M_S_l1Cur_pick ((a15.2.1, (a15.2.2.1, a15.2.2.2)), a17)) (fun (a18 : (Int × ((List Int) × (Int × Int)))) => (bindO (some (IntKind.wrap .i64 (a15.1 + a18.1))) (fun (a19 : Int) => (some ((a1, ((0 : Int), (a15.1, (a19, (0 : Int))))), (a18.2.1, (a18.2.2.1, a18.2.2.2)))))))))))))))) (bindO (M_S_l1Least ((8 : Int), (3 : Int))) (fun (a20 : Int) => (bindO (M_S_l1Cur_pick ((a4.2.1, (a4.2.2.1, a4.2.2.2)), a20)) (fun (a21 : (Int × ((List Int) × (Int × Int)))) => (bindO (some (IntKind.wrap .i64 ((8 : Int) - a21.1))) (fun (a22 : Int) => (bindO (some (IntKind.wrap .i64 (a22 + (1 : Int)))) (fun (a23 : Int) => (bindO (M_S_l1Cur_pick ((a21.2.1, (a21.2.2.1, a21.2.2.2)), a23)) (fun (a24 : (Int × ((List Int) × (Int × Int)))) => (bindO (some (IntKind.wrap .i64 (a21.1 + a24.1))) (fun (a25 : Int) => (some ((a1, ((8 : Int), (a21.1, (a25, (0 : Int))))), (a24.2.1, (a24.2.2.1, a24.2.2.2)))))))))))))))))) (cond (a1 == (2 : Int)) (bindO (M_S_l1Cur_pick ((a4.2.1, (a4.2.2.1, a4.2.2.2)), (5 : Int))) (fun (a26 : (Int × ((List Int) × (Int × Int)))) => (bindO (some (IntKind.wrap .i64 ((1 : Int) + a26.1))) (fun (a27 : Int) => (bindO (some (IntKind.wrap .i64 (a3 * a27))) (fun (a28 : Int) => (bindO (M_S_l1Least (a28, (3 : Int))) (fun (a29 : Int) => (bindO (M_S_l1Cur_pick ((a26.2.1, (a26.2.2.1, a26.2.2.2)), a29)) (fun (a30 : (Int × ((List Int) × (Int × Int)))) => (bindO (some (IntKind.wrap .i64 (a28 - a30.1))) (fun (a31 : Int) => (bindO (some (IntKind.wrap .i64 (a31 + (1 : Int)))) (fun (a32 : Int) => (bindO (M_S_l1Cur_pick ((a30.2.1, (a30.2.2.1, a30.2.2.2)), a32)) (fun (a33 : (Int × ((List Int) × (Int × Int)))) => (bindO (some (IntKind.wrap .i64 (a30.1 + a33.1))) (fun (a34 : Int) => (some ((a1, (a3, (a30.1, (a34, a27)))), (a33.2.1, (a33.2.2.1, a33.2.2.2)))))))))))))))))))))) (cond (a1 == (4 : Int)) (bindO (M_S_l1Least ((3 : Int), (3 : Int))) (fun (a35 : Int) => (bindO (M_S_l1Cur_pick ((a4.2.1, (a4.2.2.1, a4.2.2.2)), a35)) (fun (a36 : (Int × ((List Int) × (Int × Int)))) => (bindO (some (IntKind.wrap .i64 ((3 : Int) - a36.1))) (fun (a37 : Int) => (bindO (some (IntKind.wrap .i64 (a37 + (1 : Int)))) (fun (a38 : Int) => (bindO (M_S_l1Cur_pick ((a36.2.1, (a36.2.2.1, a36.2.2.2)), a38)) (fun (a39 : (Int × ((List Int) × (Int × Int)))) => (bindO (some (IntKind.wrap .i64 (a36.1 + a39.1))) (fun (a40 : Int) => (some ((a1, ((0 : Int), (a36.1, (a40, (0 : Int))))), (a39.2.1, (a39.2.2.1, a39.2.2.2)))))))))))))))) (bindO (M_S_l1Least (a3, (3 : Int))) (fun (a41 : Int) => (bindO (M_S_l1Cur_pick ((a4.2.1, (a4.2.2.1, a4.2.2.2)), a41)) (fun (a42 : (Int × ((List Int) × (Int × Int)))) => (bindO (some (IntKind.wrap .i64 (a3 - a42.1))) (fun (a43 : Int) => (bindO (some (IntKind.wrap .i64 (a43 + (1 : Int)))) (fun (a44 : Int) => (bindO (M_S_l1Cur_pick ((a42.2.1, (a42.2.2.1, a42.2.2.2)), a44)) (fun (a45 : (Int × ((List Int) × (Int × Int)))) => (bindO (some (IntKind.wrap .i64 (a42.1 + a45.1))) (fun (a46 : Int) => (some ((a1, (a3, (a42.1, (a46, (0 : Int))))), (a45.2.1, (a45.2.2.1, a45.2.2.2)))))))))))))))))))))))))))))

noncomputable def c_S_l1Cur_contest : Con0 := ⟨pk_S_l1Cur_contest, rk_S_l1Cur_contest, M_S_l1Cur_contest⟩

set_option maxRecDepth 100000 in
theorem eq_S_l1Cur_contest (x : In pk_S_l1Cur_contest) : semF (mkE [(68, c_S_l1Cur_pick), (45, c_S_l1Cur_one), (144, c_S_l1Least)]) h_S_l1Cur_contest (info Tryz.f98) pk_S_l1Cur_contest rk_S_l1Cur_contest x = M_S_l1Cur_contest x := (semFF_eq _ _ _ _ _ _).symm.trans (by kernel_rfl)

set_option maxRecDepth 100000 in
theorem m_S_l1Cur_contest : ConOK Tryz.prog 98 c_S_l1Cur_contest := fn_ok (tyOK _) (E := mkE [(68, c_S_l1Cur_pick), (45, c_S_l1Cur_one), (144, c_S_l1Least)]) (consOK_cons m_S_l1Cur_pick (consOK_cons m_S_l1Cur_one (consOK_cons m_S_l1Least (consOK_nil rfl)))) Tryz.func98 (h := h_S_l1Cur_contest) (by kernel_rfl) eq_S_l1Cur_contest

/-- S_l1Cur_among -/
def pk_S_l1Cur_among : List PK := [.mp (.cons (.sl (.int .u8)) (.cons (.int .i64) (.one (.int .u64)))) false, .data (.sl (.int .i64))]
def rk_S_l1Cur_among : List (Ty × Bool) := [((.int .i64), false)]
def h_S_l1Cur_among : Hints := { loops := [] }
noncomputable def M_S_l1Cur_among (x : (((List Int) × (Int × Int)) × (List Int))) : (Option (Int × ((List Int) × (Int × Int)))) :=
  (bindO (M_S_l1Cur_pick ((x.1.1, (x.1.2.1, x.1.2.2)), (((List.length x.2) : Nat) : Int))) (fun (a0 : (Int × ((List Int) × (Int × Int)))) => (bindO (getI x.2 a0.1) (fun (a1 : Int) => (some (a1, (a0.2.1, (a0.2.2.1, a0.2.2.2))))))))

noncomputable def c_S_l1Cur_among : Con0 := ⟨pk_S_l1Cur_among, rk_S_l1Cur_among, M_S_l1Cur_among⟩

set_option maxRecDepth 100000 in
theorem eq_S_l1Cur_among (x : In pk_S_l1Cur_among) : semF (mkE [(68, c_S_l1Cur_pick)]) h_S_l1Cur_among (info Tryz.f72) pk_S_l1Cur_among rk_S_l1Cur_among x = M_S_l1Cur_among x := (semFF_eq _ _ _ _ _ _).symm.trans (by kernel_rfl)

set_option maxRecDepth 100000 in
theorem m_S_l1Cur_among : ConOK Tryz.prog 72 c_S_l1Cur_among := fn_ok (tyOK _) (E := mkE [(68, c_S_l1Cur_pick)]) (consOK_cons m_S_l1Cur_pick (consOK_nil rfl)) Tryz.func72 (h := h_S_l1Cur_among) (by kernel_rfl) eq_S_l1Cur_among

/-- S_l1Cur_anyContest -/
def pk_S_l1Cur_anyContest : List PK := [.mp (.cons (.sl (.int .u8)) (.cons (.int .i64) (.one (.int .u64)))) false]
def rk_S_l1Cur_anyContest : List (Ty × Bool) := [((.cons (.int .i64) (.cons (.int .i64) (.cons (.int .i64) (.cons (.int .i64) (.one (.int .i64)))))), false)]
def h_S_l1Cur_anyContest : Hints := { loops := [] }
noncomputable def M_S_l1Cur_anyContest (x : ((List Int) × (Int × Int))) : (Option ((Int × (Int × (Int × (Int × Int)))) × ((List Int) × (Int × Int)))) :=
  (bindO (M_S_l1Cur_contest (x.1, (x.2.1, x.2.2))) (fun (a0 : ((Int × (Int × (Int × (Int × Int)))) × ((List Int) × (Int × Int)))) => (bindO (M_S_l1Cur_pick ((a0.2.1, (a0.2.2.1, a0.2.2.2)), (20 : Int))) (fun (a1 : (Int × ((List Int) × (Int × Int)))) => (cond (a1.1 == (0 : Int)) (bindO (M_S_l1Cur_among ((a1.2.1, (a1.2.2.1, a1.2.2.2)), ((0 : Int) :: ((5 : Int) :: ((4 : Int) :: ((1 : Int) :: ([] : List Int))))))) (fun (a2 : (Int × ((List Int) × (Int × Int)))) => (some ((a2.1, (a0.1.2.1, (a0.1.2.2.1, (a0.1.2.2.2.1, a0.1.2.2.2.2)))), (a2.2.1, (a2.2.2.1, a2.2.2.2)))))) (cond (a1.1 == (1 : Int)) (bindO (M_S_l1Cur_among ((a1.2.1, (a1.2.2.1, a1.2.2.2)), ((0 : Int) :: ((9 : Int) :: ((- (1 : Int)) :: ((8 : Int) :: ([] : List Int))))))) (fun (a3 : (Int × ((List Int) × (Int × Int)))) => (some ((a0.1.1, (a3.1, (a0.1.2.2.1, (a0.1.2.2.2.1, a0.1.2.2.2.2)))), (a3.2.1, (a3.2.2.1, a3.2.2.2)))))) (cond (a1.1 == (2 : Int)) (bindO (some (IntKind.wrap .i64 (a0.1.2.2.2.1 + (1 : Int)))) (fun (a4 : Int) => (bindO (M_S_l1Cur_among ((a1.2.1, (a1.2.2.1, a1.2.2.2)), ((- (1 : Int)) :: (a0.1.2.2.2.1 :: (a4 :: ([] : List Int)))))) (fun (a5 : (Int × ((List Int) × (Int × Int)))) => (some ((a0.1.1, (a0.1.2.1, (a5.1, (a0.1.2.2.2.1, a0.1.2.2.2.2)))), (a5.2.1, (a5.2.2.1, a5.2.2.2)))))))) (cond (a1.1 == (3 : Int)) (bindO (M_S_l1Cur_among ((a1.2.1, (a1.2.2.1, a1.2.2.2)), ((0 : Int) :: ((5 : Int) :: ((6 : Int) :: ((40 : Int) :: ((41 : Int) :: ((8 : Int) :: ((9 : Int) :: ([] : List Int)))))))))) (fun (a6 : (Int × ((List Int) × (Int × Int)))) => (some ((a0.1.1, (a0.1.2.1, (a0.1.2.2.1, (a6.1, a0.1.2.2.2.2)))), (a6.2.1, (a6.2.2.1, a6.2.2.2)))))) (cond (a1.1 == (4 : Int)) (bindO (M_S_l1Cur_among ((a1.2.1, (a1.2.2.1, a1.2.2.2)), ((0 : Int) :: ((5 : Int) :: ((6 : Int) :: ((- (1 : Int)) :: ([] : List Int))))))) (fun (a7 : (Int × ((List Int) × (Int × Int)))) => (some ((a0.1.1, (a0.1.2.1, (a0.1.2.2.1, (a0.1.2.2.2.1, a7.1)))), (a7.2.1, (a7.2.2.1, a7.2.2.2)))))) (some ((a0.1.1, (a0.1.2.1, (a0.1.2.2.1, (a0.1.2.2.2.1, a0.1.2.2.2.2)))), (a1.2.1, (a1.2.2.1, a1.2.2.2)))))))))))))

noncomputable def c_S_l1Cur_anyContest : Con0 := ⟨pk_S_l1Cur_anyContest, rk_S_l1Cur_anyContest, M_S_l1Cur_anyContest⟩

set_option maxRecDepth 100000 in
theorem eq_S_l1Cur_anyContest (x : In pk_S_l1Cur_anyContest) : semF (mkE [(98, c_S_l1Cur_contest), (68, c_S_l1Cur_pick), (72, c_S_l1Cur_among)]) h_S_l1Cur_anyContest (info Tryz.f42) pk_S_l1Cur_anyContest rk_S_l1Cur_anyContest x = M_S_l1Cur_anyContest x := (semFF_eq _ _ _ _ _ _).symm.trans (by kernel_rfl)

set_option maxRecDepth 100000 in
theorem m_S_l1Cur_anyContest : ConOK Tryz.prog 42 c_S_l1Cur_anyContest := fn_ok (tyOK _) (E := mkE [(98, c_S_l1Cur_contest), (68, c_S_l1Cur_pick), (72, c_S_l1Cur_among)]) (consOK_cons m_S_l1Cur_contest (consOK_cons m_S_l1Cur_pick (consOK_cons m_S_l1Cur_among (consOK_nil rfl)))) Tryz.func42 (h := h_S_l1Cur_anyContest) (by kernel_rfl) eq_S_l1Cur_anyContest

/-- S_l1In -/
def pk_S_l1In : List PK := [.data (.int .i64), .data (.int .i64), .data (.int .i64)]
def rk_S_l1In : List (Ty × Bool) := [(.bool, false)]
def h_S_l1In : Hints := { loops := [] }
noncomputable def M_S_l1In (x : (Int × (Int × Int))) : (Option Bool) :=
  (cond (decide (x.1 ≥ x.2.1)) (some (decide (x.1 ≤ x.2.2))) (some false))

noncomputable def c_S_l1In : Con0 := ⟨pk_S_l1In, rk_S_l1In, M_S_l1In⟩

set_option maxRecDepth 100000 in
theorem eq_S_l1In (x : In pk_S_l1In) : semF (mkE []) h_S_l1In (info Tryz.f65) pk_S_l1In rk_S_l1In x = M_S_l1In x := (semFF_eq _ _ _ _ _ _).symm.trans (by kernel_rfl)

set_option maxRecDepth 100000 in
theorem m_S_l1In : ConOK Tryz.prog 65 c_S_l1In := fn_ok (tyOK _) (E := mkE []) (consOK_nil rfl) Tryz.func65 (h := h_S_l1In) (by kernel_rfl) eq_S_l1In

/-- S_vContest -/
def pk_S_vContest : List PK := [.data (.cons (.int .i64) (.cons (.int .i64) (.cons (.int .i64) (.cons (.int .i64) (.one (.int .i64))))))]
def rk_S_vContest : List (Ty × Bool) := [(.bool, false)]
def h_S_vContest : Hints := { loops := [] }
noncomputable def M_S_vContest (x : (Int × (Int × (Int × (Int × Int))))) : (Option Bool) :=
  (cond (decide (x.2.2.1 < (0 : Int))) (some false) (cond (decide (x.2.2.1 > x.2.2.2.1)) (some false) (cond (x.1 == (1 : Int)) (cond (x.1 == (1 : Int)) (bindO (M_S_l1In (x.2.1, ((1 : Int), (8 : Int)))) (fun (a0 : Bool) => (cond a0 (cond (decide (x.2.2.2.1 ≤ x.2.1)) (some (x.2.2.2.2 == (0 : Int))) (some false)) (some false)))) (cond (x.1 == (2 : Int)) (bindO (M_S_l1In (x.2.1, ((1 : Int), (8 : Int)))) (fun (a1 : Bool) => (cond a1 (bindO (M_S_l1In (x.2.2.2.2, ((1 : Int), (5 : Int)))) (fun (a2 : Bool) => (cond a2 (bindO (some (IntKind.wrap .i64 (x.2.1 * x.2.2.2.2))) (fun (a3 : Int) => (some (decide (x.2.2.2.1 ≤ a3))))) (some false)))) (some false)))) (cond (x.1 == (4 : Int)) (cond (x.2.1 == (0 : Int)) (cond (decide (x.2.2.2.1 ≤ (5 : Int))) (some (x.2.2.2.2 == (0 : Int))) (some false)) (some false)) (some false)))) (cond (x.1 == (3 : Int)) (bindO (M_S_l1In (x.2.1, ((1 : Int), (8 : Int)))) (fun (a4 : Bool) => (cond a4 (cond (decide (x.2.2.2.1 ≤ x.2.1)) (some (x.2.2.2.2 == (0 : Int))) (some false)) (some false)))) (cond (x.1 == (2 : Int)) (bindO (M_S_l1In (x.2.1, ((1 : Int), (8 : Int)))) (fun (a5 : Bool) => (cond a5 (bindO (M_S_l1In (x.2.2.2.2, ((1 : Int), (5 : Int)))) (fun (a6 : Bool) => (cond a6 (bindO (some (IntKind.wrap .i64 (x.2.1 * x.2.2.2.2))) (fun (a7 : Int) => (some (decide (x.2.2.2.1 ≤ a7))))) (some false)))) (some false)))) (cond (x.1 == (4 : Int)) (cond (x.2.1 == (0 : Int)) (cond (decide (x.2.2.2.1 ≤ (5 : Int))) (some (x.2.2.2.2 == (0 : Int))) (some false)) (some false)) (some false)))))))

noncomputable def c_S_vContest : Con0 := ⟨pk_S_vContest, rk_S_vContest, M_S_vContest⟩

set_option maxRecDepth 100000 in
theorem eq_S_vContest (x : In pk_S_vContest) : semF (mkE [(65, c_S_l1In)]) h_S_vContest (info Tryz.f43) pk_S_vContest rk_S_vContest x = M_S_vContest x := (semFF_eq _ _ _ _ _ _).symm.trans (by kernel_rfl)

set_option maxRecDepth 100000 in
theorem m_S_vContest : ConOK Tryz.prog 43 c_S_vContest := fn_ok (tyOK _) (E := mkE [(65, c_S_l1In)]) (consOK_cons m_S_l1In (consOK_nil rfl)) Tryz.func43 (h := h_S_vContest) (by kernel_rfl) eq_S_vContest

/-- S_l1Has -/
def pk_S_l1Has : List PK := [.data (.sl (.int .i64)), .data (.int .i64)]
def rk_S_l1Has : List (Ty × Bool) := [(.bool, false)]
def h_S_l1Has : Hints := { loops := [(0, { items := [.slot 9 (.data (.int .i64) [])], kill := [0] ++ (sgN 2 5 ++ (sgN 10 7)) })] }
noncomputable def M_S_l1Has (x : ((List Int) × Int)) : (Option Bool) :=
  (loopO (fun (again0 : (Int → (Option Bool))) => (fun (s1 : Int) => (cond (decide (s1 < (((List.length x.1) : Nat) : Int))) (bindO (getI x.1 s1) (fun (a2 : Int) => (cond (a2 == x.2) (some true) (bindO (some (IntKind.wrap .i64 (s1 + (1 : Int)))) (fun (a3 : Int) => (again0 a3)))))) (some false)))) (0 : Int))

noncomputable def c_S_l1Has : Con0 := ⟨pk_S_l1Has, rk_S_l1Has, M_S_l1Has⟩

set_option maxRecDepth 100000 in
theorem eq_S_l1Has (x : In pk_S_l1Has) : semF (mkE []) h_S_l1Has (info Tryz.f82) pk_S_l1Has rk_S_l1Has x = M_S_l1Has x := (semFF_eq _ _ _ _ _ _).symm.trans (by kernel_rfl)

set_option maxRecDepth 100000 in
theorem m_S_l1Has : ConOK Tryz.prog 82 c_S_l1Has := fn_ok (tyOK _) (E := mkE []) (consOK_nil rfl) Tryz.func82 (h := h_S_l1Has) (by kernel_rfl) eq_S_l1Has

/-- S_l1Put -/
def pk_S_l1Put : List PK := [.ow (.sl (.int .i64)), .data (.int .i64)]
def rk_S_l1Put : List (Ty × Bool) := [((.sl (.int .i64)), true)]
def h_S_l1Put : Hints := { loops := [(0, { items := [.slot 5 (.data (.int .i64) [])], kill := [2, 3, 4] ++ (sgN 6 42) })] }
noncomputable def M_S_l1Put (x : ((List Int) × Int)) : (Option (List Int)) :=
  (loopO (fun (again0 : (Int → (Option (List Int)))) => (fun (s1 : Int) => (cond (decide (s1 < (((List.length x.1) : Nat) : Int))) (bindO (getI x.1 s1) (fun (a2 : Int) => (cond (decide (a2 < x.2)) (bindO (some (IntKind.wrap .i64 (s1 + (1 : Int)))) (fun (a3 : Int) => (again0 a3))) (cond (decide (s1 < (((List.length x.1) : Nat) : Int))) (bindO (getI x.1 s1) (fun (a4 : Int) => (cond (a4 == x.2) (some x.1) (bindO (sliceNH s1 (List.length x.1)) (fun (a5 : (Nat × Nat)) => (bindO (guardO (lenOk ((List.length ([] : List Int)) + (List.length (List.take a5.2 x.1))))) (fun (a6 : Unit) => (bindO (some (([] : List Int) ++ (List.take a5.2 x.1))) (fun (a7 : (List Int)) => (bindO (guardO (lenOk ((List.length a7) + (List.length (x.2 :: ([] : List Int)))))) (fun (a8 : Unit) => (bindO (some (a7 ++ (x.2 :: ([] : List Int)))) (fun (a9 : (List Int)) => (bindO (sliceLN s1 (List.length x.1)) (fun (a10 : (Nat × Nat)) => (bindO (guardO (lenOk ((List.length a9) + (List.length (List.drop a10.1 (List.take a10.2 x.1)))))) (fun (a11 : Unit) => (bindO (some (a9 ++ (List.drop a10.1 (List.take a10.2 x.1)))) (fun (a12 : (List Int)) => (some a12)))))))))))))))))))) (bindO (sliceNH s1 (List.length x.1)) (fun (a13 : (Nat × Nat)) => (bindO (guardO (lenOk ((List.length ([] : List Int)) + (List.length (List.take a13.2 x.1))))) (fun (a14 : Unit) => (bindO (some (([] : List Int) ++ (List.take a13.2 x.1))) (fun (a15 : (List Int)) => (bindO (guardO (lenOk ((List.length a15) + (List.length (x.2 :: ([] : List Int)))))) (fun (a16 : Unit) => (bindO (some (a15 ++ (x.2 :: ([] : List Int)))) (fun (a17 : (List Int)) => (bindO (sliceLN s1 (List.length x.1)) (fun (a18 : (Nat × Nat)) => (bindO (guardO (lenOk ((List.length a17) + (List.length (List.drop a18.1 (List.take a18.2 x.1)))))) (fun (a19 : Unit) => (bindO (some (a17 ++ (List.drop a18.1 (List.take a18.2 x.1)))) (fun (a20 : (List Int)) => (some a20))))))))))))))))))))) (cond (decide (s1 < (((List.length x.1) : Nat) : Int))) (bindO (getI x.1 s1) (fun (a21 : Int) => (cond (a21 == x.2) (some x.1) (bindO (sliceNH s1 (List.length x.1)) (fun (a22 : (Nat × Nat)) => (bindO (guardO (lenOk ((List.length ([] : List Int)) + (List.length (List.take a22.2 x.1))))) (fun (a23 : Unit) => (bindO (some (([] : List Int) ++ (List.take a22.2 x.1))) (fun (a24 : (List Int)) => (bindO (guardO (lenOk ((List.length a24) + (List.length (x.2 :: ([] : List Int)))))) (fun (a25 : Unit) => (bindO (some (a24 ++ (x.2 :: ([] : List Int)))) (fun (a26 : (List Int)) => (bindO (sliceLN s1 (List.length x.1)) (fun (a27 : (Nat × Nat)) => (bindO (guardO (lenOk ((List.length a26) + (List.length (List.drop a27.1 (List.take a27.2 x.1)))))) (fun (a28 : Unit) => (bindO (some (a26 ++ (List.drop a27.1 (List.take a27.2 x.1)))) (fun (a29 : (List Int)) => (some a29)))))))))))))))))))) (bindO (sliceNH s1 (List.length x.1)) (fun (a30 : (Nat × Nat)) => (bindO (guardO (lenOk ((List.length ([] : List Int)) + (List.length (List.take a30.2 x.1))))) (fun (a31 : Unit) => (bindO (some (([] : List Int) ++ (List.take a30.2 x.1))) (fun (a32 : (List Int)) => (bindO (guardO (lenOk ((List.length a32) + (List.length (x.2 :: ([] : List Int)))))) (fun (a33 : Unit) => (bindO (some (a32 ++ (x.2 :: ([] : List Int)))) (fun (a34 : (List Int)) => (bindO (sliceLN s1 (List.length x.1)) (fun (a35 : (Nat × Nat)) => (bindO (guardO (lenOk ((List.length a34) + (List.length (List.drop a35.1 (List.take a35.2 x.1)))))) (fun (a36 : Unit) => (bindO (some (a34 ++ (List.drop a35.1 (List.take a35.2 x.1)))) (fun (a37 : (List Int)) => (some a37))))))))))))))))))))) (0 : Int))

noncomputable def c_S_l1Put : Con0 := ⟨pk_S_l1Put, rk_S_l1Put, M_S_l1Put⟩

set_option maxRecDepth 100000 in
theorem eq_S_l1Put (x : In pk_S_l1Put) : semF (mkE []) h_S_l1Put (info Tryz.f145) pk_S_l1Put rk_S_l1Put x = M_S_l1Put x := (semFF_eq _ _ _ _ _ _).symm.trans (by kernel_rfl)

set_option maxRecDepth 100000 in
theorem m_S_l1Put : ConOK Tryz.prog 145 c_S_l1Put := fn_ok (tyOK _) (E := mkE []) (consOK_nil rfl) Tryz.func145 (h := h_S_l1Put) (by kernel_rfl) eq_S_l1Put

/-- S_l1Cur_vote -/
def pk_S_l1Cur_vote : List PK := [.mp (.cons (.sl (.int .u8)) (.cons (.int .i64) (.one (.int .u64)))) false, .data (.cons (.int .i64) (.cons (.int .i64) (.cons (.int .i64) (.cons (.int .i64) (.one (.int .i64))))))]
def rk_S_l1Cur_vote : List (Ty × Bool) := [((.sl (.int .i64)), true)]
def h_S_l1Cur_vote : Hints := { loops := [(1, { items := [.slot 5 (.data (.int .i64) []), .cell 0 0 (.data (.sl (.int .u8)) []), .cell 0 1 (.data (.int .i64) []), .cell 0 2 (.data (.int .u64) []), .arr 6 (.int .i64) true], kill := [1, 2, 4] ++ (sgN 7 87) }), (3, { items := [.slot 7 (.data (.int .i64) [])], kill := [1, 2, 4] ++ (sgN 8 86) }), (5, { items := [.slot 5 (.data (.int .i64) []), .slot 6 (.own (.int .i64) true), .cell 0 0 (.data (.sl (.int .u8)) []), .cell 0 1 (.data (.int .i64) []), .cell 0 2 (.data (.int .u64) [])], kill := sgN 1 4 ++ (sgN 7 87) }), (7, { items := [.slot 6 (.own (.int .i64) true), .cell 0 0 (.data (.sl (.int .u8)) []), .cell 0 1 (.data (.int .i64) []), .cell 0 2 (.data (.int .u64) [])], kill := [1, 2, 4] ++ (sgN 7 87) }), (9, { items := [.slot 8 (.data (.int .i64) [])], kill := [1, 2, 4, 7] ++ (sgN 9 85) })] }
noncomputable def M_S_l1Cur_vote (x : (((List Int) × (Int × Int)) × (Int × (Int × (Int × (Int × Int)))))) : (Option ((List Int) × ((List Int) × (Int × Int)))) :=
  (bindO (some (IntKind.wrap .i64 (x.2.2.2.2.1 - x.2.2.2.1))) (fun (a0 : Int) => (bindO (some (IntKind.wrap .i64 (a0 + (1 : Int)))) (fun (a1 : Int) => (bindO (M_S_l1Cur_pick (x.1, a1)) (fun (a2 : (Int × ((List Int) × (Int × Int)))) => (bindO (some (IntKind.wrap .i64 (x.2.2.2.1 + a2.1))) (fun (a3 : Int) => (cond (x.2.1 == (2 : Int)) (bindO (guardO (((decide ((0 : Int) ≤ x.2.2.1)) && (decide (x.2.2.1 ≤ x.2.2.1))) && (decide (x.2.2.1 ≤ ((lim : Nat) : Int))))) (fun (a4 : Unit) => (loopO (fun (again5 : ((Int × ((List Int) × (Int × (Int × (List Int))))) → (Option ((List Int) × ((List Int) × (Int × Int)))))) => (fun (s6 : (Int × ((List Int) × (Int × (Int × (List Int)))))) => (cond (decide (s6.1 > (0 : Int))) (bindO (M_S_l1Cur_pick ((s6.2.1, (s6.2.2.1, s6.2.2.2.1)), x.2.2.1)) (fun (a7 : (Int × ((List Int) × (Int × Int)))) => (loopO (fun (again8 : (Int → (Option ((List Int) × ((List Int) × (Int × Int)))))) => (fun (s9 : Int) => (bindO (getI s6.2.2.2.2 s9) (fun (a10 : Int) => (cond (a10 == x.2.2.2.2.2) (bindO (some (IntKind.wrap .i64 (s9 + (1 : Int)))) (fun (a11 : Int) => (bindO (guardO (x.2.2.1 != (0 : Int))) (fun (a12 : Unit) => (bindO (some (Int.tmod a11 x.2.2.1)) (fun (a13 : Int) => (again8 a13))))))) (bindO (getI s6.2.2.2.2 s9) (fun (a14 : Int) => (bindO (some (IntKind.wrap .i64 (a14 + (1 : Int)))) (fun (a15 : Int) => (bindO (getI s6.2.2.2.2 s9) (fun (a16 : Int) => (bindO (some (List.set s6.2.2.2.2 (Int.toNat s9) a15)) (fun (a17 : (List Int)) => (bindO (some (IntKind.wrap .i64 (s6.1 - (1 : Int)))) (fun (a18 : Int) => (again5 (a18, (a7.2.1, (a7.2.2.1, (a7.2.2.2, a17)))))))))))))))))))) a7.1))) (some (s6.2.2.2.2, (s6.2.1, (s6.2.2.1, s6.2.2.2.1))))))) (a3, (a2.2.1, (a2.2.2.1, (a2.2.2.2, (List.replicate (Int.toNat x.2.2.1) (0 : Int))))))))) (cond (x.2.1 == (4 : Int)) (loopO (fun (again19 : ((Int × ((List Int) × ((List Int) × (Int × Int)))) → (Option ((List Int) × ((List Int) × (Int × Int)))))) => (fun (s20 : (Int × ((List Int) × ((List Int) × (Int × Int))))) => (cond (decide (s20.1 > (0 : Int))) (bindO (M_S_l1Cur_pick (s20.2.2, (26 : Int))) (fun (a21 : (Int × ((List Int) × (Int × Int)))) => (bindO (some (IntKind.wrap .i64 ((1 : Int) + a21.1))) (fun (a22 : Int) => (bindO (guardO (lenOk ((List.length s20.2.1) + (List.length (a22 :: ([] : List Int)))))) (fun (a23 : Unit) => (bindO (some (s20.2.1 ++ (a22 :: ([] : List Int)))) (fun (a24 : (List Int)) => (bindO (some (IntKind.wrap .i64 (s20.1 - (1 : Int)))) (fun (a25 : Int) => (again19 (a25, (a24, a21.2))))))))))))) (some s20.2)))) (a3, (([] : List Int), a2.2))) (loopO (fun (again26 : (((List Int) × ((List Int) × (Int × Int))) → (Option ((List Int) × ((List Int) × (Int × Int)))))) => (fun (s27 : ((List Int) × ((List Int) × (Int × Int)))) => (cond (decide ((((List.length s27.1) : Nat) : Int) < a3)) (bindO (M_S_l1Cur_pick (s27.2, x.2.2.1)) (fun (a28 : (Int × ((List Int) × (Int × Int)))) => (loopO (fun (again29 : (Int → (Option ((List Int) × ((List Int) × (Int × Int)))))) => (fun (s30 : Int) => (bindO (M_S_l1Has (s27.1, s30)) (fun (a31 : Bool) => (cond a31 (bindO (some (IntKind.wrap .i64 (s30 + (1 : Int)))) (fun (a32 : Int) => (bindO (guardO (x.2.2.1 != (0 : Int))) (fun (a33 : Unit) => (bindO (some (Int.tmod a32 x.2.2.1)) (fun (a34 : Int) => (again29 a34))))))) (cond (x.2.1 == (3 : Int)) (bindO (guardO (lenOk ((List.length s27.1) + (List.length (s30 :: ([] : List Int)))))) (fun (a35 : Unit) => (bindO (some (s27.1 ++ (s30 :: ([] : List Int)))) (fun (a36 : (List Int)) => (again26 (a36, a28.2)))))) (bindO (M_S_l1Put (s27.1, s30)) (fun (a37 : (List Int)) => (again26 (a37, a28.2)))))))))) a28.1))) (some s27)))) (([] : List Int), a2.2))))))))))))

noncomputable def c_S_l1Cur_vote : Con0 := ⟨pk_S_l1Cur_vote, rk_S_l1Cur_vote, M_S_l1Cur_vote⟩

set_option maxRecDepth 100000 in
theorem eq_S_l1Cur_vote (x : In pk_S_l1Cur_vote) : semF (mkE [(68, c_S_l1Cur_pick), (82, c_S_l1Has), (145, c_S_l1Put)]) h_S_l1Cur_vote (info Tryz.f99) pk_S_l1Cur_vote rk_S_l1Cur_vote x = M_S_l1Cur_vote x := (semFF_eq _ _ _ _ _ _).symm.trans (by kernel_rfl)

set_option maxRecDepth 100000 in
theorem m_S_l1Cur_vote : ConOK Tryz.prog 99 c_S_l1Cur_vote := fn_ok (tyOK _) (E := mkE [(68, c_S_l1Cur_pick), (82, c_S_l1Has), (145, c_S_l1Put)]) (consOK_cons m_S_l1Cur_pick (consOK_cons m_S_l1Has (consOK_cons m_S_l1Put (consOK_nil rfl)))) Tryz.func99 (h := h_S_l1Cur_vote) (by kernel_rfl) eq_S_l1Cur_vote

/-- S_l1Cur_votes -/
def pk_S_l1Cur_votes : List PK := [.mp (.cons (.sl (.int .u8)) (.cons (.int .i64) (.one (.int .u64)))) false, .data (.cons (.int .i64) (.cons (.int .i64) (.cons (.int .i64) (.cons (.int .i64) (.one (.int .i64))))))]
def rk_S_l1Cur_votes : List (Ty × Bool) := [((.sl (.sl (.int .i64))), true)]
def h_S_l1Cur_votes : Hints := { loops := [(0, { items := [.slot 5 (.own (.sl (.int .i64)) true), .slot 6 (.data (.int .i64) []), .cell 0 0 (.data (.sl (.int .u8)) []), .cell 0 1 (.data (.int .i64) []), .cell 0 2 (.data (.int .u64) [])], kill := [1, 2, 4] ++ (sgN 7 18) })] }
noncomputable def M_S_l1Cur_votes (x : (((List Int) × (Int × Int)) × (Int × (Int × (Int × (Int × Int)))))) : (Option ((List (List Int)) × ((List Int) × (Int × Int)))) :=
  (bindO (M_S_l1Cur_pick (x.1, (7 : Int))) (fun (a0 : (Int × ((List Int) × (Int × Int)))) => (bindO (M_S_l1Cur_one (a0.2, (20 : Int))) (fun (a1 : (Bool × ((List Int) × (Int × Int)))) => (cond a1.1 (bindO (M_S_l1Cur_pick (a1.2, (2 : Int))) (fun (a2 : (Int × ((List Int) × (Int × Int)))) => (bindO (some (IntKind.wrap .i64 ((24 : Int) + a2.1))) (fun (a3 : Int) => (loopO (fun (again4 : (((List (List Int)) × (Int × ((List Int) × (Int × Int)))) → (Option ((List (List Int)) × ((List Int) × (Int × Int)))))) => (fun (s5 : ((List (List Int)) × (Int × ((List Int) × (Int × Int))))) => (cond (decide (s5.2.1 > (0 : Int))) (bindO (M_S_l1Cur_vote (s5.2.2, x.2)) (fun (a6 : ((List Int) × ((List Int) × (Int × Int)))) => (bindO (guardO (lenOk ((List.length s5.1) + (List.length (a6.1 :: ([] : List (List Int))))))) (fun (a7 : Unit) => (bindO (some (s5.1 ++ (a6.1 :: ([] : List (List Int))))) (fun (a8 : (List (List Int))) => (bindO (some (IntKind.wrap .i64 (s5.2.1 - (1 : Int)))) (fun (a9 : Int) => (again4 (a8, (a9, a6.2))))))))))) (some (s5.1, s5.2.2))))) (([] : List (List Int)), (a3, a2.2))))))) (loopO (fun (again10 : (((List (List Int)) × (Int × ((List Int) × (Int × Int)))) → (Option ((List (List Int)) × ((List Int) × (Int × Int)))))) => (fun (s11 : ((List (List Int)) × (Int × ((List Int) × (Int × Int))))) => (cond (decide (s11.2.1 > (0 : Int))) (bindO (M_S_l1Cur_vote (s11.2.2, x.2)) (fun (a12 : ((List Int) × ((List Int) × (Int × Int)))) => (bindO (guardO (lenOk ((List.length s11.1) + (List.length (a12.1 :: ([] : List (List Int))))))) (fun (a13 : Unit) => (bindO (some (s11.1 ++ (a12.1 :: ([] : List (List Int))))) (fun (a14 : (List (List Int))) => (bindO (some (IntKind.wrap .i64 (s11.2.1 - (1 : Int)))) (fun (a15 : Int) => (again10 (a14, (a15, a12.2))))))))))) (some (s11.1, s11.2.2))))) (([] : List (List Int)), (a0.1, a1.2))))))))

noncomputable def c_S_l1Cur_votes : Con0 := ⟨pk_S_l1Cur_votes, rk_S_l1Cur_votes, M_S_l1Cur_votes⟩

set_option maxRecDepth 100000 in
theorem eq_S_l1Cur_votes (x : In pk_S_l1Cur_votes) : semF (mkE [(68, c_S_l1Cur_pick), (45, c_S_l1Cur_one), (99, c_S_l1Cur_vote)]) h_S_l1Cur_votes (info Tryz.f44) pk_S_l1Cur_votes rk_S_l1Cur_votes x = M_S_l1Cur_votes x := (semFF_eq _ _ _ _ _ _).symm.trans (by kernel_rfl)

set_option maxRecDepth 100000 in
theorem m_S_l1Cur_votes : ConOK Tryz.prog 44 c_S_l1Cur_votes := fn_ok (tyOK _) (E := mkE [(68, c_S_l1Cur_pick), (45, c_S_l1Cur_one), (99, c_S_l1Cur_vote)]) (consOK_cons m_S_l1Cur_pick (consOK_cons m_S_l1Cur_one (consOK_cons m_S_l1Cur_vote (consOK_nil rfl)))) Tryz.func44 (h := h_S_l1Cur_votes) (by kernel_rfl) eq_S_l1Cur_votes

/-- S_l1Own -/
def pk_S_l1Own : List PK := [.data (.sl (.int .i64))]
def rk_S_l1Own : List (Ty × Bool) := [((.sl (.int .i64)), true)]
def h_S_l1Own : Hints := { loops := [] }
noncomputable def M_S_l1Own (x : (List Int)) : (Option (List Int)) :=
  (bindO (guardO (lenOk ((List.length ([] : List Int)) + (List.length x)))) (fun (a0 : Unit) => (bindO (some (([] : List Int) ++ x)) (fun (a1 : (List Int)) => (some a1)))))

noncomputable def c_S_l1Own : Con0 := ⟨pk_S_l1Own, rk_S_l1Own, M_S_l1Own⟩

set_option maxRecDepth 100000 in
theorem eq_S_l1Own (x : In pk_S_l1Own) : semF (mkE []) h_S_l1Own (info Tryz.f100) pk_S_l1Own rk_S_l1Own x = M_S_l1Own x := (semFF_eq _ _ _ _ _ _).symm.trans (by kernel_rfl)

set_option maxRecDepth 100000 in
theorem m_S_l1Own : ConOK Tryz.prog 100 c_S_l1Own := fn_ok (tyOK _) (E := mkE []) (consOK_nil rfl) Tryz.func100 (h := h_S_l1Own) (by kernel_rfl) eq_S_l1Own

/-- S_l1Cur_anyVote -/
def pk_S_l1Cur_anyVote : List PK := [.mp (.cons (.sl (.int .u8)) (.cons (.int .i64) (.one (.int .u64)))) false, .data (.cons (.int .i64) (.cons (.int .i64) (.cons (.int .i64) (.cons (.int .i64) (.one (.int .i64))))))]
def rk_S_l1Cur_anyVote : List (Ty × Bool) := [((.sl (.int .i64)), false)]
def h_S_l1Cur_anyVote : Hints := { loops := [] }
noncomputable def M_S_l1Cur_anyVote (x : (((List Int) × (Int × Int)) × (Int × (Int × (Int × (Int × Int)))))) : (Option ((List Int) × ((List Int) × (Int × Int)))) :=
  (bindO (M_S_vContest x.2) (fun (a0 : Bool) => (cond (not a0) (some (((0 : Int) :: ([] : List Int)), x.1)) (bindO (M_S_l1Cur_vote x) (fun (a1 : ((List Int) × ((List Int) × (Int × Int)))) => (bindO (M_S_l1Own a1.1) (fun (a2 : (List Int)) => (bindO (M_S_l1Cur_pick (a1.2, (14 : Int))) (fun (a3 : (Int × ((List Int) × (Int × Int)))) => (cond (a3.1 == (0 : Int)) (bindO (M_S_l1Cur_pick (a3.2, (9 : Int))) (fun (a4 : (Int × ((List Int) × (Int × Int)))) => (bindO (some (IntKind.wrap .i64 (a4.1 - (1 : Int)))) (fun (a5 : Int) => (bindO (guardO (lenOk ((List.length a2) + (List.length (a5 :: ([] : List Int)))))) (fun (a6 : Unit) => (bindO (some (a2 ++ (a5 :: ([] : List Int)))) (fun (a7 : (List Int)) => (some (a7, a4.2)))))))))) (cond (a3.1 == (1 : Int)) (cond (decide ((((List.length a2) : Nat) : Int) > (0 : Int))) (bindO (M_S_l1Cur_pick (a3.2, (((List.length a2) : Nat) : Int))) (fun (a8 : (Int × ((List Int) × (Int × Int)))) => (bindO (M_S_l1Cur_among (a8.2, ((- (1 : Int)) :: ((0 : Int) :: ((1 : Int) :: ((5 : Int) :: ((6 : Int) :: ((8 : Int) :: ((26 : Int) :: ((27 : Int) :: ([] : List Int))))))))))) (fun (a9 : (Int × ((List Int) × (Int × Int)))) => (bindO (getI a2 a8.1) (fun (a10 : Int) => (bindO (some (List.set a2 (Int.toNat a8.1) a9.1)) (fun (a11 : (List Int)) => (some (a11, a9.2)))))))))) (some (a2, a3.2))) (cond (a3.1 == (2 : Int)) (cond (decide ((((List.length a2) : Nat) : Int) > (0 : Int))) (bindO (sliceLN (1 : Int) (List.length a2)) (fun (a12 : (Nat × Nat)) => (some ((List.drop a12.1 (List.take a12.2 a2)), a3.2)))) (some (a2, a3.2))) (some (a2, a3.2))))))))))))))

noncomputable def c_S_l1Cur_anyVote : Con0 := ⟨pk_S_l1Cur_anyVote, rk_S_l1Cur_anyVote, M_S_l1Cur_anyVote⟩

set_option maxRecDepth 100000 in
theorem eq_S_l1Cur_anyVote (x : In pk_S_l1Cur_anyVote) : semF (mkE [(43, c_S_vContest), (99, c_S_l1Cur_vote), (100, c_S_l1Own), (68, c_S_l1Cur_pick), (72, c_S_l1Cur_among)]) h_S_l1Cur_anyVote (info Tryz.f46) pk_S_l1Cur_anyVote rk_S_l1Cur_anyVote x = M_S_l1Cur_anyVote x := (semFF_eq _ _ _ _ _ _).symm.trans (by kernel_rfl)

set_option maxRecDepth 100000 in
theorem m_S_l1Cur_anyVote : ConOK Tryz.prog 46 c_S_l1Cur_anyVote := fn_ok (tyOK _) (E := mkE [(43, c_S_vContest), (99, c_S_l1Cur_vote), (100, c_S_l1Own), (68, c_S_l1Cur_pick), (72, c_S_l1Cur_among)]) (consOK_cons m_S_vContest (consOK_cons m_S_l1Cur_vote (consOK_cons m_S_l1Own (consOK_cons m_S_l1Cur_pick (consOK_cons m_S_l1Cur_among (consOK_nil rfl)))))) Tryz.func46 (h := h_S_l1Cur_anyVote) (by kernel_rfl) eq_S_l1Cur_anyVote

/-- S_DrawTallyVotes -/
def pk_S_DrawTallyVotes : List PK := [.data (.sl (.int .u8))]
def rk_S_DrawTallyVotes : List (Ty × Bool) := [((.cons (.int .i64) (.cons (.int .i64) (.cons (.int .i64) (.cons (.int .i64) (.one (.int .i64)))))), false), ((.sl (.sl (.int .i64))), false)]
def h_S_DrawTallyVotes : Hints := { loops := [] }
noncomputable def M_S_DrawTallyVotes (x : (List Int)) : (Option ((Int × (Int × (Int × (Int × Int)))) × (List (List Int)))) :=
  (bindO (M_S_l1Cur_anyContest (x, ((0 : Int), (0 : Int)))) (fun (a0 : ((Int × (Int × (Int × (Int × Int)))) × ((List Int) × (Int × Int)))) => (bindO (M_S_vContest a0.1) (fun (a1 : Bool) => (cond (not a1) (some (a0.1, ([] : List (List Int)))) (bindO (M_S_l1Cur_votes (a0.2, a0.1)) (fun (a2 : ((List (List Int)) × ((List Int) × (Int × Int)))) => (cond (decide ((((List.length a2.1) : Nat) : Int) > (0 : Int))) (bindO (M_S_l1Cur_one (a2.2, (10 : Int))) (fun (a3 : (Bool × ((List Int) × (Int × Int)))) => (cond a3.1 (bindO (M_S_l1Cur_anyVote (a3.2, a0.1)) (fun (a4 : ((List Int) × ((List Int) × (Int × Int)))) => (bindO (getI a2.1 (0 : Int)) (fun (a5 : (List Int)) => (bindO (some (List.set a2.1 (Int.toNat (0 : Int)) a4.1)) (fun (a6 : (List (List Int))) => (some (a0.1, a6)))))))) (some (a0.1, a2.1))))) (some (a0.1, a2.1))))))))))

noncomputable def c_S_DrawTallyVotes : Con0 := ⟨pk_S_DrawTallyVotes, rk_S_DrawTallyVotes, M_S_DrawTallyVotes⟩

set_option maxRecDepth 100000 in
theorem eq_S_DrawTallyVotes (x : In pk_S_DrawTallyVotes) : semF (mkE [(42, c_S_l1Cur_anyContest), (43, c_S_vContest), (44, c_S_l1Cur_votes), (45, c_S_l1Cur_one), (46, c_S_l1Cur_anyVote)]) h_S_DrawTallyVotes (info Tryz.f20) pk_S_DrawTallyVotes rk_S_DrawTallyVotes x = M_S_DrawTallyVotes x := (semFF_eq _ _ _ _ _ _).symm.trans (by kernel_rfl)

set_option maxRecDepth 100000 in
theorem m_S_DrawTallyVotes : ConOK Tryz.prog 20 c_S_DrawTallyVotes := fn_ok (tyOK _) (E := mkE [(42, c_S_l1Cur_anyContest), (43, c_S_vContest), (44, c_S_l1Cur_votes), (45, c_S_l1Cur_one), (46, c_S_l1Cur_anyVote)]) (consOK_cons m_S_l1Cur_anyContest (consOK_cons m_S_vContest (consOK_cons m_S_l1Cur_votes (consOK_cons m_S_l1Cur_one (consOK_cons m_S_l1Cur_anyVote (consOK_nil rfl)))))) Tryz.func20 (h := h_S_DrawTallyVotes) (by kernel_rfl) eq_S_DrawTallyVotes

/-- I_within -/
def pk_I_within : List PK := [.data (.int .i64), .data (.int .i64), .data (.int .i64)]
def rk_I_within : List (Ty × Bool) := [(.bool, false)]
def h_I_within : Hints := { loops := [] }
noncomputable def M_I_within (x : (Int × (Int × Int))) : (Option Bool) :=
  (cond (decide (x.1 ≥ x.2.1)) (some (decide (x.1 ≤ x.2.2))) (some false))

noncomputable def c_I_within : Con0 := ⟨pk_I_within, rk_I_within, M_I_within⟩

set_option maxRecDepth 100000 in
theorem eq_I_within (x : In pk_I_within) : semF (mkE []) h_I_within (info Tryz.f60) pk_I_within rk_I_within x = M_I_within x := (semFF_eq _ _ _ _ _ _).symm.trans (by kernel_rfl)

set_option maxRecDepth 100000 in
theorem m_I_within : ConOK Tryz.prog 60 c_I_within := fn_ok (tyOK _) (E := mkE []) (consOK_nil rfl) Tryz.func60 (h := h_I_within) (by kernel_rfl) eq_I_within

/-- I_IsValidContest -/
def pk_I_IsValidContest : List PK := [.data (.cons (.int .i64) (.cons (.int .i64) (.cons (.int .i64) (.cons (.int .i64) (.one (.int .i64))))))]
def rk_I_IsValidContest : List (Ty × Bool) := [(.bool, false)]
def h_I_IsValidContest : Hints := { loops := [] }
noncomputable def M_I_IsValidContest (x : (Int × (Int × (Int × (Int × Int))))) : (Option Bool) :=
  (cond (decide (x.2.2.1 < (0 : Int))) (some false) (cond (decide (x.2.2.1 > x.2.2.2.1)) (some false) (cond (x.1 == (1 : Int)) (cond (x.1 == (1 : Int)) (bindO (M_I_within (x.2.1, ((1 : Int), (8 : Int)))) (fun (a0 : Bool) => (cond a0 (cond (decide (x.2.2.2.1 ≤ x.2.1)) (some (x.2.2.2.2 == (0 : Int))) (some false)) (some false)))) (cond (x.1 == (2 : Int)) (bindO (M_I_within (x.2.1, ((1 : Int), (8 : Int)))) (fun (a1 : Bool) => (cond a1 (bindO (M_I_within (x.2.2.2.2, ((1 : Int), (5 : Int)))) (fun (a2 : Bool) => (cond a2 (bindO (some (IntKind.wrap .i64 (x.2.1 * x.2.2.2.2))) (fun (a3 : Int) => (some (decide (x.2.2.2.1 ≤ a3))))) (some false)))) (some false)))) (cond (x.1 == (4 : Int)) (cond (x.2.1 == (0 : Int)) (cond (decide (x.2.2.2.1 ≤ (5 : Int))) (some (x.2.2.2.2 == (0 : Int))) (some false)) (some false)) (some false)))) (cond (x.1 == (3 : Int)) (bindO (M_I_within (x.2.1, ((1 : Int), (8 : Int)))) (fun (a4 : Bool) => (cond a4 (cond (decide (x.2.2.2.1 ≤ x.2.1)) (some (x.2.2.2.2 == (0 : Int))) (some false)) (some false)))) (cond (x.1 == (2 : Int)) (bindO (M_I_within (x.2.1, ((1 : Int), (8 : Int)))) (fun (a5 : Bool) => (cond a5 (bindO (M_I_within (x.2.2.2.2, ((1 : Int), (5 : Int)))) (fun (a6 : Bool) => (cond a6 (bindO (some (IntKind.wrap .i64 (x.2.1 * x.2.2.2.2))) (fun (a7 : Int) => (some (decide (x.2.2.2.1 ≤ a7))))) (some false)))) (some false)))) (cond (x.1 == (4 : Int)) (cond (x.2.1 == (0 : Int)) (cond (decide (x.2.2.2.1 ≤ (5 : Int))) (some (x.2.2.2.2 == (0 : Int))) (some false)) (some false)) (some false)))))))

noncomputable def c_I_IsValidContest : Con0 := ⟨pk_I_IsValidContest, rk_I_IsValidContest, M_I_IsValidContest⟩

set_option maxRecDepth 100000 in
theorem eq_I_IsValidContest (x : In pk_I_IsValidContest) : semF (mkE [(60, c_I_within)]) h_I_IsValidContest (info Tryz.f47) pk_I_IsValidContest rk_I_IsValidContest x = M_I_IsValidContest x := (semFF_eq _ _ _ _ _ _).symm.trans (by kernel_rfl)

set_option maxRecDepth 100000 in
theorem m_I_IsValidContest : ConOK Tryz.prog 47 c_I_IsValidContest := fn_ok (tyOK _) (E := mkE [(60, c_I_within)]) (consOK_cons m_I_within (consOK_nil rfl)) Tryz.func47 (h := h_I_IsValidContest) (by kernel_rfl) eq_I_IsValidContest

/-- I_Contest_isForm -/
def pk_I_Contest_isForm : List PK := [.data (.cons (.int .i64) (.cons (.int .i64) (.cons (.int .i64) (.cons (.int .i64) (.one (.int .i64))))))]
def rk_I_Contest_isForm : List (Ty × Bool) := [(.bool, false)]
def h_I_Contest_isForm : Hints := { loops := [] }
noncomputable def M_I_Contest_isForm (x : (Int × (Int × (Int × (Int × Int))))) : (Option Bool) :=
  (cond (x.1 == (1 : Int)) (some true) (some (x.1 == (2 : Int))))

noncomputable def c_I_Contest_isForm : Con0 := ⟨pk_I_Contest_isForm, rk_I_Contest_isForm, M_I_Contest_isForm⟩

set_option maxRecDepth 100000 in
theorem eq_I_Contest_isForm (x : In pk_I_Contest_isForm) : semF (mkE []) h_I_Contest_isForm (info Tryz.f48) pk_I_Contest_isForm rk_I_Contest_isForm x = M_I_Contest_isForm x := (semFF_eq _ _ _ _ _ _).symm.trans (by kernel_rfl)

set_option maxRecDepth 100000 in
theorem m_I_Contest_isForm : ConOK Tryz.prog 48 c_I_Contest_isForm := fn_ok (tyOK _) (E := mkE []) (consOK_nil rfl) Tryz.func48 (h := h_I_Contest_isForm) (by kernel_rfl) eq_I_Contest_isForm

/-- slices_IndexFunc_sint_int -/
def pk_slices_IndexFunc_sint_int : List PK := [.data (.sl (.int .i64)), .fn [(.int .i64)] .bool]
def rk_slices_IndexFunc_sint_int : List (Ty × Bool) := [((.int .i64), false)]
def h_slices_IndexFunc_sint_int : Hints := { loops := [(0, { items := [.slot 8 (.data (.int .i64) [])], kill := sgN 2 5 ++ (sgN 9 10) })] }
noncomputable def M_slices_IndexFunc_sint_int (x : ((List Int) × (Int → (Option Bool)))) : (Option Int) :=
  (loopO (fun (again0 : (Int → (Option Int))) => (fun (s1 : Int) => (cond (decide (s1 < (((List.length x.1) : Nat) : Int))) (bindO (getI x.1 s1) (fun (a2 : Int) => (bindO (x.2 a2) (fun (a3 : Bool) => (cond a3 (some s1) (bindO (some (IntKind.wrap .i64 (s1 + (1 : Int)))) (fun (a4 : Int) => (again0 a4)))))))) (some (- (1 : Int)))))) (0 : Int))

noncomputable def c_slices_IndexFunc_sint_int : Con0 := ⟨pk_slices_IndexFunc_sint_int, rk_slices_IndexFunc_sint_int, M_slices_IndexFunc_sint_int⟩

set_option maxRecDepth 100000 in
theorem eq_slices_IndexFunc_sint_int (x : In pk_slices_IndexFunc_sint_int) : semF (mkE []) h_slices_IndexFunc_sint_int (info Tryz.f172) pk_slices_IndexFunc_sint_int rk_slices_IndexFunc_sint_int x = M_slices_IndexFunc_sint_int x := (semFF_eq _ _ _ _ _ _).symm.trans (by kernel_rfl)

set_option maxRecDepth 100000 in
theorem m_slices_IndexFunc_sint_int : ConOK Tryz.prog 172 c_slices_IndexFunc_sint_int := fn_ok (tyOK _) (E := mkE []) (consOK_nil rfl) Tryz.func172 (h := h_slices_IndexFunc_sint_int) (by kernel_rfl) eq_slices_IndexFunc_sint_int

/-- slices_ContainsFunc_sint_int -/
def pk_slices_ContainsFunc_sint_int : List PK := [.data (.sl (.int .i64)), .fn [(.int .i64)] .bool]
def rk_slices_ContainsFunc_sint_int : List (Ty × Bool) := [(.bool, false)]
def h_slices_ContainsFunc_sint_int : Hints := { loops := [] }
noncomputable def M_slices_ContainsFunc_sint_int (x : ((List Int) × (Int → (Option Bool)))) : (Option Bool) :=
  (bindO (M_slices_IndexFunc_sint_int (x.1, x.2)) (fun (a0 : Int) => (some (decide (a0 ≥ (0 : Int))))))

noncomputable def c_slices_ContainsFunc_sint_int : Con0 := ⟨pk_slices_ContainsFunc_sint_int, rk_slices_ContainsFunc_sint_int, M_slices_ContainsFunc_sint_int⟩

set_option maxRecDepth 100000 in
theorem eq_slices_ContainsFunc_sint_int (x : In pk_slices_ContainsFunc_sint_int) : semF (mkE [(172, c_slices_IndexFunc_sint_int)]) h_slices_ContainsFunc_sint_int (info Tryz.f146) pk_slices_ContainsFunc_sint_int rk_slices_ContainsFunc_sint_int x = M_slices_ContainsFunc_sint_int x := (semFF_eq _ _ _ _ _ _).symm.trans (by kernel_rfl)

set_option maxRecDepth 100000 in
theorem m_slices_ContainsFunc_sint_int : ConOK Tryz.prog 146 c_slices_ContainsFunc_sint_int := fn_ok (tyOK _) (E := mkE [(172, c_slices_IndexFunc_sint_int)]) (consOK_cons m_slices_IndexFunc_sint_int (consOK_nil rfl)) Tryz.func146 (h := h_slices_ContainsFunc_sint_int) (by kernel_rfl) eq_slices_ContainsFunc_sint_int

/-- I_areAll_1 -/
def pk_I_areAll_1 : List PK := [.data (.int .i64), .rfn [(.int .i64)] .bool]
def rk_I_areAll_1 : List (Ty × Bool) := [(.bool, false)]
def h_I_areAll_1 : Hints := { loops := [] }
noncomputable def M_I_areAll_1 (x : (Int × (Int → (Option Bool)))) : (Option Bool) :=
  (bindO (x.2 x.1) (fun (a0 : Bool) => (some (not a0))))

noncomputable def c_I_areAll_1 : Con0 := ⟨pk_I_areAll_1, rk_I_areAll_1, M_I_areAll_1⟩

set_option maxRecDepth 100000 in
theorem eq_I_areAll_1 (x : In pk_I_areAll_1) : semF (mkE []) h_I_areAll_1 (info Tryz.f147) pk_I_areAll_1 rk_I_areAll_1 x = M_I_areAll_1 x := (semFF_eq _ _ _ _ _ _).symm.trans (by kernel_rfl)

set_option maxRecDepth 100000 in
theorem m_I_areAll_1 : ConOK Tryz.prog 147 c_I_areAll_1 := fn_ok (tyOK _) (E := mkE []) (consOK_nil rfl) Tryz.func147 (h := h_I_areAll_1) (by kernel_rfl) eq_I_areAll_1

/-- I_areAll -/
def pk_I_areAll : List PK := [.data (.sl (.int .i64)), .fn [(.int .i64)] .bool]
def rk_I_areAll : List (Ty × Bool) := [(.bool, false)]
def h_I_areAll : Hints := { loops := [] }
noncomputable def M_I_areAll (x : ((List Int) × (Int → (Option Bool)))) : (Option Bool) :=
  (bindO (M_slices_ContainsFunc_sint_int (x.1, (fun (a0 : Int) => (bindO (M_I_areAll_1 (a0, x.2)) (fun (a1 : Bool) => (some a1)))))) (fun (a2 : Bool) => (some (not a2))))

noncomputable def c_I_areAll : Con0 := ⟨pk_I_areAll, rk_I_areAll, M_I_areAll⟩

set_option maxRecDepth 100000 in
theorem eq_I_areAll (x : In pk_I_areAll) : semF (mkE [(146, c_slices_ContainsFunc_sint_int), (147, c_I_areAll_1)]) h_I_areAll (info Tryz.f101) pk_I_areAll rk_I_areAll x = M_I_areAll x := (semFF_eq _ _ _ _ _ _).symm.trans (by kernel_rfl)

set_option maxRecDepth 100000 in
theorem m_I_areAll : ConOK Tryz.prog 101 c_I_areAll := fn_ok (tyOK _) (E := mkE [(146, c_slices_ContainsFunc_sint_int), (147, c_I_areAll_1)]) (consOK_cons m_slices_ContainsFunc_sint_int (consOK_cons m_I_areAll_1 (consOK_nil rfl))) Tryz.func101 (h := h_I_areAll) (by kernel_rfl) eq_I_areAll

/-- cmp_isNaN_int -/
def pk_cmp_isNaN_int : List PK := [.data (.int .i64)]
def rk_cmp_isNaN_int : List (Ty × Bool) := [(.bool, false)]
def h_cmp_isNaN_int : Hints := { loops := [] }
noncomputable def M_cmp_isNaN_int (x : Int) : (Option Bool) :=
  (some (x != x))

noncomputable def c_cmp_isNaN_int : Con0 := ⟨pk_cmp_isNaN_int, rk_cmp_isNaN_int, M_cmp_isNaN_int⟩

set_option maxRecDepth 100000 in
theorem eq_cmp_isNaN_int (x : In pk_cmp_isNaN_int) : semF (mkE []) h_cmp_isNaN_int (info Tryz.f171) pk_cmp_isNaN_int rk_cmp_isNaN_int x = M_cmp_isNaN_int x := (semFF_eq _ _ _ _ _ _).symm.trans (by kernel_rfl)

set_option maxRecDepth 100000 in
theorem m_cmp_isNaN_int : ConOK Tryz.prog 171 c_cmp_isNaN_int := fn_ok (tyOK _) (E := mkE []) (consOK_nil rfl) Tryz.func171 (h := h_cmp_isNaN_int) (by kernel_rfl) eq_cmp_isNaN_int

/-- cmp_Less_int -/
def pk_cmp_Less_int : List PK := [.data (.int .i64), .data (.int .i64)]
def rk_cmp_Less_int : List (Ty × Bool) := [(.bool, false)]
def h_cmp_Less_int : Hints := { loops := [] }
noncomputable def M_cmp_Less_int (x : (Int × Int)) : (Option Bool) :=
  (bindO (M_cmp_isNaN_int x.1) (fun (a0 : Bool) => (cond a0 (bindO (M_cmp_isNaN_int x.2) (fun (a1 : Bool) => (cond (not a1) (some true) (some (decide (x.1 < x.2)))))) (some (decide (x.1 < x.2))))))

noncomputable def c_cmp_Less_int : Con0 := ⟨pk_cmp_Less_int, rk_cmp_Less_int, M_cmp_Less_int⟩

set_option maxRecDepth 100000 in
theorem eq_cmp_Less_int (x : In pk_cmp_Less_int) : semF (mkE [(171, c_cmp_isNaN_int)]) h_cmp_Less_int (info Tryz.f139) pk_cmp_Less_int rk_cmp_Less_int x = M_cmp_Less_int x := (semFF_eq _ _ _ _ _ _).symm.trans (by kernel_rfl)

set_option maxRecDepth 100000 in
theorem m_cmp_Less_int : ConOK Tryz.prog 139 c_cmp_Less_int := fn_ok (tyOK _) (E := mkE [(171, c_cmp_isNaN_int)]) (consOK_cons m_cmp_isNaN_int (consOK_nil rfl)) Tryz.func139 (h := h_cmp_Less_int) (by kernel_rfl) eq_cmp_Less_int

/-- slices_IsSorted_sint_int -/
def pk_slices_IsSorted_sint_int : List PK := [.data (.sl (.int .i64))]
def rk_slices_IsSorted_sint_int : List (Ty × Bool) := [(.bool, false)]
def h_slices_IsSorted_sint_int : Hints := { loops := [(0, { items := [.slot 3 (.data (.int .i64) [])], kill := [1, 2] ++ (sgN 4 17) })] }
noncomputable def M_slices_IsSorted_sint_int (x : (List Int)) : (Option Bool) :=
  (bindO (some (IntKind.wrap .i64 ((((List.length x) : Nat) : Int) - (1 : Int)))) (fun (a0 : Int) => (loopO (fun (again1 : (Int → (Option Bool))) => (fun (s2 : Int) => (cond (decide (s2 > (0 : Int))) (bindO (getI x s2) (fun (a3 : Int) => (bindO (some (IntKind.wrap .i64 (s2 - (1 : Int)))) (fun (a4 : Int) => (bindO (getI x a4) (fun (a5 : Int) => (bindO (M_cmp_Less_int (a3, a5)) (fun (a6 : Bool) => (cond a6 (some false) (bindO (some (IntKind.wrap .i64 (s2 - (1 : Int)))) (fun (a7 : Int) => (again1 a7)))))))))))) (some true)))) a0)))

noncomputable def c_slices_IsSorted_sint_int : Con0 := ⟨pk_slices_IsSorted_sint_int, rk_slices_IsSorted_sint_int, M_slices_IsSorted_sint_int⟩

set_option maxRecDepth 100000 in
theorem eq_slices_IsSorted_sint_int (x : In pk_slices_IsSorted_sint_int) : semF (mkE [(139, c_cmp_Less_int)]) h_slices_IsSorted_sint_int (info Tryz.f104) pk_slices_IsSorted_sint_int rk_slices_IsSorted_sint_int x = M_slices_IsSorted_sint_int x := (semFF_eq _ _ _ _ _ _).symm.trans (by kernel_rfl)

set_option maxRecDepth 100000 in
theorem m_slices_IsSorted_sint_int : ConOK Tryz.prog 104 c_slices_IsSorted_sint_int := fn_ok (tyOK _) (E := mkE [(139, c_cmp_Less_int)]) (consOK_cons m_cmp_Less_int (consOK_nil rfl)) Tryz.func104 (h := h_slices_IsSorted_sint_int) (by kernel_rfl) eq_slices_IsSorted_sint_int

/-- slices_Index_sint_int -/
def pk_slices_Index_sint_int : List PK := [.data (.sl (.int .i64)), .data (.int .i64)]
def rk_slices_Index_sint_int : List (Ty × Bool) := [((.int .i64), false)]
def h_slices_Index_sint_int : Hints := { loops := [(0, { items := [.slot 8 (.data (.int .i64) [])], kill := sgN 2 5 ++ (sgN 9 10) })] }
noncomputable def M_slices_Index_sint_int (x : ((List Int) × Int)) : (Option Int) :=
  (loopO (fun (again0 : (Int → (Option Int))) => (fun (s1 : Int) => (cond (decide (s1 < (((List.length x.1) : Nat) : Int))) (bindO (getI x.1 s1) (fun (a2 : Int) => (cond (x.2 == a2) (some s1) (bindO (some (IntKind.wrap .i64 (s1 + (1 : Int)))) (fun (a3 : Int) => (again0 a3)))))) (some (- (1 : Int)))))) (0 : Int))

noncomputable def c_slices_Index_sint_int : Con0 := ⟨pk_slices_Index_sint_int, rk_slices_Index_sint_int, M_slices_Index_sint_int⟩

set_option maxRecDepth 100000 in
theorem eq_slices_Index_sint_int (x : In pk_slices_Index_sint_int) : semF (mkE []) h_slices_Index_sint_int (info Tryz.f131) pk_slices_Index_sint_int rk_slices_Index_sint_int x = M_slices_Index_sint_int x := (semFF_eq _ _ _ _ _ _).symm.trans (by kernel_rfl)

set_option maxRecDepth 100000 in
theorem m_slices_Index_sint_int : ConOK Tryz.prog 131 c_slices_Index_sint_int := fn_ok (tyOK _) (E := mkE []) (consOK_nil rfl) Tryz.func131 (h := h_slices_Index_sint_int) (by kernel_rfl) eq_slices_Index_sint_int

/-- slices_Contains_sint_int -/
def pk_slices_Contains_sint_int : List PK := [.data (.sl (.int .i64)), .data (.int .i64)]
def rk_slices_Contains_sint_int : List (Ty × Bool) := [(.bool, false)]
def h_slices_Contains_sint_int : Hints := { loops := [] }
noncomputable def M_slices_Contains_sint_int (x : ((List Int) × Int)) : (Option Bool) :=
  (bindO (M_slices_Index_sint_int (x.1, x.2)) (fun (a0 : Int) => (some (decide (a0 ≥ (0 : Int))))))

noncomputable def c_slices_Contains_sint_int : Con0 := ⟨pk_slices_Contains_sint_int, rk_slices_Contains_sint_int, M_slices_Contains_sint_int⟩

set_option maxRecDepth 100000 in
theorem eq_slices_Contains_sint_int (x : In pk_slices_Contains_sint_int) : semF (mkE [(131, c_slices_Index_sint_int)]) h_slices_Contains_sint_int (info Tryz.f91) pk_slices_Contains_sint_int rk_slices_Contains_sint_int x = M_slices_Contains_sint_int x := (semFF_eq _ _ _ _ _ _).symm.trans (by kernel_rfl)

set_option maxRecDepth 100000 in
theorem m_slices_Contains_sint_int : ConOK Tryz.prog 91 c_slices_Contains_sint_int := fn_ok (tyOK _) (E := mkE [(131, c_slices_Index_sint_int)]) (consOK_cons m_slices_Index_sint_int (consOK_nil rfl)) Tryz.func91 (h := h_slices_Contains_sint_int) (by kernel_rfl) eq_slices_Contains_sint_int

/-- I_areDifferent -/
def pk_I_areDifferent : List PK := [.data (.sl (.int .i64))]
def rk_I_areDifferent : List (Ty × Bool) := [(.bool, false)]
def h_I_areDifferent : Hints := { loops := [(0, { items := [.slot 7 (.data (.int .i64) [])], kill := sgN 1 4 ++ (sgN 8 10) })] }
noncomputable def M_I_areDifferent (x : (List Int)) : (Option Bool) :=
  (loopO (fun (again0 : (Int → (Option Bool))) => (fun (s1 : Int) => (cond (decide (s1 < (((List.length x) : Nat) : Int))) (bindO (getI x s1) (fun (a2 : Int) => (bindO (sliceNH s1 (List.length x)) (fun (a3 : (Nat × Nat)) => (bindO (M_slices_Contains_sint_int ((List.drop a3.1 (List.take a3.2 x)), a2)) (fun (a4 : Bool) => (cond a4 (some false) (bindO (some (IntKind.wrap .i64 (s1 + (1 : Int)))) (fun (a5 : Int) => (again0 a5)))))))))) (some true)))) (0 : Int))

noncomputable def c_I_areDifferent : Con0 := ⟨pk_I_areDifferent, rk_I_areDifferent, M_I_areDifferent⟩

set_option maxRecDepth 100000 in
theorem eq_I_areDifferent (x : In pk_I_areDifferent) : semF (mkE [(91, c_slices_Contains_sint_int)]) h_I_areDifferent (info Tryz.f105) pk_I_areDifferent rk_I_areDifferent x = M_I_areDifferent x := (semFF_eq _ _ _ _ _ _).symm.trans (by kernel_rfl)

set_option maxRecDepth 100000 in
theorem m_I_areDifferent : ConOK Tryz.prog 105 c_I_areDifferent := fn_ok (tyOK _) (E := mkE [(91, c_slices_Contains_sint_int)]) (consOK_cons m_slices_Contains_sint_int (consOK_nil rfl)) Tryz.func105 (h := h_I_areDifferent) (by kernel_rfl) eq_I_areDifferent

/-- I_Contest_isVote_1 -/
def pk_I_Contest_isVote_1 : List PK := [.data (.int .i64), .rp (.cons (.int .i64) (.cons (.int .i64) (.cons (.int .i64) (.cons (.int .i64) (.one (.int .i64))))))]
def rk_I_Contest_isVote_1 : List (Ty × Bool) := [(.bool, false)]
def h_I_Contest_isVote_1 : Hints := { loops := [] }
noncomputable def M_I_Contest_isVote_1 (x : (Int × (Int × (Int × (Int × (Int × Int)))))) : (Option Bool) :=
  (bindO (M_I_within (x.1, ((0 : Int), x.2.2.2.2.2))) (fun (a0 : Bool) => (some a0)))

noncomputable def c_I_Contest_isVote_1 : Con0 := ⟨pk_I_Contest_isVote_1, rk_I_Contest_isVote_1, M_I_Contest_isVote_1⟩

set_option maxRecDepth 100000 in
theorem eq_I_Contest_isVote_1 (x : In pk_I_Contest_isVote_1) : semF (mkE [(60, c_I_within)]) h_I_Contest_isVote_1 (info Tryz.f102) pk_I_Contest_isVote_1 rk_I_Contest_isVote_1 x = M_I_Contest_isVote_1 x := (semFF_eq _ _ _ _ _ _).symm.trans (by kernel_rfl)

set_option maxRecDepth 100000 in
theorem m_I_Contest_isVote_1 : ConOK Tryz.prog 102 c_I_Contest_isVote_1 := fn_ok (tyOK _) (E := mkE [(60, c_I_within)]) (consOK_cons m_I_within (consOK_nil rfl)) Tryz.func102 (h := h_I_Contest_isVote_1) (by kernel_rfl) eq_I_Contest_isVote_1

/-- I_Contest_isVote_2 -/
def pk_I_Contest_isVote_2 : List PK := [.data (.int .i64), .rp (.int .i64), .rp (.int .i64)]
def rk_I_Contest_isVote_2 : List (Ty × Bool) := [(.bool, false)]
def h_I_Contest_isVote_2 : Hints := { loops := [] }
noncomputable def M_I_Contest_isVote_2 (x : (Int × (Int × Int))) : (Option Bool) :=
  (bindO (M_I_within (x.1, (x.2.1, x.2.2))) (fun (a0 : Bool) => (some a0)))

noncomputable def c_I_Contest_isVote_2 : Con0 := ⟨pk_I_Contest_isVote_2, rk_I_Contest_isVote_2, M_I_Contest_isVote_2⟩

set_option maxRecDepth 100000 in
theorem eq_I_Contest_isVote_2 (x : In pk_I_Contest_isVote_2) : semF (mkE [(60, c_I_within)]) h_I_Contest_isVote_2 (info Tryz.f103) pk_I_Contest_isVote_2 rk_I_Contest_isVote_2 x = M_I_Contest_isVote_2 x := (semFF_eq _ _ _ _ _ _).symm.trans (by kernel_rfl)

set_option maxRecDepth 100000 in
theorem m_I_Contest_isVote_2 : ConOK Tryz.prog 103 c_I_Contest_isVote_2 := fn_ok (tyOK _) (E := mkE [(60, c_I_within)]) (consOK_cons m_I_within (consOK_nil rfl)) Tryz.func103 (h := h_I_Contest_isVote_2) (by kernel_rfl) eq_I_Contest_isVote_2

/-- I_Contest_isVote -/
def pk_I_Contest_isVote : List PK := [.data (.cons (.int .i64) (.cons (.int .i64) (.cons (.int .i64) (.cons (.int .i64) (.one (.int .i64)))))), .data (.sl (.int .i64))]
def rk_I_Contest_isVote : List (Ty × Bool) := [(.bool, false)]
def h_I_Contest_isVote : Hints := { loops := [(1, { items := [.slot 5 (.data (.int .i64) []), .slot 34 (.data (.int .i64) [])], kill := [0, 3, 4] ++ (sgN 8 24 ++ (sgN 35 36)) })] }
noncomputable def M_I_Contest_isVote (x : ((Int × (Int × (Int × (Int × Int)))) × (List Int))) : (Option Bool) :=
  (bindO (some (IntKind.wrap .i64 (x.1.2.1 - (1 : Int)))) (fun (a0 : Int) => (cond (x.1.1 == (2 : Int)) (cond ((((List.length x.2) : Nat) : Int) != x.1.2.1) (some false) (bindO (M_I_areAll (x.2, (fun (a1 : Int) => (bindO (M_I_Contest_isVote_1 (a1, (x.1.1, (x.1.2.1, (x.1.2.2.1, (x.1.2.2.2.1, x.1.2.2.2.2)))))) (fun (a2 : Bool) => (some a2)))))) (fun (a3 : Bool) => (cond (not a3) (some false) (loopO (fun (again4 : ((Int × Int) → (Option Bool))) => (fun (s5 : (Int × Int)) => (cond (decide (s5.2 < (((List.length x.2) : Nat) : Int))) (bindO (getI x.2 s5.2) (fun (a6 : Int) => (bindO (some (IntKind.wrap .i64 (s5.1 + a6))) (fun (a7 : Int) => (bindO (some (IntKind.wrap .i64 (s5.2 + (1 : Int)))) (fun (a8 : Int) => (again4 (a7, a8)))))))) (bindO (M_I_within (s5.1, (x.1.2.2.1, x.1.2.2.2.1))) (fun (a9 : Bool) => (cond (not a9) (some false) (bindO (M_I_areAll (x.2, (fun (a10 : Int) => (bindO (M_I_Contest_isVote_2 (a10, ((0 : Int), x.1.2.2.2.2))) (fun (a11 : Bool) => (some a11)))))) (fun (a12 : Bool) => (cond (not a12) (some false) (cond (x.1.1 == (1 : Int)) (bindO (M_slices_IsSorted_sint_int x.2) (fun (a13 : Bool) => (cond a13 (bindO (M_I_areDifferent x.2) (fun (a14 : Bool) => (some a14))) (some false)))) (cond (x.1.1 == (3 : Int)) (bindO (M_I_areDifferent x.2) (fun (a15 : Bool) => (some a15))) (some true)))))))))))) ((0 : Int), (0 : Int))))))) (cond (x.1.1 == (4 : Int)) (bindO (M_I_within ((((List.length x.2) : Nat) : Int), (x.1.2.2.1, x.1.2.2.2.1))) (fun (a16 : Bool) => (cond (not a16) (some false) (bindO (M_I_areAll (x.2, (fun (a17 : Int) => (bindO (M_I_Contest_isVote_2 (a17, ((1 : Int), (26 : Int)))) (fun (a18 : Bool) => (some a18)))))) (fun (a19 : Bool) => (cond (not a19) (some false) (cond (x.1.1 == (1 : Int)) (bindO (M_slices_IsSorted_sint_int x.2) (fun (a20 : Bool) => (cond a20 (bindO (M_I_areDifferent x.2) (fun (a21 : Bool) => (some a21))) (some false)))) (cond (x.1.1 == (3 : Int)) (bindO (M_I_areDifferent x.2) (fun (a22 : Bool) => (some a22))) (some true))))))))) (bindO (M_I_within ((((List.length x.2) : Nat) : Int), (x.1.2.2.1, x.1.2.2.2.1))) (fun (a23 : Bool) => (cond (not a23) (some false) (bindO (M_I_areAll (x.2, (fun (a24 : Int) => (bindO (M_I_Contest_isVote_2 (a24, ((0 : Int), a0))) (fun (a25 : Bool) => (some a25)))))) (fun (a26 : Bool) => (cond (not a26) (some false) (cond (x.1.1 == (1 : Int)) (bindO (M_slices_IsSorted_sint_int x.2) (fun (a27 : Bool) => (cond a27 (bindO (M_I_areDifferent x.2) (fun (a28 : Bool) => (some a28))) (some false)))) (cond (x.1.1 == (3 : Int)) (bindO (M_I_areDifferent x.2) (fun (a29 : Bool) => (some a29))) (some true)))))))))))))

noncomputable def c_I_Contest_isVote : Con0 := ⟨pk_I_Contest_isVote, rk_I_Contest_isVote, M_I_Contest_isVote⟩

set_option maxRecDepth 100000 in
theorem eq_I_Contest_isVote (x : In pk_I_Contest_isVote) : semF (mkE [(101, c_I_areAll), (60, c_I_within), (104, c_slices_IsSorted_sint_int), (105, c_I_areDifferent), (102, c_I_Contest_isVote_1), (103, c_I_Contest_isVote_2)]) h_I_Contest_isVote (info Tryz.f49) pk_I_Contest_isVote rk_I_Contest_isVote x = M_I_Contest_isVote x := (semFF_eq _ _ _ _ _ _).symm.trans (by kernel_rfl)

set_option maxRecDepth 100000 in
theorem m_I_Contest_isVote : ConOK Tryz.prog 49 c_I_Contest_isVote := fn_ok (tyOK _) (E := mkE [(101, c_I_areAll), (60, c_I_within), (104, c_slices_IsSorted_sint_int), (105, c_I_areDifferent), (102, c_I_Contest_isVote_1), (103, c_I_Contest_isVote_2)]) (consOK_cons m_I_areAll (consOK_cons m_I_within (consOK_cons m_slices_IsSorted_sint_int (consOK_cons m_I_areDifferent (consOK_cons m_I_Contest_isVote_1 (consOK_cons m_I_Contest_isVote_2 (consOK_nil rfl))))))) Tryz.func49 (h := h_I_Contest_isVote) (by kernel_rfl) eq_I_Contest_isVote

/-- I_Contest_choices -/
def pk_I_Contest_choices : List PK := [.data (.cons (.int .i64) (.cons (.int .i64) (.cons (.int .i64) (.cons (.int .i64) (.one (.int .i64)))))), .data (.sl (.int .i64))]
def rk_I_Contest_choices : List (Ty × Bool) := [((.sl (.int .i64)), true)]
def h_I_Contest_choices : Hints := { loops := [(0, { items := [.slot 13 (.data (.int .i64) []), .arr 5 (.int .i64) true], kill := sgN 0 5 ++ (sgN 6 5 ++ (sgN 14 8)) })] }
noncomputable def M_I_Contest_choices (x : ((Int × (Int × (Int × (Int × Int)))) × (List Int))) : (Option (List Int)) :=
  (bindO (guardO (((decide ((0 : Int) ≤ x.1.2.1)) && (decide (x.1.2.1 ≤ x.1.2.1))) && (decide (x.1.2.1 ≤ ((lim : Nat) : Int))))) (fun (a0 : Unit) => (loopO (fun (again1 : ((Int × (List Int)) → (Option (List Int)))) => (fun (s2 : (Int × (List Int))) => (cond (decide (s2.1 < (((List.length x.2) : Nat) : Int))) (bindO (getI x.2 s2.1) (fun (a3 : Int) => (bindO (getI s2.2 a3) (fun (a4 : Int) => (bindO (some (List.set s2.2 (Int.toNat a3) (1 : Int))) (fun (a5 : (List Int)) => (bindO (some (IntKind.wrap .i64 (s2.1 + (1 : Int)))) (fun (a6 : Int) => (again1 (a6, a5)))))))))) (some s2.2)))) ((0 : Int), (List.replicate (Int.toNat x.1.2.1) (0 : Int))))))

noncomputable def c_I_Contest_choices : Con0 := ⟨pk_I_Contest_choices, rk_I_Contest_choices, M_I_Contest_choices⟩

set_option maxRecDepth 100000 in
theorem eq_I_Contest_choices (x : In pk_I_Contest_choices) : semF (mkE []) h_I_Contest_choices (info Tryz.f148) pk_I_Contest_choices rk_I_Contest_choices x = M_I_Contest_choices x := (semFF_eq _ _ _ _ _ _).symm.trans (by kernel_rfl)

set_option maxRecDepth 100000 in
theorem m_I_Contest_choices : ConOK Tryz.prog 148 c_I_Contest_choices := fn_ok (tyOK _) (E := mkE []) (consOK_nil rfl) Tryz.func148 (h := h_I_Contest_choices) (by kernel_rfl) eq_I_Contest_choices

/-- slices_Clone_sint_int -/
def pk_slices_Clone_sint_int : List PK := [.data (.sl (.int .i64))]
def rk_slices_Clone_sint_int : List (Ty × Bool) := [((.sl (.int .i64)), true)]
def h_slices_Clone_sint_int : Hints := { loops := [] }
noncomputable def M_slices_Clone_sint_int (x : (List Int)) : (Option (List Int)) :=
  (cond (List.isEmpty x) (ambO (some ([] : List Int)) (cond (not true) (some ([] : List Int)) (bindO (guardO (lenOk ((List.length ([] : List Int)) + (List.length x)))) (fun (a0 : Unit) => (bindO (some (([] : List Int) ++ x)) (fun (a1 : (List Int)) => (some a1))))))) (cond (not true) (some ([] : List Int)) (bindO (guardO (lenOk ((List.length ([] : List Int)) + (List.length x)))) (fun (a2 : Unit) => (bindO (some (([] : List Int) ++ x)) (fun (a3 : (List Int)) => (some a3)))))))

noncomputable def c_slices_Clone_sint_int : Con0 := ⟨pk_slices_Clone_sint_int, rk_slices_Clone_sint_int, M_slices_Clone_sint_int⟩

set_option maxRecDepth 100000 in
theorem eq_slices_Clone_sint_int (x : In pk_slices_Clone_sint_int) : semF (mkE []) h_slices_Clone_sint_int (info Tryz.f149) pk_slices_Clone_sint_int rk_slices_Clone_sint_int x = M_slices_Clone_sint_int x := (semFF_eq _ _ _ _ _ _).symm.trans (by kernel_rfl)

set_option maxRecDepth 100000 in
theorem m_slices_Clone_sint_int : ConOK Tryz.prog 149 c_slices_Clone_sint_int := fn_ok (tyOK _) (E := mkE []) (consOK_nil rfl) Tryz.func149 (h := h_slices_Clone_sint_int) (by kernel_rfl) eq_slices_Clone_sint_int

/-- I_Contest_digits -/
def pk_I_Contest_digits : List PK := [.data (.cons (.int .i64) (.cons (.int .i64) (.cons (.int .i64) (.cons (.int .i64) (.one (.int .i64)))))), .data (.sl (.int .i64))]
def rk_I_Contest_digits : List (Ty × Bool) := [((.sl (.int .i64)), true)]
def h_I_Contest_digits : Hints := { loops := [(1, { items := [.slot 5 (.own (.int .i64) true), .slot 20 (.data (.int .i64) [])], kill := sgN 0 5 ++ (sgN 6 12 ++ (sgN 21 12)) })] }
noncomputable def M_I_Contest_digits (x : ((Int × (Int × (Int × (Int × Int)))) × (List Int))) : (Option (List Int)) :=
  (cond (x.1.1 == (1 : Int)) (bindO (M_I_Contest_choices ((x.1.1, (x.1.2.1, (x.1.2.2.1, (x.1.2.2.2.1, x.1.2.2.2.2)))), x.2)) (fun (a0 : (List Int)) => (some a0))) (cond (x.1.1 == (3 : Int)) (loopO (fun (again1 : (((List Int) × Int) → (Option (List Int)))) => (fun (s2 : ((List Int) × Int)) => (cond (decide (s2.2 < (((List.length x.2) : Nat) : Int))) (bindO (getI x.2 s2.2) (fun (a3 : Int) => (bindO (some (IntKind.wrap .i64 (a3 + (1 : Int)))) (fun (a4 : Int) => (bindO (guardO (lenOk ((List.length s2.1) + (List.length (a4 :: ([] : List Int)))))) (fun (a5 : Unit) => (bindO (some (s2.1 ++ (a4 :: ([] : List Int)))) (fun (a6 : (List Int)) => (bindO (some (IntKind.wrap .i64 (s2.2 + (1 : Int)))) (fun (a7 : Int) => (again1 (a6, a7)))))))))))) (some s2.1)))) (([] : List Int), (0 : Int))) (bindO (M_slices_Clone_sint_int x.2) (fun (a8 : (List Int)) => (some a8)))))

noncomputable def c_I_Contest_digits : Con0 := ⟨pk_I_Contest_digits, rk_I_Contest_digits, M_I_Contest_digits⟩

set_option maxRecDepth 100000 in
theorem eq_I_Contest_digits (x : In pk_I_Contest_digits) : semF (mkE [(148, c_I_Contest_choices), (149, c_slices_Clone_sint_int)]) h_I_Contest_digits (info Tryz.f106) pk_I_Contest_digits rk_I_Contest_digits x = M_I_Contest_digits x := (semFF_eq _ _ _ _ _ _).symm.trans (by kernel_rfl)

set_option maxRecDepth 100000 in
theorem m_I_Contest_digits : ConOK Tryz.prog 106 c_I_Contest_digits := fn_ok (tyOK _) (E := mkE [(148, c_I_Contest_choices), (149, c_slices_Clone_sint_int)]) (consOK_cons m_I_Contest_choices (consOK_cons m_slices_Clone_sint_int (consOK_nil rfl))) Tryz.func106 (h := h_I_Contest_digits) (by kernel_rfl) eq_I_Contest_digits

/-- I_Contest_base -/
def pk_I_Contest_base : List PK := [.data (.cons (.int .i64) (.cons (.int .i64) (.cons (.int .i64) (.cons (.int .i64) (.one (.int .i64))))))]
def rk_I_Contest_base : List (Ty × Bool) := [((.int .i64), false)]
def h_I_Contest_base : Hints := { loops := [] }
noncomputable def M_I_Contest_base (x : (Int × (Int × (Int × (Int × Int))))) : (Option Int) :=
  (cond (x.1 == (2 : Int)) (bindO (some (IntKind.wrap .i64 (x.2.2.2.2 + (1 : Int)))) (fun (a0 : Int) => (some a0))) (cond (x.1 == (3 : Int)) (bindO (some (IntKind.wrap .i64 (x.2.1 + (1 : Int)))) (fun (a1 : Int) => (some a1))) (cond (x.1 == (4 : Int)) (some (27 : Int)) (some (2 : Int)))))

noncomputable def c_I_Contest_base : Con0 := ⟨pk_I_Contest_base, rk_I_Contest_base, M_I_Contest_base⟩

set_option maxRecDepth 100000 in
theorem eq_I_Contest_base (x : In pk_I_Contest_base) : semF (mkE []) h_I_Contest_base (info Tryz.f151) pk_I_Contest_base rk_I_Contest_base x = M_I_Contest_base x := (semFF_eq _ _ _ _ _ _).symm.trans (by kernel_rfl)

set_option maxRecDepth 100000 in
theorem m_I_Contest_base : ConOK Tryz.prog 151 c_I_Contest_base := fn_ok (tyOK _) (E := mkE []) (consOK_nil rfl) Tryz.func151 (h := h_I_Contest_base) (by kernel_rfl) eq_I_Contest_base

/-- I_codeOf -/
def pk_I_codeOf : List PK := [.data (.sl (.int .i64)), .data (.int .i64)]
def rk_I_codeOf : List (Ty × Bool) := [((.int .i64), false)]
def h_I_codeOf : Hints := { loops := [(0, { items := [.slot 5 (.data (.int .i64) []), .slot 6 (.data (.int .i64) [])], kill := [2, 3, 4] ++ (sgN 7 16) })] }
noncomputable def M_I_codeOf (x : ((List Int) × Int)) : (Option Int) :=
  (bindO (some (IntKind.wrap .i64 ((((List.length x.1) : Nat) : Int) - (1 : Int)))) (fun (a0 : Int) => (loopO (fun (again1 : ((Int × Int) → (Option Int))) => (fun (s2 : (Int × Int)) => (cond (decide (s2.2 ≥ (0 : Int))) (bindO (some (IntKind.wrap .i64 (s2.1 * x.2))) (fun (a3 : Int) => (bindO (getI x.1 s2.2) (fun (a4 : Int) => (bindO (some (IntKind.wrap .i64 (a3 + a4))) (fun (a5 : Int) => (bindO (some (IntKind.wrap .i64 (s2.2 - (1 : Int)))) (fun (a6 : Int) => (again1 (a5, a6)))))))))) (some s2.1)))) ((0 : Int), a0))))

noncomputable def c_I_codeOf : Con0 := ⟨pk_I_codeOf, rk_I_codeOf, M_I_codeOf⟩

set_option maxRecDepth 100000 in
theorem eq_I_codeOf (x : In pk_I_codeOf) : semF (mkE []) h_I_codeOf (info Tryz.f150) pk_I_codeOf rk_I_codeOf x = M_I_codeOf x := (semFF_eq _ _ _ _ _ _).symm.trans (by kernel_rfl)

set_option maxRecDepth 100000 in
theorem m_I_codeOf : ConOK Tryz.prog 150 c_I_codeOf := fn_ok (tyOK _) (E := mkE []) (consOK_nil rfl) Tryz.func150 (h := h_I_codeOf) (by kernel_rfl) eq_I_codeOf

/-- I_Contest_code -/
def pk_I_Contest_code : List PK := [.data (.cons (.int .i64) (.cons (.int .i64) (.cons (.int .i64) (.cons (.int .i64) (.one (.int .i64)))))), .data (.sl (.int .i64))]
def rk_I_Contest_code : List (Ty × Bool) := [((.int .i64), false)]
def h_I_Contest_code : Hints := { loops := [] }
noncomputable def M_I_Contest_code (x : ((Int × (Int × (Int × (Int × Int)))) × (List Int))) : (Option Int) :=
  (bindO (M_I_Contest_digits ((x.1.1, (x.1.2.1, (x.1.2.2.1, (x.1.2.2.2.1, x.1.2.2.2.2)))), x.2)) (fun (a0 : (List Int)) => (bindO (M_I_Contest_base (x.1.1, (x.1.2.1, (x.1.2.2.1, (x.1.2.2.2.1, x.1.2.2.2.2))))) (fun (a1 : Int) => (bindO (M_I_codeOf (a0, a1)) (fun (a2 : Int) => (some a2)))))))

noncomputable def c_I_Contest_code : Con0 := ⟨pk_I_Contest_code, rk_I_Contest_code, M_I_Contest_code⟩

set_option maxRecDepth 100000 in
theorem eq_I_Contest_code (x : In pk_I_Contest_code) : semF (mkE [(106, c_I_Contest_digits), (151, c_I_Contest_base), (150, c_I_codeOf)]) h_I_Contest_code (info Tryz.f107) pk_I_Contest_code rk_I_Contest_code x = M_I_Contest_code x := (semFF_eq _ _ _ _ _ _).symm.trans (by kernel_rfl)

set_option maxRecDepth 100000 in
theorem m_I_Contest_code : ConOK Tryz.prog 107 c_I_Contest_code := fn_ok (tyOK _) (E := mkE [(106, c_I_Contest_digits), (151, c_I_Contest_base), (150, c_I_codeOf)]) (consOK_cons m_I_Contest_digits (consOK_cons m_I_Contest_base (consOK_cons m_I_codeOf (consOK_nil rfl)))) Tryz.func107 (h := h_I_Contest_code) (by kernel_rfl) eq_I_Contest_code

/-- I_Contest_exponents -/
def pk_I_Contest_exponents : List PK := [.data (.cons (.int .i64) (.cons (.int .i64) (.cons (.int .i64) (.cons (.int .i64) (.one (.int .i64)))))), .data (.sl (.int .i64))]
def rk_I_Contest_exponents : List (Ty × Bool) := [((.sl (.int .i64)), true)]
def h_I_Contest_exponents : Hints := { loops := [] }
noncomputable def M_I_Contest_exponents (x : ((Int × (Int × (Int × (Int × Int)))) × (List Int))) : (Option (List Int)) :=
  (cond (x.1.1 == (1 : Int)) (bindO (M_I_Contest_digits ((x.1.1, (x.1.2.1, (x.1.2.2.1, (x.1.2.2.2.1, x.1.2.2.2.2)))), x.2)) (fun (a0 : (List Int)) => (some a0))) (cond (x.1.1 == (2 : Int)) (bindO (M_I_Contest_digits ((x.1.1, (x.1.2.1, (x.1.2.2.1, (x.1.2.2.2.1, x.1.2.2.2.2)))), x.2)) (fun (a1 : (List Int)) => (some a1))) (bindO (M_I_Contest_code ((x.1.1, (x.1.2.1, (x.1.2.2.1, (x.1.2.2.2.1, x.1.2.2.2.2)))), x.2)) (fun (a2 : Int) => (some (a2 :: ([] : List Int)))))))

noncomputable def c_I_Contest_exponents : Con0 := ⟨pk_I_Contest_exponents, rk_I_Contest_exponents, M_I_Contest_exponents⟩

set_option maxRecDepth 100000 in
theorem eq_I_Contest_exponents (x : In pk_I_Contest_exponents) : semF (mkE [(106, c_I_Contest_digits), (107, c_I_Contest_code)]) h_I_Contest_exponents (info Tryz.f50) pk_I_Contest_exponents rk_I_Contest_exponents x = M_I_Contest_exponents x := (semFF_eq _ _ _ _ _ _).symm.trans (by kernel_rfl)

set_option maxRecDepth 100000 in
theorem m_I_Contest_exponents : ConOK Tryz.prog 50 c_I_Contest_exponents := fn_ok (tyOK _) (E := mkE [(106, c_I_Contest_digits), (107, c_I_Contest_code)]) (consOK_cons m_I_Contest_digits (consOK_cons m_I_Contest_code (consOK_nil rfl))) Tryz.func50 (h := h_I_Contest_exponents) (by kernel_rfl) eq_I_Contest_exponents

/-- I_TallyVotes -/
def pk_I_TallyVotes : List PK := [.data (.cons (.int .i64) (.cons (.int .i64) (.cons (.int .i64) (.cons (.int .i64) (.one (.int .i64)))))), .data (.sl (.sl (.int .i64)))]
def rk_I_TallyVotes : List (Ty × Bool) := [((.sl (.int .i64)), true), (.bool, false)]
def h_I_TallyVotes : Hints := { loops := [(0, { items := [.slot 29 (.data (.int .i64) []), .arr 6 (.int .i64) true], kill := [0, 1, 3, 4, 5] ++ (sgN 7 20 ++ (sgN 30 26)) }), (2, { items := [.slot 41 (.data (.int .i64) []), .arr 6 (.int .i64) true], kill := [0, 1, 3, 4, 5] ++ (sgN 7 20 ++ (sgN 30 9 ++ (sgN 42 14))) })] }
noncomputable def M_I_TallyVotes (x : ((Int × (Int × (Int × (Int × Int)))) × (List (List Int)))) : (Option ((List Int) × Bool)) :=
  (bindO (M_I_IsValidContest (x.1.1, (x.1.2.1, (x.1.2.2.1, (x.1.2.2.2.1, x.1.2.2.2.2))))) (fun (a0 : Bool) => (cond (not a0) (some (([] : List Int), false)) (bindO (M_I_Contest_isForm (x.1.1, (x.1.2.1, (x.1.2.2.1, (x.1.2.2.2.1, x.1.2.2.2.2))))) (fun (a1 : Bool) => (cond (not a1) (some (([] : List Int), false)) (cond (decide ((((List.length x.2) : Nat) : Int) > (24 : Int))) (some (([] : List Int), false)) (bindO (guardO (((decide ((0 : Int) ≤ x.1.2.1)) && (decide (x.1.2.1 ≤ x.1.2.1))) && (decide (x.1.2.1 ≤ ((lim : Nat) : Int))))) (fun (a2 : Unit) => (loopO (fun (again3 : ((Int × (List Int)) → (Option ((List Int) × Bool)))) => (fun (s4 : (Int × (List Int))) => (cond (decide (s4.1 < (((List.length x.2) : Nat) : Int))) (bindO (getI x.2 s4.1) (fun (a5 : (List Int)) => (bindO (M_I_Contest_isVote ((x.1.1, (x.1.2.1, (x.1.2.2.1, (x.1.2.2.2.1, x.1.2.2.2.2)))), a5)) (fun (a6 : Bool) => (cond (not a6) (some (([] : List Int), false)) (bindO (M_I_Contest_exponents ((x.1.1, (x.1.2.1, (x.1.2.2.1, (x.1.2.2.2.1, x.1.2.2.2.2)))), a5)) (fun (a7 : (List Int)) => (loopO (fun (again8 : ((Int × (List Int)) → (Option ((List Int) × Bool)))) => (fun (s9 : (Int × (List Int))) => (cond (decide (s9.1 < (((List.length a7) : Nat) : Int))) (bindO (getI a7 s9.1) (fun (a10 : Int) => (bindO (getI s9.2 s9.1) (fun (a11 : Int) => (bindO (some (IntKind.wrap .i64 (a11 + a10))) (fun (a12 : Int) => (bindO (getI s9.2 s9.1) (fun (a13 : Int) => (bindO (some (List.set s9.2 (Int.toNat s9.1) a12)) (fun (a14 : (List Int)) => (bindO (some (IntKind.wrap .i64 (s9.1 + (1 : Int)))) (fun (a15 : Int) => (again8 (a15, a14)))))))))))))) (bindO (some (IntKind.wrap .i64 (s4.1 + (1 : Int)))) (fun (a16 : Int) => (again3 (a16, s9.2))))))) ((0 : Int), s4.2))))))))) (some (s4.2, true))))) ((0 : Int), (List.replicate (Int.toNat x.1.2.1) (0 : Int)))))))))))))

noncomputable def c_I_TallyVotes : Con0 := ⟨pk_I_TallyVotes, rk_I_TallyVotes, M_I_TallyVotes⟩

set_option maxRecDepth 100000 in
theorem eq_I_TallyVotes (x : In pk_I_TallyVotes) : semF (mkE [(47, c_I_IsValidContest), (48, c_I_Contest_isForm), (49, c_I_Contest_isVote), (50, c_I_Contest_exponents)]) h_I_TallyVotes (info Tryz.f21) pk_I_TallyVotes rk_I_TallyVotes x = M_I_TallyVotes x := (semFF_eq _ _ _ _ _ _).symm.trans (by kernel_rfl)

set_option maxRecDepth 100000 in
theorem m_I_TallyVotes : ConOK Tryz.prog 21 c_I_TallyVotes := fn_ok (tyOK _) (E := mkE [(47, c_I_IsValidContest), (48, c_I_Contest_isForm), (49, c_I_Contest_isVote), (50, c_I_Contest_exponents)]) (consOK_cons m_I_IsValidContest (consOK_cons m_I_Contest_isForm (consOK_cons m_I_Contest_isVote (consOK_cons m_I_Contest_exponents (consOK_nil rfl))))) Tryz.func21 (h := h_I_TallyVotes) (by kernel_rfl) eq_I_TallyVotes

/-- S_l1Rising -/
def pk_S_l1Rising : List PK := [.data (.sl (.int .i64)), .data (.int .i64), .data (.int .i64)]
def rk_S_l1Rising : List (Ty × Bool) := [(.bool, false)]
def h_S_l1Rising : Hints := { loops := [(0, { items := [.slot 11 (.data (.int .i64) [])], kill := sgN 3 6 ++ (sgN 12 23) })] }
noncomputable def M_S_l1Rising (x : ((List Int) × (Int × Int))) : (Option Bool) :=
  (loopO (fun (again0 : (Int → (Option Bool))) => (fun (s1 : Int) => (cond (decide (s1 < (((List.length x.1) : Nat) : Int))) (bindO (getI x.1 s1) (fun (a2 : Int) => (bindO (M_S_l1In (a2, (x.2.1, x.2.2))) (fun (a3 : Bool) => (cond (not a3) (some false) (cond (decide (s1 > (0 : Int))) (bindO (some (IntKind.wrap .i64 (s1 - (1 : Int)))) (fun (a4 : Int) => (bindO (getI x.1 a4) (fun (a5 : Int) => (cond (decide (a5 ≥ a2)) (some false) (bindO (some (IntKind.wrap .i64 (s1 + (1 : Int)))) (fun (a6 : Int) => (again0 a6)))))))) (bindO (some (IntKind.wrap .i64 (s1 + (1 : Int)))) (fun (a7 : Int) => (again0 a7))))))))) (some true)))) (0 : Int))

noncomputable def c_S_l1Rising : Con0 := ⟨pk_S_l1Rising, rk_S_l1Rising, M_S_l1Rising⟩

set_option maxRecDepth 100000 in
theorem eq_S_l1Rising (x : In pk_S_l1Rising) : semF (mkE [(65, c_S_l1In)]) h_S_l1Rising (info Tryz.f152) pk_S_l1Rising rk_S_l1Rising x = M_S_l1Rising x := (semFF_eq _ _ _ _ _ _).symm.trans (by kernel_rfl)

set_option maxRecDepth 100000 in
theorem m_S_l1Rising : ConOK Tryz.prog 152 c_S_l1Rising := fn_ok (tyOK _) (E := mkE [(65, c_S_l1In)]) (consOK_cons m_S_l1In (consOK_nil rfl)) Tryz.func152 (h := h_S_l1Rising) (by kernel_rfl) eq_S_l1Rising

/-- S_l1All -/
def pk_S_l1All : List PK := [.data (.sl (.int .i64)), .data (.int .i64), .data (.int .i64)]
def rk_S_l1All : List (Ty × Bool) := [(.bool, false)]
def h_S_l1All : Hints := { loops := [(0, { items := [.slot 11 (.data (.int .i64) [])], kill := [0] ++ (sgN 3 6 ++ (sgN 12 9)) })] }
noncomputable def M_S_l1All (x : ((List Int) × (Int × Int))) : (Option Bool) :=
  (loopO (fun (again0 : (Int → (Option Bool))) => (fun (s1 : Int) => (cond (decide (s1 < (((List.length x.1) : Nat) : Int))) (bindO (getI x.1 s1) (fun (a2 : Int) => (bindO (M_S_l1In (a2, (x.2.1, x.2.2))) (fun (a3 : Bool) => (cond (not a3) (some false) (bindO (some (IntKind.wrap .i64 (s1 + (1 : Int)))) (fun (a4 : Int) => (again0 a4)))))))) (some true)))) (0 : Int))

noncomputable def c_S_l1All : Con0 := ⟨pk_S_l1All, rk_S_l1All, M_S_l1All⟩

set_option maxRecDepth 100000 in
theorem eq_S_l1All (x : In pk_S_l1All) : semF (mkE [(65, c_S_l1In)]) h_S_l1All (info Tryz.f111) pk_S_l1All rk_S_l1All x = M_S_l1All x := (semFF_eq _ _ _ _ _ _).symm.trans (by kernel_rfl)

set_option maxRecDepth 100000 in
theorem m_S_l1All : ConOK Tryz.prog 111 c_S_l1All := fn_ok (tyOK _) (E := mkE [(65, c_S_l1In)]) (consOK_cons m_S_l1In (consOK_nil rfl)) Tryz.func111 (h := h_S_l1All) (by kernel_rfl) eq_S_l1All

/-- S_vPlain -/
def pk_S_vPlain : List PK := [.data (.sl (.int .i64))]
def rk_S_vPlain : List (Ty × Bool) := [((.int .i64), false)]
def h_S_vPlain : Hints := { loops := [(0, { items := [.slot 3 (.data (.int .i64) []), .slot 8 (.data (.int .i64) [])], kill := [0, 1, 2, 4, 5] ++ (sgN 9 8) })] }
noncomputable def M_S_vPlain (x : (List Int)) : (Option Int) :=
  (loopO (fun (again0 : ((Int × Int) → (Option Int))) => (fun (s1 : (Int × Int)) => (cond (decide (s1.2 < (((List.length x) : Nat) : Int))) (bindO (getI x s1.2) (fun (a2 : Int) => (bindO (some (IntKind.wrap .i64 (s1.1 + a2))) (fun (a3 : Int) => (bindO (some (IntKind.wrap .i64 (s1.2 + (1 : Int)))) (fun (a4 : Int) => (again0 (a3, a4)))))))) (some s1.1)))) ((0 : Int), (0 : Int)))

noncomputable def c_S_vPlain : Con0 := ⟨pk_S_vPlain, rk_S_vPlain, M_S_vPlain⟩

set_option maxRecDepth 100000 in
theorem eq_S_vPlain (x : In pk_S_vPlain) : semF (mkE []) h_S_vPlain (info Tryz.f153) pk_S_vPlain rk_S_vPlain x = M_S_vPlain x := (semFF_eq _ _ _ _ _ _).symm.trans (by kernel_rfl)

set_option maxRecDepth 100000 in
theorem m_S_vPlain : ConOK Tryz.prog 153 c_S_vPlain := fn_ok (tyOK _) (E := mkE []) (consOK_nil rfl) Tryz.func153 (h := h_S_vPlain) (by kernel_rfl) eq_S_vPlain

/-- S_vDifferent -/
def pk_S_vDifferent : List PK := [.data (.sl (.int .i64))]
def rk_S_vDifferent : List (Ty × Bool) := [(.bool, false)]
def h_S_vDifferent : Hints := { loops := [(0, { items := [.slot 7 (.data (.int .i64) [])], kill := sgN 1 4 ++ (sgN 8 10) })] }
noncomputable def M_S_vDifferent (x : (List Int)) : (Option Bool) :=
  (loopO (fun (again0 : (Int → (Option Bool))) => (fun (s1 : Int) => (cond (decide (s1 < (((List.length x) : Nat) : Int))) (bindO (getI x s1) (fun (a2 : Int) => (bindO (sliceNH s1 (List.length x)) (fun (a3 : (Nat × Nat)) => (bindO (M_S_l1Has ((List.drop a3.1 (List.take a3.2 x)), a2)) (fun (a4 : Bool) => (cond a4 (some false) (bindO (some (IntKind.wrap .i64 (s1 + (1 : Int)))) (fun (a5 : Int) => (again0 a5)))))))))) (some true)))) (0 : Int))

noncomputable def c_S_vDifferent : Con0 := ⟨pk_S_vDifferent, rk_S_vDifferent, M_S_vDifferent⟩

set_option maxRecDepth 100000 in
theorem eq_S_vDifferent (x : In pk_S_vDifferent) : semF (mkE [(82, c_S_l1Has)]) h_S_vDifferent (info Tryz.f154) pk_S_vDifferent rk_S_vDifferent x = M_S_vDifferent x := (semFF_eq _ _ _ _ _ _).symm.trans (by kernel_rfl)

set_option maxRecDepth 100000 in
theorem m_S_vDifferent : ConOK Tryz.prog 154 c_S_vDifferent := fn_ok (tyOK _) (E := mkE [(82, c_S_l1Has)]) (consOK_cons m_S_l1Has (consOK_nil rfl)) Tryz.func154 (h := h_S_vDifferent) (by kernel_rfl) eq_S_vDifferent

/-- S_vVote -/
def pk_S_vVote : List PK := [.data (.cons (.int .i64) (.cons (.int .i64) (.cons (.int .i64) (.cons (.int .i64) (.one (.int .i64)))))), .data (.sl (.int .i64))]
def rk_S_vVote : List (Ty × Bool) := [(.bool, false)]
def h_S_vVote : Hints := { loops := [] }
noncomputable def M_S_vVote (x : ((Int × (Int × (Int × (Int × Int)))) × (List Int))) : (Option Bool) :=
  (cond (x.1.1 == (1 : Int)) (bindO (some (IntKind.wrap .i64 (x.1.2.1 - (1 : Int)))) (fun (a0 : Int) => (bindO (M_S_l1Rising (x.2, ((0 : Int), a0))) (fun (a1 : Bool) => (cond a1 (bindO (M_S_l1In ((((List.length x.2) : Nat) : Int), (x.1.2.2.1, x.1.2.2.2.1))) (fun (a2 : Bool) => (some a2))) (some false)))))) (cond (x.1.1 == (2 : Int)) (cond ((((List.length x.2) : Nat) : Int) == x.1.2.1) (bindO (M_S_l1All (x.2, ((0 : Int), x.1.2.2.2.2))) (fun (a3 : Bool) => (cond a3 (bindO (M_S_vPlain x.2) (fun (a4 : Int) => (bindO (M_S_l1In (a4, (x.1.2.2.1, x.1.2.2.2.1))) (fun (a5 : Bool) => (some a5))))) (some false)))) (some false)) (cond (x.1.1 == (3 : Int)) (bindO (some (IntKind.wrap .i64 (x.1.2.1 - (1 : Int)))) (fun (a6 : Int) => (bindO (M_S_l1All (x.2, ((0 : Int), a6))) (fun (a7 : Bool) => (cond a7 (bindO (M_S_vDifferent x.2) (fun (a8 : Bool) => (cond a8 (bindO (M_S_l1In ((((List.length x.2) : Nat) : Int), (x.1.2.2.1, x.1.2.2.2.1))) (fun (a9 : Bool) => (some a9))) (some false)))) (some false)))))) (bindO (M_S_l1All (x.2, ((1 : Int), (26 : Int)))) (fun (a10 : Bool) => (cond a10 (bindO (M_S_l1In ((((List.length x.2) : Nat) : Int), (x.1.2.2.1, x.1.2.2.2.1))) (fun (a11 : Bool) => (some a11))) (some false)))))))

noncomputable def c_S_vVote : Con0 := ⟨pk_S_vVote, rk_S_vVote, M_S_vVote⟩

set_option maxRecDepth 100000 in
theorem eq_S_vVote (x : In pk_S_vVote) : semF (mkE [(152, c_S_l1Rising), (65, c_S_l1In), (111, c_S_l1All), (153, c_S_vPlain), (154, c_S_vDifferent)]) h_S_vVote (info Tryz.f108) pk_S_vVote rk_S_vVote x = M_S_vVote x := (semFF_eq _ _ _ _ _ _).symm.trans (by kernel_rfl)

set_option maxRecDepth 100000 in
theorem m_S_vVote : ConOK Tryz.prog 108 c_S_vVote := fn_ok (tyOK _) (E := mkE [(152, c_S_l1Rising), (65, c_S_l1In), (111, c_S_l1All), (153, c_S_vPlain), (154, c_S_vDifferent)]) (consOK_cons m_S_l1Rising (consOK_cons m_S_l1In (consOK_cons m_S_l1All (consOK_cons m_S_vPlain (consOK_cons m_S_vDifferent (consOK_nil rfl)))))) Tryz.func108 (h := h_S_vVote) (by kernel_rfl) eq_S_vVote

/-- S_tVotes -/
def pk_S_tVotes : List PK := [.data (.cons (.int .i64) (.cons (.int .i64) (.cons (.int .i64) (.cons (.int .i64) (.one (.int .i64)))))), .data (.sl (.sl (.int .i64)))]
def rk_S_tVotes : List (Ty × Bool) := [(.bool, false)]
def h_S_tVotes : Hints := { loops := [(0, { items := [.slot 17 (.data (.int .i64) [])], kill := [0, 1] ++ (sgN 3 12 ++ (sgN 18 8)) })] }
noncomputable def M_S_tVotes (x : ((Int × (Int × (Int × (Int × Int)))) × (List (List Int)))) : (Option Bool) :=
  (bindO (M_S_vContest (x.1.1, (x.1.2.1, (x.1.2.2.1, (x.1.2.2.2.1, x.1.2.2.2.2))))) (fun (a0 : Bool) => (cond (not a0) (some false) (cond (decide ((((List.length x.2) : Nat) : Int) > (24 : Int))) (some false) (loopO (fun (again1 : (Int → (Option Bool))) => (fun (s2 : Int) => (cond (decide (s2 < (((List.length x.2) : Nat) : Int))) (bindO (getI x.2 s2) (fun (a3 : (List Int)) => (bindO (M_S_vVote ((x.1.1, (x.1.2.1, (x.1.2.2.1, (x.1.2.2.2.1, x.1.2.2.2.2)))), a3)) (fun (a4 : Bool) => (cond (not a4) (some false) (bindO (some (IntKind.wrap .i64 (s2 + (1 : Int)))) (fun (a5 : Int) => (again1 a5)))))))) (some true)))) (0 : Int))))))

noncomputable def c_S_tVotes : Con0 := ⟨pk_S_tVotes, rk_S_tVotes, M_S_tVotes⟩

set_option maxRecDepth 100000 in
theorem eq_S_tVotes (x : In pk_S_tVotes) : semF (mkE [(43, c_S_vContest), (108, c_S_vVote)]) h_S_tVotes (info Tryz.f51) pk_S_tVotes rk_S_tVotes x = M_S_tVotes x := (semFF_eq _ _ _ _ _ _).symm.trans (by kernel_rfl)

set_option maxRecDepth 100000 in
theorem m_S_tVotes : ConOK Tryz.prog 51 c_S_tVotes := fn_ok (tyOK _) (E := mkE [(43, c_S_vContest), (108, c_S_vVote)]) (consOK_cons m_S_vContest (consOK_cons m_S_vVote (consOK_nil rfl))) Tryz.func51 (h := h_S_tVotes) (by kernel_rfl) eq_S_tVotes

/-- S_vMarks -/
def pk_S_vMarks : List PK := [.data (.cons (.int .i64) (.cons (.int .i64) (.cons (.int .i64) (.cons (.int .i64) (.one (.int .i64)))))), .data (.sl (.int .i64))]
def rk_S_vMarks : List (Ty × Bool) := [((.sl (.int .i64)), true)]
def h_S_vMarks : Hints := { loops := [(0, { items := [.slot 13 (.data (.int .i64) []), .arr 5 (.int .i64) true], kill := sgN 0 5 ++ (sgN 6 5 ++ (sgN 14 8)) })] }
noncomputable def M_S_vMarks (x : ((Int × (Int × (Int × (Int × Int)))) × (List Int))) : (Option (List Int)) :=
  (bindO (guardO (((decide ((0 : Int) ≤ x.1.2.1)) && (decide (x.1.2.1 ≤ x.1.2.1))) && (decide (x.1.2.1 ≤ ((lim : Nat) : Int))))) (fun (a0 : Unit) => (loopO (fun (again1 : ((Int × (List Int)) → (Option (List Int)))) => (fun (s2 : (Int × (List Int))) => (cond (decide (s2.1 < (((List.length x.2) : Nat) : Int))) (bindO (getI x.2 s2.1) (fun (a3 : Int) => (bindO (getI s2.2 a3) (fun (a4 : Int) => (bindO (some (List.set s2.2 (Int.toNat a3) (1 : Int))) (fun (a5 : (List Int)) => (bindO (some (IntKind.wrap .i64 (s2.1 + (1 : Int)))) (fun (a6 : Int) => (again1 (a6, a5)))))))))) (some s2.2)))) ((0 : Int), (List.replicate (Int.toNat x.1.2.1) (0 : Int))))))

noncomputable def c_S_vMarks : Con0 := ⟨pk_S_vMarks, rk_S_vMarks, M_S_vMarks⟩

set_option maxRecDepth 100000 in
theorem eq_S_vMarks (x : In pk_S_vMarks) : semF (mkE []) h_S_vMarks (info Tryz.f109) pk_S_vMarks rk_S_vMarks x = M_S_vMarks x := (semFF_eq _ _ _ _ _ _).symm.trans (by kernel_rfl)

set_option maxRecDepth 100000 in
theorem m_S_vMarks : ConOK Tryz.prog 109 c_S_vMarks := fn_ok (tyOK _) (E := mkE []) (consOK_nil rfl) Tryz.func109 (h := h_S_vMarks) (by kernel_rfl) eq_S_vMarks

/-- S_vNumber -/
def pk_S_vNumber : List PK := [.data (.sl (.int .i64)), .data (.int .i64), .data (.int .i64)]
def rk_S_vNumber : List (Ty × Bool) := [((.int .i64), false)]
def h_S_vNumber : Hints := { loops := [(0, { items := [.slot 7 (.data (.int .i64) []), .slot 8 (.data (.int .i64) [])], kill := sgN 3 4 ++ (sgN 9 18) })] }
noncomputable def M_S_vNumber (x : ((List Int) × (Int × Int))) : (Option Int) :=
  (bindO (some (IntKind.wrap .i64 ((((List.length x.1) : Nat) : Int) - (1 : Int)))) (fun (a0 : Int) => (loopO (fun (again1 : ((Int × Int) → (Option Int))) => (fun (s2 : (Int × Int)) => (cond (decide (s2.2 ≥ (0 : Int))) (bindO (some (IntKind.wrap .i64 (s2.1 * x.2.1))) (fun (a3 : Int) => (bindO (getI x.1 s2.2) (fun (a4 : Int) => (bindO (some (IntKind.wrap .i64 (a3 + a4))) (fun (a5 : Int) => (bindO (some (IntKind.wrap .i64 (a5 + x.2.2))) (fun (a6 : Int) => (bindO (some (IntKind.wrap .i64 (s2.2 - (1 : Int)))) (fun (a7 : Int) => (again1 (a6, a7)))))))))))) (some s2.1)))) ((0 : Int), a0))))

noncomputable def c_S_vNumber : Con0 := ⟨pk_S_vNumber, rk_S_vNumber, M_S_vNumber⟩

set_option maxRecDepth 100000 in
theorem eq_S_vNumber (x : In pk_S_vNumber) : semF (mkE []) h_S_vNumber (info Tryz.f155) pk_S_vNumber rk_S_vNumber x = M_S_vNumber x := (semFF_eq _ _ _ _ _ _).symm.trans (by kernel_rfl)

set_option maxRecDepth 100000 in
theorem m_S_vNumber : ConOK Tryz.prog 155 c_S_vNumber := fn_ok (tyOK _) (E := mkE []) (consOK_nil rfl) Tryz.func155 (h := h_S_vNumber) (by kernel_rfl) eq_S_vNumber

/-- S_vCode -/
def pk_S_vCode : List PK := [.data (.cons (.int .i64) (.cons (.int .i64) (.cons (.int .i64) (.cons (.int .i64) (.one (.int .i64)))))), .data (.sl (.int .i64))]
def rk_S_vCode : List (Ty × Bool) := [((.int .i64), false)]
def h_S_vCode : Hints := { loops := [] }
noncomputable def M_S_vCode (x : ((Int × (Int × (Int × (Int × Int)))) × (List Int))) : (Option Int) :=
  (cond (x.1.1 == (1 : Int)) (bindO (M_S_vMarks ((x.1.1, (x.1.2.1, (x.1.2.2.1, (x.1.2.2.2.1, x.1.2.2.2.2)))), x.2)) (fun (a0 : (List Int)) => (bindO (M_S_vNumber (a0, ((2 : Int), (0 : Int)))) (fun (a1 : Int) => (some a1))))) (cond (x.1.1 == (2 : Int)) (bindO (some (IntKind.wrap .i64 (x.1.2.2.2.2 + (1 : Int)))) (fun (a2 : Int) => (bindO (M_S_vNumber (x.2, (a2, (0 : Int)))) (fun (a3 : Int) => (some a3))))) (cond (x.1.1 == (3 : Int)) (bindO (some (IntKind.wrap .i64 (x.1.2.1 + (1 : Int)))) (fun (a4 : Int) => (bindO (M_S_vNumber (x.2, (a4, (1 : Int)))) (fun (a5 : Int) => (some a5))))) (bindO (M_S_vNumber (x.2, ((27 : Int), (0 : Int)))) (fun (a6 : Int) => (some a6))))))

noncomputable def c_S_vCode : Con0 := ⟨pk_S_vCode, rk_S_vCode, M_S_vCode⟩

set_option maxRecDepth 100000 in
theorem eq_S_vCode (x : In pk_S_vCode) : semF (mkE [(109, c_S_vMarks), (155, c_S_vNumber)]) h_S_vCode (info Tryz.f110) pk_S_vCode rk_S_vCode x = M_S_vCode x := (semFF_eq _ _ _ _ _ _).symm.trans (by kernel_rfl)

set_option maxRecDepth 100000 in
theorem m_S_vCode : ConOK Tryz.prog 110 c_S_vCode := fn_ok (tyOK _) (E := mkE [(109, c_S_vMarks), (155, c_S_vNumber)]) (consOK_cons m_S_vMarks (consOK_cons m_S_vNumber (consOK_nil rfl))) Tryz.func110 (h := h_S_vCode) (by kernel_rfl) eq_S_vCode

/-- S_vExps -/
def pk_S_vExps : List PK := [.data (.cons (.int .i64) (.cons (.int .i64) (.cons (.int .i64) (.cons (.int .i64) (.one (.int .i64)))))), .data (.sl (.int .i64))]
def rk_S_vExps : List (Ty × Bool) := [((.sl (.int .i64)), true)]
def h_S_vExps : Hints := { loops := [] }
noncomputable def M_S_vExps (x : ((Int × (Int × (Int × (Int × Int)))) × (List Int))) : (Option (List Int)) :=
  (cond (x.1.1 == (1 : Int)) (bindO (M_S_vMarks ((x.1.1, (x.1.2.1, (x.1.2.2.1, (x.1.2.2.2.1, x.1.2.2.2.2)))), x.2)) (fun (a0 : (List Int)) => (some a0))) (cond (x.1.1 == (2 : Int)) (bindO (M_S_l1Own x.2) (fun (a1 : (List Int)) => (some a1))) (bindO (M_S_vCode ((x.1.1, (x.1.2.1, (x.1.2.2.1, (x.1.2.2.2.1, x.1.2.2.2.2)))), x.2)) (fun (a2 : Int) => (some (a2 :: ([] : List Int)))))))

noncomputable def c_S_vExps : Con0 := ⟨pk_S_vExps, rk_S_vExps, M_S_vExps⟩

set_option maxRecDepth 100000 in
theorem eq_S_vExps (x : In pk_S_vExps) : semF (mkE [(109, c_S_vMarks), (100, c_S_l1Own), (110, c_S_vCode)]) h_S_vExps (info Tryz.f54) pk_S_vExps rk_S_vExps x = M_S_vExps x := (semFF_eq _ _ _ _ _ _).symm.trans (by kernel_rfl)

set_option maxRecDepth 100000 in
theorem m_S_vExps : ConOK Tryz.prog 54 c_S_vExps := fn_ok (tyOK _) (E := mkE [(109, c_S_vMarks), (100, c_S_l1Own), (110, c_S_vCode)]) (consOK_cons m_S_vMarks (consOK_cons m_S_l1Own (consOK_cons m_S_vCode (consOK_nil rfl)))) Tryz.func54 (h := h_S_vExps) (by kernel_rfl) eq_S_vExps

/-- S_tTally -/
def pk_S_tTally : List PK := [.data (.cons (.int .i64) (.cons (.int .i64) (.cons (.int .i64) (.cons (.int .i64) (.one (.int .i64)))))), .data (.sl (.sl (.int .i64)))]
def rk_S_tTally : List (Ty × Bool) := [((.sl (.int .i64)), true)]
def h_S_tTally : Hints := { loops := [(0, { items := [.slot 15 (.data (.int .i64) []), .arr 5 (.int .i64) true], kill := [0, 1, 3, 4] ++ (sgN 6 7 ++ (sgN 16 22)) }), (2, { items := [.slot 23 (.data (.int .i64) []), .arr 5 (.int .i64) true], kill := [0, 1, 3, 4] ++ (sgN 6 7 ++ (sgN 16 5 ++ (sgN 24 14))) })] }
noncomputable def M_S_tTally (x : ((Int × (Int × (Int × (Int × Int)))) × (List (List Int)))) : (Option (List Int)) :=
  (bindO (guardO (((decide ((0 : Int) ≤ x.1.2.1)) && (decide (x.1.2.1 ≤ x.1.2.1))) && (decide (x.1.2.1 ≤ ((lim : Nat) : Int))))) (fun (a0 : Unit) => (loopO (fun (again1 : ((Int × (List Int)) → (Option (List Int)))) => (fun (s2 : (Int × (List Int))) => (cond (decide (s2.1 < (((List.length x.2) : Nat) : Int))) (bindO (getI x.2 s2.1) (fun (a3 : (List Int)) => (bindO (M_S_vExps ((x.1.1, (x.1.2.1, (x.1.2.2.1, (x.1.2.2.2.1, x.1.2.2.2.2)))), a3)) (fun (a4 : (List Int)) => (loopO (fun (again5 : ((Int × (List Int)) → (Option (List Int)))) => (fun (s6 : (Int × (List Int))) => (cond (decide (s6.1 < (((List.length a4) : Nat) : Int))) (bindO (getI a4 s6.1) (fun (a7 : Int) => (bindO (getI s6.2 s6.1) (fun (a8 : Int) => (bindO (some (IntKind.wrap .i64 (a8 + a7))) (fun (a9 : Int) => (bindO (getI s6.2 s6.1) (fun (a10 : Int) => (bindO (some (List.set s6.2 (Int.toNat s6.1) a9)) (fun (a11 : (List Int)) => (bindO (some (IntKind.wrap .i64 (s6.1 + (1 : Int)))) (fun (a12 : Int) => (again5 (a12, a11)))))))))))))) (bindO (some (IntKind.wrap .i64 (s2.1 + (1 : Int)))) (fun (a13 : Int) => (again1 (a13, s6.2))))))) ((0 : Int), s2.2)))))) (some s2.2)))) ((0 : Int), (List.replicate (Int.toNat x.1.2.1) (0 : Int))))))

noncomputable def c_S_tTally : Con0 := ⟨pk_S_tTally, rk_S_tTally, M_S_tTally⟩

set_option maxRecDepth 100000 in
theorem eq_S_tTally (x : In pk_S_tTally) : semF (mkE [(54, c_S_vExps)]) h_S_tTally (info Tryz.f52) pk_S_tTally rk_S_tTally x = M_S_tTally x := (semFF_eq _ _ _ _ _ _).symm.trans (by kernel_rfl)

set_option maxRecDepth 100000 in
theorem m_S_tTally : ConOK Tryz.prog 52 c_S_tTally := fn_ok (tyOK _) (E := mkE [(54, c_S_vExps)]) (consOK_cons m_S_vExps (consOK_nil rfl)) Tryz.func52 (h := h_S_tTally) (by kernel_rfl) eq_S_tTally

/-- S_TallyVotes -/
def pk_S_TallyVotes : List PK := [.data (.cons (.int .i64) (.cons (.int .i64) (.cons (.int .i64) (.cons (.int .i64) (.one (.int .i64)))))), .data (.sl (.sl (.int .i64)))]
def rk_S_TallyVotes : List (Ty × Bool) := [((.sl (.int .i64)), true), (.bool, false)]
def h_S_TallyVotes : Hints := { loops := [] }
noncomputable def M_S_TallyVotes (x : ((Int × (Int × (Int × (Int × Int)))) × (List (List Int)))) : (Option ((List Int) × Bool)) :=
  (cond (x.1.1 != (1 : Int)) (cond (x.1.1 != (2 : Int)) (some (([] : List Int), false)) (bindO (M_S_tVotes ((x.1.1, (x.1.2.1, (x.1.2.2.1, (x.1.2.2.2.1, x.1.2.2.2.2)))), x.2)) (fun (a0 : Bool) => (cond (not a0) (some (([] : List Int), false)) (bindO (M_S_tTally ((x.1.1, (x.1.2.1, (x.1.2.2.1, (x.1.2.2.2.1, x.1.2.2.2.2)))), x.2)) (fun (a1 : (List Int)) => (some (a1, true)))))))) (bindO (M_S_tVotes ((x.1.1, (x.1.2.1, (x.1.2.2.1, (x.1.2.2.2.1, x.1.2.2.2.2)))), x.2)) (fun (a2 : Bool) => (cond (not a2) (some (([] : List Int), false)) (bindO (M_S_tTally ((x.1.1, (x.1.2.1, (x.1.2.2.1, (x.1.2.2.2.1, x.1.2.2.2.2)))), x.2)) (fun (a3 : (List Int)) => (some (a3, true))))))))

noncomputable def c_S_TallyVotes : Con0 := ⟨pk_S_TallyVotes, rk_S_TallyVotes, M_S_TallyVotes⟩

set_option maxRecDepth 100000 in
theorem eq_S_TallyVotes (x : In pk_S_TallyVotes) : semF (mkE [(51, c_S_tVotes), (52, c_S_tTally)]) h_S_TallyVotes (info Tryz.f22) pk_S_TallyVotes rk_S_TallyVotes x = M_S_TallyVotes x := (semFF_eq _ _ _ _ _ _).symm.trans (by kernel_rfl)

set_option maxRecDepth 100000 in
theorem m_S_TallyVotes : ConOK Tryz.prog 22 c_S_TallyVotes := fn_ok (tyOK _) (E := mkE [(51, c_S_tVotes), (52, c_S_tTally)]) (consOK_cons m_S_tVotes (consOK_cons m_S_tTally (consOK_nil rfl))) Tryz.func22 (h := h_S_TallyVotes) (by kernel_rfl) eq_S_TallyVotes

/-- L_sameInts -/
def pk_L_sameInts : List PK := [.data (.sl (.int .i64)), .data (.sl (.int .i64))]
def rk_L_sameInts : List (Ty × Bool) := [(.bool, false)]
def h_L_sameInts : Hints := { loops := [(0, { items := [.slot 13 (.data (.int .i64) [])], kill := sgN 2 10 ++ (sgN 14 12) })] }
noncomputable def M_L_sameInts (x : ((List Int) × (List Int))) : (Option Bool) :=
  (cond ((((List.length x.1) : Nat) : Int) != (((List.length x.2) : Nat) : Int)) (some false) (loopO (fun (again0 : (Int → (Option Bool))) => (fun (s1 : Int) => (cond (decide (s1 < (((List.length x.1) : Nat) : Int))) (bindO (getI x.1 s1) (fun (a2 : Int) => (bindO (getI x.2 s1) (fun (a3 : Int) => (cond (a2 != a3) (some false) (bindO (some (IntKind.wrap .i64 (s1 + (1 : Int)))) (fun (a4 : Int) => (again0 a4)))))))) (some true)))) (0 : Int)))

noncomputable def c_L_sameInts : Con0 := ⟨pk_L_sameInts, rk_L_sameInts, M_L_sameInts⟩

set_option maxRecDepth 100000 in
theorem eq_L_sameInts (x : In pk_L_sameInts) : semF (mkE []) h_L_sameInts (info Tryz.f23) pk_L_sameInts rk_L_sameInts x = M_L_sameInts x := (semFF_eq _ _ _ _ _ _).symm.trans (by kernel_rfl)

set_option maxRecDepth 100000 in
theorem m_L_sameInts : ConOK Tryz.prog 23 c_L_sameInts := fn_ok (tyOK _) (E := mkE []) (consOK_nil rfl) Tryz.func23 (h := h_L_sameInts) (by kernel_rfl) eq_L_sameInts

/-- S_vGood -/
def pk_S_vGood : List PK := [.data (.cons (.int .i64) (.cons (.int .i64) (.cons (.int .i64) (.cons (.int .i64) (.one (.int .i64)))))), .data (.sl (.int .i64))]
def rk_S_vGood : List (Ty × Bool) := [(.bool, false)]
def h_S_vGood : Hints := { loops := [] }
noncomputable def M_S_vGood (x : ((Int × (Int × (Int × (Int × Int)))) × (List Int))) : (Option Bool) :=
  (bindO (M_S_vContest (x.1.1, (x.1.2.1, (x.1.2.2.1, (x.1.2.2.2.1, x.1.2.2.2.2))))) (fun (a0 : Bool) => (cond a0 (bindO (M_S_vVote ((x.1.1, (x.1.2.1, (x.1.2.2.1, (x.1.2.2.2.1, x.1.2.2.2.2)))), x.2)) (fun (a1 : Bool) => (some a1))) (some false))))

noncomputable def c_S_vGood : Con0 := ⟨pk_S_vGood, rk_S_vGood, M_S_vGood⟩

set_option maxRecDepth 100000 in
theorem eq_S_vGood (x : In pk_S_vGood) : semF (mkE [(43, c_S_vContest), (108, c_S_vVote)]) h_S_vGood (info Tryz.f53) pk_S_vGood rk_S_vGood x = M_S_vGood x := (semFF_eq _ _ _ _ _ _).symm.trans (by kernel_rfl)

set_option maxRecDepth 100000 in
theorem m_S_vGood : ConOK Tryz.prog 53 c_S_vGood := fn_ok (tyOK _) (E := mkE [(43, c_S_vContest), (108, c_S_vVote)]) (consOK_cons m_S_vContest (consOK_cons m_S_vVote (consOK_nil rfl))) Tryz.func53 (h := h_S_vGood) (by kernel_rfl) eq_S_vGood

/-- S_ExponentsOf -/
def pk_S_ExponentsOf : List PK := [.data (.cons (.int .i64) (.cons (.int .i64) (.cons (.int .i64) (.cons (.int .i64) (.one (.int .i64)))))), .data (.sl (.int .i64))]
def rk_S_ExponentsOf : List (Ty × Bool) := [((.sl (.int .i64)), true), (.bool, false)]
def h_S_ExponentsOf : Hints := { loops := [] }
noncomputable def M_S_ExponentsOf (x : ((Int × (Int × (Int × (Int × Int)))) × (List Int))) : (Option ((List Int) × Bool)) :=
  (bindO (M_S_vGood ((x.1.1, (x.1.2.1, (x.1.2.2.1, (x.1.2.2.2.1, x.1.2.2.2.2)))), x.2)) (fun (a0 : Bool) => (cond (not a0) (some (([] : List Int), false)) (bindO (M_S_vExps ((x.1.1, (x.1.2.1, (x.1.2.2.1, (x.1.2.2.2.1, x.1.2.2.2.2)))), x.2)) (fun (a1 : (List Int)) => (some (a1, true)))))))

noncomputable def c_S_ExponentsOf : Con0 := ⟨pk_S_ExponentsOf, rk_S_ExponentsOf, M_S_ExponentsOf⟩

set_option maxRecDepth 100000 in
theorem eq_S_ExponentsOf (x : In pk_S_ExponentsOf) : semF (mkE [(53, c_S_vGood), (54, c_S_vExps)]) h_S_ExponentsOf (info Tryz.f24) pk_S_ExponentsOf rk_S_ExponentsOf x = M_S_ExponentsOf x := (semFF_eq _ _ _ _ _ _).symm.trans (by kernel_rfl)

set_option maxRecDepth 100000 in
theorem m_S_ExponentsOf : ConOK Tryz.prog 24 c_S_ExponentsOf := fn_ok (tyOK _) (E := mkE [(53, c_S_vGood), (54, c_S_vExps)]) (consOK_cons m_S_vGood (consOK_cons m_S_vExps (consOK_nil rfl))) Tryz.func24 (h := h_S_ExponentsOf) (by kernel_rfl) eq_S_ExponentsOf

/-- S_nPower -/
def pk_S_nPower : List PK := [.data (.int .i64), .data (.int .i64), .data (.int .i64)]
def rk_S_nPower : List (Ty × Bool) := [((.int .i64), false)]
def h_S_nPower : Hints := { loops := [(0, { items := [.slot 0 (.data (.int .i64) []), .slot 1 (.data (.int .i64) []), .slot 7 (.data (.int .i64) [])], kill := sgN 3 4 ++ (sgN 8 20) })] }
noncomputable def M_S_nPower (x : (Int × (Int × Int))) : (Option Int) :=
  (bindO (guardO (x.2.2 != (0 : Int))) (fun (a0 : Unit) => (bindO (some (Int.tmod (1 : Int) x.2.2)) (fun (a1 : Int) => (loopO (fun (again2 : ((Int × (Int × Int)) → (Option Int))) => (fun (s3 : (Int × (Int × Int))) => (cond (decide (s3.2.1 > (0 : Int))) (bindO (guardO ((2 : Int) != (0 : Int))) (fun (a4 : Unit) => (bindO (some (Int.tmod s3.2.1 (2 : Int))) (fun (a5 : Int) => (cond (a5 == (1 : Int)) (bindO (some (IntKind.wrap .i64 (s3.2.2 * s3.1))) (fun (a6 : Int) => (bindO (guardO (x.2.2 != (0 : Int))) (fun (a7 : Unit) => (bindO (some (Int.tmod a6 x.2.2)) (fun (a8 : Int) => (bindO (some (IntKind.wrap .i64 (s3.1 * s3.1))) (fun (a9 : Int) => (bindO (guardO (x.2.2 != (0 : Int))) (fun (a10 : Unit) => (bindO (some (Int.tmod a9 x.2.2)) (fun (a11 : Int) => (bindO (guardO ((2 : Int) != (0 : Int))) (fun (a12 : Unit) => (bindO (some (IntKind.wrap .i64 (Int.tdiv s3.2.1 (2 : Int)))) (fun (a13 : Int) => (again2 (a11, (a13, a8))))))))))))))))))) (bindO (some (IntKind.wrap .i64 (s3.1 * s3.1))) (fun (a14 : Int) => (bindO (guardO (x.2.2 != (0 : Int))) (fun (a15 : Unit) => (bindO (some (Int.tmod a14 x.2.2)) (fun (a16 : Int) => (bindO (guardO ((2 : Int) != (0 : Int))) (fun (a17 : Unit) => (bindO (some (IntKind.wrap .i64 (Int.tdiv s3.2.1 (2 : Int)))) (fun (a18 : Int) => (again2 (a16, (a18, s3.2.2)))))))))))))))))) (some s3.2.2)))) (x.1, (x.2.1, a1)))))))

noncomputable def c_S_nPower : Con0 := ⟨pk_S_nPower, rk_S_nPower, M_S_nPower⟩

set_option maxRecDepth 100000 in
theorem eq_S_nPower (x : In pk_S_nPower) : semF (mkE []) h_S_nPower (info Tryz.f69) pk_S_nPower rk_S_nPower x = M_S_nPower x := (semFF_eq _ _ _ _ _ _).symm.trans (by kernel_rfl)

set_option maxRecDepth 100000 in
theorem m_S_nPower : ConOK Tryz.prog 69 c_S_nPower := fn_ok (tyOK _) (E := mkE []) (consOK_nil rfl) Tryz.func69 (h := h_S_nPower) (by kernel_rfl) eq_S_nPower

/-- S_nPrime -/
def pk_S_nPrime : List PK := [.data (.int .i64)]
def rk_S_nPrime : List (Ty × Bool) := [(.bool, false)]
def h_S_nPrime : Hints := { loops := [(0, { items := [.slot 3 (.data (.int .i64) [])], kill := [1, 2] ++ (sgN 4 13) })] }
noncomputable def M_S_nPrime (x : Int) : (Option Bool) :=
  (cond (decide (x < (2 : Int))) (some false) (loopO (fun (again0 : (Int → (Option Bool))) => (fun (s1 : Int) => (bindO (some (IntKind.wrap .i64 (s1 * s1))) (fun (a2 : Int) => (cond (decide (a2 ≤ x)) (bindO (guardO (s1 != (0 : Int))) (fun (a3 : Unit) => (bindO (some (Int.tmod x s1)) (fun (a4 : Int) => (cond (a4 == (0 : Int)) (some false) (bindO (some (IntKind.wrap .i64 (s1 + (1 : Int)))) (fun (a5 : Int) => (again0 a5)))))))) (some true)))))) (2 : Int)))

noncomputable def c_S_nPrime : Con0 := ⟨pk_S_nPrime, rk_S_nPrime, M_S_nPrime⟩

set_option maxRecDepth 100000 in
theorem eq_S_nPrime (x : In pk_S_nPrime) : semF (mkE []) h_S_nPrime (info Tryz.f123) pk_S_nPrime rk_S_nPrime x = M_S_nPrime x := (semFF_eq _ _ _ _ _ _).symm.trans (by kernel_rfl)

set_option maxRecDepth 100000 in
theorem m_S_nPrime : ConOK Tryz.prog 123 c_S_nPrime := fn_ok (tyOK _) (E := mkE []) (consOK_nil rfl) Tryz.func123 (h := h_S_nPrime) (by kernel_rfl) eq_S_nPrime

/-- S_l2Good -/
def pk_S_l2Good : List PK := [.data (.cons (.int .i64) (.cons (.int .i64) (.one (.int .i64))))]
def rk_S_l2Good : List (Ty × Bool) := [(.bool, false)]
def h_S_l2Good : Hints := { loops := [] }
noncomputable def M_S_l2Good (x : (Int × (Int × Int))) : (Option Bool) :=
  (bindO (M_S_l1In (x.1, ((3 : Int), (2000000000 : Int)))) (fun (a0 : Bool) => (cond a0 (bindO (some (IntKind.wrap .i64 (x.1 - (1 : Int)))) (fun (a1 : Int) => (bindO (M_S_l1In (x.2.1, ((2 : Int), a1))) (fun (a2 : Bool) => (cond a2 (bindO (some (IntKind.wrap .i64 (x.1 - (1 : Int)))) (fun (a3 : Int) => (bindO (guardO (x.2.1 != (0 : Int))) (fun (a4 : Unit) => (bindO (some (Int.tmod a3 x.2.1)) (fun (a5 : Int) => (cond (a5 == (0 : Int)) (bindO (some (IntKind.wrap .i64 (x.1 - (1 : Int)))) (fun (a6 : Int) => (bindO (M_S_l1In (x.2.2, ((2 : Int), a6))) (fun (a7 : Bool) => (cond a7 (bindO (M_S_nPower (x.2.2, (x.2.1, x.1))) (fun (a8 : Int) => (cond (a8 == (1 : Int)) (bindO (M_S_nPrime x.2.1) (fun (a9 : Bool) => (cond a9 (bindO (M_S_nPrime x.1) (fun (a10 : Bool) => (some a10))) (some false)))) (some false)))) (some false)))))) (some false)))))))) (some false)))))) (some false))))

noncomputable def c_S_l2Good : Con0 := ⟨pk_S_l2Good, rk_S_l2Good, M_S_l2Good⟩

set_option maxRecDepth 100000 in
theorem eq_S_l2Good (x : In pk_S_l2Good) : semF (mkE [(65, c_S_l1In), (69, c_S_nPower), (123, c_S_nPrime)]) h_S_l2Good (info Tryz.f75) pk_S_l2Good rk_S_l2Good x = M_S_l2Good x := (semFF_eq _ _ _ _ _ _).symm.trans (by kernel_rfl)

set_option maxRecDepth 100000 in
theorem m_S_l2Good : ConOK Tryz.prog 75 c_S_l2Good := fn_ok (tyOK _) (E := mkE [(65, c_S_l1In), (69, c_S_nPower), (123, c_S_nPrime)]) (consOK_cons m_S_l1In (consOK_cons m_S_nPower (consOK_cons m_S_nPrime (consOK_nil rfl)))) Tryz.func75 (h := h_S_l2Good) (by kernel_rfl) eq_S_l2Good

/-- S_gIs -/
def pk_S_gIs : List PK := [.data (.cons (.int .i64) (.cons (.int .i64) (.one (.int .i64)))), .data (.sl (.int .i64))]
def rk_S_gIs : List (Ty × Bool) := [(.bool, false)]
def h_S_gIs : Hints := { loops := [(0, { items := [.slot 9 (.data (.int .i64) [])], kill := [0, 1] ++ (sgN 3 4 ++ (sgN 10 19)) })] }
noncomputable def M_S_gIs (x : ((Int × (Int × Int)) × (List Int))) : (Option Bool) :=
  (loopO (fun (again0 : (Int → (Option Bool))) => (fun (s1 : Int) => (cond (decide (s1 < (((List.length x.2) : Nat) : Int))) (bindO (getI x.2 s1) (fun (a2 : Int) => (bindO (some (IntKind.wrap .i64 (x.1.1 - (1 : Int)))) (fun (a3 : Int) => (bindO (M_S_l1In (a2, ((1 : Int), a3))) (fun (a4 : Bool) => (cond (not a4) (some false) (bindO (M_S_nPower (a2, (x.1.2.1, x.1.1))) (fun (a5 : Int) => (cond (a5 != (1 : Int)) (some false) (bindO (some (IntKind.wrap .i64 (s1 + (1 : Int)))) (fun (a6 : Int) => (again0 a6))))))))))))) (some true)))) (0 : Int))

noncomputable def c_S_gIs : Con0 := ⟨pk_S_gIs, rk_S_gIs, M_S_gIs⟩

set_option maxRecDepth 100000 in
theorem eq_S_gIs (x : In pk_S_gIs) : semF (mkE [(65, c_S_l1In), (69, c_S_nPower)]) h_S_gIs (info Tryz.f76) pk_S_gIs rk_S_gIs x = M_S_gIs x := (semFF_eq _ _ _ _ _ _).symm.trans (by kernel_rfl)

set_option maxRecDepth 100000 in
theorem m_S_gIs : ConOK Tryz.prog 76 c_S_gIs := fn_ok (tyOK _) (E := mkE [(65, c_S_l1In), (69, c_S_nPower)]) (consOK_cons m_S_l1In (consOK_cons m_S_nPower (consOK_nil rfl))) Tryz.func76 (h := h_S_gIs) (by kernel_rfl) eq_S_gIs

/-- S_eKey -/
def pk_S_eKey : List PK := [.data (.cons (.int .i64) (.cons (.int .i64) (.one (.int .i64)))), .data (.int .i64)]
def rk_S_eKey : List (Ty × Bool) := [(.bool, false)]
def h_S_eKey : Hints := { loops := [] }
noncomputable def M_S_eKey (x : ((Int × (Int × Int)) × Int)) : (Option Bool) :=
  (bindO (M_S_l2Good (x.1.1, (x.1.2.1, x.1.2.2))) (fun (a0 : Bool) => (cond a0 (bindO (M_S_gIs ((x.1.1, (x.1.2.1, x.1.2.2)), (x.2 :: ([] : List Int)))) (fun (a1 : Bool) => (some a1))) (some false))))

noncomputable def c_S_eKey : Con0 := ⟨pk_S_eKey, rk_S_eKey, M_S_eKey⟩

set_option maxRecDepth 100000 in
theorem eq_S_eKey (x : In pk_S_eKey) : semF (mkE [(75, c_S_l2Good), (76, c_S_gIs)]) h_S_eKey (info Tryz.f55) pk_S_eKey rk_S_eKey x = M_S_eKey x := (semFF_eq _ _ _ _ _ _).symm.trans (by kernel_rfl)

set_option maxRecDepth 100000 in
theorem m_S_eKey : ConOK Tryz.prog 55 c_S_eKey := fn_ok (tyOK _) (E := mkE [(75, c_S_l2Good), (76, c_S_gIs)]) (consOK_cons m_S_l2Good (consOK_cons m_S_gIs (consOK_nil rfl))) Tryz.func55 (h := h_S_eKey) (by kernel_rfl) eq_S_eKey

/-- S_gExps -/
def pk_S_gExps : List PK := [.data (.cons (.int .i64) (.cons (.int .i64) (.one (.int .i64)))), .data (.sl (.int .i64))]
def rk_S_gExps : List (Ty × Bool) := [(.bool, false)]
def h_S_gExps : Hints := { loops := [] }
noncomputable def M_S_gExps (x : ((Int × (Int × Int)) × (List Int))) : (Option Bool) :=
  (bindO (some (IntKind.wrap .i64 (x.1.2.1 - (1 : Int)))) (fun (a0 : Int) => (bindO (M_S_l1All (x.2, ((0 : Int), a0))) (fun (a1 : Bool) => (some a1)))))

noncomputable def c_S_gExps : Con0 := ⟨pk_S_gExps, rk_S_gExps, M_S_gExps⟩

set_option maxRecDepth 100000 in
theorem eq_S_gExps (x : In pk_S_gExps) : semF (mkE [(111, c_S_l1All)]) h_S_gExps (info Tryz.f56) pk_S_gExps rk_S_gExps x = M_S_gExps x := (semFF_eq _ _ _ _ _ _).symm.trans (by kernel_rfl)

set_option maxRecDepth 100000 in
theorem m_S_gExps : ConOK Tryz.prog 56 c_S_gExps := fn_ok (tyOK _) (E := mkE [(111, c_S_l1All)]) (consOK_cons m_S_l1All (consOK_nil rfl)) Tryz.func56 (h := h_S_gExps) (by kernel_rfl) eq_S_gExps

/-- S_nMod -/
def pk_S_nMod : List PK := [.data (.int .i64), .data (.int .i64)]
def rk_S_nMod : List (Ty × Bool) := [((.int .i64), false)]
def h_S_nMod : Hints := { loops := [] }
noncomputable def M_S_nMod (x : (Int × Int)) : (Option Int) :=
  (bindO (guardO (x.2 != (0 : Int))) (fun (a0 : Unit) => (bindO (some (Int.tmod x.1 x.2)) (fun (a1 : Int) => (bindO (some (IntKind.wrap .i64 (a1 + x.2))) (fun (a2 : Int) => (bindO (guardO (x.2 != (0 : Int))) (fun (a3 : Unit) => (bindO (some (Int.tmod a2 x.2)) (fun (a4 : Int) => (some a4)))))))))))

noncomputable def c_S_nMod : Con0 := ⟨pk_S_nMod, rk_S_nMod, M_S_nMod⟩

set_option maxRecDepth 100000 in
theorem eq_S_nMod (x : In pk_S_nMod) : semF (mkE []) h_S_nMod (info Tryz.f70) pk_S_nMod rk_S_nMod x = M_S_nMod x := (semFF_eq _ _ _ _ _ _).symm.trans (by kernel_rfl)

set_option maxRecDepth 100000 in
theorem m_S_nMod : ConOK Tryz.prog 70 c_S_nMod := fn_ok (tyOK _) (E := mkE []) (consOK_nil rfl) Tryz.func70 (h := h_S_nMod) (by kernel_rfl) eq_S_nMod

/-- S_gExp -/
def pk_S_gExp : List PK := [.data (.cons (.int .i64) (.cons (.int .i64) (.one (.int .i64)))), .data (.int .i64), .data (.int .i64)]
def rk_S_gExp : List (Ty × Bool) := [((.int .i64), false)]
def h_S_gExp : Hints := { loops := [] }
noncomputable def M_S_gExp (x : ((Int × (Int × Int)) × (Int × Int))) : (Option Int) :=
  (bindO (M_S_nMod (x.2.2, x.1.2.1)) (fun (a0 : Int) => (bindO (M_S_nPower (x.2.1, (a0, x.1.1))) (fun (a1 : Int) => (some a1)))))

noncomputable def c_S_gExp : Con0 := ⟨pk_S_gExp, rk_S_gExp, M_S_gExp⟩

set_option maxRecDepth 100000 in
theorem eq_S_gExp (x : In pk_S_gExp) : semF (mkE [(70, c_S_nMod), (69, c_S_nPower)]) h_S_gExp (info Tryz.f58) pk_S_gExp rk_S_gExp x = M_S_gExp x := (semFF_eq _ _ _ _ _ _).symm.trans (by kernel_rfl)

set_option maxRecDepth 100000 in
theorem m_S_gExp : ConOK Tryz.prog 58 c_S_gExp := fn_ok (tyOK _) (E := mkE [(70, c_S_nMod), (69, c_S_nPower)]) (consOK_cons m_S_nMod (consOK_cons m_S_nPower (consOK_nil rfl))) Tryz.func58 (h := h_S_gExp) (by kernel_rfl) eq_S_gExp

/-- S_gMul -/
def pk_S_gMul : List PK := [.data (.cons (.int .i64) (.cons (.int .i64) (.one (.int .i64)))), .data (.sl (.int .i64))]
def rk_S_gMul : List (Ty × Bool) := [((.int .i64), false)]
def h_S_gMul : Hints := { loops := [(0, { items := [.slot 5 (.data (.int .i64) []), .slot 10 (.data (.int .i64) [])], kill := [0, 1, 3, 4, 6, 7] ++ (sgN 11 11) })] }
noncomputable def M_S_gMul (x : ((Int × (Int × Int)) × (List Int))) : (Option Int) :=
  (loopO (fun (again0 : ((Int × Int) → (Option Int))) => (fun (s1 : (Int × Int)) => (cond (decide (s1.2 < (((List.length x.2) : Nat) : Int))) (bindO (getI x.2 s1.2) (fun (a2 : Int) => (bindO (some (IntKind.wrap .i64 (s1.1 * a2))) (fun (a3 : Int) => (bindO (guardO (x.1.1 != (0 : Int))) (fun (a4 : Unit) => (bindO (some (Int.tmod a3 x.1.1)) (fun (a5 : Int) => (bindO (some (IntKind.wrap .i64 (s1.2 + (1 : Int)))) (fun (a6 : Int) => (again0 (a5, a6)))))))))))) (some s1.1)))) ((1 : Int), (0 : Int)))

noncomputable def c_S_gMul : Con0 := ⟨pk_S_gMul, rk_S_gMul, M_S_gMul⟩

set_option maxRecDepth 100000 in
theorem eq_S_gMul (x : In pk_S_gMul) : semF (mkE []) h_S_gMul (info Tryz.f112) pk_S_gMul rk_S_gMul x = M_S_gMul x := (semFF_eq _ _ _ _ _ _).symm.trans (by kernel_rfl)

set_option maxRecDepth 100000 in
theorem m_S_gMul : ConOK Tryz.prog 112 c_S_gMul := fn_ok (tyOK _) (E := mkE []) (consOK_nil rfl) Tryz.func112 (h := h_S_gMul) (by kernel_rfl) eq_S_gMul

/-- S_eEnc -/
def pk_S_eEnc : List PK := [.data (.cons (.int .i64) (.cons (.int .i64) (.one (.int .i64)))), .data (.int .i64), .data (.int .i64), .data (.int .i64)]
def rk_S_eEnc : List (Ty × Bool) := [((.cons (.int .i64) (.one (.int .i64))), false)]
def h_S_eEnc : Hints := { loops := [] }
noncomputable def M_S_eEnc (x : ((Int × (Int × Int)) × (Int × (Int × Int)))) : (Option (Int × Int)) :=
  (bindO (M_S_gExp ((x.1.1, (x.1.2.1, x.1.2.2)), (x.1.2.2, x.2.2.2))) (fun (a0 : Int) => (bindO (M_S_gExp ((x.1.1, (x.1.2.1, x.1.2.2)), (x.2.1, x.2.2.2))) (fun (a1 : Int) => (bindO (M_S_gMul ((x.1.1, (x.1.2.1, x.1.2.2)), (x.2.2.1 :: (a1 :: ([] : List Int))))) (fun (a2 : Int) => (some (a0, a2))))))))

noncomputable def c_S_eEnc : Con0 := ⟨pk_S_eEnc, rk_S_eEnc, M_S_eEnc⟩

set_option maxRecDepth 100000 in
theorem eq_S_eEnc (x : In pk_S_eEnc) : semF (mkE [(58, c_S_gExp), (112, c_S_gMul)]) h_S_eEnc (info Tryz.f57) pk_S_eEnc rk_S_eEnc x = M_S_eEnc x := (semFF_eq _ _ _ _ _ _).symm.trans (by kernel_rfl)

set_option maxRecDepth 100000 in
theorem m_S_eEnc : ConOK Tryz.prog 57 c_S_eEnc := fn_ok (tyOK _) (E := mkE [(58, c_S_gExp), (112, c_S_gMul)]) (consOK_cons m_S_gExp (consOK_cons m_S_gMul (consOK_nil rfl))) Tryz.func57 (h := h_S_eEnc) (by kernel_rfl) eq_S_eEnc

/-- S_EncryptExp -/
def pk_S_EncryptExp : List PK := [.data (.cons (.int .i64) (.cons (.int .i64) (.one (.int .i64)))), .data (.int .i64), .data (.int .i64), .data (.int .i64)]
def rk_S_EncryptExp : List (Ty × Bool) := [((.cons (.int .i64) (.one (.int .i64))), false), (.bool, false)]
def h_S_EncryptExp : Hints := { loops := [] }
noncomputable def M_S_EncryptExp (x : ((Int × (Int × Int)) × (Int × (Int × Int)))) : (Option ((Int × Int) × Bool)) :=
  (bindO (M_S_eKey ((x.1.1, (x.1.2.1, x.1.2.2)), x.2.1)) (fun (a0 : Bool) => (cond (not a0) (some (((0 : Int), (0 : Int)), false)) (bindO (M_S_gExps ((x.1.1, (x.1.2.1, x.1.2.2)), (x.2.2.1 :: (x.2.2.2 :: ([] : List Int))))) (fun (a1 : Bool) => (cond (not a1) (some (((0 : Int), (0 : Int)), false)) (bindO (M_S_gExp ((x.1.1, (x.1.2.1, x.1.2.2)), (x.1.2.2, x.2.2.1))) (fun (a2 : Int) => (bindO (M_S_eEnc ((x.1.1, (x.1.2.1, x.1.2.2)), (x.2.1, (a2, x.2.2.2)))) (fun (a3 : (Int × Int)) => (some ((a3.1, a3.2), true))))))))))))

noncomputable def c_S_EncryptExp : Con0 := ⟨pk_S_EncryptExp, rk_S_EncryptExp, M_S_EncryptExp⟩

set_option maxRecDepth 100000 in
theorem eq_S_EncryptExp (x : In pk_S_EncryptExp) : semF (mkE [(55, c_S_eKey), (56, c_S_gExps), (58, c_S_gExp), (57, c_S_eEnc)]) h_S_EncryptExp (info Tryz.f25) pk_S_EncryptExp rk_S_EncryptExp x = M_S_EncryptExp x := (semFF_eq _ _ _ _ _ _).symm.trans (by kernel_rfl)

set_option maxRecDepth 100000 in
theorem m_S_EncryptExp : ConOK Tryz.prog 25 c_S_EncryptExp := fn_ok (tyOK _) (E := mkE [(55, c_S_eKey), (56, c_S_gExps), (58, c_S_gExp), (57, c_S_eEnc)]) (consOK_cons m_S_eKey (consOK_cons m_S_gExps (consOK_cons m_S_gExp (consOK_cons m_S_eEnc (consOK_nil rfl))))) Tryz.func25 (h := h_S_EncryptExp) (by kernel_rfl) eq_S_EncryptExp

/-- I_isModulus -/
def pk_I_isModulus : List PK := [.data (.int .i64)]
def rk_I_isModulus : List (Ty × Bool) := [(.bool, false)]
def h_I_isModulus : Hints := { loops := [] }
noncomputable def M_I_isModulus (x : Int) : (Option Bool) :=
  (bindO (M_I_within (x, ((2 : Int), (2000000000 : Int)))) (fun (a0 : Bool) => (some a0)))

noncomputable def c_I_isModulus : Con0 := ⟨pk_I_isModulus, rk_I_isModulus, M_I_isModulus⟩

set_option maxRecDepth 100000 in
theorem eq_I_isModulus (x : In pk_I_isModulus) : semF (mkE [(60, c_I_within)]) h_I_isModulus (info Tryz.f156) pk_I_isModulus rk_I_isModulus x = M_I_isModulus x := (semFF_eq _ _ _ _ _ _).symm.trans (by kernel_rfl)

set_option maxRecDepth 100000 in
theorem m_I_isModulus : ConOK Tryz.prog 156 c_I_isModulus := fn_ok (tyOK _) (E := mkE [(60, c_I_within)]) (consOK_cons m_I_within (consOK_nil rfl)) Tryz.func156 (h := h_I_isModulus) (by kernel_rfl) eq_I_isModulus

/-- I_isPrime -/
def pk_I_isPrime : List PK := [.data (.int .i64)]
def rk_I_isPrime : List (Ty × Bool) := [(.bool, false)]
def h_I_isPrime : Hints := { loops := [(0, { items := [.slot 3 (.data (.int .i64) [])], kill := [1, 2] ++ (sgN 4 23) })] }
noncomputable def M_I_isPrime (x : Int) : (Option Bool) :=
  (bindO (M_I_isModulus x) (fun (a0 : Bool) => (cond (not a0) (some false) (bindO (guardO ((2 : Int) != (0 : Int))) (fun (a1 : Unit) => (bindO (some (Int.tmod x (2 : Int))) (fun (a2 : Int) => (cond (a2 == (0 : Int)) (cond (x != (2 : Int)) (some false) (loopO (fun (again3 : (Int → (Option Bool))) => (fun (s4 : Int) => (bindO (some (IntKind.wrap .i64 (s4 * s4))) (fun (a5 : Int) => (cond (decide (a5 ≤ x)) (bindO (guardO (s4 != (0 : Int))) (fun (a6 : Unit) => (bindO (some (Int.tmod x s4)) (fun (a7 : Int) => (cond (a7 == (0 : Int)) (some false) (bindO (some (IntKind.wrap .i64 (s4 + (2 : Int)))) (fun (a8 : Int) => (again3 a8)))))))) (some true)))))) (3 : Int))) (loopO (fun (again9 : (Int → (Option Bool))) => (fun (s10 : Int) => (bindO (some (IntKind.wrap .i64 (s10 * s10))) (fun (a11 : Int) => (cond (decide (a11 ≤ x)) (bindO (guardO (s10 != (0 : Int))) (fun (a12 : Unit) => (bindO (some (Int.tmod x s10)) (fun (a13 : Int) => (cond (a13 == (0 : Int)) (some false) (bindO (some (IntKind.wrap .i64 (s10 + (2 : Int)))) (fun (a14 : Int) => (again9 a14)))))))) (some true)))))) (3 : Int))))))))))

noncomputable def c_I_isPrime : Con0 := ⟨pk_I_isPrime, rk_I_isPrime, M_I_isPrime⟩

set_option maxRecDepth 100000 in
theorem eq_I_isPrime (x : In pk_I_isPrime) : semF (mkE [(156, c_I_isModulus)]) h_I_isPrime (info Tryz.f113) pk_I_isPrime rk_I_isPrime x = M_I_isPrime x := (semFF_eq _ _ _ _ _ _).symm.trans (by kernel_rfl)

set_option maxRecDepth 100000 in
theorem m_I_isPrime : ConOK Tryz.prog 113 c_I_isPrime := fn_ok (tyOK _) (E := mkE [(156, c_I_isModulus)]) (consOK_cons m_I_isModulus (consOK_nil rfl)) Tryz.func113 (h := h_I_isPrime) (by kernel_rfl) eq_I_isPrime

/-- I_power -/
def pk_I_power : List PK := [.data (.int .i64), .data (.int .i64), .data (.int .i64)]
def rk_I_power : List (Ty × Bool) := [((.int .i64), false)]
def h_I_power : Hints := { loops := [(0, { items := [.slot 0 (.data (.int .i64) []), .slot 1 (.data (.int .i64) []), .slot 7 (.data (.int .i64) [])], kill := sgN 3 4 ++ (sgN 8 20) })] }
noncomputable def M_I_power (x : (Int × (Int × Int))) : (Option Int) :=
  (bindO (guardO (x.2.2 != (0 : Int))) (fun (a0 : Unit) => (bindO (some (Int.tmod (1 : Int) x.2.2)) (fun (a1 : Int) => (loopO (fun (again2 : ((Int × (Int × Int)) → (Option Int))) => (fun (s3 : (Int × (Int × Int))) => (cond (decide (s3.2.1 > (0 : Int))) (bindO (some (bits .and .i64 s3.2.1 (1 : Int))) (fun (a4 : Int) => (cond (a4 == (1 : Int)) (bindO (some (IntKind.wrap .i64 (s3.2.2 * s3.1))) (fun (a5 : Int) => (bindO (guardO (x.2.2 != (0 : Int))) (fun (a6 : Unit) => (bindO (some (Int.tmod a5 x.2.2)) (fun (a7 : Int) => (bindO (some (IntKind.wrap .i64 (s3.1 * s3.1))) (fun (a8 : Int) => (bindO (guardO (x.2.2 != (0 : Int))) (fun (a9 : Unit) => (bindO (some (Int.tmod a8 x.2.2)) (fun (a10 : Int) => (bindO (guardO (decide ((0 : Int) ≤ (1 : Int)))) (fun (a11 : Unit) => (bindO (some (shr .i64 s3.2.1 (1 : Int))) (fun (a12 : Int) => (again2 (a10, (a12, a7))))))))))))))))))) (bindO (some (IntKind.wrap .i64 (s3.1 * s3.1))) (fun (a13 : Int) => (bindO (guardO (x.2.2 != (0 : Int))) (fun (a14 : Unit) => (bindO (some (Int.tmod a13 x.2.2)) (fun (a15 : Int) => (bindO (guardO (decide ((0 : Int) ≤ (1 : Int)))) (fun (a16 : Unit) => (bindO (some (shr .i64 s3.2.1 (1 : Int))) (fun (a17 : Int) => (again2 (a15, (a17, s3.2.2)))))))))))))))) (some s3.2.2)))) (x.1, (x.2.1, a1)))))))

noncomputable def c_I_power : Con0 := ⟨pk_I_power, rk_I_power, M_I_power⟩

set_option maxRecDepth 100000 in
theorem eq_I_power (x : In pk_I_power) : semF (mkE []) h_I_power (info Tryz.f114) pk_I_power rk_I_power x = M_I_power x := (semFF_eq _ _ _ _ _ _).symm.trans (by kernel_rfl)

set_option maxRecDepth 100000 in
theorem m_I_power : ConOK Tryz.prog 114 c_I_power := fn_ok (tyOK _) (E := mkE []) (consOK_nil rfl) Tryz.func114 (h := h_I_power) (by kernel_rfl) eq_I_power

/-- I_IsValidGroup -/
def pk_I_IsValidGroup : List PK := [.data (.cons (.int .i64) (.cons (.int .i64) (.one (.int .i64))))]
def rk_I_IsValidGroup : List (Ty × Bool) := [(.bool, false)]
def h_I_IsValidGroup : Hints := { loops := [] }
noncomputable def M_I_IsValidGroup (x : (Int × (Int × Int))) : (Option Bool) :=
  (bindO (M_I_within (x.1, ((3 : Int), (2000000000 : Int)))) (fun (a0 : Bool) => (cond a0 (bindO (some (IntKind.wrap .i64 (x.1 - (1 : Int)))) (fun (a1 : Int) => (bindO (M_I_within (x.2.1, ((2 : Int), a1))) (fun (a2 : Bool) => (cond a2 (bindO (some (IntKind.wrap .i64 (x.1 - (1 : Int)))) (fun (a3 : Int) => (bindO (guardO (x.2.1 != (0 : Int))) (fun (a4 : Unit) => (bindO (some (Int.tmod a3 x.2.1)) (fun (a5 : Int) => (cond (a5 == (0 : Int)) (bindO (some (IntKind.wrap .i64 (x.1 - (1 : Int)))) (fun (a6 : Int) => (bindO (M_I_within (x.2.2, ((2 : Int), a6))) (fun (a7 : Bool) => (cond a7 (bindO (M_I_isPrime x.1) (fun (a8 : Bool) => (cond a8 (bindO (M_I_isPrime x.2.1) (fun (a9 : Bool) => (cond a9 (bindO (M_I_power (x.2.2, (x.2.1, x.1))) (fun (a10 : Int) => (some (a10 == (1 : Int))))) (some false)))) (some false)))) (some false)))))) (some false)))))))) (some false)))))) (some false))))

noncomputable def c_I_IsValidGroup : Con0 := ⟨pk_I_IsValidGroup, rk_I_IsValidGroup, M_I_IsValidGroup⟩

set_option maxRecDepth 100000 in
theorem eq_I_IsValidGroup (x : In pk_I_IsValidGroup) : semF (mkE [(60, c_I_within), (113, c_I_isPrime), (114, c_I_power)]) h_I_IsValidGroup (info Tryz.f59) pk_I_IsValidGroup rk_I_IsValidGroup x = M_I_IsValidGroup x := (semFF_eq _ _ _ _ _ _).symm.trans (by kernel_rfl)

set_option maxRecDepth 100000 in
theorem m_I_IsValidGroup : ConOK Tryz.prog 59 c_I_IsValidGroup := fn_ok (tyOK _) (E := mkE [(60, c_I_within), (113, c_I_isPrime), (114, c_I_power)]) (consOK_cons m_I_within (consOK_cons m_I_isPrime (consOK_cons m_I_power (consOK_nil rfl)))) Tryz.func59 (h := h_I_IsValidGroup) (by kernel_rfl) eq_I_IsValidGroup

/-- math_bits_Mul32 -/
def pk_math_bits_Mul32 : List PK := [.data (.int .u32), .data (.int .u32)]
def rk_math_bits_Mul32 : List (Ty × Bool) := [((.int .u32), false), ((.int .u32), false)]
def h_math_bits_Mul32 : Hints := { loops := [] }
noncomputable def M_math_bits_Mul32 (x : (Int × Int)) : (Option (Int × Int)) :=
  (bindO (some (IntKind.wrap .u64 ((IntKind.wrap .u64 x.1) * (IntKind.wrap .u64 x.2)))) (fun (a0 : Int) => (bindO (guardO (decide ((0 : Int) ≤ (32 : Int)))) (fun (a1 : Unit) => (bindO (some (shr .u64 a0 (32 : Int))) (fun (a2 : Int) => (some ((IntKind.wrap .u32 a2), (IntKind.wrap .u32 a0)))))))))

noncomputable def c_math_bits_Mul32 : Con0 := ⟨pk_math_bits_Mul32, rk_math_bits_Mul32, M_math_bits_Mul32⟩

set_option maxRecDepth 100000 in
theorem eq_math_bits_Mul32 (x : In pk_math_bits_Mul32) : semF (mkE []) h_math_bits_Mul32 (info Tryz.f157) pk_math_bits_Mul32 rk_math_bits_Mul32 x = M_math_bits_Mul32 x := (semFF_eq _ _ _ _ _ _).symm.trans (by kernel_rfl)

set_option maxRecDepth 100000 in
theorem m_math_bits_Mul32 : ConOK Tryz.prog 157 c_math_bits_Mul32 := fn_ok (tyOK _) (E := mkE []) (consOK_nil rfl) Tryz.func157 (h := h_math_bits_Mul32) (by kernel_rfl) eq_math_bits_Mul32

/-- math_bits_Mul64 -/
def pk_math_bits_Mul64 : List PK := [.data (.int .u64), .data (.int .u64)]
def rk_math_bits_Mul64 : List (Ty × Bool) := [((.int .u64), false), ((.int .u64), false)]
def h_math_bits_Mul64 : Hints := { loops := [] }
noncomputable def M_math_bits_Mul64 (x : (Int × Int)) : (Option (Int × Int)) :=
  (bindO (some (bits .and .u64 x.1 (4294967295 : Int))) (fun (a0 : Int) => (bindO (guardO (decide ((0 : Int) ≤ (32 : Int)))) (fun (a1 : Unit) => (bindO (some (shr .u64 x.1 (32 : Int))) (fun (a2 : Int) => (bindO (some (bits .and .u64 x.2 (4294967295 : Int))) (fun (a3 : Int) => (bindO (guardO (decide ((0 : Int) ≤ (32 : Int)))) (fun (a4 : Unit) => (bindO (some (shr .u64 x.2 (32 : Int))) (fun (a5 : Int) => (bindO (some (IntKind.wrap .u64 (a0 * a3))) (fun (a6 : Int) => (bindO (some (IntKind.wrap .u64 (a2 * a3))) (fun (a7 : Int) => (bindO (guardO (decide ((0 : Int) ≤ (32 : Int)))) (fun (a8 : Unit) => (bindO (some (shr .u64 a6 (32 : Int))) (fun (a9 : Int) => (bindO (some (IntKind.wrap .u64 (a7 + a9))) (fun (a10 : Int) => (bindO (some (bits .and .u64 a10 (4294967295 : Int))) (fun (a11 : Int) => (bindO (guardO (decide ((0 : Int) ≤ (32 : Int)))) (fun (a12 : Unit) => (bindO (some (shr .u64 a10 (32 : Int))) (fun (a13 : Int) => (bindO (some (IntKind.wrap .u64 (a0 * a5))) (fun (a14 : Int) => (bindO (some (IntKind.wrap .u64 (a11 + a14))) (fun (a15 : Int) => (bindO (some (IntKind.wrap .u64 (a2 * a5))) (fun (a16 : Int) => (bindO (some (IntKind.wrap .u64 (a16 + a13))) (fun (a17 : Int) => (bindO (guardO (decide ((0 : Int) ≤ (32 : Int)))) (fun (a18 : Unit) => (bindO (some (shr .u64 a15 (32 : Int))) (fun (a19 : Int) => (bindO (some (IntKind.wrap .u64 (a17 + a19))) (fun (a20 : Int) => (bindO (some (IntKind.wrap .u64 (x.1 * x.2))) (fun (a21 : Int) => (some (a20, a21))))))))))))))))))))))))))))))))))))))))))))))

noncomputable def c_math_bits_Mul64 : Con0 := ⟨pk_math_bits_Mul64, rk_math_bits_Mul64, M_math_bits_Mul64⟩

set_option maxRecDepth 100000 in
theorem eq_math_bits_Mul64 (x : In pk_math_bits_Mul64) : semF (mkE []) h_math_bits_Mul64 (info Tryz.f158) pk_math_bits_Mul64 rk_math_bits_Mul64 x = M_math_bits_Mul64 x := (semFF_eq _ _ _ _ _ _).symm.trans (by kernel_rfl)

set_option maxRecDepth 100000 in
theorem m_math_bits_Mul64 : ConOK Tryz.prog 158 c_math_bits_Mul64 := fn_ok (tyOK _) (E := mkE []) (consOK_nil rfl) Tryz.func158 (h := h_math_bits_Mul64) (by kernel_rfl) eq_math_bits_Mul64

/-- math_bits_Mul -/
def pk_math_bits_Mul : List PK := [.data (.int .u64), .data (.int .u64)]
def rk_math_bits_Mul : List (Ty × Bool) := [((.int .u64), false), ((.int .u64), false)]
def h_math_bits_Mul : Hints := { loops := [] }
noncomputable def M_math_bits_Mul (x : (Int × Int)) : (Option (Int × Int)) :=
  (bindO (M_math_bits_Mul64 (x.1, x.2)) (fun (a0 : (Int × Int)) => (some (a0.1, a0.2))))

noncomputable def c_math_bits_Mul : Con0 := ⟨pk_math_bits_Mul, rk_math_bits_Mul, M_math_bits_Mul⟩

set_option maxRecDepth 100000 in
theorem eq_math_bits_Mul (x : In pk_math_bits_Mul) : semF (mkE [(157, c_math_bits_Mul32), (158, c_math_bits_Mul64)]) h_math_bits_Mul (info Tryz.f115) pk_math_bits_Mul rk_math_bits_Mul x = M_math_bits_Mul x := (semFF_eq _ _ _ _ _ _).symm.trans (by kernel_rfl)

set_option maxRecDepth 100000 in
theorem m_math_bits_Mul : ConOK Tryz.prog 115 c_math_bits_Mul := fn_ok (tyOK _) (E := mkE [(157, c_math_bits_Mul32), (158, c_math_bits_Mul64)]) (consOK_cons m_math_bits_Mul32 (consOK_cons m_math_bits_Mul64 (consOK_nil rfl))) Tryz.func115 (h := h_math_bits_Mul) (by kernel_rfl) eq_math_bits_Mul

/-- slices_Repeat_sI_Cipher_I_Cipher -/
def pk_slices_Repeat_sI_Cipher_I_Cipher : List PK := [.data (.sl (.cons (.int .i64) (.one (.int .i64)))), .data (.int .i64)]
def rk_slices_Repeat_sI_Cipher_I_Cipher : List (Ty × Bool) := [((.sl (.cons (.int .i64) (.one (.int .i64)))), true)]
def h_slices_Repeat_sI_Cipher_I_Cipher : Hints := { loops := [(0, { items := [.slot 8 (.data (.int .i64) []), .arr 7 (.cons (.int .i64) (.one (.int .i64))) true], kill := sgN 0 7 ++ (sgN 9 39) })] }
noncomputable def M_slices_Repeat_sI_Cipher_I_Cipher (x : ((List (Int × Int)) × Int)) : (Option (List (Int × Int))) :=
  (cond (decide (x.2 < (0 : Int))) (none : Option (List (Int × Int))) (bindO (M_math_bits_Mul ((IntKind.wrap .u64 (((List.length x.1) : Nat) : Int)), (IntKind.wrap .u64 x.2))) (fun (a0 : (Int × Int)) => (cond (decide (a0.1 > (0 : Int))) (none : Option (List (Int × Int))) (cond (decide (a0.2 > (9223372036854775807 : Int))) (none : Option (List (Int × Int))) (bindO (guardO (((decide ((0 : Int) ≤ (IntKind.wrap .i64 a0.2))) && (decide ((IntKind.wrap .i64 a0.2) ≤ (IntKind.wrap .i64 a0.2)))) && (decide ((IntKind.wrap .i64 a0.2) ≤ ((lim : Nat) : Int))))) (fun (a1 : Unit) => (bindO (some (((min (List.length x.1) (List.length (List.replicate (Int.toNat (IntKind.wrap .i64 a0.2)) ((0 : Int), (0 : Int))))) : Nat) : Int)) (fun (a2 : Int) => (loopO (fun (again3 : ((Int × (List (Int × Int))) → (Option (List (Int × Int))))) => (fun (s4 : (Int × (List (Int × Int)))) => (cond (decide (s4.1 < (((List.length s4.2) : Nat) : Int))) (bindO (sliceLN s4.1 (List.length s4.2)) (fun (a5 : (Nat × Nat)) => (bindO (sliceNH s4.1 (List.length s4.2)) (fun (a6 : (Nat × Nat)) => (bindO (some (((min (List.length (List.take a6.2 s4.2)) (List.length (List.drop a5.1 (List.take a5.2 s4.2)))) : Nat) : Int)) (fun (a7 : Int) => (bindO (some (IntKind.wrap .i64 (s4.1 + a7))) (fun (a8 : Int) => (again3 (a8, ((List.take a5.1 s4.2) ++ ((List.take (List.length (List.drop a5.1 (List.take a5.2 s4.2))) (List.take a6.2 s4.2)) ++ (List.drop (a5.1 + (min (List.length (List.take a6.2 s4.2)) (List.length (List.drop a5.1 (List.take a5.2 s4.2))))) s4.2))))))))))))) (some s4.2)))) (a2, ((List.take (List.length (List.replicate (Int.toNat (IntKind.wrap .i64 a0.2)) ((0 : Int), (0 : Int)))) x.1) ++ (List.drop (List.length x.1) (List.replicate (Int.toNat (IntKind.wrap .i64 a0.2)) ((0 : Int), (0 : Int))))))))))))))))

noncomputable def c_slices_Repeat_sI_Cipher_I_Cipher : Con0 := ⟨pk_slices_Repeat_sI_Cipher_I_Cipher, rk_slices_Repeat_sI_Cipher_I_Cipher, M_slices_Repeat_sI_Cipher_I_Cipher⟩

set_option maxRecDepth 100000 in
theorem eq_slices_Repeat_sI_Cipher_I_Cipher (x : In pk_slices_Repeat_sI_Cipher_I_Cipher) : semF (mkE [(115, c_math_bits_Mul)]) h_slices_Repeat_sI_Cipher_I_Cipher (info Tryz.f61) pk_slices_Repeat_sI_Cipher_I_Cipher rk_slices_Repeat_sI_Cipher_I_Cipher x = M_slices_Repeat_sI_Cipher_I_Cipher x := (semFF_eq _ _ _ _ _ _).symm.trans (by kernel_rfl)

set_option maxRecDepth 100000 in
theorem m_slices_Repeat_sI_Cipher_I_Cipher : ConOK Tryz.prog 61 c_slices_Repeat_sI_Cipher_I_Cipher := fn_ok (tyOK _) (E := mkE [(115, c_math_bits_Mul)]) (consOK_cons m_math_bits_Mul (consOK_nil rfl)) Tryz.func61 (h := h_slices_Repeat_sI_Cipher_I_Cipher) (by kernel_rfl) eq_slices_Repeat_sI_Cipher_I_Cipher

/-- slices_IndexFunc_sI_Cipher_I_Cipher -/
def pk_slices_IndexFunc_sI_Cipher_I_Cipher : List PK := [.data (.sl (.cons (.int .i64) (.one (.int .i64)))), .fn [(.cons (.int .i64) (.one (.int .i64)))] .bool]
def rk_slices_IndexFunc_sI_Cipher_I_Cipher : List (Ty × Bool) := [((.int .i64), false)]
def h_slices_IndexFunc_sI_Cipher_I_Cipher : Hints := { loops := [(0, { items := [.slot 8 (.data (.int .i64) [])], kill := sgN 2 5 ++ (sgN 9 10) })] }
noncomputable def M_slices_IndexFunc_sI_Cipher_I_Cipher (x : ((List (Int × Int)) × ((Int × Int) → (Option Bool)))) : (Option Int) :=
  (loopO (fun (again0 : (Int → (Option Int))) => (fun (s1 : Int) => (cond (decide (s1 < (((List.length x.1) : Nat) : Int))) (bindO (getI x.1 s1) (fun (a2 : (Int × Int)) => (bindO (x.2 (a2.1, a2.2)) (fun (a3 : Bool) => (cond a3 (some s1) (bindO (some (IntKind.wrap .i64 (s1 + (1 : Int)))) (fun (a4 : Int) => (again0 a4)))))))) (some (- (1 : Int)))))) (0 : Int))

noncomputable def c_slices_IndexFunc_sI_Cipher_I_Cipher : Con0 := ⟨pk_slices_IndexFunc_sI_Cipher_I_Cipher, rk_slices_IndexFunc_sI_Cipher_I_Cipher, M_slices_IndexFunc_sI_Cipher_I_Cipher⟩

set_option maxRecDepth 100000 in
theorem eq_slices_IndexFunc_sI_Cipher_I_Cipher (x : In pk_slices_IndexFunc_sI_Cipher_I_Cipher) : semF (mkE []) h_slices_IndexFunc_sI_Cipher_I_Cipher (info Tryz.f159) pk_slices_IndexFunc_sI_Cipher_I_Cipher rk_slices_IndexFunc_sI_Cipher_I_Cipher x = M_slices_IndexFunc_sI_Cipher_I_Cipher x := (semFF_eq _ _ _ _ _ _).symm.trans (by kernel_rfl)

set_option maxRecDepth 100000 in
theorem m_slices_IndexFunc_sI_Cipher_I_Cipher : ConOK Tryz.prog 159 c_slices_IndexFunc_sI_Cipher_I_Cipher := fn_ok (tyOK _) (E := mkE []) (consOK_nil rfl) Tryz.func159 (h := h_slices_IndexFunc_sI_Cipher_I_Cipher) (by kernel_rfl) eq_slices_IndexFunc_sI_Cipher_I_Cipher

/-- slices_ContainsFunc_sI_Cipher_I_Cipher -/
def pk_slices_ContainsFunc_sI_Cipher_I_Cipher : List PK := [.data (.sl (.cons (.int .i64) (.one (.int .i64)))), .fn [(.cons (.int .i64) (.one (.int .i64)))] .bool]
def rk_slices_ContainsFunc_sI_Cipher_I_Cipher : List (Ty × Bool) := [(.bool, false)]
def h_slices_ContainsFunc_sI_Cipher_I_Cipher : Hints := { loops := [] }
noncomputable def M_slices_ContainsFunc_sI_Cipher_I_Cipher (x : ((List (Int × Int)) × ((Int × Int) → (Option Bool)))) : (Option Bool) :=
  (bindO (M_slices_IndexFunc_sI_Cipher_I_Cipher (x.1, x.2)) (fun (a0 : Int) => (some (decide (a0 ≥ (0 : Int))))))

noncomputable def c_slices_ContainsFunc_sI_Cipher_I_Cipher : Con0 := ⟨pk_slices_ContainsFunc_sI_Cipher_I_Cipher, rk_slices_ContainsFunc_sI_Cipher_I_Cipher, M_slices_ContainsFunc_sI_Cipher_I_Cipher⟩

set_option maxRecDepth 100000 in
theorem eq_slices_ContainsFunc_sI_Cipher_I_Cipher (x : In pk_slices_ContainsFunc_sI_Cipher_I_Cipher) : semF (mkE [(159, c_slices_IndexFunc_sI_Cipher_I_Cipher)]) h_slices_ContainsFunc_sI_Cipher_I_Cipher (info Tryz.f116) pk_slices_ContainsFunc_sI_Cipher_I_Cipher rk_slices_ContainsFunc_sI_Cipher_I_Cipher x = M_slices_ContainsFunc_sI_Cipher_I_Cipher x := (semFF_eq _ _ _ _ _ _).symm.trans (by kernel_rfl)

set_option maxRecDepth 100000 in
theorem m_slices_ContainsFunc_sI_Cipher_I_Cipher : ConOK Tryz.prog 116 c_slices_ContainsFunc_sI_Cipher_I_Cipher := fn_ok (tyOK _) (E := mkE [(159, c_slices_IndexFunc_sI_Cipher_I_Cipher)]) (consOK_cons m_slices_IndexFunc_sI_Cipher_I_Cipher (consOK_nil rfl)) Tryz.func116 (h := h_slices_ContainsFunc_sI_Cipher_I_Cipher) (by kernel_rfl) eq_slices_ContainsFunc_sI_Cipher_I_Cipher

/-- I_Group_has -/
def pk_I_Group_has : List PK := [.data (.cons (.int .i64) (.cons (.int .i64) (.one (.int .i64)))), .data (.int .i64)]
def rk_I_Group_has : List (Ty × Bool) := [(.bool, false)]
def h_I_Group_has : Hints := { loops := [] }
noncomputable def M_I_Group_has (x : ((Int × (Int × Int)) × Int)) : (Option Bool) :=
  (bindO (some (IntKind.wrap .i64 (x.1.1 - (1 : Int)))) (fun (a0 : Int) => (bindO (M_I_within (x.2, ((1 : Int), a0))) (fun (a1 : Bool) => (cond a1 (bindO (M_I_power (x.2, (x.1.2.1, x.1.1))) (fun (a2 : Int) => (some (a2 == (1 : Int))))) (some false))))))

noncomputable def c_I_Group_has : Con0 := ⟨pk_I_Group_has, rk_I_Group_has, M_I_Group_has⟩

set_option maxRecDepth 100000 in
theorem eq_I_Group_has (x : In pk_I_Group_has) : semF (mkE [(60, c_I_within), (114, c_I_power)]) h_I_Group_has (info Tryz.f122) pk_I_Group_has rk_I_Group_has x = M_I_Group_has x := (semFF_eq _ _ _ _ _ _).symm.trans (by kernel_rfl)

set_option maxRecDepth 100000 in
theorem m_I_Group_has : ConOK Tryz.prog 122 c_I_Group_has := fn_ok (tyOK _) (E := mkE [(60, c_I_within), (114, c_I_power)]) (consOK_cons m_I_within (consOK_cons m_I_power (consOK_nil rfl))) Tryz.func122 (h := h_I_Group_has) (by kernel_rfl) eq_I_Group_has

/-- I_Group_hasCipher -/
def pk_I_Group_hasCipher : List PK := [.data (.cons (.int .i64) (.cons (.int .i64) (.one (.int .i64)))), .data (.cons (.int .i64) (.one (.int .i64)))]
def rk_I_Group_hasCipher : List (Ty × Bool) := [(.bool, false)]
def h_I_Group_hasCipher : Hints := { loops := [] }
noncomputable def M_I_Group_hasCipher (x : ((Int × (Int × Int)) × (Int × Int))) : (Option Bool) :=
  (bindO (M_I_Group_has ((x.1.1, (x.1.2.1, x.1.2.2)), x.2.1)) (fun (a0 : Bool) => (cond a0 (bindO (M_I_Group_has ((x.1.1, (x.1.2.1, x.1.2.2)), x.2.2)) (fun (a1 : Bool) => (some a1))) (some false))))

noncomputable def c_I_Group_hasCipher : Con0 := ⟨pk_I_Group_hasCipher, rk_I_Group_hasCipher, M_I_Group_hasCipher⟩

set_option maxRecDepth 100000 in
theorem eq_I_Group_hasCipher (x : In pk_I_Group_hasCipher) : semF (mkE [(122, c_I_Group_has)]) h_I_Group_hasCipher (info Tryz.f118) pk_I_Group_hasCipher rk_I_Group_hasCipher x = M_I_Group_hasCipher x := (semFF_eq _ _ _ _ _ _).symm.trans (by kernel_rfl)

set_option maxRecDepth 100000 in
theorem m_I_Group_hasCipher : ConOK Tryz.prog 118 c_I_Group_hasCipher := fn_ok (tyOK _) (E := mkE [(122, c_I_Group_has)]) (consOK_cons m_I_Group_has (consOK_nil rfl)) Tryz.func118 (h := h_I_Group_hasCipher) (by kernel_rfl) eq_I_Group_hasCipher

/-- I_Group_hasCiphers_1 -/
def pk_I_Group_hasCiphers_1 : List PK := [.data (.cons (.int .i64) (.one (.int .i64))), .rp (.cons (.int .i64) (.cons (.int .i64) (.one (.int .i64))))]
def rk_I_Group_hasCiphers_1 : List (Ty × Bool) := [(.bool, false)]
def h_I_Group_hasCiphers_1 : Hints := { loops := [] }
noncomputable def M_I_Group_hasCiphers_1 (x : ((Int × Int) × (Int × (Int × Int)))) : (Option Bool) :=
  (bindO (M_I_Group_hasCipher ((x.2.1, (x.2.2.1, x.2.2.2)), (x.1.1, x.1.2))) (fun (a0 : Bool) => (some (not a0))))

noncomputable def c_I_Group_hasCiphers_1 : Con0 := ⟨pk_I_Group_hasCiphers_1, rk_I_Group_hasCiphers_1, M_I_Group_hasCiphers_1⟩

set_option maxRecDepth 100000 in
theorem eq_I_Group_hasCiphers_1 (x : In pk_I_Group_hasCiphers_1) : semF (mkE [(118, c_I_Group_hasCipher)]) h_I_Group_hasCiphers_1 (info Tryz.f117) pk_I_Group_hasCiphers_1 rk_I_Group_hasCiphers_1 x = M_I_Group_hasCiphers_1 x := (semFF_eq _ _ _ _ _ _).symm.trans (by kernel_rfl)

set_option maxRecDepth 100000 in
theorem m_I_Group_hasCiphers_1 : ConOK Tryz.prog 117 c_I_Group_hasCiphers_1 := fn_ok (tyOK _) (E := mkE [(118, c_I_Group_hasCipher)]) (consOK_cons m_I_Group_hasCipher (consOK_nil rfl)) Tryz.func117 (h := h_I_Group_hasCiphers_1) (by kernel_rfl) eq_I_Group_hasCiphers_1

/-- I_Group_hasCiphers -/
def pk_I_Group_hasCiphers : List PK := [.data (.cons (.int .i64) (.cons (.int .i64) (.one (.int .i64)))), .data (.sl (.cons (.int .i64) (.one (.int .i64))))]
def rk_I_Group_hasCiphers : List (Ty × Bool) := [(.bool, false)]
def h_I_Group_hasCiphers : Hints := { loops := [] }
noncomputable def M_I_Group_hasCiphers (x : ((Int × (Int × Int)) × (List (Int × Int)))) : (Option Bool) :=
  (cond (decide ((((List.length x.2) : Nat) : Int) ≤ (24 : Int))) (bindO (M_slices_ContainsFunc_sI_Cipher_I_Cipher (x.2, (fun (a0 : (Int × Int)) => (bindO (M_I_Group_hasCiphers_1 (a0, (x.1.1, (x.1.2.1, x.1.2.2)))) (fun (a1 : Bool) => (some a1)))))) (fun (a2 : Bool) => (some (not a2)))) (some false))

noncomputable def c_I_Group_hasCiphers : Con0 := ⟨pk_I_Group_hasCiphers, rk_I_Group_hasCiphers, M_I_Group_hasCiphers⟩

set_option maxRecDepth 100000 in
theorem eq_I_Group_hasCiphers (x : In pk_I_Group_hasCiphers) : semF (mkE [(116, c_slices_ContainsFunc_sI_Cipher_I_Cipher), (117, c_I_Group_hasCiphers_1)]) h_I_Group_hasCiphers (info Tryz.f62) pk_I_Group_hasCiphers rk_I_Group_hasCiphers x = M_I_Group_hasCiphers x := (semFF_eq _ _ _ _ _ _).symm.trans (by kernel_rfl)

set_option maxRecDepth 100000 in
theorem m_I_Group_hasCiphers : ConOK Tryz.prog 62 c_I_Group_hasCiphers := fn_ok (tyOK _) (E := mkE [(116, c_slices_ContainsFunc_sI_Cipher_I_Cipher), (117, c_I_Group_hasCiphers_1)]) (consOK_cons m_slices_ContainsFunc_sI_Cipher_I_Cipher (consOK_cons m_I_Group_hasCiphers_1 (consOK_nil rfl))) Tryz.func62 (h := h_I_Group_hasCiphers) (by kernel_rfl) eq_I_Group_hasCiphers

/-- I_Group_mul -/
def pk_I_Group_mul : List PK := [.data (.cons (.int .i64) (.cons (.int .i64) (.one (.int .i64)))), .data (.sl (.int .i64))]
def rk_I_Group_mul : List (Ty × Bool) := [((.int .i64), false)]
def h_I_Group_mul : Hints := { loops := [(0, { items := [.slot 5 (.data (.int .i64) []), .slot 10 (.data (.int .i64) [])], kill := [0, 1, 3, 4, 6, 7] ++ (sgN 11 11) })] }
noncomputable def M_I_Group_mul (x : ((Int × (Int × Int)) × (List Int))) : (Option Int) :=
  (loopO (fun (again0 : ((Int × Int) → (Option Int))) => (fun (s1 : (Int × Int)) => (cond (decide (s1.2 < (((List.length x.2) : Nat) : Int))) (bindO (getI x.2 s1.2) (fun (a2 : Int) => (bindO (some (IntKind.wrap .i64 (s1.1 * a2))) (fun (a3 : Int) => (bindO (guardO (x.1.1 != (0 : Int))) (fun (a4 : Unit) => (bindO (some (Int.tmod a3 x.1.1)) (fun (a5 : Int) => (bindO (some (IntKind.wrap .i64 (s1.2 + (1 : Int)))) (fun (a6 : Int) => (again0 (a5, a6)))))))))))) (some s1.1)))) ((1 : Int), (0 : Int)))

noncomputable def c_I_Group_mul : Con0 := ⟨pk_I_Group_mul, rk_I_Group_mul, M_I_Group_mul⟩

set_option maxRecDepth 100000 in
theorem eq_I_Group_mul (x : In pk_I_Group_mul) : semF (mkE []) h_I_Group_mul (info Tryz.f92) pk_I_Group_mul rk_I_Group_mul x = M_I_Group_mul x := (semFF_eq _ _ _ _ _ _).symm.trans (by kernel_rfl)

set_option maxRecDepth 100000 in
theorem m_I_Group_mul : ConOK Tryz.prog 92 c_I_Group_mul := fn_ok (tyOK _) (E := mkE []) (consOK_nil rfl) Tryz.func92 (h := h_I_Group_mul) (by kernel_rfl) eq_I_Group_mul

/-- I_Group_mulTwo -/
def pk_I_Group_mulTwo : List PK := [.data (.cons (.int .i64) (.cons (.int .i64) (.one (.int .i64)))), .data (.cons (.int .i64) (.one (.int .i64))), .data (.cons (.int .i64) (.one (.int .i64)))]
def rk_I_Group_mulTwo : List (Ty × Bool) := [((.cons (.int .i64) (.one (.int .i64))), false)]
def h_I_Group_mulTwo : Hints := { loops := [] }
noncomputable def M_I_Group_mulTwo (x : ((Int × (Int × Int)) × ((Int × Int) × (Int × Int)))) : (Option (Int × Int)) :=
  (bindO (M_I_Group_mul ((x.1.1, (x.1.2.1, x.1.2.2)), (x.2.1.1 :: (x.2.2.1 :: ([] : List Int))))) (fun (a0 : Int) => (bindO (M_I_Group_mul ((x.1.1, (x.1.2.1, x.1.2.2)), (x.2.1.2 :: (x.2.2.2 :: ([] : List Int))))) (fun (a1 : Int) => (some (a0, a1))))))

noncomputable def c_I_Group_mulTwo : Con0 := ⟨pk_I_Group_mulTwo, rk_I_Group_mulTwo, M_I_Group_mulTwo⟩

set_option maxRecDepth 100000 in
theorem eq_I_Group_mulTwo (x : In pk_I_Group_mulTwo) : semF (mkE [(92, c_I_Group_mul)]) h_I_Group_mulTwo (info Tryz.f63) pk_I_Group_mulTwo rk_I_Group_mulTwo x = M_I_Group_mulTwo x := (semFF_eq _ _ _ _ _ _).symm.trans (by kernel_rfl)

set_option maxRecDepth 100000 in
theorem m_I_Group_mulTwo : ConOK Tryz.prog 63 c_I_Group_mulTwo := fn_ok (tyOK _) (E := mkE [(92, c_I_Group_mul)]) (consOK_cons m_I_Group_mul (consOK_nil rfl)) Tryz.func63 (h := h_I_Group_mulTwo) (by kernel_rfl) eq_I_Group_mulTwo

/-- I_HomomorphicTally -/
def pk_I_HomomorphicTally : List PK := [.data (.cons (.int .i64) (.cons (.int .i64) (.one (.int .i64)))), .data (.sl (.sl (.cons (.int .i64) (.one (.int .i64)))))]
def rk_I_HomomorphicTally : List (Ty × Bool) := [((.sl (.cons (.int .i64) (.one (.int .i64)))), true), (.bool, false)]
def h_I_HomomorphicTally : Hints := { loops := [(0, { items := [.slot 36 (.data (.int .i64) []), .arr 6 (.cons (.int .i64) (.one (.int .i64))) true], kill := [0, 1, 3, 4, 5] ++ (sgN 7 27 ++ (sgN 37 34)) }), (2, { items := [.slot 53 (.data (.int .i64) []), .arr 6 (.cons (.int .i64) (.one (.int .i64))) true], kill := [0, 1, 3, 4, 5] ++ (sgN 7 27 ++ (sgN 37 14 ++ (sgN 54 17))) })] }
noncomputable def M_I_HomomorphicTally (x : ((Int × (Int × Int)) × (List (List (Int × Int))))) : (Option ((List (Int × Int)) × Bool)) :=
  (bindO (M_I_IsValidGroup (x.1.1, (x.1.2.1, x.1.2.2))) (fun (a0 : Bool) => (cond (not a0) (some (([] : List (Int × Int)), false)) (bindO (M_I_within ((((List.length x.2) : Nat) : Int), ((1 : Int), (24 : Int)))) (fun (a1 : Bool) => (cond (not a1) (some (([] : List (Int × Int)), false)) (bindO (getI x.2 (0 : Int)) (fun (a2 : (List (Int × Int))) => (cond ((((List.length a2) : Nat) : Int) == (0 : Int)) (some (([] : List (Int × Int)), false)) (bindO (getI x.2 (0 : Int)) (fun (a3 : (List (Int × Int))) => (bindO (M_slices_Repeat_sI_Cipher_I_Cipher ((((1 : Int), (1 : Int)) :: ([] : List (Int × Int))), (((List.length a3) : Nat) : Int))) (fun (a4 : (List (Int × Int))) => (loopO (fun (again5 : ((Int × (List (Int × Int))) → (Option ((List (Int × Int)) × Bool)))) => (fun (s6 : (Int × (List (Int × Int)))) => (cond (decide (s6.1 < (((List.length x.2) : Nat) : Int))) (bindO (getI x.2 s6.1) (fun (a7 : (List (Int × Int))) => (cond ((((List.length a7) : Nat) : Int) != (((List.length s6.2) : Nat) : Int)) (some (([] : List (Int × Int)), false)) (bindO (M_I_Group_hasCiphers ((x.1.1, (x.1.2.1, x.1.2.2)), a7)) (fun (a8 : Bool) => (cond (not a8) (some (([] : List (Int × Int)), false)) (loopO (fun (again9 : ((Int × (List (Int × Int))) → (Option ((List (Int × Int)) × Bool)))) => (fun (s10 : (Int × (List (Int × Int)))) => (cond (decide (s10.1 < (((List.length a7) : Nat) : Int))) (bindO (getI a7 s10.1) (fun (a11 : (Int × Int)) => (bindO (getI s10.2 s10.1) (fun (a12 : (Int × Int)) => (bindO (M_I_Group_mulTwo ((x.1.1, (x.1.2.1, x.1.2.2)), ((a12.1, a12.2), (a11.1, a11.2)))) (fun (a13 : (Int × Int)) => (bindO (getI s10.2 s10.1) (fun (a14 : (Int × Int)) => (bindO (some (List.set s10.2 (Int.toNat s10.1) (a13.1, a13.2))) (fun (a15 : (List (Int × Int))) => (bindO (some (IntKind.wrap .i64 (s10.1 + (1 : Int)))) (fun (a16 : Int) => (again9 (a16, a15)))))))))))))) (bindO (some (IntKind.wrap .i64 (s6.1 + (1 : Int)))) (fun (a17 : Int) => (again5 (a17, s10.2))))))) ((0 : Int), s6.2)))))))) (some (s6.2, true))))) ((0 : Int), a4)))))))))))))))

noncomputable def c_I_HomomorphicTally : Con0 := ⟨pk_I_HomomorphicTally, rk_I_HomomorphicTally, M_I_HomomorphicTally⟩

set_option maxRecDepth 100000 in
theorem eq_I_HomomorphicTally (x : In pk_I_HomomorphicTally) : semF (mkE [(59, c_I_IsValidGroup), (60, c_I_within), (61, c_slices_Repeat_sI_Cipher_I_Cipher), (62, c_I_Group_hasCiphers), (63, c_I_Group_mulTwo)]) h_I_HomomorphicTally (info Tryz.f26) pk_I_HomomorphicTally rk_I_HomomorphicTally x = M_I_HomomorphicTally x := (semFF_eq _ _ _ _ _ _).symm.trans (by kernel_rfl)

set_option maxRecDepth 100000 in
theorem m_I_HomomorphicTally : ConOK Tryz.prog 26 c_I_HomomorphicTally := fn_ok (tyOK _) (E := mkE [(59, c_I_IsValidGroup), (60, c_I_within), (61, c_slices_Repeat_sI_Cipher_I_Cipher), (62, c_I_Group_hasCiphers), (63, c_I_Group_mulTwo)]) (consOK_cons m_I_IsValidGroup (consOK_cons m_I_within (consOK_cons m_slices_Repeat_sI_Cipher_I_Cipher (consOK_cons m_I_Group_hasCiphers (consOK_cons m_I_Group_mulTwo (consOK_nil rfl)))))) Tryz.func26 (h := h_I_HomomorphicTally) (by kernel_rfl) eq_I_HomomorphicTally

/-- S_eGood -/
def pk_S_eGood : List PK := [.data (.cons (.int .i64) (.cons (.int .i64) (.one (.int .i64)))), .data (.sl (.cons (.int .i64) (.one (.int .i64))))]
def rk_S_eGood : List (Ty × Bool) := [(.bool, false)]
def h_S_eGood : Hints := { loops := [(0, { items := [.slot 12 (.data (.int .i64) [])], kill := [0, 1] ++ (sgN 3 7 ++ (sgN 13 12)) })] }
noncomputable def M_S_eGood (x : ((Int × (Int × Int)) × (List (Int × Int)))) : (Option Bool) :=
  (cond (decide ((((List.length x.2) : Nat) : Int) > (24 : Int))) (some false) (loopO (fun (again0 : (Int → (Option Bool))) => (fun (s1 : Int) => (cond (decide (s1 < (((List.length x.2) : Nat) : Int))) (bindO (getI x.2 s1) (fun (a2 : (Int × Int)) => (bindO (M_S_gIs ((x.1.1, (x.1.2.1, x.1.2.2)), (a2.1 :: (a2.2 :: ([] : List Int))))) (fun (a3 : Bool) => (cond (not a3) (some false) (bindO (some (IntKind.wrap .i64 (s1 + (1 : Int)))) (fun (a4 : Int) => (again0 a4)))))))) (some true)))) (0 : Int)))

noncomputable def c_S_eGood : Con0 := ⟨pk_S_eGood, rk_S_eGood, M_S_eGood⟩

set_option maxRecDepth 100000 in
theorem eq_S_eGood (x : In pk_S_eGood) : semF (mkE [(76, c_S_gIs)]) h_S_eGood (info Tryz.f79) pk_S_eGood rk_S_eGood x = M_S_eGood x := (semFF_eq _ _ _ _ _ _).symm.trans (by kernel_rfl)

set_option maxRecDepth 100000 in
theorem m_S_eGood : ConOK Tryz.prog 79 c_S_eGood := fn_ok (tyOK _) (E := mkE [(76, c_S_gIs)]) (consOK_cons m_S_gIs (consOK_nil rfl)) Tryz.func79 (h := h_S_eGood) (by kernel_rfl) eq_S_eGood

/-- S_gInv -/
def pk_S_gInv : List PK := [.data (.cons (.int .i64) (.cons (.int .i64) (.one (.int .i64)))), .data (.int .i64)]
def rk_S_gInv : List (Ty × Bool) := [((.int .i64), false)]
def h_S_gInv : Hints := { loops := [] }
noncomputable def M_S_gInv (x : ((Int × (Int × Int)) × Int)) : (Option Int) :=
  (bindO (some (IntKind.wrap .i64 (x.1.2.1 - (1 : Int)))) (fun (a0 : Int) => (bindO (M_S_nPower (x.2, (a0, x.1.1))) (fun (a1 : Int) => (some a1)))))

noncomputable def c_S_gInv : Con0 := ⟨pk_S_gInv, rk_S_gInv, M_S_gInv⟩

set_option maxRecDepth 100000 in
theorem eq_S_gInv (x : In pk_S_gInv) : semF (mkE [(69, c_S_nPower)]) h_S_gInv (info Tryz.f126) pk_S_gInv rk_S_gInv x = M_S_gInv x := (semFF_eq _ _ _ _ _ _).symm.trans (by kernel_rfl)

set_option maxRecDepth 100000 in
theorem m_S_gInv : ConOK Tryz.prog 126 c_S_gInv := fn_ok (tyOK _) (E := mkE [(69, c_S_nPower)]) (consOK_cons m_S_nPower (consOK_nil rfl)) Tryz.func126 (h := h_S_gInv) (by kernel_rfl) eq_S_gInv

/-- S_eDec -/
def pk_S_eDec : List PK := [.data (.cons (.int .i64) (.cons (.int .i64) (.one (.int .i64)))), .data (.int .i64), .data (.cons (.int .i64) (.one (.int .i64)))]
def rk_S_eDec : List (Ty × Bool) := [((.int .i64), false)]
def h_S_eDec : Hints := { loops := [] }
noncomputable def M_S_eDec (x : ((Int × (Int × Int)) × (Int × (Int × Int)))) : (Option Int) :=
  (bindO (M_S_gExp ((x.1.1, (x.1.2.1, x.1.2.2)), (x.2.2.1, x.2.1))) (fun (a0 : Int) => (bindO (M_S_gInv ((x.1.1, (x.1.2.1, x.1.2.2)), a0)) (fun (a1 : Int) => (bindO (M_S_gMul ((x.1.1, (x.1.2.1, x.1.2.2)), (x.2.2.2 :: (a1 :: ([] : List Int))))) (fun (a2 : Int) => (some a2)))))))

noncomputable def c_S_eDec : Con0 := ⟨pk_S_eDec, rk_S_eDec, M_S_eDec⟩

set_option maxRecDepth 100000 in
theorem eq_S_eDec (x : In pk_S_eDec) : semF (mkE [(58, c_S_gExp), (126, c_S_gInv), (112, c_S_gMul)]) h_S_eDec (info Tryz.f83) pk_S_eDec rk_S_eDec x = M_S_eDec x := (semFF_eq _ _ _ _ _ _).symm.trans (by kernel_rfl)

set_option maxRecDepth 100000 in
theorem m_S_eDec : ConOK Tryz.prog 83 c_S_eDec := fn_ok (tyOK _) (E := mkE [(58, c_S_gExp), (126, c_S_gInv), (112, c_S_gMul)]) (consOK_cons m_S_gExp (consOK_cons m_S_gInv (consOK_cons m_S_gMul (consOK_nil rfl)))) Tryz.func83 (h := h_S_eDec) (by kernel_rfl) eq_S_eDec

/-- S_DecryptElement -/
def pk_S_DecryptElement : List PK := [.data (.cons (.int .i64) (.cons (.int .i64) (.one (.int .i64)))), .data (.int .i64), .data (.cons (.int .i64) (.one (.int .i64)))]
def rk_S_DecryptElement : List (Ty × Bool) := [((.int .i64), false), (.bool, false)]
def h_S_DecryptElement : Hints := { loops := [] }
noncomputable def M_S_DecryptElement (x : ((Int × (Int × Int)) × (Int × (Int × Int)))) : (Option (Int × Bool)) :=
  (bindO (M_S_l2Good (x.1.1, (x.1.2.1, x.1.2.2))) (fun (a0 : Bool) => (cond (not a0) (some ((0 : Int), false)) (bindO (M_S_eGood ((x.1.1, (x.1.2.1, x.1.2.2)), ((x.2.2.1, x.2.2.2) :: ([] : List (Int × Int))))) (fun (a1 : Bool) => (cond (not a1) (some ((0 : Int), false)) (bindO (M_S_gExps ((x.1.1, (x.1.2.1, x.1.2.2)), (x.2.1 :: ([] : List Int)))) (fun (a2 : Bool) => (cond (not a2) (some ((0 : Int), false)) (bindO (M_S_eDec ((x.1.1, (x.1.2.1, x.1.2.2)), (x.2.1, (x.2.2.1, x.2.2.2)))) (fun (a3 : Int) => (some (a3, true)))))))))))))

noncomputable def c_S_DecryptElement : Con0 := ⟨pk_S_DecryptElement, rk_S_DecryptElement, M_S_DecryptElement⟩

set_option maxRecDepth 100000 in
theorem eq_S_DecryptElement (x : In pk_S_DecryptElement) : semF (mkE [(75, c_S_l2Good), (79, c_S_eGood), (56, c_S_gExps), (83, c_S_eDec)]) h_S_DecryptElement (info Tryz.f64) pk_S_DecryptElement rk_S_DecryptElement x = M_S_DecryptElement x := (semFF_eq _ _ _ _ _ _).symm.trans (by kernel_rfl)

set_option maxRecDepth 100000 in
theorem m_S_DecryptElement : ConOK Tryz.prog 64 c_S_DecryptElement := fn_ok (tyOK _) (E := mkE [(75, c_S_l2Good), (79, c_S_eGood), (56, c_S_gExps), (83, c_S_eDec)]) (consOK_cons m_S_l2Good (consOK_cons m_S_eGood (consOK_cons m_S_gExps (consOK_cons m_S_eDec (consOK_nil rfl))))) Tryz.func64 (h := h_S_DecryptElement) (by kernel_rfl) eq_S_DecryptElement

/-- S_gLog -/
def pk_S_gLog : List PK := [.data (.cons (.int .i64) (.cons (.int .i64) (.one (.int .i64)))), .data (.int .i64), .data (.int .i64), .data (.int .i64)]
def rk_S_gLog : List (Ty × Bool) := [((.int .i64), false), (.bool, false)]
def h_S_gLog : Hints := { loops := [(0, { items := [.slot 10 (.data (.int .i64) []), .slot 11 (.data (.int .i64) [])], kill := [0] ++ (sgN 5 5 ++ (sgN 12 17)) })] }
noncomputable def M_S_gLog (x : ((Int × (Int × Int)) × (Int × (Int × Int)))) : (Option (Int × Bool)) :=
  (loopO (fun (again0 : ((Int × Int) → (Option (Int × Bool)))) => (fun (s1 : (Int × Int)) => (cond (decide (s1.2 ≤ x.2.2.2)) (cond (s1.1 == x.2.2.1) (some (s1.2, true)) (bindO (some (IntKind.wrap .i64 (s1.1 * x.2.1))) (fun (a2 : Int) => (bindO (guardO (x.1.1 != (0 : Int))) (fun (a3 : Unit) => (bindO (some (Int.tmod a2 x.1.1)) (fun (a4 : Int) => (cond (a4 == (1 : Int)) (some ((0 : Int), false)) (bindO (some (IntKind.wrap .i64 (s1.2 + (1 : Int)))) (fun (a5 : Int) => (again0 (a4, a5)))))))))))) (some ((0 : Int), false))))) ((1 : Int), (0 : Int)))

noncomputable def c_S_gLog : Con0 := ⟨pk_S_gLog, rk_S_gLog, M_S_gLog⟩

set_option maxRecDepth 100000 in
theorem eq_S_gLog (x : In pk_S_gLog) : semF (mkE []) h_S_gLog (info Tryz.f66) pk_S_gLog rk_S_gLog x = M_S_gLog x := (semFF_eq _ _ _ _ _ _).symm.trans (by kernel_rfl)

set_option maxRecDepth 100000 in
theorem m_S_gLog : ConOK Tryz.prog 66 c_S_gLog := fn_ok (tyOK _) (E := mkE []) (consOK_nil rfl) Tryz.func66 (h := h_S_gLog) (by kernel_rfl) eq_S_gLog

/-- S_DecryptExp -/
def pk_S_DecryptExp : List PK := [.data (.cons (.int .i64) (.cons (.int .i64) (.one (.int .i64)))), .data (.int .i64), .data (.cons (.int .i64) (.one (.int .i64))), .data (.int .i64)]
def rk_S_DecryptExp : List (Ty × Bool) := [((.int .i64), false), (.bool, false)]
def h_S_DecryptExp : Hints := { loops := [] }
noncomputable def M_S_DecryptExp (x : ((Int × (Int × Int)) × (Int × ((Int × Int) × Int)))) : (Option (Int × Bool)) :=
  (bindO (M_S_DecryptElement ((x.1.1, (x.1.2.1, x.1.2.2)), (x.2.1, (x.2.2.1.1, x.2.2.1.2)))) (fun (a0 : (Int × Bool)) => (cond (not a0.2) (some ((0 : Int), false)) (bindO (M_S_l1In (x.2.2.2, ((0 : Int), (1000000 : Int)))) (fun (a1 : Bool) => (cond (not a1) (some ((0 : Int), false)) (bindO (M_S_gLog ((x.1.1, (x.1.2.1, x.1.2.2)), (x.1.2.2, (a0.1, x.2.2.2)))) (fun (a2 : (Int × Bool)) => (some (a2.1, a2.2))))))))))

noncomputable def c_S_DecryptExp : Con0 := ⟨pk_S_DecryptExp, rk_S_DecryptExp, M_S_DecryptExp⟩

set_option maxRecDepth 100000 in
theorem eq_S_DecryptExp (x : In pk_S_DecryptExp) : semF (mkE [(64, c_S_DecryptElement), (65, c_S_l1In), (66, c_S_gLog)]) h_S_DecryptExp (info Tryz.f27) pk_S_DecryptExp rk_S_DecryptExp x = M_S_DecryptExp x := (semFF_eq _ _ _ _ _ _).symm.trans (by kernel_rfl)

set_option maxRecDepth 100000 in
theorem m_S_DecryptExp : ConOK Tryz.prog 27 c_S_DecryptExp := fn_ok (tyOK _) (E := mkE [(64, c_S_DecryptElement), (65, c_S_l1In), (66, c_S_gLog)]) (consOK_cons m_S_DecryptElement (consOK_cons m_S_l1In (consOK_cons m_S_gLog (consOK_nil rfl)))) Tryz.func27 (h := h_S_DecryptExp) (by kernel_rfl) eq_S_DecryptExp

/-- S_MakeGroup -/
def pk_S_MakeGroup : List PK := [.data (.int .i64)]
def rk_S_MakeGroup : List (Ty × Bool) := [((.cons (.int .i64) (.cons (.int .i64) (.one (.int .i64)))), false), (.bool, false)]
def h_S_MakeGroup : Hints := { loops := [(0, { items := [.slot 4 (.data (.int .i64) []), .cell 2 0 (.data (.int .i64) []), .cell 2 1 (.data (.int .i64) []), .cell 2 2 (.data (.int .i64) [])], kill := [1, 3] ++ (sgN 5 41) }), (2, { items := [.slot 5 (.data (.int .i64) [])], kill := [1, 3] ++ (sgN 6 40) })] }
noncomputable def M_S_MakeGroup (x : Int) : (Option ((Int × (Int × Int)) × Bool)) :=
  (bindO (M_S_l1In (x, ((2 : Int), (1000000 : Int)))) (fun (a0 : Bool) => (cond (not a0) (some (((0 : Int), ((0 : Int), (0 : Int))), false)) (bindO (M_S_nPrime x) (fun (a1 : Bool) => (cond (not a1) (some (((0 : Int), ((0 : Int), (0 : Int))), false)) (bindO (some (IntKind.wrap .i64 (x + (1 : Int)))) (fun (a2 : Int) => (loopO (fun (again3 : ((Int × (Int × (Int × Int))) → (Option ((Int × (Int × Int)) × Bool)))) => (fun (s4 : (Int × (Int × (Int × Int)))) => (cond (decide (s4.1 ≤ (2000000000 : Int))) (bindO (M_S_nPrime s4.1) (fun (a5 : Bool) => (cond (not a5) (bindO (some (IntKind.wrap .i64 (s4.1 + x))) (fun (a6 : Int) => (again3 (a6, (s4.2.1, (s4.2.2.1, s4.2.2.2)))))) (loopO (fun (again7 : (Int → (Option ((Int × (Int × Int)) × Bool)))) => (fun (s8 : Int) => (bindO (some (IntKind.wrap .i64 (s4.1 - (1 : Int)))) (fun (a9 : Int) => (bindO (guardO (x != (0 : Int))) (fun (a10 : Unit) => (bindO (some (IntKind.wrap .i64 (Int.tdiv a9 x))) (fun (a11 : Int) => (bindO (M_S_nPower (s8, (a11, s4.1))) (fun (a12 : Int) => (cond (a12 == (1 : Int)) (bindO (some (IntKind.wrap .i64 (s8 + (1 : Int)))) (fun (a13 : Int) => (again7 a13))) (bindO (some (IntKind.wrap .i64 (s4.1 - (1 : Int)))) (fun (a14 : Int) => (bindO (guardO (x != (0 : Int))) (fun (a15 : Unit) => (bindO (some (IntKind.wrap .i64 (Int.tdiv a14 x))) (fun (a16 : Int) => (bindO (M_S_nPower (s8, (a16, s4.1))) (fun (a17 : Int) => (some ((s4.1, (x, a17)), true))))))))))))))))))))) (2 : Int))))) (some (((0 : Int), ((0 : Int), (0 : Int))), false))))) (a2, ((0 : Int), ((0 : Int), (0 : Int)))))))))))))

noncomputable def c_S_MakeGroup : Con0 := ⟨pk_S_MakeGroup, rk_S_MakeGroup, M_S_MakeGroup⟩

set_option maxRecDepth 100000 in
theorem eq_S_MakeGroup (x : In pk_S_MakeGroup) : semF (mkE [(65, c_S_l1In), (123, c_S_nPrime), (69, c_S_nPower)]) h_S_MakeGroup (info Tryz.f160) pk_S_MakeGroup rk_S_MakeGroup x = M_S_MakeGroup x := (semFF_eq _ _ _ _ _ _).symm.trans (by kernel_rfl)

set_option maxRecDepth 100000 in
theorem m_S_MakeGroup : ConOK Tryz.prog 160 c_S_MakeGroup := fn_ok (tyOK _) (E := mkE [(65, c_S_l1In), (123, c_S_nPrime), (69, c_S_nPower)]) (consOK_cons m_S_l1In (consOK_cons m_S_nPrime (consOK_cons m_S_nPower (consOK_nil rfl)))) Tryz.func160 (h := h_S_MakeGroup) (by kernel_rfl) eq_S_MakeGroup

/-- S_l1Cur_tiny -/
def pk_S_l1Cur_tiny : List PK := [.mp (.cons (.sl (.int .u8)) (.cons (.int .i64) (.one (.int .u64)))) false]
def rk_S_l1Cur_tiny : List (Ty × Bool) := [((.cons (.int .i64) (.cons (.int .i64) (.one (.int .i64)))), false)]
def h_S_l1Cur_tiny : Hints := { loops := [] }
noncomputable def M_S_l1Cur_tiny (x : ((List Int) × (Int × Int))) : (Option ((Int × (Int × Int)) × ((List Int) × (Int × Int)))) :=
  (bindO (M_S_l1Cur_among ((x.1, (x.2.1, x.2.2)), ((3 : Int) :: ((5 : Int) :: ((5 : Int) :: ((7 : Int) :: ((11 : Int) :: ((11 : Int) :: ((13 : Int) :: ((23 : Int) :: ([] : List Int))))))))))) (fun (a0 : (Int × ((List Int) × (Int × Int)))) => (bindO (M_S_MakeGroup a0.1) (fun (a1 : ((Int × (Int × Int)) × Bool)) => (some ((a1.1.1, (a1.1.2.1, a1.1.2.2)), (a0.2.1, (a0.2.2.1, a0.2.2.2))))))))

noncomputable def c_S_l1Cur_tiny : Con0 := ⟨pk_S_l1Cur_tiny, rk_S_l1Cur_tiny, M_S_l1Cur_tiny⟩

set_option maxRecDepth 100000 in
theorem eq_S_l1Cur_tiny (x : In pk_S_l1Cur_tiny) : semF (mkE [(72, c_S_l1Cur_among), (160, c_S_MakeGroup)]) h_S_l1Cur_tiny (info Tryz.f161) pk_S_l1Cur_tiny rk_S_l1Cur_tiny x = M_S_l1Cur_tiny x := (semFF_eq _ _ _ _ _ _).symm.trans (by kernel_rfl)

set_option maxRecDepth 100000 in
theorem m_S_l1Cur_tiny : ConOK Tryz.prog 161 c_S_l1Cur_tiny := fn_ok (tyOK _) (E := mkE [(72, c_S_l1Cur_among), (160, c_S_MakeGroup)]) (consOK_cons m_S_l1Cur_among (consOK_cons m_S_MakeGroup (consOK_nil rfl))) Tryz.func161 (h := h_S_l1Cur_tiny) (by kernel_rfl) eq_S_l1Cur_tiny

/-- S_l1Cur_group -/
def pk_S_l1Cur_group : List PK := [.mp (.cons (.sl (.int .u8)) (.cons (.int .i64) (.one (.int .u64)))) false]
def rk_S_l1Cur_group : List (Ty × Bool) := [((.cons (.int .i64) (.cons (.int .i64) (.one (.int .i64)))), false)]
def h_S_l1Cur_group : Hints := { loops := [] }
noncomputable def M_S_l1Cur_group (x : ((List Int) × (Int × Int))) : (Option ((Int × (Int × Int)) × ((List Int) × (Int × Int)))) :=
  (bindO (M_S_l1Cur_pick ((x.1, (x.2.1, x.2.2)), (6 : Int))) (fun (a0 : (Int × ((List Int) × (Int × Int)))) => (cond (a0.1 == (0 : Int)) (some (((1000000007 : Int), ((500000003 : Int), (4 : Int))), (a0.2.1, (a0.2.2.1, a0.2.2.2)))) (cond (a0.1 == (1 : Int)) (bindO (M_S_l1Cur_among ((a0.2.1, (a0.2.2.1, a0.2.2.2)), ((101 : Int) :: ((1009 : Int) :: ((1019 : Int) :: ((65537 : Int) :: ((999983 : Int) :: ([] : List Int)))))))) (fun (a1 : (Int × ((List Int) × (Int × Int)))) => (bindO (M_S_MakeGroup a1.1) (fun (a2 : ((Int × (Int × Int)) × Bool)) => (some ((a2.1.1, (a2.1.2.1, a2.1.2.2)), (a1.2.1, (a1.2.2.1, a1.2.2.2)))))))) (bindO (M_S_l1Cur_tiny (a0.2.1, (a0.2.2.1, a0.2.2.2))) (fun (a3 : ((Int × (Int × Int)) × ((List Int) × (Int × Int)))) => (bindO (some (IntKind.wrap .i64 (a3.1.2.1 - (1 : Int)))) (fun (a4 : Int) => (bindO (M_S_l1Cur_pick ((a3.2.1, (a3.2.2.1, a3.2.2.2)), a4)) (fun (a5 : (Int × ((List Int) × (Int × Int)))) => (bindO (some (IntKind.wrap .i64 ((1 : Int) + a5.1))) (fun (a6 : Int) => (bindO (M_S_gExp ((a3.1.1, (a3.1.2.1, a3.1.2.2)), (a3.1.2.2, a6))) (fun (a7 : Int) => (some ((a3.1.1, (a3.1.2.1, a7)), (a5.2.1, (a5.2.2.1, a5.2.2.2))))))))))))))))))

noncomputable def c_S_l1Cur_group : Con0 := ⟨pk_S_l1Cur_group, rk_S_l1Cur_group, M_S_l1Cur_group⟩

set_option maxRecDepth 100000 in
theorem eq_S_l1Cur_group (x : In pk_S_l1Cur_group) : semF (mkE [(68, c_S_l1Cur_pick), (72, c_S_l1Cur_among), (160, c_S_MakeGroup), (161, c_S_l1Cur_tiny), (58, c_S_gExp)]) h_S_l1Cur_group (info Tryz.f119) pk_S_l1Cur_group rk_S_l1Cur_group x = M_S_l1Cur_group x := (semFF_eq _ _ _ _ _ _).symm.trans (by kernel_rfl)

set_option maxRecDepth 100000 in
theorem m_S_l1Cur_group : ConOK Tryz.prog 119 c_S_l1Cur_group := fn_ok (tyOK _) (E := mkE [(68, c_S_l1Cur_pick), (72, c_S_l1Cur_among), (160, c_S_MakeGroup), (161, c_S_l1Cur_tiny), (58, c_S_gExp)]) (consOK_cons m_S_l1Cur_pick (consOK_cons m_S_l1Cur_among (consOK_cons m_S_MakeGroup (consOK_cons m_S_l1Cur_tiny (consOK_cons m_S_gExp (consOK_nil rfl)))))) Tryz.func119 (h := h_S_l1Cur_group) (by kernel_rfl) eq_S_l1Cur_group

/-- S_l1Cur_anyGroup -/
def pk_S_l1Cur_anyGroup : List PK := [.mp (.cons (.sl (.int .u8)) (.cons (.int .i64) (.one (.int .u64)))) false]
def rk_S_l1Cur_anyGroup : List (Ty × Bool) := [((.cons (.int .i64) (.cons (.int .i64) (.one (.int .i64)))), false)]
def h_S_l1Cur_anyGroup : Hints := { loops := [] }
noncomputable def M_S_l1Cur_anyGroup (x : ((List Int) × (Int × Int))) : (Option ((Int × (Int × Int)) × ((List Int) × (Int × Int)))) :=
  (bindO (M_S_l1Cur_group (x.1, (x.2.1, x.2.2))) (fun (a0 : ((Int × (Int × Int)) × ((List Int) × (Int × Int)))) => (bindO (M_S_l1Cur_pick ((a0.2.1, (a0.2.2.1, a0.2.2.2)), (24 : Int))) (fun (a1 : (Int × ((List Int) × (Int × Int)))) => (cond (a1.1 == (0 : Int)) (bindO (some (IntKind.wrap .i64 (a0.1.1 + (2 : Int)))) (fun (a2 : Int) => (bindO (M_S_l1Cur_among ((a1.2.1, (a1.2.2.1, a1.2.2.2)), ((0 : Int) :: (a2 :: ((4 : Int) :: ((- (7 : Int)) :: ([] : List Int))))))) (fun (a3 : (Int × ((List Int) × (Int × Int)))) => (some ((a3.1, (a0.1.2.1, a0.1.2.2)), (a3.2.1, (a3.2.2.1, a3.2.2.2)))))))) (cond (a1.1 == (1 : Int)) (bindO (some (IntKind.wrap .i64 (a0.1.2.1 + (1 : Int)))) (fun (a4 : Int) => (bindO (some (IntKind.wrap .i64 (a0.1.1 - (1 : Int)))) (fun (a5 : Int) => (bindO (M_S_l1Cur_among ((a1.2.1, (a1.2.2.1, a1.2.2.2)), ((0 : Int) :: ((1 : Int) :: (a4 :: (a5 :: ([] : List Int))))))) (fun (a6 : (Int × ((List Int) × (Int × Int)))) => (some ((a0.1.1, (a6.1, a0.1.2.2)), (a6.2.1, (a6.2.2.1, a6.2.2.2)))))))))) (cond (a1.1 == (2 : Int)) (bindO (some (IntKind.wrap .i64 (a0.1.1 - (1 : Int)))) (fun (a7 : Int) => (bindO (some (IntKind.wrap .i64 (a0.1.2.2 + (1 : Int)))) (fun (a8 : Int) => (bindO (M_S_l1Cur_among ((a1.2.1, (a1.2.2.1, a1.2.2.2)), ((0 : Int) :: ((1 : Int) :: (a7 :: (a0.1.1 :: (a8 :: ([] : List Int)))))))) (fun (a9 : (Int × ((List Int) × (Int × Int)))) => (some ((a0.1.1, (a0.1.2.1, a9.1)), (a9.2.1, (a9.2.2.1, a9.2.2.2)))))))))) (some ((a0.1.1, (a0.1.2.1, a0.1.2.2)), (a1.2.1, (a1.2.2.1, a1.2.2.2)))))))))))

noncomputable def c_S_l1Cur_anyGroup : Con0 := ⟨pk_S_l1Cur_anyGroup, rk_S_l1Cur_anyGroup, M_S_l1Cur_anyGroup⟩

set_option maxRecDepth 100000 in
theorem eq_S_l1Cur_anyGroup (x : In pk_S_l1Cur_anyGroup) : semF (mkE [(119, c_S_l1Cur_group), (68, c_S_l1Cur_pick), (72, c_S_l1Cur_among)]) h_S_l1Cur_anyGroup (info Tryz.f67) pk_S_l1Cur_anyGroup rk_S_l1Cur_anyGroup x = M_S_l1Cur_anyGroup x := (semFF_eq _ _ _ _ _ _).symm.trans (by kernel_rfl)

set_option maxRecDepth 100000 in
theorem m_S_l1Cur_anyGroup : ConOK Tryz.prog 67 c_S_l1Cur_anyGroup := fn_ok (tyOK _) (E := mkE [(119, c_S_l1Cur_group), (68, c_S_l1Cur_pick), (72, c_S_l1Cur_among)]) (consOK_cons m_S_l1Cur_group (consOK_cons m_S_l1Cur_pick (consOK_cons m_S_l1Cur_among (consOK_nil rfl)))) Tryz.func67 (h := h_S_l1Cur_anyGroup) (by kernel_rfl) eq_S_l1Cur_anyGroup

/-- S_l1Cur_expo -/
def pk_S_l1Cur_expo : List PK := [.mp (.cons (.sl (.int .u8)) (.cons (.int .i64) (.one (.int .u64)))) false, .data (.cons (.int .i64) (.cons (.int .i64) (.one (.int .i64))))]
def rk_S_l1Cur_expo : List (Ty × Bool) := [((.int .i64), false)]
def h_S_l1Cur_expo : Hints := { loops := [] }
noncomputable def M_S_l1Cur_expo (x : (((List Int) × (Int × Int)) × (Int × (Int × Int)))) : (Option (Int × ((List Int) × (Int × Int)))) :=
  (cond (decide (x.2.2.1 < (2 : Int))) (some ((0 : Int), (x.1.1, (x.1.2.1, x.1.2.2)))) (bindO (M_S_l1Cur_pick ((x.1.1, (x.1.2.1, x.1.2.2)), (60000 : Int))) (fun (a0 : (Int × ((List Int) × (Int × Int)))) => (bindO (some (IntKind.wrap .i64 (a0.1 * (60000 : Int)))) (fun (a1 : Int) => (bindO (M_S_l1Cur_pick ((a0.2.1, (a0.2.2.1, a0.2.2.2)), (60000 : Int))) (fun (a2 : (Int × ((List Int) × (Int × Int)))) => (bindO (some (IntKind.wrap .i64 (a1 + a2.1))) (fun (a3 : Int) => (bindO (guardO (x.2.2.1 != (0 : Int))) (fun (a4 : Unit) => (bindO (some (Int.tmod a3 x.2.2.1)) (fun (a5 : Int) => (some (a5, (a2.2.1, (a2.2.2.1, a2.2.2.2)))))))))))))))))

noncomputable def c_S_l1Cur_expo : Con0 := ⟨pk_S_l1Cur_expo, rk_S_l1Cur_expo, M_S_l1Cur_expo⟩

set_option maxRecDepth 100000 in
theorem eq_S_l1Cur_expo (x : In pk_S_l1Cur_expo) : semF (mkE [(68, c_S_l1Cur_pick)]) h_S_l1Cur_expo (info Tryz.f162) pk_S_l1Cur_expo rk_S_l1Cur_expo x = M_S_l1Cur_expo x := (semFF_eq _ _ _ _ _ _).symm.trans (by kernel_rfl)

set_option maxRecDepth 100000 in
theorem m_S_l1Cur_expo : ConOK Tryz.prog 162 c_S_l1Cur_expo := fn_ok (tyOK _) (E := mkE [(68, c_S_l1Cur_pick)]) (consOK_cons m_S_l1Cur_pick (consOK_nil rfl)) Tryz.func162 (h := h_S_l1Cur_expo) (by kernel_rfl) eq_S_l1Cur_expo

/-- S_l1Cur_element -/
def pk_S_l1Cur_element : List PK := [.mp (.cons (.sl (.int .u8)) (.cons (.int .i64) (.one (.int .u64)))) false, .data (.cons (.int .i64) (.cons (.int .i64) (.one (.int .i64))))]
def rk_S_l1Cur_element : List (Ty × Bool) := [((.int .i64), false)]
def h_S_l1Cur_element : Hints := { loops := [] }
noncomputable def M_S_l1Cur_element (x : (((List Int) × (Int × Int)) × (Int × (Int × Int)))) : (Option (Int × ((List Int) × (Int × Int)))) :=
  (cond (decide (x.2.1 < (3 : Int))) (some ((1 : Int), (x.1.1, (x.1.2.1, x.1.2.2)))) (cond (decide (x.2.2.1 < (1 : Int))) (some ((1 : Int), (x.1.1, (x.1.2.1, x.1.2.2)))) (bindO (M_S_nMod (x.2.2.2, x.2.1)) (fun (a0 : Int) => (bindO (M_S_l1Cur_expo ((x.1.1, (x.1.2.1, x.1.2.2)), (x.2.1, (x.2.2.1, x.2.2.2)))) (fun (a1 : (Int × ((List Int) × (Int × Int)))) => (bindO (M_S_gExp ((x.2.1, (x.2.2.1, x.2.2.2)), (a0, a1.1))) (fun (a2 : Int) => (some (a2, (a1.2.1, (a1.2.2.1, a1.2.2.2))))))))))))

noncomputable def c_S_l1Cur_element : Con0 := ⟨pk_S_l1Cur_element, rk_S_l1Cur_element, M_S_l1Cur_element⟩

set_option maxRecDepth 100000 in
theorem eq_S_l1Cur_element (x : In pk_S_l1Cur_element) : semF (mkE [(70, c_S_nMod), (162, c_S_l1Cur_expo), (58, c_S_gExp)]) h_S_l1Cur_element (info Tryz.f121) pk_S_l1Cur_element rk_S_l1Cur_element x = M_S_l1Cur_element x := (semFF_eq _ _ _ _ _ _).symm.trans (by kernel_rfl)

set_option maxRecDepth 100000 in
theorem m_S_l1Cur_element : ConOK Tryz.prog 121 c_S_l1Cur_element := fn_ok (tyOK _) (E := mkE [(70, c_S_nMod), (162, c_S_l1Cur_expo), (58, c_S_gExp)]) (consOK_cons m_S_nMod (consOK_cons m_S_l1Cur_expo (consOK_cons m_S_gExp (consOK_nil rfl)))) Tryz.func121 (h := h_S_l1Cur_element) (by kernel_rfl) eq_S_l1Cur_element

/-- S_l1Cur_anyElement -/
def pk_S_l1Cur_anyElement : List PK := [.mp (.cons (.sl (.int .u8)) (.cons (.int .i64) (.one (.int .u64)))) false, .data (.cons (.int .i64) (.cons (.int .i64) (.one (.int .i64))))]
def rk_S_l1Cur_anyElement : List (Ty × Bool) := [((.int .i64), false)]
def h_S_l1Cur_anyElement : Hints := { loops := [] }
noncomputable def M_S_l1Cur_anyElement (x : (((List Int) × (Int × Int)) × (Int × (Int × Int)))) : (Option (Int × ((List Int) × (Int × Int)))) :=
  (bindO (M_S_l1Cur_one ((x.1.1, (x.1.2.1, x.1.2.2)), (20 : Int))) (fun (a0 : (Bool × ((List Int) × (Int × Int)))) => (cond a0.1 (bindO (some (IntKind.wrap .i64 (x.2.1 - (1 : Int)))) (fun (a1 : Int) => (bindO (M_S_l1Cur_among ((a0.2.1, (a0.2.2.1, a0.2.2.2)), ((0 : Int) :: ((1 : Int) :: (a1 :: (x.2.1 :: ((- (1 : Int)) :: ((5 : Int) :: ([] : List Int))))))))) (fun (a2 : (Int × ((List Int) × (Int × Int)))) => (some (a2.1, (a2.2.1, (a2.2.2.1, a2.2.2.2)))))))) (bindO (M_S_l1Cur_element ((a0.2.1, (a0.2.2.1, a0.2.2.2)), (x.2.1, (x.2.2.1, x.2.2.2)))) (fun (a3 : (Int × ((List Int) × (Int × Int)))) => (some (a3.1, (a3.2.1, (a3.2.2.1, a3.2.2.2)))))))))

noncomputable def c_S_l1Cur_anyElement : Con0 := ⟨pk_S_l1Cur_anyElement, rk_S_l1Cur_anyElement, M_S_l1Cur_anyElement⟩

set_option maxRecDepth 100000 in
theorem eq_S_l1Cur_anyElement (x : In pk_S_l1Cur_anyElement) : semF (mkE [(45, c_S_l1Cur_one), (72, c_S_l1Cur_among), (121, c_S_l1Cur_element)]) h_S_l1Cur_anyElement (info Tryz.f71) pk_S_l1Cur_anyElement rk_S_l1Cur_anyElement x = M_S_l1Cur_anyElement x := (semFF_eq _ _ _ _ _ _).symm.trans (by kernel_rfl)

set_option maxRecDepth 100000 in
theorem m_S_l1Cur_anyElement : ConOK Tryz.prog 71 c_S_l1Cur_anyElement := fn_ok (tyOK _) (E := mkE [(45, c_S_l1Cur_one), (72, c_S_l1Cur_among), (121, c_S_l1Cur_element)]) (consOK_cons m_S_l1Cur_one (consOK_cons m_S_l1Cur_among (consOK_cons m_S_l1Cur_element (consOK_nil rfl)))) Tryz.func71 (h := h_S_l1Cur_anyElement) (by kernel_rfl) eq_S_l1Cur_anyElement

/-- S_DrawDecodeTally -/
def pk_S_DrawDecodeTally : List PK := [.data (.sl (.int .u8))]
def rk_S_DrawDecodeTally : List (Ty × Bool) := [((.cons (.int .i64) (.cons (.int .i64) (.one (.int .i64)))), false), ((.sl (.int .i64)), true), ((.int .i64), false)]
def h_S_DrawDecodeTally : Hints := { loops := [(0, { items := [.slot 7 (.own (.int .i64) true), .slot 8 (.data (.int .i64) []), .cell 11 0 (.data (.sl (.int .u8)) []), .cell 11 1 (.data (.int .i64) []), .cell 11 2 (.data (.int .u64) [])], kill := [0, 1, 3, 4, 9, 10] ++ (sgN 12 40) })] }
noncomputable def M_S_DrawDecodeTally (x : (List Int)) : (Option ((Int × (Int × Int)) × ((List Int) × Int))) :=
  (bindO (M_S_l1Cur_anyGroup (x, ((0 : Int), (0 : Int)))) (fun (a0 : ((Int × (Int × Int)) × ((List Int) × (Int × Int)))) => (bindO (M_S_l1Cur_pick ((a0.2.1, (a0.2.2.1, a0.2.2.2)), (5 : Int))) (fun (a1 : (Int × ((List Int) × (Int × Int)))) => (loopO (fun (again2 : (((List Int) × (Int × ((List Int) × (Int × Int)))) → (Option ((Int × (Int × Int)) × ((List Int) × Int))))) => (fun (s3 : ((List Int) × (Int × ((List Int) × (Int × Int))))) => (cond (decide (s3.2.1 > (0 : Int))) (cond (decide (a0.1.1 < (3 : Int))) (bindO (guardO (lenOk ((List.length s3.1) + (List.length ((1 : Int) :: ([] : List Int)))))) (fun (a4 : Unit) => (bindO (some (s3.1 ++ ((1 : Int) :: ([] : List Int)))) (fun (a5 : (List Int)) => (bindO (some (IntKind.wrap .i64 (s3.2.1 - (1 : Int)))) (fun (a6 : Int) => (again2 (a5, (a6, (s3.2.2.1, (s3.2.2.2.1, s3.2.2.2.2))))))))))) (bindO (M_S_nMod (a0.1.2.2, a0.1.1)) (fun (a7 : Int) => (bindO (M_S_l1Cur_pick ((s3.2.2.1, (s3.2.2.2.1, s3.2.2.2.2)), (30 : Int))) (fun (a8 : (Int × ((List Int) × (Int × Int)))) => (bindO (M_S_nPower (a7, (a8.1, a0.1.1))) (fun (a9 : Int) => (bindO (guardO (lenOk ((List.length s3.1) + (List.length (a9 :: ([] : List Int)))))) (fun (a10 : Unit) => (bindO (some (s3.1 ++ (a9 :: ([] : List Int)))) (fun (a11 : (List Int)) => (bindO (some (IntKind.wrap .i64 (s3.2.1 - (1 : Int)))) (fun (a12 : Int) => (again2 (a11, (a12, (a8.2.1, (a8.2.2.1, a8.2.2.2)))))))))))))))))) (bindO (M_S_l1Cur_one ((s3.2.2.1, (s3.2.2.2.1, s3.2.2.2.2)), (8 : Int))) (fun (a13 : (Bool × ((List Int) × (Int × Int)))) => (cond a13.1 (bindO (M_S_l1Cur_anyElement ((a13.2.1, (a13.2.2.1, a13.2.2.2)), (a0.1.1, (a0.1.2.1, a0.1.2.2)))) (fun (a14 : (Int × ((List Int) × (Int × Int)))) => (bindO (guardO (lenOk ((List.length s3.1) + (List.length (a14.1 :: ([] : List Int)))))) (fun (a15 : Unit) => (bindO (some (s3.1 ++ (a14.1 :: ([] : List Int)))) (fun (a16 : (List Int)) => (bindO (M_S_l1Cur_among ((a14.2.1, (a14.2.2.1, a14.2.2.2)), ((0 : Int) :: ((5 : Int) :: ((30 : Int) :: ((30 : Int) :: ((30 : Int) :: ((1000 : Int) :: ((- (1 : Int)) :: ([] : List Int)))))))))) (fun (a17 : (Int × ((List Int) × (Int × Int)))) => (some ((a0.1.1, (a0.1.2.1, a0.1.2.2)), (a16, a17.1))))))))))) (bindO (M_S_l1Cur_among ((a13.2.1, (a13.2.2.1, a13.2.2.2)), ((0 : Int) :: ((5 : Int) :: ((30 : Int) :: ((30 : Int) :: ((30 : Int) :: ((1000 : Int) :: ((- (1 : Int)) :: ([] : List Int)))))))))) (fun (a18 : (Int × ((List Int) × (Int × Int)))) => (some ((a0.1.1, (a0.1.2.1, a0.1.2.2)), (s3.1, a18.1))))))))))) (([] : List Int), (a1.1, (a1.2.1, (a1.2.2.1, a1.2.2.2)))))))))

noncomputable def c_S_DrawDecodeTally : Con0 := ⟨pk_S_DrawDecodeTally, rk_S_DrawDecodeTally, M_S_DrawDecodeTally⟩

set_option maxRecDepth 100000 in
theorem eq_S_DrawDecodeTally (x : In pk_S_DrawDecodeTally) : semF (mkE [(67, c_S_l1Cur_anyGroup), (68, c_S_l1Cur_pick), (70, c_S_nMod), (69, c_S_nPower), (45, c_S_l1Cur_one), (71, c_S_l1Cur_anyElement), (72, c_S_l1Cur_among)]) h_S_DrawDecodeTally (info Tryz.f28) pk_S_DrawDecodeTally rk_S_DrawDecodeTally x = M_S_DrawDecodeTally x := (semFF_eq _ _ _ _ _ _).symm.trans (by kernel_rfl)

set_option maxRecDepth 100000 in
theorem m_S_DrawDecodeTally : ConOK Tryz.prog 28 c_S_DrawDecodeTally := fn_ok (tyOK _) (E := mkE [(67, c_S_l1Cur_anyGroup), (68, c_S_l1Cur_pick), (70, c_S_nMod), (69, c_S_nPower), (45, c_S_l1Cur_one), (71, c_S_l1Cur_anyElement), (72, c_S_l1Cur_among)]) (consOK_cons m_S_l1Cur_anyGroup (consOK_cons m_S_l1Cur_pick (consOK_cons m_S_nMod (consOK_cons m_S_nPower (consOK_cons m_S_l1Cur_one (consOK_cons m_S_l1Cur_anyElement (consOK_cons m_S_l1Cur_among (consOK_nil rfl)))))))) Tryz.func28 (h := h_S_DrawDecodeTally) (by kernel_rfl) eq_S_DrawDecodeTally

/-- I_Group_hasAll -/
def pk_I_Group_hasAll : List PK := [.data (.cons (.int .i64) (.cons (.int .i64) (.one (.int .i64)))), .data (.sl (.int .i64))]
def rk_I_Group_hasAll : List (Ty × Bool) := [(.bool, false)]
def h_I_Group_hasAll : Hints := { loops := [] }
noncomputable def M_I_Group_hasAll (x : ((Int × (Int × Int)) × (List Int))) : (Option Bool) :=
  (bindO (M_I_areAll (x.2, (fun (a0 : Int) => (bindO (M_I_Group_has ((x.1.1, (x.1.2.1, x.1.2.2)), a0)) (fun (a1 : Bool) => (some a1)))))) (fun (a2 : Bool) => (some a2)))

noncomputable def c_I_Group_hasAll : Con0 := ⟨pk_I_Group_hasAll, rk_I_Group_hasAll, M_I_Group_hasAll⟩

set_option maxRecDepth 100000 in
theorem eq_I_Group_hasAll (x : In pk_I_Group_hasAll) : semF (mkE [(101, c_I_areAll), (122, c_I_Group_has)]) h_I_Group_hasAll (info Tryz.f73) pk_I_Group_hasAll rk_I_Group_hasAll x = M_I_Group_hasAll x := (semFF_eq _ _ _ _ _ _).symm.trans (by kernel_rfl)

set_option maxRecDepth 100000 in
theorem m_I_Group_hasAll : ConOK Tryz.prog 73 c_I_Group_hasAll := fn_ok (tyOK _) (E := mkE [(101, c_I_areAll), (122, c_I_Group_has)]) (consOK_cons m_I_areAll (consOK_cons m_I_Group_has (consOK_nil rfl))) Tryz.func73 (h := h_I_Group_hasAll) (by kernel_rfl) eq_I_Group_hasAll

/-- I_Group_log -/
def pk_I_Group_log : List PK := [.data (.cons (.int .i64) (.cons (.int .i64) (.one (.int .i64)))), .data (.int .i64), .data (.int .i64), .data (.int .i64)]
def rk_I_Group_log : List (Ty × Bool) := [((.int .i64), false)]
def h_I_Group_log : Hints := { loops := [(0, { items := [.slot 9 (.data (.int .i64) []), .slot 13 (.data (.int .i64) [])], kill := [0, 3] ++ (sgN 5 4 ++ ([10, 11] ++ (sgN 14 12))) })] }
noncomputable def M_I_Group_log (x : ((Int × (Int × Int)) × (Int × (Int × Int)))) : (Option Int) :=
  (bindO (some (IntKind.wrap .i64 (x.2.2.2 + (1 : Int)))) (fun (a0 : Int) => (loopO (fun (again1 : ((Int × Int) → (Option Int))) => (fun (s2 : (Int × Int)) => (cond (decide (s2.2 < a0)) (cond (s2.1 == x.2.2.1) (some s2.2) (bindO (M_I_Group_mul ((x.1.1, (x.1.2.1, x.1.2.2)), (s2.1 :: (x.2.1 :: ([] : List Int))))) (fun (a3 : Int) => (bindO (some (IntKind.wrap .i64 (s2.2 + (1 : Int)))) (fun (a4 : Int) => (again1 (a3, a4))))))) (some (- (1 : Int)))))) ((1 : Int), (0 : Int)))))

noncomputable def c_I_Group_log : Con0 := ⟨pk_I_Group_log, rk_I_Group_log, M_I_Group_log⟩

set_option maxRecDepth 100000 in
theorem eq_I_Group_log (x : In pk_I_Group_log) : semF (mkE [(92, c_I_Group_mul)]) h_I_Group_log (info Tryz.f74) pk_I_Group_log rk_I_Group_log x = M_I_Group_log x := (semFF_eq _ _ _ _ _ _).symm.trans (by kernel_rfl)

set_option maxRecDepth 100000 in
theorem m_I_Group_log : ConOK Tryz.prog 74 c_I_Group_log := fn_ok (tyOK _) (E := mkE [(92, c_I_Group_mul)]) (consOK_cons m_I_Group_mul (consOK_nil rfl)) Tryz.func74 (h := h_I_Group_log) (by kernel_rfl) eq_I_Group_log

/-- I_DecodeTally -/
def pk_I_DecodeTally : List PK := [.data (.cons (.int .i64) (.cons (.int .i64) (.one (.int .i64)))), .data (.sl (.int .i64)), .data (.int .i64)]
def rk_I_DecodeTally : List (Ty × Bool) := [((.sl (.int .i64)), true), (.bool, false)]
def h_I_DecodeTally : Hints := { loops := [(0, { items := [.slot 8 (.own (.int .i64) true), .slot 34 (.data (.int .i64) [])], kill := [0, 1] ++ (sgN 4 4 ++ (sgN 9 23 ++ (sgN 35 21))) })] }
noncomputable def M_I_DecodeTally (x : ((Int × (Int × Int)) × ((List Int) × Int))) : (Option ((List Int) × Bool)) :=
  (bindO (M_I_IsValidGroup (x.1.1, (x.1.2.1, x.1.2.2))) (fun (a0 : Bool) => (cond (not a0) (some (([] : List Int), false)) (cond (decide ((((List.length x.2.1) : Nat) : Int) > (24 : Int))) (some (([] : List Int), false)) (bindO (M_I_Group_hasAll ((x.1.1, (x.1.2.1, x.1.2.2)), x.2.1)) (fun (a1 : Bool) => (cond (not a1) (some (([] : List Int), false)) (bindO (M_I_within (x.2.2, ((0 : Int), (1000000 : Int)))) (fun (a2 : Bool) => (cond (not a2) (some (([] : List Int), false)) (loopO (fun (again3 : (((List Int) × Int) → (Option ((List Int) × Bool)))) => (fun (s4 : ((List Int) × Int)) => (cond (decide (s4.2 < (((List.length x.2.1) : Nat) : Int))) (bindO (getI x.2.1 s4.2) (fun (a5 : Int) => (bindO (some (IntKind.wrap .i64 (x.1.2.1 - (1 : Int)))) (fun (a6 : Int) => (bindO (M_I_Group_log ((x.1.1, (x.1.2.1, x.1.2.2)), (x.1.2.2, (a5, (if (a6 < x.2.2) then a6 else x.2.2))))) (fun (a7 : Int) => (cond (decide (a7 < (0 : Int))) (some (([] : List Int), false)) (bindO (guardO (lenOk ((List.length s4.1) + (List.length (a7 :: ([] : List Int)))))) (fun (a8 : Unit) => (bindO (some (s4.1 ++ (a7 :: ([] : List Int)))) (fun (a9 : (List Int)) => (bindO (some (IntKind.wrap .i64 (s4.2 + (1 : Int)))) (fun (a10 : Int) => (again3 (a9, a10))))))))))))))) (some (s4.1, true))))) (([] : List Int), (0 : Int)))))))))))))

noncomputable def c_I_DecodeTally : Con0 := ⟨pk_I_DecodeTally, rk_I_DecodeTally, M_I_DecodeTally⟩

set_option maxRecDepth 100000 in
theorem eq_I_DecodeTally (x : In pk_I_DecodeTally) : semF (mkE [(59, c_I_IsValidGroup), (73, c_I_Group_hasAll), (60, c_I_within), (74, c_I_Group_log)]) h_I_DecodeTally (info Tryz.f29) pk_I_DecodeTally rk_I_DecodeTally x = M_I_DecodeTally x := (semFF_eq _ _ _ _ _ _).symm.trans (by kernel_rfl)

set_option maxRecDepth 100000 in
theorem m_I_DecodeTally : ConOK Tryz.prog 29 c_I_DecodeTally := fn_ok (tyOK _) (E := mkE [(59, c_I_IsValidGroup), (73, c_I_Group_hasAll), (60, c_I_within), (74, c_I_Group_log)]) (consOK_cons m_I_IsValidGroup (consOK_cons m_I_Group_hasAll (consOK_cons m_I_within (consOK_cons m_I_Group_log (consOK_nil rfl))))) Tryz.func29 (h := h_I_DecodeTally) (by kernel_rfl) eq_I_DecodeTally

/-- S_DecodeTally -/
def pk_S_DecodeTally : List PK := [.data (.cons (.int .i64) (.cons (.int .i64) (.one (.int .i64)))), .data (.sl (.int .i64)), .data (.int .i64)]
def rk_S_DecodeTally : List (Ty × Bool) := [((.sl (.int .i64)), true), (.bool, false)]
def h_S_DecodeTally : Hints := { loops := [(0, { items := [.slot 8 (.own (.int .i64) true), .slot 34 (.data (.int .i64) [])], kill := [0, 1] ++ (sgN 4 4 ++ (sgN 9 23 ++ (sgN 35 20))) })] }
noncomputable def M_S_DecodeTally (x : ((Int × (Int × Int)) × ((List Int) × Int))) : (Option ((List Int) × Bool)) :=
  (bindO (M_S_l2Good (x.1.1, (x.1.2.1, x.1.2.2))) (fun (a0 : Bool) => (cond (not a0) (some (([] : List Int), false)) (cond (decide ((((List.length x.2.1) : Nat) : Int) > (24 : Int))) (some (([] : List Int), false)) (bindO (M_S_gIs ((x.1.1, (x.1.2.1, x.1.2.2)), x.2.1)) (fun (a1 : Bool) => (cond (not a1) (some (([] : List Int), false)) (bindO (M_S_l1In (x.2.2, ((0 : Int), (1000000 : Int)))) (fun (a2 : Bool) => (cond (not a2) (some (([] : List Int), false)) (loopO (fun (again3 : (((List Int) × Int) → (Option ((List Int) × Bool)))) => (fun (s4 : ((List Int) × Int)) => (cond (decide (s4.2 < (((List.length x.2.1) : Nat) : Int))) (bindO (getI x.2.1 s4.2) (fun (a5 : Int) => (bindO (M_S_gLog ((x.1.1, (x.1.2.1, x.1.2.2)), (x.1.2.2, (a5, x.2.2)))) (fun (a6 : (Int × Bool)) => (cond (not a6.2) (some (([] : List Int), false)) (bindO (guardO (lenOk ((List.length s4.1) + (List.length (a6.1 :: ([] : List Int)))))) (fun (a7 : Unit) => (bindO (some (s4.1 ++ (a6.1 :: ([] : List Int)))) (fun (a8 : (List Int)) => (bindO (some (IntKind.wrap .i64 (s4.2 + (1 : Int)))) (fun (a9 : Int) => (again3 (a8, a9))))))))))))) (some (s4.1, true))))) (([] : List Int), (0 : Int)))))))))))))

noncomputable def c_S_DecodeTally : Con0 := ⟨pk_S_DecodeTally, rk_S_DecodeTally, M_S_DecodeTally⟩

set_option maxRecDepth 100000 in
theorem eq_S_DecodeTally (x : In pk_S_DecodeTally) : semF (mkE [(75, c_S_l2Good), (76, c_S_gIs), (65, c_S_l1In), (66, c_S_gLog)]) h_S_DecodeTally (info Tryz.f30) pk_S_DecodeTally rk_S_DecodeTally x = M_S_DecodeTally x := (semFF_eq _ _ _ _ _ _).symm.trans (by kernel_rfl)

set_option maxRecDepth 100000 in
theorem m_S_DecodeTally : ConOK Tryz.prog 30 c_S_DecodeTally := fn_ok (tyOK _) (E := mkE [(75, c_S_l2Good), (76, c_S_gIs), (65, c_S_l1In), (66, c_S_gLog)]) (consOK_cons m_S_l2Good (consOK_cons m_S_gIs (consOK_cons m_S_l1In (consOK_cons m_S_gLog (consOK_nil rfl))))) Tryz.func30 (h := h_S_DecodeTally) (by kernel_rfl) eq_S_DecodeTally

/-- L_FnTallies -/
def pk_L_FnTallies : List PK := [.data (.sl (.int .u8)), .data (.sl (.int .u8))]
def rk_L_FnTallies : List (Ty × Bool) := [(.bool, false)]
def h_L_FnTallies : Hints := { loops := [(0, { items := [.slot 12 (.own (.sl (.cons (.int .i64) (.one (.int .i64)))) true), .slot 78 (.data (.int .i64) [])], kill := [0, 2, 3, 4, 6, 7, 8, 10] ++ (sgN 13 63 ++ (sgN 79 115)) }), (2, { items := [.slot 17 (.own (.cons (.int .i64) (.one (.int .i64))) true), .slot 93 (.data (.int .i64) [])], kill := [0, 2, 3, 4, 6, 7, 8, 10, 14, 15, 16] ++ (sgN 18 58 ++ (sgN 79 12 ++ (sgN 94 100))) }), (4, { items := [.slot 144 (.data (.int .i64) [])], kill := [0] ++ (sgN 2 7 ++ ([10] ++ (sgN 12 130 ++ (sgN 145 49)))) })] }
noncomputable def M_L_FnTallies (x : ((List Int) × (List Int))) : (Option Bool) :=
  (bindO (M_L_big x) (fun (a0 : Bool) => (cond a0 (some true) (bindO (M_S_DrawTallyVotes x.1) (fun (a1 : ((Int × (Int × (Int × (Int × Int)))) × (List (List Int)))) => (bindO (M_I_TallyVotes a1) (fun (a2 : ((List Int) × Bool)) => (bindO (M_S_TallyVotes a1) (fun (a3 : ((List Int) × Bool)) => (cond (not (a2.2 == a3.2)) (some false) (bindO (M_L_sameInts (a2.1, a3.1)) (fun (a4 : Bool) => (cond (not a4) (some false) (cond a2.2 (cond (decide ((((List.length a1.2) : Nat) : Int) > (0 : Int))) (cond (decide ((((List.length a1.2) : Nat) : Int) < (9 : Int))) (loopO (fun (again5 : (((List (List (Int × Int))) × Int) → (Option Bool))) => (fun (s6 : ((List (List (Int × Int))) × Int)) => (cond (decide (s6.2 < (((List.length a1.2) : Nat) : Int))) (bindO (getI a1.2 s6.2) (fun (a7 : (List Int)) => (bindO (M_S_ExponentsOf (a1.1, a7)) (fun (a8 : ((List Int) × Bool)) => (cond (not a8.2) (some true) (loopO (fun (again9 : (((List (Int × Int)) × Int) → (Option Bool))) => (fun (s10 : ((List (Int × Int)) × Int)) => (cond (decide (s10.2 < (((List.length a8.1) : Nat) : Int))) (bindO (getI a8.1 s10.2) (fun (a11 : Int) => (bindO (some (IntKind.wrap .i64 ((31 : Int) * s6.2))) (fun (a12 : Int) => (bindO (some (IntKind.wrap .i64 ((7 : Int) * s10.2))) (fun (a13 : Int) => (bindO (some (IntKind.wrap .i64 (a12 + a13))) (fun (a14 : Int) => (bindO (some (IntKind.wrap .i64 (a14 + (1 : Int)))) (fun (a15 : Int) => (bindO (guardO ((1019 : Int) != (0 : Int))) (fun (a16 : Unit) => (bindO (some (Int.tmod a15 (1019 : Int))) (fun (a17 : Int) => (bindO (M_S_EncryptExp (((2039 : Int), ((1019 : Int), (4 : Int))), ((4 : Int), (a11, a17)))) (fun (a18 : ((Int × Int) × Bool)) => (cond (not a18.2) (some true) (bindO (guardO (lenOk ((List.length s10.1) + (List.length (a18.1 :: ([] : List (Int × Int))))))) (fun (a19 : Unit) => (bindO (some (s10.1 ++ (a18.1 :: ([] : List (Int × Int))))) (fun (a20 : (List (Int × Int))) => (bindO (some (IntKind.wrap .i64 (s10.2 + (1 : Int)))) (fun (a21 : Int) => (again9 (a20, a21))))))))))))))))))))))))) (bindO (guardO (lenOk ((List.length s6.1) + (List.length (s10.1 :: ([] : List (List (Int × Int)))))))) (fun (a22 : Unit) => (bindO (some (s6.1 ++ (s10.1 :: ([] : List (List (Int × Int)))))) (fun (a23 : (List (List (Int × Int)))) => (bindO (some (IntKind.wrap .i64 (s6.2 + (1 : Int)))) (fun (a24 : Int) => (again5 (a23, a24))))))))))) (([] : List (Int × Int)), (0 : Int)))))))) (bindO (M_I_HomomorphicTally (((2039 : Int), ((1019 : Int), (4 : Int))), s6.1)) (fun (a25 : ((List (Int × Int)) × Bool)) => (cond (not a25.2) (some false) (cond ((((List.length a25.1) : Nat) : Int) != (((List.length a3.1) : Nat) : Int)) (some false) (loopO (fun (again26 : (Int → (Option Bool))) => (fun (s27 : Int) => (cond (decide (s27 < (((List.length a25.1) : Nat) : Int))) (bindO (getI a25.1 s27) (fun (a28 : (Int × Int)) => (bindO (M_S_DecryptExp (((2039 : Int), ((1019 : Int), (4 : Int))), ((1 : Int), (a28, (1000 : Int))))) (fun (a29 : (Int × Bool)) => (cond (not a29.2) (some false) (bindO (getI a3.1 s27) (fun (a30 : Int) => (cond (a29.1 != a30) (some false) (bindO (some (IntKind.wrap .i64 (s27 + (1 : Int)))) (fun (a31 : Int) => (again26 a31))))))))))) (bindO (M_S_DrawDecodeTally x.2) (fun (a32 : ((Int × (Int × Int)) × ((List Int) × Int))) => (bindO (M_I_DecodeTally a32) (fun (a33 : ((List Int) × Bool)) => (bindO (M_S_DecodeTally a32) (fun (a34 : ((List Int) × Bool)) => (cond (a33.2 == a34.2) (bindO (M_L_sameInts (a33.1, a34.1)) (fun (a35 : Bool) => (some a35))) (some false))))))))))) (0 : Int))))))))) (([] : List (List (Int × Int))), (0 : Int))) (bindO (M_S_DrawDecodeTally x.2) (fun (a36 : ((Int × (Int × Int)) × ((List Int) × Int))) => (bindO (M_I_DecodeTally a36) (fun (a37 : ((List Int) × Bool)) => (bindO (M_S_DecodeTally a36) (fun (a38 : ((List Int) × Bool)) => (cond (a37.2 == a38.2) (bindO (M_L_sameInts (a37.1, a38.1)) (fun (a39 : Bool) => (some a39))) (some false))))))))) (bindO (M_S_DrawDecodeTally x.2) (fun (a40 : ((Int × (Int × Int)) × ((List Int) × Int))) => (bindO (M_I_DecodeTally a40) (fun (a41 : ((List Int) × Bool)) => (bindO (M_S_DecodeTally a40) (fun (a42 : ((List Int) × Bool)) => (cond (a41.2 == a42.2) (bindO (M_L_sameInts (a41.1, a42.1)) (fun (a43 : Bool) => (some a43))) (some false))))))))) (bindO (M_S_DrawDecodeTally x.2) (fun (a44 : ((Int × (Int × Int)) × ((List Int) × Int))) => (bindO (M_I_DecodeTally a44) (fun (a45 : ((List Int) × Bool)) => (bindO (M_S_DecodeTally a44) (fun (a46 : ((List Int) × Bool)) => (cond (a45.2 == a46.2) (bindO (M_L_sameInts (a45.1, a46.1)) (fun (a47 : Bool) => (some a47))) (some false))))))))))))))))))))))

noncomputable def c_L_FnTallies : Con0 := ⟨pk_L_FnTallies, rk_L_FnTallies, M_L_FnTallies⟩

set_option maxRecDepth 100000 in
theorem eq_L_FnTallies (x : In pk_L_FnTallies) : semF (mkE [(19, c_L_big), (20, c_S_DrawTallyVotes), (21, c_I_TallyVotes), (22, c_S_TallyVotes), (23, c_L_sameInts), (24, c_S_ExponentsOf), (25, c_S_EncryptExp), (26, c_I_HomomorphicTally), (27, c_S_DecryptExp), (28, c_S_DrawDecodeTally), (29, c_I_DecodeTally), (30, c_S_DecodeTally)]) h_L_FnTallies (info Tryz.f4) pk_L_FnTallies rk_L_FnTallies x = M_L_FnTallies x := (semFF_eq _ _ _ _ _ _).symm.trans (by kernel_rfl)

set_option maxRecDepth 100000 in
theorem m_L_FnTallies : ConOK Tryz.prog 4 c_L_FnTallies := fn_ok (tyOK _) (E := mkE [(19, c_L_big), (20, c_S_DrawTallyVotes), (21, c_I_TallyVotes), (22, c_S_TallyVotes), (23, c_L_sameInts), (24, c_S_ExponentsOf), (25, c_S_EncryptExp), (26, c_I_HomomorphicTally), (27, c_S_DecryptExp), (28, c_S_DrawDecodeTally), (29, c_I_DecodeTally), (30, c_S_DecodeTally)]) (consOK_cons m_L_big (consOK_cons m_S_DrawTallyVotes (consOK_cons m_I_TallyVotes (consOK_cons m_S_TallyVotes (consOK_cons m_L_sameInts (consOK_cons m_S_ExponentsOf (consOK_cons m_S_EncryptExp (consOK_cons m_I_HomomorphicTally (consOK_cons m_S_DecryptExp (consOK_cons m_S_DrawDecodeTally (consOK_cons m_I_DecodeTally (consOK_cons m_S_DecodeTally (consOK_nil rfl))))))))))))) Tryz.func4 (h := h_L_FnTallies) (by kernel_rfl) eq_L_FnTallies

/-- L_qInts -/
noncomputable def M_L_qInts (x : ((List Int) × (List Int))) : (Option Bool) :=
  (cond ((((List.length x.1) : Nat) : Int) != (((List.length x.2) : Nat) : Int)) (some false) (loopO (fun (again0 : (Int → (Option Bool))) => (fun (s1 : Int) => (cond (decide (s1 < (((List.length x.1) : Nat) : Int))) (bindO (getI x.1 s1) (fun (a2 : Int) => (bindO (getI x.2 s1) (fun (a3 : Int) => (cond (a2 != a3) (some false) (bindO (some (IntKind.wrap .i64 (s1 + (1 : Int)))) (fun (a4 : Int) => (again0 a4)))))))) (some true)))) (0 : Int)))

end Go.Proofs.YtgjneigkkgaaiaaGreat.Vd
