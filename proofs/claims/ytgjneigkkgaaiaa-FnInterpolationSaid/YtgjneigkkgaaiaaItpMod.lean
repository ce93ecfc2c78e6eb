/- The functions of the law as plain functions on data, and that the program's functions are these. No conditions. -/
import Derived.Test.YtgjneigkkgaaiaaVdSD
import Derived.Test.YtgjneigkkgaaiaaChecked
import Derived.KernelRfl
set_option linter.unusedVariables false
namespace Go.Proofs.Ytgjneigkkgaaiaa.Vd
def tys : List (Option Ty) := [none, none, some (.int .i64), some (.int .i64), some .bool, some (.int .u8), some (.int .u8), some (.cons (.int .i64) (.cons (.int .i64) (.cons .bool (.one (.int .u8))))), some (.cons (.int .i64) (.cons (.int .i64) (.cons .bool (.one (.int .u8))))), some .str, some .str, some .str, some (.int .u64), some (.cons .str (.one (.int .u64))), some (.cons .str (.one (.int .u64))), none, none, none, none, none, none, some (.int .i32), some (.sl (.int .i64)), none, none, none, none, none, none, some (.cons (.int .i64) (.cons (.int .i64) (.one (.int .i64)))), some (.cons (.int .i64) (.cons (.int .i64) (.one (.int .i64)))), some (.sl (.sl (.cons (.int .i64) (.one (.int .i64))))), none, some (.sl (.cons (.int .i64) (.one (.int .i64)))), none, none, some (.cons (.int .i64) (.cons (.int .i64) (.one (.int .i64)))), none, some (.sl (.sl (.cons (.int .i64) (.one (.int .i64))))), none, none, none, none, none, none, some (.sl (.int .u8)), none, none, none, none, none, none, none, none, none, none, none, none, none, none, none, some (.sl (.sl (.int .i64))), none, none, none, none, none, none, none, none, none, none, none, none, none, none, none, none, some (.sl (.cons (.int .i64) (.one (.int .i64)))), none, none, none, none, none, some (.cons (.int .i64) (.one (.int .i64))), some (.cons (.int .i64) (.one (.int .i64))), none, none, none, none, some (.int .u64), some (.cons (.sl (.int .u8)) (.cons (.int .i64) (.one (.int .u64)))), some (.cons (.sl (.int .u8)) (.cons (.int .i64) (.one (.int .u64)))), none, none, none, none, none, none, none, none, none, none, none, none, none, none, none, none, none, none, some (.int .u64), none, none, none, none, none, none, none, none, none, none, some (.cons (.int .i64) (.one (.int .i64))), none, none, none, none, none, none, none, none, none, none, some (.sl .bool), none, none, none, some (.int .u32), none, none, none, none, none, none, none, none, none, none, none, none, none, none, none, none, none, some (.int .u8), some (.int .u8), none, none, some (.int .i32), some (.int .i32), none, none, none]
def others : List Nat := [1, 15, 16, 17, 24, 25, 26, 27, 28, 32, 35, 37, 39, 40, 41, 42, 43, 44, 47, 48, 50, 51, 53, 54, 55, 56, 57, 58, 60, 63, 65, 66, 67, 68, 69, 70, 71, 72, 73, 74, 75, 76, 77, 79, 80, 81, 82, 83, 86, 87, 88, 89, 93, 95, 96, 97, 98, 99, 100, 101, 102, 103, 104, 105, 106, 107, 108, 109, 110, 112, 113, 114, 115, 116, 117, 118, 119, 120, 121, 124, 125, 126, 127, 128, 129, 130, 131, 132, 134, 135, 136, 138, 139, 140, 141, 143, 145, 146, 147, 148, 149, 157, 158]
def pairs : List Nat := [84, 85, 122]
noncomputable def mkE (con : List (Nat × Con0)) : Env := ⟨[], tys, others, pairs, con⟩

set_option maxRecDepth 100000 in
theorem tyOK (con : List (Nat × Con0)) : TyOK Try.prog (mkE con) := tyOK_of (E := mkE con) (by kernel_rfl) (by kernel_rfl) (by kernel_rfl)

/-- S_l1Cur_next -/
def pk_S_l1Cur_next : List PK := [.mp (.cons (.sl (.int .u8)) (.cons (.int .i64) (.one (.int .u64)))) false]
def rk_S_l1Cur_next : List (Ty × Bool) := [((.int .i64), false)]
def h_S_l1Cur_next : Hints := { loops := [] }
noncomputable def M_S_l1Cur_next (x : ((List Int) × (Int × Int))) : (Option (Int × ((List Int) × (Int × Int)))) :=
  (cond (decide (x.2.1 < (((List.length x.1) : Nat) : Int))) (bindO (getI x.1 x.2.1) (fun (a0 : Int) => (bindO (some (IntKind.wrap .i64 (x.2.1 + (1 : Int)))) (fun (a1 : Int) => (bindO (some (IntKind.wrap .u64 (x.2.2 * (6364136223846793005 : Int)))) (fun (a2 : Int) => (bindO (some (IntKind.wrap .u64 (a2 + (IntKind.wrap .u64 (IntKind.wrap .i64 a0))))) (fun (a3 : Int) => (bindO (some (IntKind.wrap .u64 (a3 + (1442695040888963407 : Int)))) (fun (a4 : Int) => (cond (decide (a1 ≤ (((List.length x.1) : Nat) : Int))) (some ((IntKind.wrap .i64 a0), (x.1, (a1, a4)))) (bindO (guardO (decide ((0 : Int) ≤ (40 : Int)))) (fun (a5 : Unit) => (bindO (some (shr .u64 a4 (40 : Int))) (fun (a6 : Int) => (bindO (some (bits .and .u64 a6 (255 : Int))) (fun (a7 : Int) => (some ((IntKind.wrap .i64 a7), (x.1, (a1, a4))))))))))))))))))))) (bindO (some (IntKind.wrap .i64 (x.2.1 + (1 : Int)))) (fun (a8 : Int) => (bindO (some (IntKind.wrap .u64 (x.2.2 * (6364136223846793005 : Int)))) (fun (a9 : Int) => (bindO (some (IntKind.wrap .u64 (a9 + (IntKind.wrap .u64 (0 : Int))))) (fun (a10 : Int) => (bindO (some (IntKind.wrap .u64 (a10 + (1442695040888963407 : Int)))) (fun (a11 : Int) => (cond (decide (a8 ≤ (((List.length x.1) : Nat) : Int))) (some ((0 : Int), (x.1, (a8, a11)))) (bindO (guardO (decide ((0 : Int) ≤ (40 : Int)))) (fun (a12 : Unit) => (bindO (some (shr .u64 a11 (40 : Int))) (fun (a13 : Int) => (bindO (some (bits .and .u64 a13 (255 : Int))) (fun (a14 : Int) => (some ((IntKind.wrap .i64 a14), (x.1, (a8, a11))))))))))))))))))))

noncomputable def c_S_l1Cur_next : Con0 := ⟨pk_S_l1Cur_next, rk_S_l1Cur_next, M_S_l1Cur_next⟩

set_option maxRecDepth 100000 in
theorem eq_S_l1Cur_next (x : In pk_S_l1Cur_next) : semF (mkE []) h_S_l1Cur_next (info Try.f152) pk_S_l1Cur_next rk_S_l1Cur_next x = M_S_l1Cur_next x := (semFF_eq _ _ _ _ _ _).symm.trans (by kernel_rfl)

set_option maxRecDepth 100000 in
theorem m_S_l1Cur_next : ConOK Try.prog 152 c_S_l1Cur_next := fn_ok (tyOK _) (E := mkE []) (consOK_nil rfl) Try.func152 (h := h_S_l1Cur_next) (by kernel_rfl) eq_S_l1Cur_next

/-- S_l1Cur_pick -/
def pk_S_l1Cur_pick : List PK := [.mp (.cons (.sl (.int .u8)) (.cons (.int .i64) (.one (.int .u64)))) false, .data (.int .i64)]
def rk_S_l1Cur_pick : List (Ty × Bool) := [((.int .i64), false)]
def h_S_l1Cur_pick : Hints := { loops := [] }
noncomputable def M_S_l1Cur_pick (x : (((List Int) × (Int × Int)) × Int)) : (Option (Int × ((List Int) × (Int × Int)))) :=
  (cond (decide (x.2 ≤ (1 : Int))) (some ((0 : Int), (x.1.1, (x.1.2.1, x.1.2.2)))) (bindO (M_S_l1Cur_next (x.1.1, (x.1.2.1, x.1.2.2))) (fun (a0 : (Int × ((List Int) × (Int × Int)))) => (cond (decide (x.2 > (200 : Int))) (bindO (some (IntKind.wrap .i64 (a0.1 * (256 : Int)))) (fun (a1 : Int) => (bindO (M_S_l1Cur_next (a0.2.1, (a0.2.2.1, a0.2.2.2))) (fun (a2 : (Int × ((List Int) × (Int × Int)))) => (bindO (some (IntKind.wrap .i64 (a1 + a2.1))) (fun (a3 : Int) => (bindO (guardO (x.2 != (0 : Int))) (fun (a4 : Unit) => (bindO (some (Int.tmod a3 x.2)) (fun (a5 : Int) => (some (a5, (a2.2.1, (a2.2.2.1, a2.2.2.2)))))))))))))) (bindO (guardO (x.2 != (0 : Int))) (fun (a6 : Unit) => (bindO (some (Int.tmod a0.1 x.2)) (fun (a7 : Int) => (some (a7, (a0.2.1, (a0.2.2.1, a0.2.2.2))))))))))))

noncomputable def c_S_l1Cur_pick : Con0 := ⟨pk_S_l1Cur_pick, rk_S_l1Cur_pick, M_S_l1Cur_pick⟩

set_option maxRecDepth 100000 in
theorem eq_S_l1Cur_pick (x : In pk_S_l1Cur_pick) : semF (mkE [(152, c_S_l1Cur_next)]) h_S_l1Cur_pick (info Try.f97) pk_S_l1Cur_pick rk_S_l1Cur_pick x = M_S_l1Cur_pick x := (semFF_eq _ _ _ _ _ _).symm.trans (by kernel_rfl)

set_option maxRecDepth 100000 in
theorem m_S_l1Cur_pick : ConOK Try.prog 97 c_S_l1Cur_pick := fn_ok (tyOK _) (E := mkE [(152, c_S_l1Cur_next)]) (consOK_cons m_S_l1Cur_next (consOK_nil rfl)) Try.func97 (h := h_S_l1Cur_pick) (by kernel_rfl) eq_S_l1Cur_pick

/-- S_l1Cur_among -/
def pk_S_l1Cur_among : List PK := [.mp (.cons (.sl (.int .u8)) (.cons (.int .i64) (.one (.int .u64)))) false, .data (.sl (.int .i64))]
def rk_S_l1Cur_among : List (Ty × Bool) := [((.int .i64), false)]
def h_S_l1Cur_among : Hints := { loops := [] }
noncomputable def M_S_l1Cur_among (x : (((List Int) × (Int × Int)) × (List Int))) : (Option (Int × ((List Int) × (Int × Int)))) :=
  (bindO (M_S_l1Cur_pick ((x.1.1, (x.1.2.1, x.1.2.2)), (((List.length x.2) : Nat) : Int))) (fun (a0 : (Int × ((List Int) × (Int × Int)))) => (bindO (getI x.2 a0.1) (fun (a1 : Int) => (some (a1, (a0.2.1, (a0.2.2.1, a0.2.2.2))))))))

noncomputable def c_S_l1Cur_among : Con0 := ⟨pk_S_l1Cur_among, rk_S_l1Cur_among, M_S_l1Cur_among⟩

set_option maxRecDepth 100000 in
theorem eq_S_l1Cur_among (x : In pk_S_l1Cur_among) : semF (mkE [(97, c_S_l1Cur_pick)]) h_S_l1Cur_among (info Try.f96) pk_S_l1Cur_among rk_S_l1Cur_among x = M_S_l1Cur_among x := (semFF_eq _ _ _ _ _ _).symm.trans (by kernel_rfl)

set_option maxRecDepth 100000 in
theorem m_S_l1Cur_among : ConOK Try.prog 96 c_S_l1Cur_among := fn_ok (tyOK _) (E := mkE [(97, c_S_l1Cur_pick)]) (consOK_cons m_S_l1Cur_pick (consOK_nil rfl)) Try.func96 (h := h_S_l1Cur_among) (by kernel_rfl) eq_S_l1Cur_among

/-- S_l1Cur_field -/
def pk_S_l1Cur_field : List PK := [.mp (.cons (.sl (.int .u8)) (.cons (.int .i64) (.one (.int .u64)))) false]
def rk_S_l1Cur_field : List (Ty × Bool) := [((.int .i64), false)]
def h_S_l1Cur_field : Hints := { loops := [] }
noncomputable def M_S_l1Cur_field (x : ((List Int) × (Int × Int))) : (Option (Int × ((List Int) × (Int × Int)))) :=
  (bindO (M_S_l1Cur_among ((x.1, (x.2.1, x.2.2)), ((2 : Int) :: ((3 : Int) :: ((5 : Int) :: ((7 : Int) :: ((11 : Int) :: ((11 : Int) :: ((23 : Int) :: ((101 : Int) :: ((1019 : Int) :: ((65537 : Int) :: ((500000003 : Int) :: ((1999999973 : Int) :: ((9 : Int) :: ((1 : Int) :: ((2000000011 : Int) :: ([] : List Int)))))))))))))))))) (fun (a0 : (Int × ((List Int) × (Int × Int)))) => (some (a0.1, (a0.2.1, (a0.2.2.1, a0.2.2.2))))))

noncomputable def c_S_l1Cur_field : Con0 := ⟨pk_S_l1Cur_field, rk_S_l1Cur_field, M_S_l1Cur_field⟩

set_option maxRecDepth 100000 in
theorem eq_S_l1Cur_field (x : In pk_S_l1Cur_field) : semF (mkE [(96, c_S_l1Cur_among)]) h_S_l1Cur_field (info Try.f79) pk_S_l1Cur_field rk_S_l1Cur_field x = M_S_l1Cur_field x := (semFF_eq _ _ _ _ _ _).symm.trans (by kernel_rfl)

set_option maxRecDepth 100000 in
theorem m_S_l1Cur_field : ConOK Try.prog 79 c_S_l1Cur_field := fn_ok (tyOK _) (E := mkE [(96, c_S_l1Cur_among)]) (consOK_cons m_S_l1Cur_among (consOK_nil rfl)) Try.func79 (h := h_S_l1Cur_field) (by kernel_rfl) eq_S_l1Cur_field

/-- S_l1Least -/
def pk_S_l1Least : List PK := [.data (.int .i64), .data (.int .i64)]
def rk_S_l1Least : List (Ty × Bool) := [((.int .i64), false)]
def h_S_l1Least : Hints := { loops := [] }
noncomputable def M_S_l1Least (x : (Int × Int)) : (Option Int) :=
  (cond (decide (x.1 < x.2)) (some x.1) (some x.2))

noncomputable def c_S_l1Least : Con0 := ⟨pk_S_l1Least, rk_S_l1Least, M_S_l1Least⟩

set_option maxRecDepth 100000 in
theorem eq_S_l1Least (x : In pk_S_l1Least) : semF (mkE []) h_S_l1Least (info Try.f133) pk_S_l1Least rk_S_l1Least x = M_S_l1Least x := (semFF_eq _ _ _ _ _ _).symm.trans (by kernel_rfl)

set_option maxRecDepth 100000 in
theorem m_S_l1Least : ConOK Try.prog 133 c_S_l1Least := fn_ok (tyOK _) (E := mkE []) (consOK_nil rfl) Try.func133 (h := h_S_l1Least) (by kernel_rfl) eq_S_l1Least

/-- S_l1Most -/
def pk_S_l1Most : List PK := [.data (.int .i64), .data (.int .i64)]
def rk_S_l1Most : List (Ty × Bool) := [((.int .i64), false)]
def h_S_l1Most : Hints := { loops := [] }
noncomputable def M_S_l1Most (x : (Int × Int)) : (Option Int) :=
  (cond (decide (x.1 > x.2)) (some x.1) (some x.2))

noncomputable def c_S_l1Most : Con0 := ⟨pk_S_l1Most, rk_S_l1Most, M_S_l1Most⟩

set_option maxRecDepth 100000 in
theorem eq_S_l1Most (x : In pk_S_l1Most) : semF (mkE []) h_S_l1Most (info Try.f132) pk_S_l1Most rk_S_l1Most x = M_S_l1Most x := (semFF_eq _ _ _ _ _ _).symm.trans (by kernel_rfl)

set_option maxRecDepth 100000 in
theorem m_S_l1Most : ConOK Try.prog 132 c_S_l1Most := fn_ok (tyOK _) (E := mkE []) (consOK_nil rfl) Try.func132 (h := h_S_l1Most) (by kernel_rfl) eq_S_l1Most

/-- S_l1Has -/
def pk_S_l1Has : List PK := [.data (.sl (.int .i64)), .data (.int .i64)]
def rk_S_l1Has : List (Ty × Bool) := [(.bool, false)]
def h_S_l1Has : Hints := { loops := [(0, { items := [.slot 9 (.data (.int .i64) [])], kill := [0, 2, 3, 4, 5, 6, 10, 11, 12, 13, 14, 15, 16] })] }
noncomputable def M_S_l1Has (x : ((List Int) × Int)) : (Option Bool) :=
  (loopO (fun (again0 : (Int → (Option Bool))) => (fun (s1 : Int) => (cond (decide (s1 < (((List.length x.1) : Nat) : Int))) (bindO (getI x.1 s1) (fun (a2 : Int) => (cond (a2 == x.2) (some true) (bindO (some (IntKind.wrap .i64 (s1 + (1 : Int)))) (fun (a3 : Int) => (again0 a3)))))) (some false)))) (0 : Int))

noncomputable def c_S_l1Has : Con0 := ⟨pk_S_l1Has, rk_S_l1Has, M_S_l1Has⟩

set_option maxRecDepth 100000 in
theorem eq_S_l1Has (x : In pk_S_l1Has) : semF (mkE []) h_S_l1Has (info Try.f115) pk_S_l1Has rk_S_l1Has x = M_S_l1Has x := (semFF_eq _ _ _ _ _ _).symm.trans (by kernel_rfl)

set_option maxRecDepth 100000 in
theorem m_S_l1Has : ConOK Try.prog 115 c_S_l1Has := fn_ok (tyOK _) (E := mkE []) (consOK_nil rfl) Try.func115 (h := h_S_l1Has) (by kernel_rfl) eq_S_l1Has

/-- S_l1Cur_one -/
def pk_S_l1Cur_one : List PK := [.mp (.cons (.sl (.int .u8)) (.cons (.int .i64) (.one (.int .u64)))) false, .data (.int .i64)]
def rk_S_l1Cur_one : List (Ty × Bool) := [(.bool, false)]
def h_S_l1Cur_one : Hints := { loops := [] }
noncomputable def M_S_l1Cur_one (x : (((List Int) × (Int × Int)) × Int)) : (Option (Bool × ((List Int) × (Int × Int)))) :=
  (bindO (M_S_l1Cur_pick ((x.1.1, (x.1.2.1, x.1.2.2)), x.2)) (fun (a0 : (Int × ((List Int) × (Int × Int)))) => (some ((a0.1 == (0 : Int)), (a0.2.1, (a0.2.2.1, a0.2.2.2))))))

noncomputable def c_S_l1Cur_one : Con0 := ⟨pk_S_l1Cur_one, rk_S_l1Cur_one, M_S_l1Cur_one⟩

set_option maxRecDepth 100000 in
theorem eq_S_l1Cur_one (x : In pk_S_l1Cur_one) : semF (mkE [(97, c_S_l1Cur_pick)]) h_S_l1Cur_one (info Try.f134) pk_S_l1Cur_one rk_S_l1Cur_one x = M_S_l1Cur_one x := (semFF_eq _ _ _ _ _ _).symm.trans (by kernel_rfl)

set_option maxRecDepth 100000 in
theorem m_S_l1Cur_one : ConOK Try.prog 134 c_S_l1Cur_one := fn_ok (tyOK _) (E := mkE [(97, c_S_l1Cur_pick)]) (consOK_cons m_S_l1Cur_pick (consOK_nil rfl)) Try.func134 (h := h_S_l1Cur_one) (by kernel_rfl) eq_S_l1Cur_one

/-- S_l1Cur_points -/
def pk_S_l1Cur_points : List PK := [.mp (.cons (.sl (.int .u8)) (.cons (.int .i64) (.one (.int .u64)))) false, .data (.int .i64)]
def rk_S_l1Cur_points : List (Ty × Bool) := [((.sl (.int .i64)), true), ((.sl (.int .i64)), true)]
def h_S_l1Cur_points : Hints := { loops := [(0, { items := [.slot 6 (.own (.int .i64) true), .slot 7 (.own (.int .i64) true), .slot 8 (.data (.int .i64) []), .cell 0 0 (.data (.sl (.int .u8)) []), .cell 0 1 (.data (.int .i64) []), .cell 0 2 (.data (.int .u64) [])], kill := [2, 3, 4, 5, 9, 10, 11, 12, 13, 14, 15, 16, 17, 18, 19, 20, 21, 22, 23, 24, 25, 26, 27, 28, 29, 30, 31, 32, 33, 34, 35, 36, 37, 38, 39, 40, 41, 42, 43, 44, 45, 46, 47, 48, 49, 50, 51, 52, 53, 54, 55, 56, 57, 58, 59, 60] })] }
noncomputable def M_S_l1Cur_points (x : (((List Int) × (Int × Int)) × Int)) : (Option ((List Int) × ((List Int) × ((List Int) × (Int × Int))))) :=
  (bindO (M_S_l1Cur_pick ((x.1.1, (x.1.2.1, x.1.2.2)), (5 : Int))) (fun (a0 : (Int × ((List Int) × (Int × Int)))) => (bindO (some (IntKind.wrap .i64 ((1 : Int) + a0.1))) (fun (a1 : Int) => (loopO (fun (again2 : (((List Int) × ((List Int) × (Int × ((List Int) × (Int × Int))))) → (Option ((List Int) × ((List Int) × ((List Int) × (Int × Int))))))) => (fun (s3 : ((List Int) × ((List Int) × (Int × ((List Int) × (Int × Int)))))) => (cond (decide (s3.2.2.1 > (0 : Int))) (bindO (M_S_l1Least (x.2, (60 : Int))) (fun (a4 : Int) => (bindO (M_S_l1Most ((1 : Int), a4)) (fun (a5 : Int) => (bindO (M_S_l1Cur_pick ((s3.2.2.2.1, (s3.2.2.2.2.1, s3.2.2.2.2.2)), a5)) (fun (a6 : (Int × ((List Int) × (Int × Int)))) => (bindO (M_S_l1Has (s3.1, a6.1)) (fun (a7 : Bool) => (cond (not a7) (bindO (guardO (lenOk ((List.length s3.1) + (List.length (a6.1 :: ([] : List Int)))))) (fun (a8 : Unit) => (bindO (some (s3.1 ++ (a6.1 :: ([] : List Int)))) (fun (a9 : (List Int)) => (bindO (M_S_l1Least (x.2, (60000 : Int))) (fun (a10 : Int) => (bindO (M_S_l1Most ((1 : Int), a10)) (fun (a11 : Int) => (bindO (M_S_l1Cur_pick ((a6.2.1, (a6.2.2.1, a6.2.2.2)), a11)) (fun (a12 : (Int × ((List Int) × (Int × Int)))) => (bindO (guardO (lenOk ((List.length s3.2.1) + (List.length (a12.1 :: ([] : List Int)))))) (fun (a13 : Unit) => (bindO (some (s3.2.1 ++ (a12.1 :: ([] : List Int)))) (fun (a14 : (List Int)) => (bindO (some (IntKind.wrap .i64 (s3.2.2.1 - (1 : Int)))) (fun (a15 : Int) => (again2 (a9, (a14, (a15, (a12.2.1, (a12.2.2.1, a12.2.2.2)))))))))))))))))))))) (bindO (M_S_l1Cur_one ((a6.2.1, (a6.2.2.1, a6.2.2.2)), (20 : Int))) (fun (a16 : (Bool × ((List Int) × (Int × Int)))) => (cond a16.1 (bindO (guardO (lenOk ((List.length s3.1) + (List.length (a6.1 :: ([] : List Int)))))) (fun (a17 : Unit) => (bindO (some (s3.1 ++ (a6.1 :: ([] : List Int)))) (fun (a18 : (List Int)) => (bindO (M_S_l1Least (x.2, (60000 : Int))) (fun (a19 : Int) => (bindO (M_S_l1Most ((1 : Int), a19)) (fun (a20 : Int) => (bindO (M_S_l1Cur_pick ((a16.2.1, (a16.2.2.1, a16.2.2.2)), a20)) (fun (a21 : (Int × ((List Int) × (Int × Int)))) => (bindO (guardO (lenOk ((List.length s3.2.1) + (List.length (a21.1 :: ([] : List Int)))))) (fun (a22 : Unit) => (bindO (some (s3.2.1 ++ (a21.1 :: ([] : List Int)))) (fun (a23 : (List Int)) => (bindO (some (IntKind.wrap .i64 (s3.2.2.1 - (1 : Int)))) (fun (a24 : Int) => (again2 (a18, (a23, (a24, (a21.2.1, (a21.2.2.1, a21.2.2.2)))))))))))))))))))))) (bindO (some (IntKind.wrap .i64 (s3.2.2.1 - (1 : Int)))) (fun (a25 : Int) => (again2 (s3.1, (s3.2.1, (a25, (a16.2.1, (a16.2.2.1, a16.2.2.2)))))))))))))))))))) (bindO (M_S_l1Cur_pick ((s3.2.2.2.1, (s3.2.2.2.2.1, s3.2.2.2.2.2)), (20 : Int))) (fun (a26 : (Int × ((List Int) × (Int × Int)))) => (cond (a26.1 == (0 : Int)) (bindO (guardO (lenOk ((List.length s3.2.1) + (List.length ((0 : Int) :: ([] : List Int)))))) (fun (a27 : Unit) => (bindO (some (s3.2.1 ++ ((0 : Int) :: ([] : List Int)))) (fun (a28 : (List Int)) => (some (s3.1, (a28, (a26.2.1, (a26.2.2.1, a26.2.2.2))))))))) (cond (a26.1 == (1 : Int)) (some (([] : List Int), (s3.2.1, (a26.2.1, (a26.2.2.1, a26.2.2.2))))) (cond (a26.1 == (2 : Int)) (bindO (M_S_l1Cur_among ((a26.2.1, (a26.2.2.1, a26.2.2.2)), (x.2 :: ((- (1 : Int)) :: ([] : List Int))))) (fun (a29 : (Int × ((List Int) × (Int × Int)))) => (bindO (getI s3.2.1 (0 : Int)) (fun (a30 : Int) => (bindO (some (List.set s3.2.1 (Int.toNat (0 : Int)) a29.1)) (fun (a31 : (List Int)) => (some (s3.1, (a31, (a29.2.1, (a29.2.2.1, a29.2.2.2))))))))))) (some (s3.1, (s3.2.1, (a26.2.1, (a26.2.2.1, a26.2.2.2))))))))))))) (([] : List Int), (([] : List Int), (a1, (a0.2.1, (a0.2.2.1, a0.2.2.2))))))))))

noncomputable def c_S_l1Cur_points : Con0 := ⟨pk_S_l1Cur_points, rk_S_l1Cur_points, M_S_l1Cur_points⟩

set_option maxRecDepth 100000 in
theorem eq_S_l1Cur_points (x : In pk_S_l1Cur_points) : semF (mkE [(97, c_S_l1Cur_pick), (133, c_S_l1Least), (132, c_S_l1Most), (115, c_S_l1Has), (134, c_S_l1Cur_one), (96, c_S_l1Cur_among)]) h_S_l1Cur_points (info Try.f80) pk_S_l1Cur_points rk_S_l1Cur_points x = M_S_l1Cur_points x := (semFF_eq _ _ _ _ _ _).symm.trans (by kernel_rfl)

set_option maxRecDepth 100000 in
theorem m_S_l1Cur_points : ConOK Try.prog 80 c_S_l1Cur_points := fn_ok (tyOK _) (E := mkE [(97, c_S_l1Cur_pick), (133, c_S_l1Least), (132, c_S_l1Most), (115, c_S_l1Has), (134, c_S_l1Cur_one), (96, c_S_l1Cur_among)]) (consOK_cons m_S_l1Cur_pick (consOK_cons m_S_l1Least (consOK_cons m_S_l1Most (consOK_cons m_S_l1Has (consOK_cons m_S_l1Cur_one (consOK_cons m_S_l1Cur_among (consOK_nil rfl))))))) Try.func80 (h := h_S_l1Cur_points) (by kernel_rfl) eq_S_l1Cur_points

/-- S_DrawInterpolate -/
def pk_S_DrawInterpolate : List PK := [.data (.sl (.int .u8))]
def rk_S_DrawInterpolate : List (Ty × Bool) := [((.int .i64), false), ((.sl (.int .i64)), true), ((.sl (.int .i64)), true)]
def h_S_DrawInterpolate : Hints := { loops := [] }
noncomputable def M_S_DrawInterpolate (x : (List Int)) : (Option (Int × ((List Int) × (List Int)))) :=
  (bindO (M_S_l1Cur_field (x, ((0 : Int), (0 : Int)))) (fun (a0 : (Int × ((List Int) × (Int × Int)))) => (bindO (M_S_l1Cur_points ((a0.2.1, (a0.2.2.1, a0.2.2.2)), a0.1)) (fun (a1 : ((List Int) × ((List Int) × ((List Int) × (Int × Int))))) => (some (a0.1, (a1.1, a1.2.1)))))))

noncomputable def c_S_DrawInterpolate : Con0 := ⟨pk_S_DrawInterpolate, rk_S_DrawInterpolate, M_S_DrawInterpolate⟩

set_option maxRecDepth 100000 in
theorem eq_S_DrawInterpolate (x : In pk_S_DrawInterpolate) : semF (mkE [(79, c_S_l1Cur_field), (80, c_S_l1Cur_points)]) h_S_DrawInterpolate (info Try.f25) pk_S_DrawInterpolate rk_S_DrawInterpolate x = M_S_DrawInterpolate x := (semFF_eq _ _ _ _ _ _).symm.trans (by kernel_rfl)

set_option maxRecDepth 100000 in
theorem m_S_DrawInterpolate : ConOK Try.prog 25 c_S_DrawInterpolate := fn_ok (tyOK _) (E := mkE [(79, c_S_l1Cur_field), (80, c_S_l1Cur_points)]) (consOK_cons m_S_l1Cur_field (consOK_cons m_S_l1Cur_points (consOK_nil rfl))) Try.func25 (h := h_S_DrawInterpolate) (by kernel_rfl) eq_S_DrawInterpolate

/-- I_within -/
def pk_I_within : List PK := [.data (.int .i64), .data (.int .i64), .data (.int .i64)]
def rk_I_within : List (Ty × Bool) := [(.bool, false)]
def h_I_within : Hints := { loops := [] }
noncomputable def M_I_within (x : (Int × (Int × Int))) : (Option Bool) :=
  (cond (decide (x.1 ≥ x.2.1)) (some (decide (x.1 ≤ x.2.2))) (some false))

noncomputable def c_I_within : Con0 := ⟨pk_I_within, rk_I_within, M_I_within⟩

set_option maxRecDepth 100000 in
theorem eq_I_within (x : In pk_I_within) : semF (mkE []) h_I_within (info Try.f64) pk_I_within rk_I_within x = M_I_within x := (semFF_eq _ _ _ _ _ _).symm.trans (by kernel_rfl)

set_option maxRecDepth 100000 in
theorem m_I_within : ConOK Try.prog 64 c_I_within := fn_ok (tyOK _) (E := mkE []) (consOK_nil rfl) Try.func64 (h := h_I_within) (by kernel_rfl) eq_I_within

/-- I_isModulus -/
def pk_I_isModulus : List PK := [.data (.int .i64)]
def rk_I_isModulus : List (Ty × Bool) := [(.bool, false)]
def h_I_isModulus : Hints := { loops := [] }
noncomputable def M_I_isModulus (x : Int) : (Option Bool) :=
  (bindO (M_I_within (x, ((2 : Int), (2000000000 : Int)))) (fun (a0 : Bool) => (some a0)))

noncomputable def c_I_isModulus : Con0 := ⟨pk_I_isModulus, rk_I_isModulus, M_I_isModulus⟩

set_option maxRecDepth 100000 in
theorem eq_I_isModulus (x : In pk_I_isModulus) : semF (mkE [(64, c_I_within)]) h_I_isModulus (info Try.f151) pk_I_isModulus rk_I_isModulus x = M_I_isModulus x := (semFF_eq _ _ _ _ _ _).symm.trans (by kernel_rfl)

set_option maxRecDepth 100000 in
theorem m_I_isModulus : ConOK Try.prog 151 c_I_isModulus := fn_ok (tyOK _) (E := mkE [(64, c_I_within)]) (consOK_cons m_I_within (consOK_nil rfl)) Try.func151 (h := h_I_isModulus) (by kernel_rfl) eq_I_isModulus

/-- I_isPrime -/
def pk_I_isPrime : List PK := [.data (.int .i64)]
def rk_I_isPrime : List (Ty × Bool) := [(.bool, false)]
def h_I_isPrime : Hints := { loops := [(0, { items := [.slot 3 (.data (.int .i64) [])], kill := [1, 2, 4, 5, 6, 7, 8, 9, 10, 11, 12, 13, 14, 15, 16, 17, 18, 19, 20, 21, 22, 23, 24, 25, 26] })] }
noncomputable def M_I_isPrime (x : Int) : (Option Bool) :=
  (bindO (M_I_isModulus x) (fun (a0 : Bool) => (cond (not a0) (some false) (bindO (guardO ((2 : Int) != (0 : Int))) (fun (a1 : Unit) => (bindO (some (Int.tmod x (2 : Int))) (fun (a2 : Int) => (cond (a2 == (0 : Int)) (cond (x != (2 : Int)) (some false) (loopO (fun (again3 : (Int → (Option Bool))) => (fun (s4 : Int) => (bindO (some (IntKind.wrap .i64 (s4 * s4))) (fun (a5 : Int) => (cond (decide (a5 ≤ x)) (bindO (guardO (s4 != (0 : Int))) (fun (a6 : Unit) => (bindO (some (Int.tmod x s4)) (fun (a7 : Int) => (cond (a7 == (0 : Int)) (some false) (bindO (some (IntKind.wrap .i64 (s4 + (2 : Int)))) (fun (a8 : Int) => (again3 a8)))))))) (some true)))))) (3 : Int))) (loopO (fun (again9 : (Int → (Option Bool))) => (fun (s10 : Int) => (bindO (some (IntKind.wrap .i64 (s10 * s10))) (fun (a11 : Int) => (cond (decide (a11 ≤ x)) (bindO (guardO (s10 != (0 : Int))) (fun (a12 : Unit) => (bindO (some (Int.tmod x s10)) (fun (a13 : Int) => (cond (a13 == (0 : Int)) (some false) (bindO (some (IntKind.wrap .i64 (s10 + (2 : Int)))) (fun (a14 : Int) => (again9 a14)))))))) (some true)))))) (3 : Int))))))))))

noncomputable def c_I_isPrime : Con0 := ⟨pk_I_isPrime, rk_I_isPrime, M_I_isPrime⟩

set_option maxRecDepth 100000 in
theorem eq_I_isPrime (x : In pk_I_isPrime) : semF (mkE [(151, c_I_isModulus)]) h_I_isPrime (info Try.f125) pk_I_isPrime rk_I_isPrime x = M_I_isPrime x := (semFF_eq _ _ _ _ _ _).symm.trans (by kernel_rfl)

set_option maxRecDepth 100000 in
theorem m_I_isPrime : ConOK Try.prog 125 c_I_isPrime := fn_ok (tyOK _) (E := mkE [(151, c_I_isModulus)]) (consOK_cons m_I_isModulus (consOK_nil rfl)) Try.func125 (h := h_I_isPrime) (by kernel_rfl) eq_I_isPrime

/-- I_isField -/
def pk_I_isField : List PK := [.data (.int .i64)]
def rk_I_isField : List (Ty × Bool) := [(.bool, false)]
def h_I_isField : Hints := { loops := [] }
noncomputable def M_I_isField (x : Int) : (Option Bool) :=
  (bindO (M_I_isPrime x) (fun (a0 : Bool) => (some a0)))

noncomputable def c_I_isField : Con0 := ⟨pk_I_isField, rk_I_isField, M_I_isField⟩

set_option maxRecDepth 100000 in
theorem eq_I_isField (x : In pk_I_isField) : semF (mkE [(125, c_I_isPrime)]) h_I_isField (info Try.f147) pk_I_isField rk_I_isField x = M_I_isField x := (semFF_eq _ _ _ _ _ _).symm.trans (by kernel_rfl)

set_option maxRecDepth 100000 in
theorem m_I_isField : ConOK Try.prog 147 c_I_isField := fn_ok (tyOK _) (E := mkE [(125, c_I_isPrime)]) (consOK_cons m_I_isPrime (consOK_nil rfl)) Try.func147 (h := h_I_isField) (by kernel_rfl) eq_I_isField

/-- slices_IndexFunc_sint_int -/
def pk_slices_IndexFunc_sint_int : List PK := [.data (.sl (.int .i64)), .fn [(.int .i64)] .bool]
def rk_slices_IndexFunc_sint_int : List (Ty × Bool) := [((.int .i64), false)]
def h_slices_IndexFunc_sint_int : Hints := { loops := [(0, { items := [.slot 8 (.data (.int .i64) [])], kill := [2, 3, 4, 5, 6, 9, 10, 11, 12, 13, 14, 15, 16, 17, 18] })] }
noncomputable def M_slices_IndexFunc_sint_int (x : ((List Int) × (Int → (Option Bool)))) : (Option Int) :=
  (loopO (fun (again0 : (Int → (Option Int))) => (fun (s1 : Int) => (cond (decide (s1 < (((List.length x.1) : Nat) : Int))) (bindO (getI x.1 s1) (fun (a2 : Int) => (bindO (x.2 a2) (fun (a3 : Bool) => (cond a3 (some s1) (bindO (some (IntKind.wrap .i64 (s1 + (1 : Int)))) (fun (a4 : Int) => (again0 a4)))))))) (some (- (1 : Int)))))) (0 : Int))

noncomputable def c_slices_IndexFunc_sint_int : Con0 := ⟨pk_slices_IndexFunc_sint_int, rk_slices_IndexFunc_sint_int, M_slices_IndexFunc_sint_int⟩

set_option maxRecDepth 100000 in
theorem eq_slices_IndexFunc_sint_int (x : In pk_slices_IndexFunc_sint_int) : semF (mkE []) h_slices_IndexFunc_sint_int (info Try.f175) pk_slices_IndexFunc_sint_int rk_slices_IndexFunc_sint_int x = M_slices_IndexFunc_sint_int x := (semFF_eq _ _ _ _ _ _).symm.trans (by kernel_rfl)

set_option maxRecDepth 100000 in
theorem m_slices_IndexFunc_sint_int : ConOK Try.prog 175 c_slices_IndexFunc_sint_int := fn_ok (tyOK _) (E := mkE []) (consOK_nil rfl) Try.func175 (h := h_slices_IndexFunc_sint_int) (by kernel_rfl) eq_slices_IndexFunc_sint_int

/-- slices_ContainsFunc_sint_int -/
def pk_slices_ContainsFunc_sint_int : List PK := [.data (.sl (.int .i64)), .fn [(.int .i64)] .bool]
def rk_slices_ContainsFunc_sint_int : List (Ty × Bool) := [(.bool, false)]
def h_slices_ContainsFunc_sint_int : Hints := { loops := [] }
noncomputable def M_slices_ContainsFunc_sint_int (x : ((List Int) × (Int → (Option Bool)))) : (Option Bool) :=
  (bindO (M_slices_IndexFunc_sint_int (x.1, x.2)) (fun (a0 : Int) => (some (decide (a0 ≥ (0 : Int))))))

noncomputable def c_slices_ContainsFunc_sint_int : Con0 := ⟨pk_slices_ContainsFunc_sint_int, rk_slices_ContainsFunc_sint_int, M_slices_ContainsFunc_sint_int⟩

set_option maxRecDepth 100000 in
theorem eq_slices_ContainsFunc_sint_int (x : In pk_slices_ContainsFunc_sint_int) : semF (mkE [(175, c_slices_IndexFunc_sint_int)]) h_slices_ContainsFunc_sint_int (info Try.f162) pk_slices_ContainsFunc_sint_int rk_slices_ContainsFunc_sint_int x = M_slices_ContainsFunc_sint_int x := (semFF_eq _ _ _ _ _ _).symm.trans (by kernel_rfl)

set_option maxRecDepth 100000 in
theorem m_slices_ContainsFunc_sint_int : ConOK Try.prog 162 c_slices_ContainsFunc_sint_int := fn_ok (tyOK _) (E := mkE [(175, c_slices_IndexFunc_sint_int)]) (consOK_cons m_slices_IndexFunc_sint_int (consOK_nil rfl)) Try.func162 (h := h_slices_ContainsFunc_sint_int) (by kernel_rfl) eq_slices_ContainsFunc_sint_int

/-- I_areAll_1 -/
def pk_I_areAll_1 : List PK := [.data (.int .i64), .rfn [(.int .i64)] .bool]
def rk_I_areAll_1 : List (Ty × Bool) := [(.bool, false)]
def h_I_areAll_1 : Hints := { loops := [] }
noncomputable def M_I_areAll_1 (x : (Int × (Int → (Option Bool)))) : (Option Bool) :=
  (bindO (x.2 x.1) (fun (a0 : Bool) => (some (not a0))))

noncomputable def c_I_areAll_1 : Con0 := ⟨pk_I_areAll_1, rk_I_areAll_1, M_I_areAll_1⟩

set_option maxRecDepth 100000 in
theorem eq_I_areAll_1 (x : In pk_I_areAll_1) : semF (mkE []) h_I_areAll_1 (info Try.f163) pk_I_areAll_1 rk_I_areAll_1 x = M_I_areAll_1 x := (semFF_eq _ _ _ _ _ _).symm.trans (by kernel_rfl)

set_option maxRecDepth 100000 in
theorem m_I_areAll_1 : ConOK Try.prog 163 c_I_areAll_1 := fn_ok (tyOK _) (E := mkE []) (consOK_nil rfl) Try.func163 (h := h_I_areAll_1) (by kernel_rfl) eq_I_areAll_1

/-- I_areAll -/
def pk_I_areAll : List PK := [.data (.sl (.int .i64)), .fn [(.int .i64)] .bool]
def rk_I_areAll : List (Ty × Bool) := [(.bool, false)]
def h_I_areAll : Hints := { loops := [] }
noncomputable def M_I_areAll (x : ((List Int) × (Int → (Option Bool)))) : (Option Bool) :=
  (bindO (M_slices_ContainsFunc_sint_int (x.1, (fun (a0 : Int) => (bindO (M_I_areAll_1 (a0, x.2)) (fun (a1 : Bool) => (some a1)))))) (fun (a2 : Bool) => (some (not a2))))

noncomputable def c_I_areAll : Con0 := ⟨pk_I_areAll, rk_I_areAll, M_I_areAll⟩

set_option maxRecDepth 100000 in
theorem eq_I_areAll (x : In pk_I_areAll) : semF (mkE [(162, c_slices_ContainsFunc_sint_int), (163, c_I_areAll_1)]) h_I_areAll (info Try.f116) pk_I_areAll rk_I_areAll x = M_I_areAll x := (semFF_eq _ _ _ _ _ _).symm.trans (by kernel_rfl)

set_option maxRecDepth 100000 in
theorem m_I_areAll : ConOK Try.prog 116 c_I_areAll := fn_ok (tyOK _) (E := mkE [(162, c_slices_ContainsFunc_sint_int), (163, c_I_areAll_1)]) (consOK_cons m_slices_ContainsFunc_sint_int (consOK_cons m_I_areAll_1 (consOK_nil rfl))) Try.func116 (h := h_I_areAll) (by kernel_rfl) eq_I_areAll

/-- I_areBelow_1 -/
def pk_I_areBelow_1 : List PK := [.data (.int .i64), .rp (.int .i64)]
def rk_I_areBelow_1 : List (Ty × Bool) := [(.bool, false)]
def h_I_areBelow_1 : Hints := { loops := [] }
noncomputable def M_I_areBelow_1 (x : (Int × Int)) : (Option Bool) :=
  (bindO (some (IntKind.wrap .i64 (x.2 - (1 : Int)))) (fun (a0 : Int) => (bindO (M_I_within (x.1, ((0 : Int), a0))) (fun (a1 : Bool) => (some a1)))))

noncomputable def c_I_areBelow_1 : Con0 := ⟨pk_I_areBelow_1, rk_I_areBelow_1, M_I_areBelow_1⟩

set_option maxRecDepth 100000 in
theorem eq_I_areBelow_1 (x : In pk_I_areBelow_1) : semF (mkE [(64, c_I_within)]) h_I_areBelow_1 (info Try.f136) pk_I_areBelow_1 rk_I_areBelow_1 x = M_I_areBelow_1 x := (semFF_eq _ _ _ _ _ _).symm.trans (by kernel_rfl)

set_option maxRecDepth 100000 in
theorem m_I_areBelow_1 : ConOK Try.prog 136 c_I_areBelow_1 := fn_ok (tyOK _) (E := mkE [(64, c_I_within)]) (consOK_cons m_I_within (consOK_nil rfl)) Try.func136 (h := h_I_areBelow_1) (by kernel_rfl) eq_I_areBelow_1

/-- I_areBelow -/
def pk_I_areBelow : List PK := [.data (.sl (.int .i64)), .data (.int .i64)]
def rk_I_areBelow : List (Ty × Bool) := [(.bool, false)]
def h_I_areBelow : Hints := { loops := [] }
noncomputable def M_I_areBelow (x : ((List Int) × Int)) : (Option Bool) :=
  (bindO (M_I_areAll (x.1, (fun (a0 : Int) => (bindO (M_I_areBelow_1 (a0, x.2)) (fun (a1 : Bool) => (some a1)))))) (fun (a2 : Bool) => (some a2)))

noncomputable def c_I_areBelow : Con0 := ⟨pk_I_areBelow, rk_I_areBelow, M_I_areBelow⟩

set_option maxRecDepth 100000 in
theorem eq_I_areBelow (x : In pk_I_areBelow) : semF (mkE [(116, c_I_areAll), (136, c_I_areBelow_1)]) h_I_areBelow (info Try.f82) pk_I_areBelow rk_I_areBelow x = M_I_areBelow x := (semFF_eq _ _ _ _ _ _).symm.trans (by kernel_rfl)

set_option maxRecDepth 100000 in
theorem m_I_areBelow : ConOK Try.prog 82 c_I_areBelow := fn_ok (tyOK _) (E := mkE [(116, c_I_areAll), (136, c_I_areBelow_1)]) (consOK_cons m_I_areAll (consOK_cons m_I_areBelow_1 (consOK_nil rfl))) Try.func82 (h := h_I_areBelow) (by kernel_rfl) eq_I_areBelow

/-- I_isPoly -/
def pk_I_isPoly : List PK := [.data (.int .i64), .data (.sl (.int .i64))]
def rk_I_isPoly : List (Ty × Bool) := [(.bool, false)]
def h_I_isPoly : Hints := { loops := [] }
noncomputable def M_I_isPoly (x : (Int × (List Int))) : (Option Bool) :=
  (bindO (M_I_isField x.1) (fun (a0 : Bool) => (cond a0 (cond (decide ((((List.length x.2) : Nat) : Int) ≤ (24 : Int))) (bindO (M_I_areBelow (x.2, x.1)) (fun (a1 : Bool) => (some a1))) (some false)) (some false))))

noncomputable def c_I_isPoly : Con0 := ⟨pk_I_isPoly, rk_I_isPoly, M_I_isPoly⟩

set_option maxRecDepth 100000 in
theorem eq_I_isPoly (x : In pk_I_isPoly) : semF (mkE [(147, c_I_isField), (82, c_I_areBelow)]) h_I_isPoly (info Try.f87) pk_I_isPoly rk_I_isPoly x = M_I_isPoly x := (semFF_eq _ _ _ _ _ _).symm.trans (by kernel_rfl)

set_option maxRecDepth 100000 in
theorem m_I_isPoly : ConOK Try.prog 87 c_I_isPoly := fn_ok (tyOK _) (E := mkE [(147, c_I_isField), (82, c_I_areBelow)]) (consOK_cons m_I_isField (consOK_cons m_I_areBelow (consOK_nil rfl))) Try.func87 (h := h_I_isPoly) (by kernel_rfl) eq_I_isPoly

/-- slices_Index_sint_int -/
def pk_slices_Index_sint_int : List PK := [.data (.sl (.int .i64)), .data (.int .i64)]
def rk_slices_Index_sint_int : List (Ty × Bool) := [((.int .i64), false)]
def h_slices_Index_sint_int : Hints := { loops := [(0, { items := [.slot 8 (.data (.int .i64) [])], kill := [2, 3, 4, 5, 6, 9, 10, 11, 12, 13, 14, 15, 16, 17, 18] })] }
noncomputable def M_slices_Index_sint_int (x : ((List Int) × Int)) : (Option Int) :=
  (loopO (fun (again0 : (Int → (Option Int))) => (fun (s1 : Int) => (cond (decide (s1 < (((List.length x.1) : Nat) : Int))) (bindO (getI x.1 s1) (fun (a2 : Int) => (cond (x.2 == a2) (some s1) (bindO (some (IntKind.wrap .i64 (s1 + (1 : Int)))) (fun (a3 : Int) => (again0 a3)))))) (some (- (1 : Int)))))) (0 : Int))

noncomputable def c_slices_Index_sint_int : Con0 := ⟨pk_slices_Index_sint_int, rk_slices_Index_sint_int, M_slices_Index_sint_int⟩

set_option maxRecDepth 100000 in
theorem eq_slices_Index_sint_int (x : In pk_slices_Index_sint_int) : semF (mkE []) h_slices_Index_sint_int (info Try.f103) pk_slices_Index_sint_int rk_slices_Index_sint_int x = M_slices_Index_sint_int x := (semFF_eq _ _ _ _ _ _).symm.trans (by kernel_rfl)

set_option maxRecDepth 100000 in
theorem m_slices_Index_sint_int : ConOK Try.prog 103 c_slices_Index_sint_int := fn_ok (tyOK _) (E := mkE []) (consOK_nil rfl) Try.func103 (h := h_slices_Index_sint_int) (by kernel_rfl) eq_slices_Index_sint_int

/-- slices_Contains_sint_int -/
def pk_slices_Contains_sint_int : List PK := [.data (.sl (.int .i64)), .data (.int .i64)]
def rk_slices_Contains_sint_int : List (Ty × Bool) := [(.bool, false)]
def h_slices_Contains_sint_int : Hints := { loops := [] }
noncomputable def M_slices_Contains_sint_int (x : ((List Int) × Int)) : (Option Bool) :=
  (bindO (M_slices_Index_sint_int (x.1, x.2)) (fun (a0 : Int) => (some (decide (a0 ≥ (0 : Int))))))

noncomputable def c_slices_Contains_sint_int : Con0 := ⟨pk_slices_Contains_sint_int, rk_slices_Contains_sint_int, M_slices_Contains_sint_int⟩

set_option maxRecDepth 100000 in
theorem eq_slices_Contains_sint_int (x : In pk_slices_Contains_sint_int) : semF (mkE [(103, c_slices_Index_sint_int)]) h_slices_Contains_sint_int (info Try.f105) pk_slices_Contains_sint_int rk_slices_Contains_sint_int x = M_slices_Contains_sint_int x := (semFF_eq _ _ _ _ _ _).symm.trans (by kernel_rfl)

set_option maxRecDepth 100000 in
theorem m_slices_Contains_sint_int : ConOK Try.prog 105 c_slices_Contains_sint_int := fn_ok (tyOK _) (E := mkE [(103, c_slices_Index_sint_int)]) (consOK_cons m_slices_Index_sint_int (consOK_nil rfl)) Try.func105 (h := h_slices_Contains_sint_int) (by kernel_rfl) eq_slices_Contains_sint_int

/-- I_areDifferent -/
def pk_I_areDifferent : List PK := [.data (.sl (.int .i64))]
def rk_I_areDifferent : List (Ty × Bool) := [(.bool, false)]
def h_I_areDifferent : Hints := { loops := [(0, { items := [.slot 7 (.data (.int .i64) [])], kill := [1, 2, 3, 4, 8, 9, 10, 11, 12, 13, 14, 15, 16, 17] })] }
noncomputable def M_I_areDifferent (x : (List Int)) : (Option Bool) :=
  (loopO (fun (again0 : (Int → (Option Bool))) => (fun (s1 : Int) => (cond (decide (s1 < (((List.length x) : Nat) : Int))) (bindO (getI x s1) (fun (a2 : Int) => (bindO (sliceNH s1 (List.length x)) (fun (a3 : (Nat × Nat)) => (bindO (M_slices_Contains_sint_int ((List.drop a3.1 (List.take a3.2 x)), a2)) (fun (a4 : Bool) => (cond a4 (some false) (bindO (some (IntKind.wrap .i64 (s1 + (1 : Int)))) (fun (a5 : Int) => (again0 a5)))))))))) (some true)))) (0 : Int))

noncomputable def c_I_areDifferent : Con0 := ⟨pk_I_areDifferent, rk_I_areDifferent, M_I_areDifferent⟩

set_option maxRecDepth 100000 in
theorem eq_I_areDifferent (x : In pk_I_areDifferent) : semF (mkE [(105, c_slices_Contains_sint_int)]) h_I_areDifferent (info Try.f135) pk_I_areDifferent rk_I_areDifferent x = M_I_areDifferent x := (semFF_eq _ _ _ _ _ _).symm.trans (by kernel_rfl)

set_option maxRecDepth 100000 in
theorem m_I_areDifferent : ConOK Try.prog 135 c_I_areDifferent := fn_ok (tyOK _) (E := mkE [(105, c_slices_Contains_sint_int)]) (consOK_cons m_slices_Contains_sint_int (consOK_nil rfl)) Try.func135 (h := h_I_areDifferent) (by kernel_rfl) eq_I_areDifferent

/-- I_arePoints -/
def pk_I_arePoints : List PK := [.data (.int .i64), .data (.sl (.int .i64))]
def rk_I_arePoints : List (Ty × Bool) := [(.bool, false)]
def h_I_arePoints : Hints := { loops := [] }
noncomputable def M_I_arePoints (x : (Int × (List Int))) : (Option Bool) :=
  (cond (decide ((((List.length x.2) : Nat) : Int) > (0 : Int))) (bindO (M_I_isPoly (x.1, x.2)) (fun (a0 : Bool) => (cond a0 (bindO (M_I_areDifferent x.2) (fun (a1 : Bool) => (some a1))) (some false)))) (some false))

noncomputable def c_I_arePoints : Con0 := ⟨pk_I_arePoints, rk_I_arePoints, M_I_arePoints⟩

set_option maxRecDepth 100000 in
theorem eq_I_arePoints (x : In pk_I_arePoints) : semF (mkE [(87, c_I_isPoly), (135, c_I_areDifferent)]) h_I_arePoints (info Try.f81) pk_I_arePoints rk_I_arePoints x = M_I_arePoints x := (semFF_eq _ _ _ _ _ _).symm.trans (by kernel_rfl)

set_option maxRecDepth 100000 in
theorem m_I_arePoints : ConOK Try.prog 81 c_I_arePoints := fn_ok (tyOK _) (E := mkE [(87, c_I_isPoly), (135, c_I_areDifferent)]) (consOK_cons m_I_isPoly (consOK_cons m_I_areDifferent (consOK_nil rfl))) Try.func81 (h := h_I_arePoints) (by kernel_rfl) eq_I_arePoints

/-- slices_Clone_sint_int -/
def pk_slices_Clone_sint_int : List PK := [.data (.sl (.int .i64))]
def rk_slices_Clone_sint_int : List (Ty × Bool) := [((.sl (.int .i64)), true)]
def h_slices_Clone_sint_int : Hints := { loops := [] }
noncomputable def M_slices_Clone_sint_int (x : (List Int)) : (Option (List Int)) :=
  (cond (List.isEmpty x) (ambO (some ([] : List Int)) (cond (not true) (some ([] : List Int)) (bindO (guardO (lenOk ((List.length ([] : List Int)) + (List.length x)))) (fun (a0 : Unit) => (bindO (some (([] : List Int) ++ x)) (fun (a1 : (List Int)) => (some a1))))))) (cond (not true) (some ([] : List Int)) (bindO (guardO (lenOk ((List.length ([] : List Int)) + (List.length x)))) (fun (a2 : Unit) => (bindO (some (([] : List Int) ++ x)) (fun (a3 : (List Int)) => (some a3)))))))

noncomputable def c_slices_Clone_sint_int : Con0 := ⟨pk_slices_Clone_sint_int, rk_slices_Clone_sint_int, M_slices_Clone_sint_int⟩

set_option maxRecDepth 100000 in
theorem eq_slices_Clone_sint_int (x : In pk_slices_Clone_sint_int) : semF (mkE []) h_slices_Clone_sint_int (info Try.f68) pk_slices_Clone_sint_int rk_slices_Clone_sint_int x = M_slices_Clone_sint_int x := (semFF_eq _ _ _ _ _ _).symm.trans (by kernel_rfl)

set_option maxRecDepth 100000 in
theorem m_slices_Clone_sint_int : ConOK Try.prog 68 c_slices_Clone_sint_int := fn_ok (tyOK _) (E := mkE []) (consOK_nil rfl) Try.func68 (h := h_slices_Clone_sint_int) (by kernel_rfl) eq_slices_Clone_sint_int

/-- slices_Delete_sint_int -/
def pk_slices_Delete_sint_int : List PK := [.ow (.sl (.int .i64)), .data (.int .i64), .data (.int .i64)]
def rk_slices_Delete_sint_int : List (Ty × Bool) := [((.sl (.int .i64)), true)]
noncomputable def M_slices_Delete_sint_int (x : ((List Int) × (Int × Int))) : (Option (List Int)) :=
  (if (0 ≤ x.2.1 ∧ x.2.1 ≤ x.2.2) ∧ x.2.2 ≤ (x.1.length : Int) ∧ 0 < x.1.length then some (x.1.take x.2.1.toNat ++ x.1.drop x.2.2.toNat) else Option.none)

noncomputable def c_slices_Delete_sint_int : Con0 := ⟨pk_slices_Delete_sint_int, rk_slices_Delete_sint_int, M_slices_Delete_sint_int⟩

def del_ren : Go.Shelf.Ren := ⟨fun | 23 => 137 | n => n, fun | 0 => 0 | 3 => 3 | 4 => 4 | 22 => 22 | n => n, fun n => n⟩
set_option maxRecDepth 100000 in
theorem del_lays : Go.Proofs.Lays2.n23 Try.prog del_ren where
  mixed := by kernel_rfl
  f23 := Try.func137.trans (congrArg some (by kernel_rfl))
  t0 := Try.underlying0
  a0 := Try.isAgg0
  z0 := Try.sizeOf0
  v0 := Try.zeroValue0
  t3 := Try.underlying3
  a3 := Try.isAgg3
  z3 := Try.sizeOf3
  v3 := Try.zeroValue3
  t4 := Try.underlying4
  a4 := Try.isAgg4
  z4 := Try.sizeOf4
  v4 := Try.zeroValue4
  t22 := Try.underlying22
  a22 := Try.isAgg22
  z22 := Try.sizeOf22
  v22 := Try.zeroValue22
  i3 := by kernel_rfl

theorem m_slices_Delete_sint_int : ConOK Try.prog 137 c_slices_Delete_sint_int := del_ok ⟨Try.f137, Try.func137, of_decide_eq_true (by kernel_rfl), by kernel_rfl⟩ (del_law del_lays)

/-- I_mod -/
def pk_I_mod : List PK := [.data (.int .i64), .data (.int .i64)]
def rk_I_mod : List (Ty × Bool) := [((.int .i64), false)]
def h_I_mod : Hints := { loops := [] }
noncomputable def M_I_mod (x : (Int × Int)) : (Option Int) :=
  (bindO (guardO (x.2 != (0 : Int))) (fun (a0 : Unit) => (bindO (some (Int.tmod x.1 x.2)) (fun (a1 : Int) => (bindO (some (IntKind.wrap .i64 (a1 + x.2))) (fun (a2 : Int) => (bindO (guardO (x.2 != (0 : Int))) (fun (a3 : Unit) => (bindO (some (Int.tmod a2 x.2)) (fun (a4 : Int) => (some a4)))))))))))

noncomputable def c_I_mod : Con0 := ⟨pk_I_mod, rk_I_mod, M_I_mod⟩

set_option maxRecDepth 100000 in
theorem eq_I_mod (x : In pk_I_mod) : semF (mkE []) h_I_mod (info Try.f148) pk_I_mod rk_I_mod x = M_I_mod x := (semFF_eq _ _ _ _ _ _).symm.trans (by kernel_rfl)

set_option maxRecDepth 100000 in
theorem m_I_mod : ConOK Try.prog 148 c_I_mod := fn_ok (tyOK _) (E := mkE []) (consOK_nil rfl) Try.func148 (h := h_I_mod) (by kernel_rfl) eq_I_mod

/-- I_mulPolys -/
def pk_I_mulPolys : List PK := [.data (.int .i64), .data (.sl (.int .i64)), .data (.sl (.int .i64))]
def rk_I_mulPolys : List (Ty × Bool) := [((.sl (.int .i64)), true)]
def h_I_mulPolys : Hints := { loops := [(0, { items := [.slot 29 (.data (.int .i64) []), .arr 7 (.int .i64) true], kill := [1, 3, 4, 5, 6, 8, 9, 10, 11, 12, 13, 14, 15, 16, 17, 18, 19, 20, 21, 22, 23, 24, 25, 26, 30, 31, 32, 33, 34, 35, 36, 37, 38, 39, 40, 41, 42, 43, 44, 45, 46, 47, 48, 49, 50, 51, 52, 53, 54, 55, 56, 57, 58, 59, 60, 61, 62] }), (2, { items := [.slot 36 (.data (.int .i64) []), .arr 7 (.int .i64) true], kill := [1, 3, 4, 5, 6, 10, 11, 12, 13, 14, 15, 16, 17, 18, 19, 20, 21, 22, 23, 24, 25, 26, 30, 31, 32, 33, 37, 38, 39, 40, 41, 42, 43, 44, 45, 46, 47, 48, 49, 50, 51, 52, 53, 54, 55, 56, 57, 58, 59, 60, 61, 62] })] }
noncomputable def M_I_mulPolys (x : (Int × ((List Int) × (List Int)))) : (Option (List Int)) :=
  (cond ((((List.length x.2.1) : Nat) : Int) == (0 : Int)) (some ([] : List Int)) (cond ((((List.length x.2.2) : Nat) : Int) == (0 : Int)) (some ([] : List Int)) (bindO (some (IntKind.wrap .i64 ((((List.length x.2.1) : Nat) : Int) + (((List.length x.2.2) : Nat) : Int)))) (fun (a0 : Int) => (bindO (some (IntKind.wrap .i64 (a0 - (1 : Int)))) (fun (a1 : Int) => (bindO (guardO (((decide ((0 : Int) ≤ a1)) && (decide (a1 ≤ a1))) && (decide (a1 ≤ ((lim : Nat) : Int))))) (fun (a2 : Unit) => (loopO (fun (again3 : ((Int × (List Int)) → (Option (List Int)))) => (fun (s4 : (Int × (List Int))) => (cond (decide (s4.1 < (((List.length x.2.1) : Nat) : Int))) (bindO (getI x.2.1 s4.1) (fun (a5 : Int) => (loopO (fun (again6 : ((Int × (List Int)) → (Option (List Int)))) => (fun (s7 : (Int × (List Int))) => (cond (decide (s7.1 < (((List.length x.2.2) : Nat) : Int))) (bindO (getI x.2.2 s7.1) (fun (a8 : Int) => (bindO (some (IntKind.wrap .i64 (s4.1 + s7.1))) (fun (a9 : Int) => (bindO (some (IntKind.wrap .i64 (s4.1 + s7.1))) (fun (a10 : Int) => (bindO (getI s7.2 a10) (fun (a11 : Int) => (bindO (some (IntKind.wrap .i64 (a5 * a8))) (fun (a12 : Int) => (bindO (guardO (x.1 != (0 : Int))) (fun (a13 : Unit) => (bindO (some (Int.tmod a12 x.1)) (fun (a14 : Int) => (bindO (some (IntKind.wrap .i64 (a11 + a14))) (fun (a15 : Int) => (bindO (guardO (x.1 != (0 : Int))) (fun (a16 : Unit) => (bindO (some (Int.tmod a15 x.1)) (fun (a17 : Int) => (bindO (getI s7.2 a9) (fun (a18 : Int) => (bindO (some (List.set s7.2 (Int.toNat a9) a17)) (fun (a19 : (List Int)) => (bindO (some (IntKind.wrap .i64 (s7.1 + (1 : Int)))) (fun (a20 : Int) => (again6 (a20, a19)))))))))))))))))))))))))))) (bindO (some (IntKind.wrap .i64 (s4.1 + (1 : Int)))) (fun (a21 : Int) => (again3 (a21, s7.2))))))) ((0 : Int), s4.2)))) (some s4.2)))) ((0 : Int), (List.replicate (Int.toNat a1) (0 : Int))))))))))))

noncomputable def c_I_mulPolys : Con0 := ⟨pk_I_mulPolys, rk_I_mulPolys, M_I_mulPolys⟩

set_option maxRecDepth 100000 in
theorem eq_I_mulPolys (x : In pk_I_mulPolys) : semF (mkE []) h_I_mulPolys (info Try.f138) pk_I_mulPolys rk_I_mulPolys x = M_I_mulPolys x := (semFF_eq _ _ _ _ _ _).symm.trans (by kernel_rfl)

set_option maxRecDepth 100000 in
theorem m_I_mulPolys : ConOK Try.prog 138 c_I_mulPolys := fn_ok (tyOK _) (E := mkE []) (consOK_nil rfl) Try.func138 (h := h_I_mulPolys) (by kernel_rfl) eq_I_mulPolys

/-- I_fromRoots -/
def pk_I_fromRoots : List PK := [.data (.int .i64), .data (.sl (.int .i64))]
def rk_I_fromRoots : List (Ty × Bool) := [((.sl (.int .i64)), true)]
def h_I_fromRoots : Hints := { loops := [(0, { items := [.slot 5 (.own (.int .i64) true), .slot 11 (.data (.int .i64) [])], kill := [1, 2, 3, 4, 6, 7, 8, 12, 13, 14, 15, 16, 17, 18, 19, 20, 21, 22, 23, 24] })] }
noncomputable def M_I_fromRoots (x : (Int × (List Int))) : (Option (List Int)) :=
  (loopO (fun (again0 : (((List Int) × Int) → (Option (List Int)))) => (fun (s1 : ((List Int) × Int)) => (cond (decide (s1.2 < (((List.length x.2) : Nat) : Int))) (bindO (getI x.2 s1.2) (fun (a2 : Int) => (bindO (some (IntKind.wrap .i64 ((0 : Int) - a2))) (fun (a3 : Int) => (bindO (M_I_mod (a3, x.1)) (fun (a4 : Int) => (bindO (M_I_mulPolys (x.1, (s1.1, (a4 :: ((1 : Int) :: ([] : List Int)))))) (fun (a5 : (List Int)) => (bindO (some (IntKind.wrap .i64 (s1.2 + (1 : Int)))) (fun (a6 : Int) => (again0 (a5, a6)))))))))))) (some s1.1)))) (((1 : Int) :: ([] : List Int)), (0 : Int)))

noncomputable def c_I_fromRoots : Con0 := ⟨pk_I_fromRoots, rk_I_fromRoots, M_I_fromRoots⟩

set_option maxRecDepth 100000 in
theorem eq_I_fromRoots (x : In pk_I_fromRoots) : semF (mkE [(148, c_I_mod), (138, c_I_mulPolys)]) h_I_fromRoots (info Try.f88) pk_I_fromRoots rk_I_fromRoots x = M_I_fromRoots x := (semFF_eq _ _ _ _ _ _).symm.trans (by kernel_rfl)

set_option maxRecDepth 100000 in
theorem m_I_fromRoots : ConOK Try.prog 88 c_I_fromRoots := fn_ok (tyOK _) (E := mkE [(148, c_I_mod), (138, c_I_mulPolys)]) (consOK_cons m_I_mod (consOK_cons m_I_mulPolys (consOK_nil rfl))) Try.func88 (h := h_I_fromRoots) (by kernel_rfl) eq_I_fromRoots

/-- I_evalPoly -/
def pk_I_evalPoly : List PK := [.data (.int .i64), .data (.sl (.int .i64)), .data (.int .i64)]
def rk_I_evalPoly : List (Ty × Bool) := [((.int .i64), false)]
def h_I_evalPoly : Hints := { loops := [(0, { items := [.slot 7 (.data (.int .i64) []), .slot 8 (.data (.int .i64) [])], kill := [3, 4, 5, 6, 9, 10, 11, 12, 13, 14, 15, 16, 17, 18, 19, 20, 21, 22, 23, 24, 25, 26, 27, 28] })] }
noncomputable def M_I_evalPoly (x : (Int × ((List Int) × Int))) : (Option Int) :=
  (bindO (some (IntKind.wrap .i64 ((((List.length x.2.1) : Nat) : Int) - (1 : Int)))) (fun (a0 : Int) => (loopO (fun (again1 : ((Int × Int) → (Option Int))) => (fun (s2 : (Int × Int)) => (cond (decide (s2.2 ≥ (0 : Int))) (bindO (some (IntKind.wrap .i64 (s2.1 * x.2.2))) (fun (a3 : Int) => (bindO (guardO (x.1 != (0 : Int))) (fun (a4 : Unit) => (bindO (some (Int.tmod a3 x.1)) (fun (a5 : Int) => (bindO (getI x.2.1 s2.2) (fun (a6 : Int) => (bindO (some (IntKind.wrap .i64 (a5 + a6))) (fun (a7 : Int) => (bindO (guardO (x.1 != (0 : Int))) (fun (a8 : Unit) => (bindO (some (Int.tmod a7 x.1)) (fun (a9 : Int) => (bindO (some (IntKind.wrap .i64 (s2.2 - (1 : Int)))) (fun (a10 : Int) => (again1 (a9, a10)))))))))))))))))) (some s2.1)))) ((0 : Int), a0))))

noncomputable def c_I_evalPoly : Con0 := ⟨pk_I_evalPoly, rk_I_evalPoly, M_I_evalPoly⟩

set_option maxRecDepth 100000 in
theorem eq_I_evalPoly (x : In pk_I_evalPoly) : semF (mkE []) h_I_evalPoly (info Try.f91) pk_I_evalPoly rk_I_evalPoly x = M_I_evalPoly x := (semFF_eq _ _ _ _ _ _).symm.trans (by kernel_rfl)

set_option maxRecDepth 100000 in
theorem m_I_evalPoly : ConOK Try.prog 91 c_I_evalPoly := fn_ok (tyOK _) (E := mkE []) (consOK_nil rfl) Try.func91 (h := h_I_evalPoly) (by kernel_rfl) eq_I_evalPoly

/-- I_inverse -/
def pk_I_inverse : List PK := [.data (.int .i64), .data (.int .i64)]
def rk_I_inverse : List (Ty × Bool) := [((.int .i64), false)]
def h_I_inverse : Hints := { loops := [(0, { items := [.slot 5 (.data (.int .i64) []), .slot 6 (.data (.int .i64) []), .slot 7 (.data (.int .i64) []), .slot 8 (.data (.int .i64) [])], kill := [0, 2, 3, 4, 9, 10, 11, 12, 13, 14, 15, 16, 17, 18, 19, 20, 21, 22, 23, 24, 25, 26, 27, 28, 29, 30, 31, 32, 33] })] }
noncomputable def M_I_inverse (x : (Int × Int)) : (Option Int) :=
  (loopO (fun (again0 : ((Int × (Int × (Int × Int))) → (Option Int))) => (fun (s1 : (Int × (Int × (Int × Int)))) => (cond (s1.2.1 != (0 : Int)) (bindO (guardO (s1.2.1 != (0 : Int))) (fun (a2 : Unit) => (bindO (some (IntKind.wrap .i64 (Int.tdiv s1.1 s1.2.1))) (fun (a3 : Int) => (bindO (some (IntKind.wrap .i64 (a3 * s1.2.1))) (fun (a4 : Int) => (bindO (some (IntKind.wrap .i64 (s1.1 - a4))) (fun (a5 : Int) => (bindO (some (IntKind.wrap .i64 (a3 * s1.2.2.2))) (fun (a6 : Int) => (bindO (some (IntKind.wrap .i64 (s1.2.2.1 - a6))) (fun (a7 : Int) => (again0 (s1.2.1, (a5, (s1.2.2.2, a7)))))))))))))))) (cond (s1.1 != (1 : Int)) (some (0 : Int)) (bindO (M_I_mod (s1.2.2.1, x.2)) (fun (a8 : Int) => (some a8))))))) (x.2, (x.1, ((0 : Int), (1 : Int)))))

noncomputable def c_I_inverse : Con0 := ⟨pk_I_inverse, rk_I_inverse, M_I_inverse⟩

set_option maxRecDepth 100000 in
theorem eq_I_inverse (x : In pk_I_inverse) : semF (mkE [(148, c_I_mod)]) h_I_inverse (info Try.f139) pk_I_inverse rk_I_inverse x = M_I_inverse x := (semFF_eq _ _ _ _ _ _).symm.trans (by kernel_rfl)

set_option maxRecDepth 100000 in
theorem m_I_inverse : ConOK Try.prog 139 c_I_inverse := fn_ok (tyOK _) (E := mkE [(148, c_I_mod)]) (consOK_cons m_I_mod (consOK_nil rfl)) Try.func139 (h := h_I_inverse) (by kernel_rfl) eq_I_inverse

/-- I_basisAt -/
def pk_I_basisAt : List PK := [.data (.int .i64), .data (.sl (.int .i64)), .data (.int .i64)]
def rk_I_basisAt : List (Ty × Bool) := [((.sl (.int .i64)), true)]
def h_I_basisAt : Hints := { loops := [] }
noncomputable def M_I_basisAt (x : (Int × ((List Int) × Int))) : (Option (List Int)) :=
  (bindO (M_slices_Clone_sint_int x.2.1) (fun (a0 : (List Int)) => (bindO (some (IntKind.wrap .i64 (x.2.2 + (1 : Int)))) (fun (a1 : Int) => (bindO (M_slices_Delete_sint_int (a0, (x.2.2, a1))) (fun (a2 : (List Int)) => (bindO (M_I_fromRoots (x.1, a2)) (fun (a3 : (List Int)) => (bindO (getI x.2.1 x.2.2) (fun (a4 : Int) => (bindO (M_I_evalPoly (x.1, (a3, a4))) (fun (a5 : Int) => (bindO (M_I_inverse (a5, x.1)) (fun (a6 : Int) => (bindO (M_I_mulPolys (x.1, (a3, (a6 :: ([] : List Int))))) (fun (a7 : (List Int)) => (some a7)))))))))))))))))

noncomputable def c_I_basisAt : Con0 := ⟨pk_I_basisAt, rk_I_basisAt, M_I_basisAt⟩

set_option maxRecDepth 100000 in
theorem eq_I_basisAt (x : In pk_I_basisAt) : semF (mkE [(68, c_slices_Clone_sint_int), (137, c_slices_Delete_sint_int), (88, c_I_fromRoots), (91, c_I_evalPoly), (139, c_I_inverse), (138, c_I_mulPolys)]) h_I_basisAt (info Try.f83) pk_I_basisAt rk_I_basisAt x = M_I_basisAt x := (semFF_eq _ _ _ _ _ _).symm.trans (by kernel_rfl)

set_option maxRecDepth 100000 in
theorem m_I_basisAt : ConOK Try.prog 83 c_I_basisAt := fn_ok (tyOK _) (E := mkE [(68, c_slices_Clone_sint_int), (137, c_slices_Delete_sint_int), (88, c_I_fromRoots), (91, c_I_evalPoly), (139, c_I_inverse), (138, c_I_mulPolys)]) (consOK_cons m_slices_Clone_sint_int (consOK_cons m_slices_Delete_sint_int (consOK_cons m_I_fromRoots (consOK_cons m_I_evalPoly (consOK_cons m_I_inverse (consOK_cons m_I_mulPolys (consOK_nil rfl))))))) Try.func83 (h := h_I_basisAt) (by kernel_rfl) eq_I_basisAt

/-- I_Interpolate -/
def pk_I_Interpolate : List PK := [.data (.int .i64), .data (.sl (.int .i64)), .data (.sl (.int .i64))]
def rk_I_Interpolate : List (Ty × Bool) := [((.sl (.int .i64)), true), (.bool, false)]
def h_I_Interpolate : Hints := { loops := [(0, { items := [.slot 34 (.data (.int .i64) []), .arr 8 (.int .i64) true], kill := [3, 4, 5, 6, 7, 9, 10, 11, 12, 13, 14, 15, 16, 17, 18, 19, 20, 21, 22, 23, 24, 25, 26, 27, 28, 29, 30, 31, 32, 35, 36, 37, 38, 39, 40, 41, 42, 43, 44, 45, 46, 47, 48, 49, 50, 51, 52, 53, 54, 55, 56, 57, 58, 59, 60, 61, 62, 63, 64, 65, 66, 67] }), (2, { items := [.slot 42 (.data (.int .i64) []), .arr 8 (.int .i64) true], kill := [3, 4, 5, 6, 7, 10, 11, 12, 13, 14, 15, 16, 17, 18, 19, 20, 21, 22, 23, 24, 25, 26, 27, 28, 29, 30, 31, 32, 35, 36, 37, 38, 39, 43, 44, 45, 46, 47, 48, 49, 50, 51, 52, 53, 54, 55, 56, 57, 58, 59, 60, 61, 62, 63, 64, 65, 66, 67] })] }
noncomputable def M_I_Interpolate (x : (Int × ((List Int) × (List Int)))) : (Option ((List Int) × Bool)) :=
  (bindO (M_I_arePoints (x.1, x.2.1)) (fun (a0 : Bool) => (cond (not a0) (some (([] : List Int), false)) (cond ((((List.length x.2.2) : Nat) : Int) != (((List.length x.2.1) : Nat) : Int)) (some (([] : List Int), false)) (bindO (M_I_areBelow (x.2.2, x.1)) (fun (a1 : Bool) => (cond (not a1) (some (([] : List Int), false)) (bindO (guardO (((decide ((0 : Int) ≤ (((List.length x.2.1) : Nat) : Int))) && (decide ((((List.length x.2.1) : Nat) : Int) ≤ (((List.length x.2.1) : Nat) : Int)))) && (decide ((((List.length x.2.1) : Nat) : Int) ≤ ((lim : Nat) : Int))))) (fun (a2 : Unit) => (loopO (fun (again3 : ((Int × (List Int)) → (Option ((List Int) × Bool)))) => (fun (s4 : (Int × (List Int))) => (cond (decide (s4.1 < (((List.length x.2.1) : Nat) : Int))) (bindO (M_I_basisAt (x.1, (x.2.1, s4.1))) (fun (a5 : (List Int)) => (loopO (fun (again6 : ((Int × (List Int)) → (Option ((List Int) × Bool)))) => (fun (s7 : (Int × (List Int))) => (cond (decide (s7.1 < (((List.length a5) : Nat) : Int))) (bindO (getI a5 s7.1) (fun (a8 : Int) => (bindO (getI s7.2 s7.1) (fun (a9 : Int) => (bindO (getI x.2.2 s4.1) (fun (a10 : Int) => (bindO (some (IntKind.wrap .i64 (a8 * a10))) (fun (a11 : Int) => (bindO (guardO (x.1 != (0 : Int))) (fun (a12 : Unit) => (bindO (some (Int.tmod a11 x.1)) (fun (a13 : Int) => (bindO (some (IntKind.wrap .i64 (a9 + a13))) (fun (a14 : Int) => (bindO (guardO (x.1 != (0 : Int))) (fun (a15 : Unit) => (bindO (some (Int.tmod a14 x.1)) (fun (a16 : Int) => (bindO (getI s7.2 s7.1) (fun (a17 : Int) => (bindO (some (List.set s7.2 (Int.toNat s7.1) a16)) (fun (a18 : (List Int)) => (bindO (some (IntKind.wrap .i64 (s7.1 + (1 : Int)))) (fun (a19 : Int) => (again6 (a19, a18)))))))))))))))))))))))))) (bindO (some (IntKind.wrap .i64 (s4.1 + (1 : Int)))) (fun (a20 : Int) => (again3 (a20, s7.2))))))) ((0 : Int), s4.2)))) (some (s4.2, true))))) ((0 : Int), (List.replicate (Int.toNat (((List.length x.2.1) : Nat) : Int)) (0 : Int)))))))))))))

noncomputable def c_I_Interpolate : Con0 := ⟨pk_I_Interpolate, rk_I_Interpolate, M_I_Interpolate⟩

set_option maxRecDepth 100000 in
theorem eq_I_Interpolate (x : In pk_I_Interpolate) : semF (mkE [(81, c_I_arePoints), (82, c_I_areBelow), (83, c_I_basisAt)]) h_I_Interpolate (info Try.f26) pk_I_Interpolate rk_I_Interpolate x = M_I_Interpolate x := (semFF_eq _ _ _ _ _ _).symm.trans (by kernel_rfl)

set_option maxRecDepth 100000 in
theorem m_I_Interpolate : ConOK Try.prog 26 c_I_Interpolate := fn_ok (tyOK _) (E := mkE [(81, c_I_arePoints), (82, c_I_areBelow), (83, c_I_basisAt)]) (consOK_cons m_I_arePoints (consOK_cons m_I_areBelow (consOK_cons m_I_basisAt (consOK_nil rfl)))) Try.func26 (h := h_I_Interpolate) (by kernel_rfl) eq_I_Interpolate

/-- S_l1In -/
def pk_S_l1In : List PK := [.data (.int .i64), .data (.int .i64), .data (.int .i64)]
def rk_S_l1In : List (Ty × Bool) := [(.bool, false)]
def h_S_l1In : Hints := { loops := [] }
noncomputable def M_S_l1In (x : (Int × (Int × Int))) : (Option Bool) :=
  (cond (decide (x.1 ≥ x.2.1)) (some (decide (x.1 ≤ x.2.2))) (some false))

noncomputable def c_S_l1In : Con0 := ⟨pk_S_l1In, rk_S_l1In, M_S_l1In⟩

set_option maxRecDepth 100000 in
theorem eq_S_l1In (x : In pk_S_l1In) : semF (mkE []) h_S_l1In (info Try.f61) pk_S_l1In rk_S_l1In x = M_S_l1In x := (semFF_eq _ _ _ _ _ _).symm.trans (by kernel_rfl)

set_option maxRecDepth 100000 in
theorem m_S_l1In : ConOK Try.prog 61 c_S_l1In := fn_ok (tyOK _) (E := mkE []) (consOK_nil rfl) Try.func61 (h := h_S_l1In) (by kernel_rfl) eq_S_l1In

/-- S_nModulus -/
def pk_S_nModulus : List PK := [.data (.int .i64)]
def rk_S_nModulus : List (Ty × Bool) := [(.bool, false)]
def h_S_nModulus : Hints := { loops := [] }
noncomputable def M_S_nModulus (x : Int) : (Option Bool) :=
  (bindO (M_S_l1In (x, ((2 : Int), (2000000000 : Int)))) (fun (a0 : Bool) => (some a0)))

noncomputable def c_S_nModulus : Con0 := ⟨pk_S_nModulus, rk_S_nModulus, M_S_nModulus⟩

set_option maxRecDepth 100000 in
theorem eq_S_nModulus (x : In pk_S_nModulus) : semF (mkE [(61, c_S_l1In)]) h_S_nModulus (info Try.f172) pk_S_nModulus rk_S_nModulus x = M_S_nModulus x := (semFF_eq _ _ _ _ _ _).symm.trans (by kernel_rfl)

set_option maxRecDepth 100000 in
theorem m_S_nModulus : ConOK Try.prog 172 c_S_nModulus := fn_ok (tyOK _) (E := mkE [(61, c_S_l1In)]) (consOK_cons m_S_l1In (consOK_nil rfl)) Try.func172 (h := h_S_nModulus) (by kernel_rfl) eq_S_nModulus

/-- S_nPrime -/
def pk_S_nPrime : List PK := [.data (.int .i64)]
def rk_S_nPrime : List (Ty × Bool) := [(.bool, false)]
def h_S_nPrime : Hints := { loops := [(0, { items := [.slot 3 (.data (.int .i64) [])], kill := [1, 2, 4, 5, 6, 7, 8, 9, 10, 11, 12, 13, 14, 15, 16] })] }
noncomputable def M_S_nPrime (x : Int) : (Option Bool) :=
  (cond (decide (x < (2 : Int))) (some false) (loopO (fun (again0 : (Int → (Option Bool))) => (fun (s1 : Int) => (bindO (some (IntKind.wrap .i64 (s1 * s1))) (fun (a2 : Int) => (cond (decide (a2 ≤ x)) (bindO (guardO (s1 != (0 : Int))) (fun (a3 : Unit) => (bindO (some (Int.tmod x s1)) (fun (a4 : Int) => (cond (a4 == (0 : Int)) (some false) (bindO (some (IntKind.wrap .i64 (s1 + (1 : Int)))) (fun (a5 : Int) => (again0 a5)))))))) (some true)))))) (2 : Int)))

noncomputable def c_S_nPrime : Con0 := ⟨pk_S_nPrime, rk_S_nPrime, M_S_nPrime⟩

set_option maxRecDepth 100000 in
theorem eq_S_nPrime (x : In pk_S_nPrime) : semF (mkE []) h_S_nPrime (info Try.f121) pk_S_nPrime rk_S_nPrime x = M_S_nPrime x := (semFF_eq _ _ _ _ _ _).symm.trans (by kernel_rfl)

set_option maxRecDepth 100000 in
theorem m_S_nPrime : ConOK Try.prog 121 c_S_nPrime := fn_ok (tyOK _) (E := mkE []) (consOK_nil rfl) Try.func121 (h := h_S_nPrime) (by kernel_rfl) eq_S_nPrime

/-- S_yModulus -/
def pk_S_yModulus : List PK := [.data (.int .i64)]
def rk_S_yModulus : List (Ty × Bool) := [(.bool, false)]
def h_S_yModulus : Hints := { loops := [] }
noncomputable def M_S_yModulus (x : Int) : (Option Bool) :=
  (bindO (M_S_nModulus x) (fun (a0 : Bool) => (cond a0 (bindO (M_S_nPrime x) (fun (a1 : Bool) => (some a1))) (some false))))

noncomputable def c_S_yModulus : Con0 := ⟨pk_S_yModulus, rk_S_yModulus, M_S_yModulus⟩

set_option maxRecDepth 100000 in
theorem eq_S_yModulus (x : In pk_S_yModulus) : semF (mkE [(172, c_S_nModulus), (121, c_S_nPrime)]) h_S_yModulus (info Try.f149) pk_S_yModulus rk_S_yModulus x = M_S_yModulus x := (semFF_eq _ _ _ _ _ _).symm.trans (by kernel_rfl)

set_option maxRecDepth 100000 in
theorem m_S_yModulus : ConOK Try.prog 149 c_S_yModulus := fn_ok (tyOK _) (E := mkE [(172, c_S_nModulus), (121, c_S_nPrime)]) (consOK_cons m_S_nModulus (consOK_cons m_S_nPrime (consOK_nil rfl))) Try.func149 (h := h_S_yModulus) (by kernel_rfl) eq_S_yModulus

/-- S_l1All -/
def pk_S_l1All : List PK := [.data (.sl (.int .i64)), .data (.int .i64), .data (.int .i64)]
def rk_S_l1All : List (Ty × Bool) := [(.bool, false)]
def h_S_l1All : Hints := { loops := [(0, { items := [.slot 11 (.data (.int .i64) [])], kill := [0, 3, 4, 5, 6, 7, 8, 12, 13, 14, 15, 16, 17, 18, 19, 20] })] }
noncomputable def M_S_l1All (x : ((List Int) × (Int × Int))) : (Option Bool) :=
  (loopO (fun (again0 : (Int → (Option Bool))) => (fun (s1 : Int) => (cond (decide (s1 < (((List.length x.1) : Nat) : Int))) (bindO (getI x.1 s1) (fun (a2 : Int) => (bindO (M_S_l1In (a2, (x.2.1, x.2.2))) (fun (a3 : Bool) => (cond (not a3) (some false) (bindO (some (IntKind.wrap .i64 (s1 + (1 : Int)))) (fun (a4 : Int) => (again0 a4)))))))) (some true)))) (0 : Int))

noncomputable def c_S_l1All : Con0 := ⟨pk_S_l1All, rk_S_l1All, M_S_l1All⟩

set_option maxRecDepth 100000 in
theorem eq_S_l1All (x : In pk_S_l1All) : semF (mkE [(61, c_S_l1In)]) h_S_l1All (info Try.f114) pk_S_l1All rk_S_l1All x = M_S_l1All x := (semFF_eq _ _ _ _ _ _).symm.trans (by kernel_rfl)

set_option maxRecDepth 100000 in
theorem m_S_l1All : ConOK Try.prog 114 c_S_l1All := fn_ok (tyOK _) (E := mkE [(61, c_S_l1In)]) (consOK_cons m_S_l1In (consOK_nil rfl)) Try.func114 (h := h_S_l1All) (by kernel_rfl) eq_S_l1All

/-- S_yGood -/
def pk_S_yGood : List PK := [.data (.int .i64), .data (.sl (.sl (.int .i64)))]
def rk_S_yGood : List (Ty × Bool) := [(.bool, false)]
def h_S_yGood : Hints := { loops := [(0, { items := [.slot 12 (.data (.int .i64) [])], kill := [1, 2, 3, 4, 5, 6, 7, 8, 9, 13, 14, 15, 16, 17, 18, 19, 20, 21, 22, 23, 24, 25, 26] })] }
noncomputable def M_S_yGood (x : (Int × (List (List Int)))) : (Option Bool) :=
  (bindO (M_S_yModulus x.1) (fun (a0 : Bool) => (cond (not a0) (some false) (loopO (fun (again1 : (Int → (Option Bool))) => (fun (s2 : Int) => (cond (decide (s2 < (((List.length x.2) : Nat) : Int))) (bindO (getI x.2 s2) (fun (a3 : (List Int)) => (cond (decide ((((List.length a3) : Nat) : Int) > (24 : Int))) (some false) (bindO (some (IntKind.wrap .i64 (x.1 - (1 : Int)))) (fun (a4 : Int) => (bindO (M_S_l1All (a3, ((0 : Int), a4))) (fun (a5 : Bool) => (cond (not a5) (some false) (bindO (some (IntKind.wrap .i64 (s2 + (1 : Int)))) (fun (a6 : Int) => (again1 a6))))))))))) (some true)))) (0 : Int)))))

noncomputable def c_S_yGood : Con0 := ⟨pk_S_yGood, rk_S_yGood, M_S_yGood⟩

set_option maxRecDepth 100000 in
theorem eq_S_yGood (x : In pk_S_yGood) : semF (mkE [(149, c_S_yModulus), (114, c_S_l1All)]) h_S_yGood (info Try.f89) pk_S_yGood rk_S_yGood x = M_S_yGood x := (semFF_eq _ _ _ _ _ _).symm.trans (by kernel_rfl)

set_option maxRecDepth 100000 in
theorem m_S_yGood : ConOK Try.prog 89 c_S_yGood := fn_ok (tyOK _) (E := mkE [(149, c_S_yModulus), (114, c_S_l1All)]) (consOK_cons m_S_yModulus (consOK_cons m_S_l1All (consOK_nil rfl))) Try.func89 (h := h_S_yGood) (by kernel_rfl) eq_S_yGood

/-- S_yPoints -/
def pk_S_yPoints : List PK := [.data (.sl (.int .i64))]
def rk_S_yPoints : List (Ty × Bool) := [(.bool, false)]
def h_S_yPoints : Hints := { loops := [(0, { items := [.slot 7 (.data (.int .i64) [])], kill := [1, 2, 3, 4, 8, 9, 10, 11, 12, 13, 14, 15, 16, 17] })] }
noncomputable def M_S_yPoints (x : (List Int)) : (Option Bool) :=
  (loopO (fun (again0 : (Int → (Option Bool))) => (fun (s1 : Int) => (cond (decide (s1 < (((List.length x) : Nat) : Int))) (bindO (getI x s1) (fun (a2 : Int) => (bindO (sliceNH s1 (List.length x)) (fun (a3 : (Nat × Nat)) => (bindO (M_S_l1Has ((List.drop a3.1 (List.take a3.2 x)), a2)) (fun (a4 : Bool) => (cond a4 (some false) (bindO (some (IntKind.wrap .i64 (s1 + (1 : Int)))) (fun (a5 : Int) => (again0 a5)))))))))) (some true)))) (0 : Int))

noncomputable def c_S_yPoints : Con0 := ⟨pk_S_yPoints, rk_S_yPoints, M_S_yPoints⟩

set_option maxRecDepth 100000 in
theorem eq_S_yPoints (x : In pk_S_yPoints) : semF (mkE [(115, c_S_l1Has)]) h_S_yPoints (info Try.f140) pk_S_yPoints rk_S_yPoints x = M_S_yPoints x := (semFF_eq _ _ _ _ _ _).symm.trans (by kernel_rfl)

set_option maxRecDepth 100000 in
theorem m_S_yPoints : ConOK Try.prog 140 c_S_yPoints := fn_ok (tyOK _) (E := mkE [(115, c_S_l1Has)]) (consOK_cons m_S_l1Has (consOK_nil rfl)) Try.func140 (h := h_S_yPoints) (by kernel_rfl) eq_S_yPoints

/-- S_yTable -/
def pk_S_yTable : List PK := [.data (.int .i64), .data (.sl (.int .i64)), .data (.sl (.int .i64))]
def rk_S_yTable : List (Ty × Bool) := [(.bool, false)]
def h_S_yTable : Hints := { loops := [] }
noncomputable def M_S_yTable (x : (Int × ((List Int) × (List Int)))) : (Option Bool) :=
  (bindO (M_S_yGood (x.1, (x.2.1 :: (x.2.2 :: ([] : List (List Int)))))) (fun (a0 : Bool) => (cond a0 (bindO (M_S_yPoints x.2.1) (fun (a1 : Bool) => (cond a1 (cond (decide ((((List.length x.2.1) : Nat) : Int) > (0 : Int))) (some ((((List.length x.2.1) : Nat) : Int) == (((List.length x.2.2) : Nat) : Int))) (some false)) (some false)))) (some false))))

noncomputable def c_S_yTable : Con0 := ⟨pk_S_yTable, rk_S_yTable, M_S_yTable⟩

set_option maxRecDepth 100000 in
theorem eq_S_yTable (x : In pk_S_yTable) : semF (mkE [(89, c_S_yGood), (140, c_S_yPoints)]) h_S_yTable (info Try.f84) pk_S_yTable rk_S_yTable x = M_S_yTable x := (semFF_eq _ _ _ _ _ _).symm.trans (by kernel_rfl)

set_option maxRecDepth 100000 in
theorem m_S_yTable : ConOK Try.prog 84 c_S_yTable := fn_ok (tyOK _) (E := mkE [(89, c_S_yGood), (140, c_S_yPoints)]) (consOK_cons m_S_yGood (consOK_cons m_S_yPoints (consOK_nil rfl))) Try.func84 (h := h_S_yTable) (by kernel_rfl) eq_S_yTable

/-- S_l1Own -/
def pk_S_l1Own : List PK := [.data (.sl (.int .i64))]
def rk_S_l1Own : List (Ty × Bool) := [((.sl (.int .i64)), true)]
def h_S_l1Own : Hints := { loops := [] }
noncomputable def M_S_l1Own (x : (List Int)) : (Option (List Int)) :=
  (bindO (guardO (lenOk ((List.length ([] : List Int)) + (List.length x)))) (fun (a0 : Unit) => (bindO (some (([] : List Int) ++ x)) (fun (a1 : (List Int)) => (some a1)))))

noncomputable def c_S_l1Own : Con0 := ⟨pk_S_l1Own, rk_S_l1Own, M_S_l1Own⟩

set_option maxRecDepth 100000 in
theorem eq_S_l1Own (x : In pk_S_l1Own) : semF (mkE []) h_S_l1Own (info Try.f141) pk_S_l1Own rk_S_l1Own x = M_S_l1Own x := (semFF_eq _ _ _ _ _ _).symm.trans (by kernel_rfl)

set_option maxRecDepth 100000 in
theorem m_S_l1Own : ConOK Try.prog 141 c_S_l1Own := fn_ok (tyOK _) (E := mkE []) (consOK_nil rfl) Try.func141 (h := h_S_l1Own) (by kernel_rfl) eq_S_l1Own

/-- S_nMod -/
def pk_S_nMod : List PK := [.data (.int .i64), .data (.int .i64)]
def rk_S_nMod : List (Ty × Bool) := [((.int .i64), false)]
def h_S_nMod : Hints := { loops := [] }
noncomputable def M_S_nMod (x : (Int × Int)) : (Option Int) :=
  (bindO (guardO (x.2 != (0 : Int))) (fun (a0 : Unit) => (bindO (some (Int.tmod x.1 x.2)) (fun (a1 : Int) => (bindO (some (IntKind.wrap .i64 (a1 + x.2))) (fun (a2 : Int) => (bindO (guardO (x.2 != (0 : Int))) (fun (a3 : Unit) => (bindO (some (Int.tmod a2 x.2)) (fun (a4 : Int) => (some a4)))))))))))

noncomputable def c_S_nMod : Con0 := ⟨pk_S_nMod, rk_S_nMod, M_S_nMod⟩

set_option maxRecDepth 100000 in
theorem eq_S_nMod (x : In pk_S_nMod) : semF (mkE []) h_S_nMod (info Try.f150) pk_S_nMod rk_S_nMod x = M_S_nMod x := (semFF_eq _ _ _ _ _ _).symm.trans (by kernel_rfl)

set_option maxRecDepth 100000 in
theorem m_S_nMod : ConOK Try.prog 150 c_S_nMod := fn_ok (tyOK _) (E := mkE []) (consOK_nil rfl) Try.func150 (h := h_S_nMod) (by kernel_rfl) eq_S_nMod

/-- S_yMul -/
def pk_S_yMul : List PK := [.data (.int .i64), .data (.sl (.int .i64)), .data (.sl (.int .i64))]
def rk_S_yMul : List (Ty × Bool) := [((.sl (.int .i64)), true)]
def h_S_yMul : Hints := { loops := [(0, { items := [.slot 29 (.data (.int .i64) []), .arr 7 (.int .i64) true], kill := [1, 3, 4, 5, 6, 8, 9, 10, 11, 12, 13, 14, 15, 16, 17, 18, 19, 20, 21, 22, 23, 24, 25, 26, 30, 31, 32, 33, 34, 35, 36, 37, 38, 39, 40, 41, 42, 43, 44, 45, 46, 47, 48, 49, 50, 51, 52, 53, 54, 55, 56, 57, 58, 59, 60] }), (2, { items := [.slot 36 (.data (.int .i64) []), .arr 7 (.int .i64) true], kill := [1, 3, 4, 5, 6, 10, 11, 12, 13, 14, 15, 16, 17, 18, 19, 20, 21, 22, 23, 24, 25, 26, 30, 31, 32, 33, 37, 38, 39, 40, 41, 42, 43, 44, 45, 46, 47, 48, 49, 50, 51, 52, 53, 54, 55, 56, 57, 58, 59, 60] })] }
noncomputable def M_S_yMul (x : (Int × ((List Int) × (List Int)))) : (Option (List Int)) :=
  (cond ((((List.length x.2.1) : Nat) : Int) == (0 : Int)) (some ([] : List Int)) (cond ((((List.length x.2.2) : Nat) : Int) == (0 : Int)) (some ([] : List Int)) (bindO (some (IntKind.wrap .i64 ((((List.length x.2.1) : Nat) : Int) + (((List.length x.2.2) : Nat) : Int)))) (fun (a0 : Int) => (bindO (some (IntKind.wrap .i64 (a0 - (1 : Int)))) (fun (a1 : Int) => (bindO (guardO (((decide ((0 : Int) ≤ a1)) && (decide (a1 ≤ a1))) && (decide (a1 ≤ ((lim : Nat) : Int))))) (fun (a2 : Unit) => (loopO (fun (again3 : ((Int × (List Int)) → (Option (List Int)))) => (fun (s4 : (Int × (List Int))) => (cond (decide (s4.1 < (((List.length x.2.1) : Nat) : Int))) (bindO (getI x.2.1 s4.1) (fun (a5 : Int) => (loopO (fun (again6 : ((Int × (List Int)) → (Option (List Int)))) => (fun (s7 : (Int × (List Int))) => (cond (decide (s7.1 < (((List.length x.2.2) : Nat) : Int))) (bindO (getI x.2.2 s7.1) (fun (a8 : Int) => (bindO (some (IntKind.wrap .i64 (s4.1 + s7.1))) (fun (a9 : Int) => (bindO (some (IntKind.wrap .i64 (s4.1 + s7.1))) (fun (a10 : Int) => (bindO (getI s7.2 a10) (fun (a11 : Int) => (bindO (some (IntKind.wrap .i64 (a5 * a8))) (fun (a12 : Int) => (bindO (some (IntKind.wrap .i64 (a11 + a12))) (fun (a13 : Int) => (bindO (guardO (x.1 != (0 : Int))) (fun (a14 : Unit) => (bindO (some (Int.tmod a13 x.1)) (fun (a15 : Int) => (bindO (getI s7.2 a9) (fun (a16 : Int) => (bindO (some (List.set s7.2 (Int.toNat a9) a15)) (fun (a17 : (List Int)) => (bindO (some (IntKind.wrap .i64 (s7.1 + (1 : Int)))) (fun (a18 : Int) => (again6 (a18, a17)))))))))))))))))))))))) (bindO (some (IntKind.wrap .i64 (s4.1 + (1 : Int)))) (fun (a19 : Int) => (again3 (a19, s7.2))))))) ((0 : Int), s4.2)))) (some s4.2)))) ((0 : Int), (List.replicate (Int.toNat a1) (0 : Int))))))))))))

noncomputable def c_S_yMul : Con0 := ⟨pk_S_yMul, rk_S_yMul, M_S_yMul⟩

set_option maxRecDepth 100000 in
theorem eq_S_yMul (x : In pk_S_yMul) : semF (mkE []) h_S_yMul (info Try.f145) pk_S_yMul rk_S_yMul x = M_S_yMul x := (semFF_eq _ _ _ _ _ _).symm.trans (by kernel_rfl)

set_option maxRecDepth 100000 in
theorem m_S_yMul : ConOK Try.prog 145 c_S_yMul := fn_ok (tyOK _) (E := mkE []) (consOK_nil rfl) Try.func145 (h := h_S_yMul) (by kernel_rfl) eq_S_yMul

/-- S_yRoots -/
def pk_S_yRoots : List PK := [.data (.int .i64), .data (.sl (.int .i64))]
def rk_S_yRoots : List (Ty × Bool) := [((.sl (.int .i64)), true)]
def h_S_yRoots : Hints := { loops := [(0, { items := [.slot 5 (.own (.int .i64) true), .slot 11 (.data (.int .i64) [])], kill := [1, 2, 3, 4, 6, 7, 8, 12, 13, 14, 15, 16, 17, 18, 19, 20, 21, 22, 23, 24] })] }
noncomputable def M_S_yRoots (x : (Int × (List Int))) : (Option (List Int)) :=
  (loopO (fun (again0 : (((List Int) × Int) → (Option (List Int)))) => (fun (s1 : ((List Int) × Int)) => (cond (decide (s1.2 < (((List.length x.2) : Nat) : Int))) (bindO (getI x.2 s1.2) (fun (a2 : Int) => (bindO (some (IntKind.wrap .i64 ((0 : Int) - a2))) (fun (a3 : Int) => (bindO (M_S_nMod (a3, x.1)) (fun (a4 : Int) => (bindO (M_S_yMul (x.1, (s1.1, (a4 :: ((1 : Int) :: ([] : List Int)))))) (fun (a5 : (List Int)) => (bindO (some (IntKind.wrap .i64 (s1.2 + (1 : Int)))) (fun (a6 : Int) => (again0 (a5, a6)))))))))))) (some s1.1)))) (((1 : Int) :: ([] : List Int)), (0 : Int)))

noncomputable def c_S_yRoots : Con0 := ⟨pk_S_yRoots, rk_S_yRoots, M_S_yRoots⟩

set_option maxRecDepth 100000 in
theorem eq_S_yRoots (x : In pk_S_yRoots) : semF (mkE [(150, c_S_nMod), (145, c_S_yMul)]) h_S_yRoots (info Try.f90) pk_S_yRoots rk_S_yRoots x = M_S_yRoots x := (semFF_eq _ _ _ _ _ _).symm.trans (by kernel_rfl)

set_option maxRecDepth 100000 in
theorem m_S_yRoots : ConOK Try.prog 90 c_S_yRoots := fn_ok (tyOK _) (E := mkE [(150, c_S_nMod), (145, c_S_yMul)]) (consOK_cons m_S_nMod (consOK_cons m_S_yMul (consOK_nil rfl))) Try.func90 (h := h_S_yRoots) (by kernel_rfl) eq_S_yRoots

/-- S_yEval -/
def pk_S_yEval : List PK := [.data (.int .i64), .data (.sl (.int .i64)), .data (.int .i64)]
def rk_S_yEval : List (Ty × Bool) := [((.int .i64), false)]
def h_S_yEval : Hints := { loops := [(0, { items := [.slot 7 (.data (.int .i64) []), .slot 8 (.data (.int .i64) [])], kill := [3, 4, 5, 6, 9, 10, 11, 12, 13, 14, 15, 16, 17, 18, 19, 20, 21, 22, 23, 24, 25, 26] })] }
noncomputable def M_S_yEval (x : (Int × ((List Int) × Int))) : (Option Int) :=
  (bindO (some (IntKind.wrap .i64 ((((List.length x.2.1) : Nat) : Int) - (1 : Int)))) (fun (a0 : Int) => (loopO (fun (again1 : ((Int × Int) → (Option Int))) => (fun (s2 : (Int × Int)) => (cond (decide (s2.2 ≥ (0 : Int))) (bindO (some (IntKind.wrap .i64 (s2.1 * x.2.2))) (fun (a3 : Int) => (bindO (getI x.2.1 s2.2) (fun (a4 : Int) => (bindO (some (IntKind.wrap .i64 (a3 + a4))) (fun (a5 : Int) => (bindO (guardO (x.1 != (0 : Int))) (fun (a6 : Unit) => (bindO (some (Int.tmod a5 x.1)) (fun (a7 : Int) => (bindO (some (IntKind.wrap .i64 (s2.2 - (1 : Int)))) (fun (a8 : Int) => (again1 (a7, a8)))))))))))))) (some s2.1)))) ((0 : Int), a0))))

noncomputable def c_S_yEval : Con0 := ⟨pk_S_yEval, rk_S_yEval, M_S_yEval⟩

set_option maxRecDepth 100000 in
theorem eq_S_yEval (x : In pk_S_yEval) : semF (mkE []) h_S_yEval (info Try.f143) pk_S_yEval rk_S_yEval x = M_S_yEval x := (semFF_eq _ _ _ _ _ _).symm.trans (by kernel_rfl)

set_option maxRecDepth 100000 in
theorem m_S_yEval : ConOK Try.prog 143 c_S_yEval := fn_ok (tyOK _) (E := mkE []) (consOK_nil rfl) Try.func143 (h := h_S_yEval) (by kernel_rfl) eq_S_yEval

/-- S_nInverse -/
def pk_S_nInverse : List PK := [.data (.int .i64), .data (.int .i64)]
def rk_S_nInverse : List (Ty × Bool) := [((.int .i64), false), (.bool, false)]
def h_S_nInverse : Hints := { loops := [(0, { items := [.slot 6 (.data (.int .i64) []), .slot 7 (.data (.int .i64) []), .slot 8 (.data (.int .i64) []), .slot 9 (.data (.int .i64) [])], kill := [0, 2, 3, 4, 5, 10, 11, 12, 13, 14, 15, 16, 17, 18, 19, 20, 21, 22, 23, 24, 25, 26, 27, 28, 29, 30, 31, 32, 33, 34, 35, 36, 37, 38, 39, 40] })] }
noncomputable def M_S_nInverse (x : (Int × Int)) : (Option (Int × Bool)) :=
  (bindO (M_S_nMod (x.1, x.2)) (fun (a0 : Int) => (loopO (fun (again1 : ((Int × (Int × (Int × Int))) → (Option (Int × Bool)))) => (fun (s2 : (Int × (Int × (Int × Int)))) => (cond (s2.2.1 != (0 : Int)) (bindO (guardO (s2.2.1 != (0 : Int))) (fun (a3 : Unit) => (bindO (some (IntKind.wrap .i64 (Int.tdiv s2.1 s2.2.1))) (fun (a4 : Int) => (bindO (some (IntKind.wrap .i64 (a4 * s2.2.1))) (fun (a5 : Int) => (bindO (some (IntKind.wrap .i64 (s2.1 - a5))) (fun (a6 : Int) => (bindO (some (IntKind.wrap .i64 (a4 * s2.2.2.2))) (fun (a7 : Int) => (bindO (some (IntKind.wrap .i64 (s2.2.2.1 - a7))) (fun (a8 : Int) => (again1 (s2.2.1, (a6, (s2.2.2.2, a8)))))))))))))))) (bindO (M_S_nMod (s2.2.2.1, x.2)) (fun (a9 : Int) => (some (a9, (s2.1 == (1 : Int))))))))) (a0, (x.2, ((1 : Int), (0 : Int)))))))

noncomputable def c_S_nInverse : Con0 := ⟨pk_S_nInverse, rk_S_nInverse, M_S_nInverse⟩

set_option maxRecDepth 100000 in
theorem eq_S_nInverse (x : In pk_S_nInverse) : semF (mkE [(150, c_S_nMod)]) h_S_nInverse (info Try.f142) pk_S_nInverse rk_S_nInverse x = M_S_nInverse x := (semFF_eq _ _ _ _ _ _).symm.trans (by kernel_rfl)

set_option maxRecDepth 100000 in
theorem m_S_nInverse : ConOK Try.prog 142 c_S_nInverse := fn_ok (tyOK _) (E := mkE [(150, c_S_nMod)]) (consOK_cons m_S_nMod (consOK_nil rfl)) Try.func142 (h := h_S_nInverse) (by kernel_rfl) eq_S_nInverse

/-- S_yAdd -/
def pk_S_yAdd : List PK := [.data (.int .i64), .data (.sl (.int .i64)), .data (.sl (.int .i64))]
def rk_S_yAdd : List (Ty × Bool) := [((.sl (.int .i64)), true)]
def h_S_yAdd : Hints := { loops := [(0, { items := [.slot 21 (.data (.int .i64) []), .arr 7 (.int .i64) true], kill := [1, 2, 3, 4, 5, 6, 8, 9, 10, 11, 12, 13, 14, 15, 16, 17, 18, 22, 23, 24, 25, 26, 27, 28, 29, 30, 31, 32, 33, 34, 35, 36, 37, 38] })] }
noncomputable def M_S_yAdd (x : (Int × ((List Int) × (List Int)))) : (Option (List Int)) :=
  (bindO (M_S_l1Most ((((List.length x.2.1) : Nat) : Int), (((List.length x.2.2) : Nat) : Int))) (fun (a0 : Int) => (bindO (guardO (((decide ((0 : Int) ≤ a0)) && (decide (a0 ≤ a0))) && (decide (a0 ≤ ((lim : Nat) : Int))))) (fun (a1 : Unit) => (bindO (some (((min (List.length x.2.1) (List.length (List.replicate (Int.toNat a0) (0 : Int)))) : Nat) : Int)) (fun (a2 : Int) => (loopO (fun (again3 : ((Int × (List Int)) → (Option (List Int)))) => (fun (s4 : (Int × (List Int))) => (cond (decide (s4.1 < (((List.length x.2.2) : Nat) : Int))) (bindO (getI x.2.2 s4.1) (fun (a5 : Int) => (bindO (getI s4.2 s4.1) (fun (a6 : Int) => (bindO (some (IntKind.wrap .i64 (a6 + a5))) (fun (a7 : Int) => (bindO (guardO (x.1 != (0 : Int))) (fun (a8 : Unit) => (bindO (some (Int.tmod a7 x.1)) (fun (a9 : Int) => (bindO (getI s4.2 s4.1) (fun (a10 : Int) => (bindO (some (List.set s4.2 (Int.toNat s4.1) a9)) (fun (a11 : (List Int)) => (bindO (some (IntKind.wrap .i64 (s4.1 + (1 : Int)))) (fun (a12 : Int) => (again3 (a12, a11)))))))))))))))))) (some s4.2)))) ((0 : Int), ((List.take (List.length (List.replicate (Int.toNat a0) (0 : Int))) x.2.1) ++ (List.drop (List.length x.2.1) (List.replicate (Int.toNat a0) (0 : Int))))))))))))

noncomputable def c_S_yAdd : Con0 := ⟨pk_S_yAdd, rk_S_yAdd, M_S_yAdd⟩

set_option maxRecDepth 100000 in
theorem eq_S_yAdd (x : In pk_S_yAdd) : semF (mkE [(132, c_S_l1Most)]) h_S_yAdd (info Try.f144) pk_S_yAdd rk_S_yAdd x = M_S_yAdd x := (semFF_eq _ _ _ _ _ _).symm.trans (by kernel_rfl)

set_option maxRecDepth 100000 in
theorem m_S_yAdd : ConOK Try.prog 144 c_S_yAdd := fn_ok (tyOK _) (E := mkE [(132, c_S_l1Most)]) (consOK_cons m_S_l1Most (consOK_nil rfl)) Try.func144 (h := h_S_yAdd) (by kernel_rfl) eq_S_yAdd

/-- S_yInterpolate -/
def pk_S_yInterpolate : List PK := [.data (.int .i64), .data (.sl (.int .i64)), .data (.sl (.int .i64))]
def rk_S_yInterpolate : List (Ty × Bool) := [((.sl (.int .i64)), true)]
def h_S_yInterpolate : Hints := { loops := [(0, { items := [.slot 7 (.own (.int .i64) true), .slot 19 (.data (.int .i64) [])], kill := [3, 4, 5, 6, 8, 9, 10, 11, 12, 13, 14, 15, 16, 20, 21, 22, 23, 24, 25, 26, 27, 28, 29, 30, 31, 32, 33, 34, 35, 36, 37, 38, 39, 40, 41, 42, 43, 44, 45, 46, 47, 48, 49, 50, 51, 52, 53, 54, 55, 56, 57, 58, 59, 60, 61] })] }
noncomputable def M_S_yInterpolate (x : (Int × ((List Int) × (List Int)))) : (Option (List Int)) :=
  (bindO (guardO (((decide ((0 : Int) ≤ (((List.length x.2.1) : Nat) : Int))) && (decide ((((List.length x.2.1) : Nat) : Int) ≤ (((List.length x.2.1) : Nat) : Int)))) && (decide ((((List.length x.2.1) : Nat) : Int) ≤ ((lim : Nat) : Int))))) (fun (a0 : Unit) => (loopO (fun (again1 : (((List Int) × Int) → (Option (List Int)))) => (fun (s2 : ((List Int) × Int)) => (cond (decide (s2.2 < (((List.length x.2.1) : Nat) : Int))) (bindO (getI x.2.1 s2.2) (fun (a3 : Int) => (bindO (sliceNH s2.2 (List.length x.2.1)) (fun (a4 : (Nat × Nat)) => (bindO (M_S_l1Own (List.drop a4.1 (List.take a4.2 x.2.1))) (fun (a5 : (List Int)) => (bindO (some (IntKind.wrap .i64 (s2.2 + (1 : Int)))) (fun (a6 : Int) => (bindO (sliceLN a6 (List.length x.2.1)) (fun (a7 : (Nat × Nat)) => (bindO (guardO (lenOk ((List.length a5) + (List.length (List.drop a7.1 (List.take a7.2 x.2.1)))))) (fun (a8 : Unit) => (bindO (some (a5 ++ (List.drop a7.1 (List.take a7.2 x.2.1)))) (fun (a9 : (List Int)) => (bindO (M_S_yRoots (x.1, a9)) (fun (a10 : (List Int)) => (bindO (M_S_yEval (x.1, (a10, a3))) (fun (a11 : Int) => (bindO (M_S_nInverse (a11, x.1)) (fun (a12 : (Int × Bool)) => (bindO (getI x.2.2 s2.2) (fun (a13 : Int) => (bindO (some (IntKind.wrap .i64 (a13 * a12.1))) (fun (a14 : Int) => (bindO (guardO (x.1 != (0 : Int))) (fun (a15 : Unit) => (bindO (some (Int.tmod a14 x.1)) (fun (a16 : Int) => (bindO (M_S_yMul (x.1, (a10, (a16 :: ([] : List Int))))) (fun (a17 : (List Int)) => (bindO (M_S_yAdd (x.1, (s2.1, a17))) (fun (a18 : (List Int)) => (bindO (some (IntKind.wrap .i64 (s2.2 + (1 : Int)))) (fun (a19 : Int) => (again1 (a18, a19)))))))))))))))))))))))))))))))))))) (some s2.1)))) ((List.replicate (Int.toNat (((List.length x.2.1) : Nat) : Int)) (0 : Int)), (0 : Int)))))

noncomputable def c_S_yInterpolate : Con0 := ⟨pk_S_yInterpolate, rk_S_yInterpolate, M_S_yInterpolate⟩

set_option maxRecDepth 100000 in
theorem eq_S_yInterpolate (x : In pk_S_yInterpolate) : semF (mkE [(141, c_S_l1Own), (90, c_S_yRoots), (143, c_S_yEval), (142, c_S_nInverse), (145, c_S_yMul), (144, c_S_yAdd)]) h_S_yInterpolate (info Try.f85) pk_S_yInterpolate rk_S_yInterpolate x = M_S_yInterpolate x := (semFF_eq _ _ _ _ _ _).symm.trans (by kernel_rfl)

set_option maxRecDepth 100000 in
theorem m_S_yInterpolate : ConOK Try.prog 85 c_S_yInterpolate := fn_ok (tyOK _) (E := mkE [(141, c_S_l1Own), (90, c_S_yRoots), (143, c_S_yEval), (142, c_S_nInverse), (145, c_S_yMul), (144, c_S_yAdd)]) (consOK_cons m_S_l1Own (consOK_cons m_S_yRoots (consOK_cons m_S_yEval (consOK_cons m_S_nInverse (consOK_cons m_S_yMul (consOK_cons m_S_yAdd (consOK_nil rfl))))))) Try.func85 (h := h_S_yInterpolate) (by kernel_rfl) eq_S_yInterpolate

/-- S_Interpolate -/
def pk_S_Interpolate : List PK := [.data (.int .i64), .data (.sl (.int .i64)), .data (.sl (.int .i64))]
def rk_S_Interpolate : List (Ty × Bool) := [((.sl (.int .i64)), true), (.bool, false)]
def h_S_Interpolate : Hints := { loops := [] }
noncomputable def M_S_Interpolate (x : (Int × ((List Int) × (List Int)))) : (Option ((List Int) × Bool)) :=
  (bindO (M_S_yTable (x.1, (x.2.1, x.2.2))) (fun (a0 : Bool) => (cond (not a0) (some (([] : List Int), false)) (bindO (M_S_yInterpolate (x.1, (x.2.1, x.2.2))) (fun (a1 : (List Int)) => (some (a1, true)))))))

noncomputable def c_S_Interpolate : Con0 := ⟨pk_S_Interpolate, rk_S_Interpolate, M_S_Interpolate⟩

set_option maxRecDepth 100000 in
theorem eq_S_Interpolate (x : In pk_S_Interpolate) : semF (mkE [(84, c_S_yTable), (85, c_S_yInterpolate)]) h_S_Interpolate (info Try.f27) pk_S_Interpolate rk_S_Interpolate x = M_S_Interpolate x := (semFF_eq _ _ _ _ _ _).symm.trans (by kernel_rfl)

set_option maxRecDepth 100000 in
theorem m_S_Interpolate : ConOK Try.prog 27 c_S_Interpolate := fn_ok (tyOK _) (E := mkE [(84, c_S_yTable), (85, c_S_yInterpolate)]) (consOK_cons m_S_yTable (consOK_cons m_S_yInterpolate (consOK_nil rfl))) Try.func27 (h := h_S_Interpolate) (by kernel_rfl) eq_S_Interpolate

/-- S_l1Cur_residues -/
def pk_S_l1Cur_residues : List PK := [.mp (.cons (.sl (.int .u8)) (.cons (.int .i64) (.one (.int .u64)))) false, .data (.int .i64), .data (.int .i64)]
def rk_S_l1Cur_residues : List (Ty × Bool) := [((.sl (.int .i64)), true)]
def h_S_l1Cur_residues : Hints := { loops := [(0, { items := [.slot 7 (.own (.int .i64) true), .slot 8 (.data (.int .i64) []), .cell 0 0 (.data (.sl (.int .u8)) []), .cell 0 1 (.data (.int .i64) []), .cell 0 2 (.data (.int .u64) [])], kill := [2, 3, 4, 5, 6, 9, 10, 11, 12, 13, 14, 15, 16, 17, 18, 19, 20, 21, 22, 23, 24, 25, 26, 27, 28, 29, 30, 31, 32, 33, 34] })] }
noncomputable def M_S_l1Cur_residues (x : (((List Int) × (Int × Int)) × (Int × Int))) : (Option ((List Int) × ((List Int) × (Int × Int)))) :=
  (bindO (some (IntKind.wrap .i64 (x.2.2 + (1 : Int)))) (fun (a0 : Int) => (bindO (M_S_l1Cur_pick ((x.1.1, (x.1.2.1, x.1.2.2)), a0)) (fun (a1 : (Int × ((List Int) × (Int × Int)))) => (loopO (fun (again2 : (((List Int) × (Int × ((List Int) × (Int × Int)))) → (Option ((List Int) × ((List Int) × (Int × Int)))))) => (fun (s3 : ((List Int) × (Int × ((List Int) × (Int × Int))))) => (cond (decide (s3.2.1 > (0 : Int))) (bindO (M_S_l1Least (x.2.1, (60000 : Int))) (fun (a4 : Int) => (bindO (M_S_l1Most ((1 : Int), a4)) (fun (a5 : Int) => (bindO (M_S_l1Cur_pick ((s3.2.2.1, (s3.2.2.2.1, s3.2.2.2.2)), a5)) (fun (a6 : (Int × ((List Int) × (Int × Int)))) => (bindO (guardO (lenOk ((List.length s3.1) + (List.length (a6.1 :: ([] : List Int)))))) (fun (a7 : Unit) => (bindO (some (s3.1 ++ (a6.1 :: ([] : List Int)))) (fun (a8 : (List Int)) => (bindO (some (IntKind.wrap .i64 (s3.2.1 - (1 : Int)))) (fun (a9 : Int) => (again2 (a8, (a9, (a6.2.1, (a6.2.2.1, a6.2.2.2))))))))))))))))) (bindO (M_S_l1Cur_one ((s3.2.2.1, (s3.2.2.2.1, s3.2.2.2.2)), (20 : Int))) (fun (a10 : (Bool × ((List Int) × (Int × Int)))) => (cond a10.1 (bindO (M_S_l1Cur_among ((a10.2.1, (a10.2.2.1, a10.2.2.2)), ((- (1 : Int)) :: (x.2.1 :: ([] : List Int))))) (fun (a11 : (Int × ((List Int) × (Int × Int)))) => (bindO (guardO (lenOk ((List.length s3.1) + (List.length (a11.1 :: ([] : List Int)))))) (fun (a12 : Unit) => (bindO (some (s3.1 ++ (a11.1 :: ([] : List Int)))) (fun (a13 : (List Int)) => (some (a13, (a11.2.1, (a11.2.2.1, a11.2.2.2)))))))))) (some (s3.1, (a10.2.1, (a10.2.2.1, a10.2.2.2)))))))))) (([] : List Int), (a1.1, (a1.2.1, (a1.2.2.1, a1.2.2.2)))))))))

noncomputable def c_S_l1Cur_residues : Con0 := ⟨pk_S_l1Cur_residues, rk_S_l1Cur_residues, M_S_l1Cur_residues⟩

set_option maxRecDepth 100000 in
theorem eq_S_l1Cur_residues (x : In pk_S_l1Cur_residues) : semF (mkE [(97, c_S_l1Cur_pick), (133, c_S_l1Least), (132, c_S_l1Most), (134, c_S_l1Cur_one), (96, c_S_l1Cur_among)]) h_S_l1Cur_residues (info Try.f171) pk_S_l1Cur_residues rk_S_l1Cur_residues x = M_S_l1Cur_residues x := (semFF_eq _ _ _ _ _ _).symm.trans (by kernel_rfl)

set_option maxRecDepth 100000 in
theorem m_S_l1Cur_residues : ConOK Try.prog 171 c_S_l1Cur_residues := fn_ok (tyOK _) (E := mkE [(97, c_S_l1Cur_pick), (133, c_S_l1Least), (132, c_S_l1Most), (134, c_S_l1Cur_one), (96, c_S_l1Cur_among)]) (consOK_cons m_S_l1Cur_pick (consOK_cons m_S_l1Least (consOK_cons m_S_l1Most (consOK_cons m_S_l1Cur_one (consOK_cons m_S_l1Cur_among (consOK_nil rfl)))))) Try.func171 (h := h_S_l1Cur_residues) (by kernel_rfl) eq_S_l1Cur_residues

/-- S_l1Cur_polynomial -/
def pk_S_l1Cur_polynomial : List PK := [.mp (.cons (.sl (.int .u8)) (.cons (.int .i64) (.one (.int .u64)))) false, .data (.int .i64), .data (.int .i64)]
def rk_S_l1Cur_polynomial : List (Ty × Bool) := [((.sl (.int .i64)), true)]
def h_S_l1Cur_polynomial : Hints := { loops := [] }
noncomputable def M_S_l1Cur_polynomial (x : (((List Int) × (Int × Int)) × (Int × Int))) : (Option ((List Int) × ((List Int) × (Int × Int)))) :=
  (bindO (M_S_l1Cur_residues ((x.1.1, (x.1.2.1, x.1.2.2)), (x.2.1, x.2.2))) (fun (a0 : ((List Int) × ((List Int) × (Int × Int)))) => (bindO (M_S_l1Cur_one ((a0.2.1, (a0.2.2.1, a0.2.2.2)), (40 : Int))) (fun (a1 : (Bool × ((List Int) × (Int × Int)))) => (cond a1.1 (bindO (M_S_l1Cur_pick ((a1.2.1, (a1.2.2.1, a1.2.2.2)), (2 : Int))) (fun (a2 : (Int × ((List Int) × (Int × Int)))) => (bindO (some (IntKind.wrap .i64 ((24 : Int) + a2.1))) (fun (a3 : Int) => (bindO (guardO (((decide ((0 : Int) ≤ a3)) && (decide (a3 ≤ a3))) && (decide (a3 ≤ ((lim : Nat) : Int))))) (fun (a4 : Unit) => (some ((List.replicate (Int.toNat a3) (0 : Int)), (a2.2.1, (a2.2.2.1, a2.2.2.2)))))))))) (some (a0.1, (a1.2.1, (a1.2.2.1, a1.2.2.2)))))))))

noncomputable def c_S_l1Cur_polynomial : Con0 := ⟨pk_S_l1Cur_polynomial, rk_S_l1Cur_polynomial, M_S_l1Cur_polynomial⟩

set_option maxRecDepth 100000 in
theorem eq_S_l1Cur_polynomial (x : In pk_S_l1Cur_polynomial) : semF (mkE [(171, c_S_l1Cur_residues), (134, c_S_l1Cur_one), (97, c_S_l1Cur_pick)]) h_S_l1Cur_polynomial (info Try.f146) pk_S_l1Cur_polynomial rk_S_l1Cur_polynomial x = M_S_l1Cur_polynomial x := (semFF_eq _ _ _ _ _ _).symm.trans (by kernel_rfl)

set_option maxRecDepth 100000 in
theorem m_S_l1Cur_polynomial : ConOK Try.prog 146 c_S_l1Cur_polynomial := fn_ok (tyOK _) (E := mkE [(171, c_S_l1Cur_residues), (134, c_S_l1Cur_one), (97, c_S_l1Cur_pick)]) (consOK_cons m_S_l1Cur_residues (consOK_cons m_S_l1Cur_one (consOK_cons m_S_l1Cur_pick (consOK_nil rfl)))) Try.func146 (h := h_S_l1Cur_polynomial) (by kernel_rfl) eq_S_l1Cur_polynomial

/-- S_DrawDegreeOf -/
def pk_S_DrawDegreeOf : List PK := [.data (.sl (.int .u8))]
def rk_S_DrawDegreeOf : List (Ty × Bool) := [((.int .i64), false), ((.sl (.int .i64)), true)]
def h_S_DrawDegreeOf : Hints := { loops := [] }
noncomputable def M_S_DrawDegreeOf (x : (List Int)) : (Option (Int × (List Int))) :=
  (bindO (M_S_l1Cur_field (x, ((0 : Int), (0 : Int)))) (fun (a0 : (Int × ((List Int) × (Int × Int)))) => (bindO (M_S_l1Cur_polynomial ((a0.2.1, (a0.2.2.1, a0.2.2.2)), (a0.1, (5 : Int)))) (fun (a1 : ((List Int) × ((List Int) × (Int × Int)))) => (bindO (M_S_l1Cur_one ((a1.2.1, (a1.2.2.1, a1.2.2.2)), (3 : Int))) (fun (a2 : (Bool × ((List Int) × (Int × Int)))) => (cond a2.1 (bindO (guardO (lenOk ((List.length a1.1) + (List.length ((0 : Int) :: ((0 : Int) :: ([] : List Int))))))) (fun (a3 : Unit) => (bindO (some (a1.1 ++ ((0 : Int) :: ((0 : Int) :: ([] : List Int))))) (fun (a4 : (List Int)) => (some (a0.1, a4)))))) (some (a0.1, a1.1)))))))))

noncomputable def c_S_DrawDegreeOf : Con0 := ⟨pk_S_DrawDegreeOf, rk_S_DrawDegreeOf, M_S_DrawDegreeOf⟩

set_option maxRecDepth 100000 in
theorem eq_S_DrawDegreeOf (x : In pk_S_DrawDegreeOf) : semF (mkE [(79, c_S_l1Cur_field), (146, c_S_l1Cur_polynomial), (134, c_S_l1Cur_one)]) h_S_DrawDegreeOf (info Try.f86) pk_S_DrawDegreeOf rk_S_DrawDegreeOf x = M_S_DrawDegreeOf x := (semFF_eq _ _ _ _ _ _).symm.trans (by kernel_rfl)

set_option maxRecDepth 100000 in
theorem m_S_DrawDegreeOf : ConOK Try.prog 86 c_S_DrawDegreeOf := fn_ok (tyOK _) (E := mkE [(79, c_S_l1Cur_field), (146, c_S_l1Cur_polynomial), (134, c_S_l1Cur_one)]) (consOK_cons m_S_l1Cur_field (consOK_cons m_S_l1Cur_polynomial (consOK_cons m_S_l1Cur_one (consOK_nil rfl)))) Try.func86 (h := h_S_DrawDegreeOf) (by kernel_rfl) eq_S_DrawDegreeOf

/-- S_DrawPolyFromRoots -/
def pk_S_DrawPolyFromRoots : List PK := [.data (.sl (.int .u8))]
def rk_S_DrawPolyFromRoots : List (Ty × Bool) := [((.int .i64), false), ((.sl (.int .i64)), true)]
def h_S_DrawPolyFromRoots : Hints := { loops := [] }
noncomputable def M_S_DrawPolyFromRoots (x : (List Int)) : (Option (Int × (List Int))) :=
  (bindO (M_S_DrawDegreeOf x) (fun (a0 : (Int × (List Int))) => (some (a0.1, a0.2))))

noncomputable def c_S_DrawPolyFromRoots : Con0 := ⟨pk_S_DrawPolyFromRoots, rk_S_DrawPolyFromRoots, M_S_DrawPolyFromRoots⟩

set_option maxRecDepth 100000 in
theorem eq_S_DrawPolyFromRoots (x : In pk_S_DrawPolyFromRoots) : semF (mkE [(86, c_S_DrawDegreeOf)]) h_S_DrawPolyFromRoots (info Try.f28) pk_S_DrawPolyFromRoots rk_S_DrawPolyFromRoots x = M_S_DrawPolyFromRoots x := (semFF_eq _ _ _ _ _ _).symm.trans (by kernel_rfl)

set_option maxRecDepth 100000 in
theorem m_S_DrawPolyFromRoots : ConOK Try.prog 28 c_S_DrawPolyFromRoots := fn_ok (tyOK _) (E := mkE [(86, c_S_DrawDegreeOf)]) (consOK_cons m_S_DrawDegreeOf (consOK_nil rfl)) Try.func28 (h := h_S_DrawPolyFromRoots) (by kernel_rfl) eq_S_DrawPolyFromRoots

/-- I_PolyFromRoots -/
def pk_I_PolyFromRoots : List PK := [.data (.int .i64), .data (.sl (.int .i64))]
def rk_I_PolyFromRoots : List (Ty × Bool) := [((.sl (.int .i64)), true), (.bool, false)]
def h_I_PolyFromRoots : Hints := { loops := [] }
noncomputable def M_I_PolyFromRoots (x : (Int × (List Int))) : (Option ((List Int) × Bool)) :=
  (bindO (M_I_isPoly (x.1, x.2)) (fun (a0 : Bool) => (cond (not a0) (some (([] : List Int), false)) (cond (decide ((((List.length x.2) : Nat) : Int) ≥ (24 : Int))) (some (([] : List Int), false)) (bindO (M_I_fromRoots (x.1, x.2)) (fun (a1 : (List Int)) => (some (a1, true))))))))

noncomputable def c_I_PolyFromRoots : Con0 := ⟨pk_I_PolyFromRoots, rk_I_PolyFromRoots, M_I_PolyFromRoots⟩

set_option maxRecDepth 100000 in
theorem eq_I_PolyFromRoots (x : In pk_I_PolyFromRoots) : semF (mkE [(87, c_I_isPoly), (88, c_I_fromRoots)]) h_I_PolyFromRoots (info Try.f29) pk_I_PolyFromRoots rk_I_PolyFromRoots x = M_I_PolyFromRoots x := (semFF_eq _ _ _ _ _ _).symm.trans (by kernel_rfl)

set_option maxRecDepth 100000 in
theorem m_I_PolyFromRoots : ConOK Try.prog 29 c_I_PolyFromRoots := fn_ok (tyOK _) (E := mkE [(87, c_I_isPoly), (88, c_I_fromRoots)]) (consOK_cons m_I_isPoly (consOK_cons m_I_fromRoots (consOK_nil rfl))) Try.func29 (h := h_I_PolyFromRoots) (by kernel_rfl) eq_I_PolyFromRoots

/-- S_PolyFromRoots -/
def pk_S_PolyFromRoots : List PK := [.data (.int .i64), .data (.sl (.int .i64))]
def rk_S_PolyFromRoots : List (Ty × Bool) := [((.sl (.int .i64)), true), (.bool, false)]
def h_S_PolyFromRoots : Hints := { loops := [] }
noncomputable def M_S_PolyFromRoots (x : (Int × (List Int))) : (Option ((List Int) × Bool)) :=
  (bindO (M_S_yGood (x.1, (x.2 :: ([] : List (List Int))))) (fun (a0 : Bool) => (cond (not a0) (some (([] : List Int), false)) (cond (decide ((((List.length x.2) : Nat) : Int) ≥ (24 : Int))) (some (([] : List Int), false)) (bindO (M_S_yRoots (x.1, x.2)) (fun (a1 : (List Int)) => (some (a1, true))))))))

noncomputable def c_S_PolyFromRoots : Con0 := ⟨pk_S_PolyFromRoots, rk_S_PolyFromRoots, M_S_PolyFromRoots⟩

set_option maxRecDepth 100000 in
theorem eq_S_PolyFromRoots (x : In pk_S_PolyFromRoots) : semF (mkE [(89, c_S_yGood), (90, c_S_yRoots)]) h_S_PolyFromRoots (info Try.f30) pk_S_PolyFromRoots rk_S_PolyFromRoots x = M_S_PolyFromRoots x := (semFF_eq _ _ _ _ _ _).symm.trans (by kernel_rfl)

set_option maxRecDepth 100000 in
theorem m_S_PolyFromRoots : ConOK Try.prog 30 c_S_PolyFromRoots := fn_ok (tyOK _) (E := mkE [(89, c_S_yGood), (90, c_S_yRoots)]) (consOK_cons m_S_yGood (consOK_cons m_S_yRoots (consOK_nil rfl))) Try.func30 (h := h_S_PolyFromRoots) (by kernel_rfl) eq_S_PolyFromRoots

/-- L_qInts -/
def pk_L_qInts : List PK := [.data (.sl (.int .i64)), .data (.sl (.int .i64))]
def rk_L_qInts : List (Ty × Bool) := [(.bool, false)]
def h_L_qInts : Hints := { loops := [(0, { items := [.slot 13 (.data (.int .i64) [])], kill := [2, 3, 4, 5, 6, 7, 8, 9, 10, 11, 14, 15, 16, 17, 18, 19, 20, 21, 22, 23, 24, 25] })] }
noncomputable def M_L_qInts (x : ((List Int) × (List Int))) : (Option Bool) :=
  (cond ((((List.length x.1) : Nat) : Int) != (((List.length x.2) : Nat) : Int)) (some false) (loopO (fun (again0 : (Int → (Option Bool))) => (fun (s1 : Int) => (cond (decide (s1 < (((List.length x.1) : Nat) : Int))) (bindO (getI x.1 s1) (fun (a2 : Int) => (bindO (getI x.2 s1) (fun (a3 : Int) => (cond (a2 != a3) (some false) (bindO (some (IntKind.wrap .i64 (s1 + (1 : Int)))) (fun (a4 : Int) => (again0 a4)))))))) (some true)))) (0 : Int)))

noncomputable def c_L_qInts : Con0 := ⟨pk_L_qInts, rk_L_qInts, M_L_qInts⟩

set_option maxRecDepth 100000 in
theorem eq_L_qInts (x : In pk_L_qInts) : semF (mkE []) h_L_qInts (info Try.f31) pk_L_qInts rk_L_qInts x = M_L_qInts x := (semFF_eq _ _ _ _ _ _).symm.trans (by kernel_rfl)

set_option maxRecDepth 100000 in
theorem m_L_qInts : ConOK Try.prog 31 c_L_qInts := fn_ok (tyOK _) (E := mkE []) (consOK_nil rfl) Try.func31 (h := h_L_qInts) (by kernel_rfl) eq_L_qInts

/-- I_EvalAll -/
def pk_I_EvalAll : List PK := [.data (.int .i64), .data (.sl (.int .i64)), .data (.sl (.int .i64))]
def rk_I_EvalAll : List (Ty × Bool) := [((.sl (.int .i64)), true), (.bool, false)]
def h_I_EvalAll : Hints := { loops := [(0, { items := [.slot 8 (.own (.int .i64) true), .slot 24 (.data (.int .i64) [])], kill := [2, 3, 4, 5, 6, 7, 9, 10, 11, 12, 13, 14, 15, 16, 17, 18, 19, 20, 21, 25, 26, 27, 28, 29, 30, 31, 32, 33, 34, 35, 36] })] }
noncomputable def M_I_EvalAll (x : (Int × ((List Int) × (List Int)))) : (Option ((List Int) × Bool)) :=
  (bindO (M_I_isPoly (x.1, x.2.1)) (fun (a0 : Bool) => (cond (not a0) (some (([] : List Int), false)) (bindO (M_I_isPoly (x.1, x.2.2)) (fun (a1 : Bool) => (cond (not a1) (some (([] : List Int), false)) (loopO (fun (again2 : (((List Int) × Int) → (Option ((List Int) × Bool)))) => (fun (s3 : ((List Int) × Int)) => (cond (decide (s3.2 < (((List.length x.2.2) : Nat) : Int))) (bindO (getI x.2.2 s3.2) (fun (a4 : Int) => (bindO (M_I_evalPoly (x.1, (x.2.1, a4))) (fun (a5 : Int) => (bindO (guardO (lenOk ((List.length s3.1) + (List.length (a5 :: ([] : List Int)))))) (fun (a6 : Unit) => (bindO (some (s3.1 ++ (a5 :: ([] : List Int)))) (fun (a7 : (List Int)) => (bindO (some (IntKind.wrap .i64 (s3.2 + (1 : Int)))) (fun (a8 : Int) => (again2 (a7, a8)))))))))))) (some (s3.1, true))))) (([] : List Int), (0 : Int)))))))))

noncomputable def c_I_EvalAll : Con0 := ⟨pk_I_EvalAll, rk_I_EvalAll, M_I_EvalAll⟩

set_option maxRecDepth 100000 in
theorem eq_I_EvalAll (x : In pk_I_EvalAll) : semF (mkE [(87, c_I_isPoly), (91, c_I_evalPoly)]) h_I_EvalAll (info Try.f32) pk_I_EvalAll rk_I_EvalAll x = M_I_EvalAll x := (semFF_eq _ _ _ _ _ _).symm.trans (by kernel_rfl)

set_option maxRecDepth 100000 in
theorem m_I_EvalAll : ConOK Try.prog 32 c_I_EvalAll := fn_ok (tyOK _) (E := mkE [(87, c_I_isPoly), (91, c_I_evalPoly)]) (consOK_cons m_I_isPoly (consOK_cons m_I_evalPoly (consOK_nil rfl))) Try.func32 (h := h_I_EvalAll) (by kernel_rfl) eq_I_EvalAll

/-- I_DegreeOf -/
def pk_I_DegreeOf : List PK := [.data (.int .i64), .data (.sl (.int .i64))]
def rk_I_DegreeOf : List (Ty × Bool) := [((.int .i64), false), (.bool, false)]
def h_I_DegreeOf : Hints := { loops := [(0, { items := [.slot 6 (.data (.int .i64) [])], kill := [0, 2, 3, 4, 5, 7, 8, 9, 10, 11, 12, 13, 14, 15, 16, 17, 18, 19, 20, 21, 22, 23, 24, 25] })] }
noncomputable def M_I_DegreeOf (x : (Int × (List Int))) : (Option (Int × Bool)) :=
  (bindO (M_I_isPoly (x.1, x.2)) (fun (a0 : Bool) => (cond (not a0) (some ((0 : Int), false)) (bindO (some (IntKind.wrap .i64 ((((List.length x.2) : Nat) : Int) - (1 : Int)))) (fun (a1 : Int) => (loopO (fun (again2 : (Int → (Option (Int × Bool)))) => (fun (s3 : Int) => (cond (decide (s3 ≥ (0 : Int))) (bindO (getI x.2 s3) (fun (a4 : Int) => (cond (a4 == (0 : Int)) (bindO (some (IntKind.wrap .i64 (s3 - (1 : Int)))) (fun (a5 : Int) => (again2 a5))) (some (s3, true))))) (some (s3, true))))) a1))))))

noncomputable def c_I_DegreeOf : Con0 := ⟨pk_I_DegreeOf, rk_I_DegreeOf, M_I_DegreeOf⟩

set_option maxRecDepth 100000 in
theorem eq_I_DegreeOf (x : In pk_I_DegreeOf) : semF (mkE [(87, c_I_isPoly)]) h_I_DegreeOf (info Try.f33) pk_I_DegreeOf rk_I_DegreeOf x = M_I_DegreeOf x := (semFF_eq _ _ _ _ _ _).symm.trans (by kernel_rfl)

set_option maxRecDepth 100000 in
theorem m_I_DegreeOf : ConOK Try.prog 33 c_I_DegreeOf := fn_ok (tyOK _) (E := mkE [(87, c_I_isPoly)]) (consOK_cons m_I_isPoly (consOK_nil rfl)) Try.func33 (h := h_I_DegreeOf) (by kernel_rfl) eq_I_DegreeOf

/-- I_lagrange -/
def pk_I_lagrange : List PK := [.data (.int .i64), .data (.sl (.int .i64)), .data (.int .i64)]
def rk_I_lagrange : List (Ty × Bool) := [((.sl (.int .i64)), true)]
def h_I_lagrange : Hints := { loops := [(0, { items := [.slot 7 (.own (.int .i64) true), .slot 12 (.data (.int .i64) [])], kill := [3, 4, 5, 6, 8, 9, 10, 13, 14, 15, 16, 17, 18, 19, 20, 21, 22, 23, 24, 25, 26] })] }
noncomputable def M_I_lagrange (x : (Int × ((List Int) × Int))) : (Option (List Int)) :=
  (loopO (fun (again0 : (((List Int) × Int) → (Option (List Int)))) => (fun (s1 : ((List Int) × Int)) => (cond (decide (s1.2 < (((List.length x.2.1) : Nat) : Int))) (bindO (M_I_basisAt (x.1, (x.2.1, s1.2))) (fun (a2 : (List Int)) => (bindO (M_I_evalPoly (x.1, (a2, x.2.2))) (fun (a3 : Int) => (bindO (guardO (lenOk ((List.length s1.1) + (List.length (a3 :: ([] : List Int)))))) (fun (a4 : Unit) => (bindO (some (s1.1 ++ (a3 :: ([] : List Int)))) (fun (a5 : (List Int)) => (bindO (some (IntKind.wrap .i64 (s1.2 + (1 : Int)))) (fun (a6 : Int) => (again0 (a5, a6)))))))))))) (some s1.1)))) (([] : List Int), (0 : Int)))

noncomputable def c_I_lagrange : Con0 := ⟨pk_I_lagrange, rk_I_lagrange, M_I_lagrange⟩

set_option maxRecDepth 100000 in
theorem eq_I_lagrange (x : In pk_I_lagrange) : semF (mkE [(83, c_I_basisAt), (91, c_I_evalPoly)]) h_I_lagrange (info Try.f93) pk_I_lagrange rk_I_lagrange x = M_I_lagrange x := (semFF_eq _ _ _ _ _ _).symm.trans (by kernel_rfl)

set_option maxRecDepth 100000 in
theorem m_I_lagrange : ConOK Try.prog 93 c_I_lagrange := fn_ok (tyOK _) (E := mkE [(83, c_I_basisAt), (91, c_I_evalPoly)]) (consOK_cons m_I_basisAt (consOK_cons m_I_evalPoly (consOK_nil rfl))) Try.func93 (h := h_I_lagrange) (by kernel_rfl) eq_I_lagrange

/-- I_dot -/
def pk_I_dot : List PK := [.data (.sl (.int .i64)), .data (.sl (.int .i64)), .data (.int .i64)]
def rk_I_dot : List (Ty × Bool) := [((.int .i64), false)]
def h_I_dot : Hints := { loops := [(0, { items := [.slot 7 (.data (.int .i64) []), .slot 11 (.data (.int .i64) [])], kill := [3, 4, 5, 6, 8, 9, 12, 13, 14, 15, 16, 17, 18, 19, 20, 21, 22, 23, 24, 25, 26, 27, 28, 29, 30] })] }
noncomputable def M_I_dot (x : ((List Int) × ((List Int) × Int))) : (Option Int) :=
  (loopO (fun (again0 : ((Int × Int) → (Option Int))) => (fun (s1 : (Int × Int)) => (cond (decide (s1.2 < (((List.length x.1) : Nat) : Int))) (bindO (getI x.1 s1.2) (fun (a2 : Int) => (bindO (getI x.2.1 s1.2) (fun (a3 : Int) => (bindO (some (IntKind.wrap .i64 (a2 * a3))) (fun (a4 : Int) => (bindO (guardO (x.2.2 != (0 : Int))) (fun (a5 : Unit) => (bindO (some (Int.tmod a4 x.2.2)) (fun (a6 : Int) => (bindO (some (IntKind.wrap .i64 (s1.1 + a6))) (fun (a7 : Int) => (bindO (guardO (x.2.2 != (0 : Int))) (fun (a8 : Unit) => (bindO (some (Int.tmod a7 x.2.2)) (fun (a9 : Int) => (bindO (some (IntKind.wrap .i64 (s1.2 + (1 : Int)))) (fun (a10 : Int) => (again0 (a9, a10)))))))))))))))))))) (some s1.1)))) ((0 : Int), (0 : Int)))

noncomputable def c_I_dot : Con0 := ⟨pk_I_dot, rk_I_dot, M_I_dot⟩

set_option maxRecDepth 100000 in
theorem eq_I_dot (x : In pk_I_dot) : semF (mkE []) h_I_dot (info Try.f92) pk_I_dot rk_I_dot x = M_I_dot x := (semFF_eq _ _ _ _ _ _).symm.trans (by kernel_rfl)

set_option maxRecDepth 100000 in
theorem m_I_dot : ConOK Try.prog 92 c_I_dot := fn_ok (tyOK _) (E := mkE []) (consOK_nil rfl) Try.func92 (h := h_I_dot) (by kernel_rfl) eq_I_dot

/-- I_ValueFrom -/
def pk_I_ValueFrom : List PK := [.data (.int .i64), .data (.sl (.int .i64)), .data (.sl (.int .i64)), .data (.int .i64)]
def rk_I_ValueFrom : List (Ty × Bool) := [((.int .i64), false), (.bool, false)]
def h_I_ValueFrom : Hints := { loops := [] }
noncomputable def M_I_ValueFrom (x : (Int × ((List Int) × ((List Int) × Int)))) : (Option (Int × Bool)) :=
  (bindO (M_I_arePoints (x.1, x.2.1)) (fun (a0 : Bool) => (cond (not a0) (some ((0 : Int), false)) (cond ((((List.length x.2.2.1) : Nat) : Int) != (((List.length x.2.1) : Nat) : Int)) (some ((0 : Int), false)) (bindO (M_I_areBelow (x.2.2.1, x.1)) (fun (a1 : Bool) => (cond (not a1) (some ((0 : Int), false)) (bindO (some (IntKind.wrap .i64 (x.1 - (1 : Int)))) (fun (a2 : Int) => (bindO (M_I_within (x.2.2.2, ((0 : Int), a2))) (fun (a3 : Bool) => (cond (not a3) (some ((0 : Int), false)) (bindO (M_I_lagrange (x.1, (x.2.1, x.2.2.2))) (fun (a4 : (List Int)) => (bindO (M_I_dot (a4, (x.2.2.1, x.1))) (fun (a5 : Int) => (some (a5, true))))))))))))))))))

noncomputable def c_I_ValueFrom : Con0 := ⟨pk_I_ValueFrom, rk_I_ValueFrom, M_I_ValueFrom⟩

set_option maxRecDepth 100000 in
theorem eq_I_ValueFrom (x : In pk_I_ValueFrom) : semF (mkE [(81, c_I_arePoints), (82, c_I_areBelow), (64, c_I_within), (93, c_I_lagrange), (92, c_I_dot)]) h_I_ValueFrom (info Try.f34) pk_I_ValueFrom rk_I_ValueFrom x = M_I_ValueFrom x := (semFF_eq _ _ _ _ _ _).symm.trans (by kernel_rfl)

set_option maxRecDepth 100000 in
theorem m_I_ValueFrom : ConOK Try.prog 34 c_I_ValueFrom := fn_ok (tyOK _) (E := mkE [(81, c_I_arePoints), (82, c_I_areBelow), (64, c_I_within), (93, c_I_lagrange), (92, c_I_dot)]) (consOK_cons m_I_arePoints (consOK_cons m_I_areBelow (consOK_cons m_I_within (consOK_cons m_I_lagrange (consOK_cons m_I_dot (consOK_nil rfl)))))) Try.func34 (h := h_I_ValueFrom) (by kernel_rfl) eq_I_ValueFrom

/-- I_EvalPoly -/
def pk_I_EvalPoly : List PK := [.data (.int .i64), .data (.sl (.int .i64)), .data (.int .i64)]
def rk_I_EvalPoly : List (Ty × Bool) := [((.int .i64), false), (.bool, false)]
def h_I_EvalPoly : Hints := { loops := [] }
noncomputable def M_I_EvalPoly (x : (Int × ((List Int) × Int))) : (Option (Int × Bool)) :=
  (bindO (M_I_isPoly (x.1, x.2.1)) (fun (a0 : Bool) => (cond (not a0) (some ((0 : Int), false)) (bindO (some (IntKind.wrap .i64 (x.1 - (1 : Int)))) (fun (a1 : Int) => (bindO (M_I_within (x.2.2, ((0 : Int), a1))) (fun (a2 : Bool) => (cond (not a2) (some ((0 : Int), false)) (bindO (M_I_evalPoly (x.1, (x.2.1, x.2.2))) (fun (a3 : Int) => (some (a3, true))))))))))))

noncomputable def c_I_EvalPoly : Con0 := ⟨pk_I_EvalPoly, rk_I_EvalPoly, M_I_EvalPoly⟩

set_option maxRecDepth 100000 in
theorem eq_I_EvalPoly (x : In pk_I_EvalPoly) : semF (mkE [(87, c_I_isPoly), (64, c_I_within), (91, c_I_evalPoly)]) h_I_EvalPoly (info Try.f35) pk_I_EvalPoly rk_I_EvalPoly x = M_I_EvalPoly x := (semFF_eq _ _ _ _ _ _).symm.trans (by kernel_rfl)

set_option maxRecDepth 100000 in
theorem m_I_EvalPoly : ConOK Try.prog 35 c_I_EvalPoly := fn_ok (tyOK _) (E := mkE [(87, c_I_isPoly), (64, c_I_within), (91, c_I_evalPoly)]) (consOK_cons m_I_isPoly (consOK_cons m_I_within (consOK_cons m_I_evalPoly (consOK_nil rfl)))) Try.func35 (h := h_I_EvalPoly) (by kernel_rfl) eq_I_EvalPoly

/-- I_LagrangeCoefs -/
def pk_I_LagrangeCoefs : List PK := [.data (.int .i64), .data (.sl (.int .i64)), .data (.int .i64)]
def rk_I_LagrangeCoefs : List (Ty × Bool) := [((.sl (.int .i64)), true), (.bool, false)]
def h_I_LagrangeCoefs : Hints := { loops := [] }
noncomputable def M_I_LagrangeCoefs (x : (Int × ((List Int) × Int))) : (Option ((List Int) × Bool)) :=
  (bindO (M_I_arePoints (x.1, x.2.1)) (fun (a0 : Bool) => (cond (not a0) (some (([] : List Int), false)) (bindO (some (IntKind.wrap .i64 (x.1 - (1 : Int)))) (fun (a1 : Int) => (bindO (M_I_within (x.2.2, ((0 : Int), a1))) (fun (a2 : Bool) => (cond (not a2) (some (([] : List Int), false)) (bindO (M_I_lagrange (x.1, (x.2.1, x.2.2))) (fun (a3 : (List Int)) => (some (a3, true))))))))))))

noncomputable def c_I_LagrangeCoefs : Con0 := ⟨pk_I_LagrangeCoefs, rk_I_LagrangeCoefs, M_I_LagrangeCoefs⟩

set_option maxRecDepth 100000 in
theorem eq_I_LagrangeCoefs (x : In pk_I_LagrangeCoefs) : semF (mkE [(81, c_I_arePoints), (64, c_I_within), (93, c_I_lagrange)]) h_I_LagrangeCoefs (info Try.f36) pk_I_LagrangeCoefs rk_I_LagrangeCoefs x = M_I_LagrangeCoefs x := (semFF_eq _ _ _ _ _ _).symm.trans (by kernel_rfl)

set_option maxRecDepth 100000 in
theorem m_I_LagrangeCoefs : ConOK Try.prog 36 c_I_LagrangeCoefs := fn_ok (tyOK _) (E := mkE [(81, c_I_arePoints), (64, c_I_within), (93, c_I_lagrange)]) (consOK_cons m_I_arePoints (consOK_cons m_I_within (consOK_cons m_I_lagrange (consOK_nil rfl)))) Try.func36 (h := h_I_LagrangeCoefs) (by kernel_rfl) eq_I_LagrangeCoefs

/-- I_areTerms -/
def pk_I_areTerms : List PK := [.data (.sl (.int .i64)), .data (.int .i64)]
def rk_I_areTerms : List (Ty × Bool) := [(.bool, false)]
def h_I_areTerms : Hints := { loops := [] }
noncomputable def M_I_areTerms (x : ((List Int) × Int)) : (Option Bool) :=
  (bindO (M_I_isModulus x.2) (fun (a0 : Bool) => (cond a0 (cond (decide ((((List.length x.1) : Nat) : Int) ≤ (200 : Int))) (bindO (M_I_areBelow (x.1, x.2)) (fun (a1 : Bool) => (some a1))) (some false)) (some false))))

noncomputable def c_I_areTerms : Con0 := ⟨pk_I_areTerms, rk_I_areTerms, M_I_areTerms⟩

set_option maxRecDepth 100000 in
theorem eq_I_areTerms (x : In pk_I_areTerms) : semF (mkE [(151, c_I_isModulus), (82, c_I_areBelow)]) h_I_areTerms (info Try.f94) pk_I_areTerms rk_I_areTerms x = M_I_areTerms x := (semFF_eq _ _ _ _ _ _).symm.trans (by kernel_rfl)

set_option maxRecDepth 100000 in
theorem m_I_areTerms : ConOK Try.prog 94 c_I_areTerms := fn_ok (tyOK _) (E := mkE [(151, c_I_isModulus), (82, c_I_areBelow)]) (consOK_cons m_I_isModulus (consOK_cons m_I_areBelow (consOK_nil rfl))) Try.func94 (h := h_I_areTerms) (by kernel_rfl) eq_I_areTerms

/-- I_DotMod -/
def pk_I_DotMod : List PK := [.data (.sl (.int .i64)), .data (.sl (.int .i64)), .data (.int .i64)]
def rk_I_DotMod : List (Ty × Bool) := [((.int .i64), false), (.bool, false)]
def h_I_DotMod : Hints := { loops := [] }
noncomputable def M_I_DotMod (x : ((List Int) × ((List Int) × Int))) : (Option (Int × Bool)) :=
  (bindO (M_I_areTerms (x.1, x.2.2)) (fun (a0 : Bool) => (cond (not a0) (some ((0 : Int), false)) (bindO (M_I_areTerms (x.2.1, x.2.2)) (fun (a1 : Bool) => (cond (not a1) (some ((0 : Int), false)) (cond ((((List.length x.1) : Nat) : Int) != (((List.length x.2.1) : Nat) : Int)) (some ((0 : Int), false)) (bindO (M_I_dot (x.1, (x.2.1, x.2.2))) (fun (a2 : Int) => (some (a2, true)))))))))))

noncomputable def c_I_DotMod : Con0 := ⟨pk_I_DotMod, rk_I_DotMod, M_I_DotMod⟩

set_option maxRecDepth 100000 in
theorem eq_I_DotMod (x : In pk_I_DotMod) : semF (mkE [(94, c_I_areTerms), (92, c_I_dot)]) h_I_DotMod (info Try.f37) pk_I_DotMod rk_I_DotMod x = M_I_DotMod x := (semFF_eq _ _ _ _ _ _).symm.trans (by kernel_rfl)

set_option maxRecDepth 100000 in
theorem m_I_DotMod : ConOK Try.prog 37 c_I_DotMod := fn_ok (tyOK _) (E := mkE [(94, c_I_areTerms), (92, c_I_dot)]) (consOK_cons m_I_areTerms (consOK_cons m_I_dot (consOK_nil rfl))) Try.func37 (h := h_I_DotMod) (by kernel_rfl) eq_I_DotMod

/-- L_FnInterpolation -/
def pk_L_FnInterpolation : List PK := [.data (.sl (.int .u8)), .data (.sl (.int .u8))]
def rk_L_FnInterpolation : List (Ty × Bool) := [(.bool, false)]
def h_L_FnInterpolation : Hints := { loops := [(0, { items := [.slot 125 (.data (.int .i64) [])], kill := [0, 1, 2, 3, 4, 10, 11, 12, 13, 14, 15, 16, 17, 18, 19, 20, 21, 22, 23, 24, 25, 26, 27, 28, 29, 30, 31, 32, 33, 34, 35, 36, 37, 38, 39, 40, 41, 42, 43, 44, 45, 46, 47, 48, 49, 50, 51, 52, 53, 54, 55, 56, 57, 58, 59, 60, 61, 62, 63, 64, 65, 66, 67, 68, 69, 70, 71, 72, 73, 74, 75, 76, 77, 78, 79, 80, 81, 82, 83, 84, 85, 86, 87, 88, 89, 90, 91, 92, 93, 94, 95, 96, 97, 98, 99, 100, 101, 102, 103, 104, 105, 106, 107, 108, 109, 110, 111, 112, 113, 114, 115, 116, 117, 118, 119, 120, 121, 122, 126, 127, 128, 129, 130, 131, 132, 133, 134, 135, 136, 137, 138, 139, 140, 141, 142, 143, 144, 145, 146, 147, 148, 149, 150, 151, 152, 153, 154, 155, 156, 157, 158, 159, 160, 161, 162, 163, 164, 165, 166, 167, 168, 169, 170, 171, 172, 173, 174, 175, 176, 177, 178, 179, 180, 181, 182, 183, 184, 185, 186, 187, 188, 189, 190, 191, 192, 193, 194] })] }
noncomputable def M_L_FnInterpolation (x : ((List Int) × (List Int))) : (Option Bool) :=
  (bindO (some (IntKind.wrap .i64 ((((List.length x.1) : Nat) : Int) + (((List.length x.2) : Nat) : Int)))) (fun (a0 : Int) => (cond (decide (a0 > (1048576 : Int))) (some true) (bindO (M_S_DrawInterpolate x.1) (fun (a1 : (Int × ((List Int) × (List Int)))) => (bindO (M_I_Interpolate (a1.1, (a1.2.1, a1.2.2))) (fun (a2 : ((List Int) × Bool)) => (bindO (M_S_Interpolate (a1.1, (a1.2.1, a1.2.2))) (fun (a3 : ((List Int) × Bool)) => (bindO (M_S_DrawPolyFromRoots x.2) (fun (a4 : (Int × (List Int))) => (bindO (M_I_PolyFromRoots (a4.1, a4.2)) (fun (a5 : ((List Int) × Bool)) => (bindO (M_S_PolyFromRoots (a4.1, a4.2)) (fun (a6 : ((List Int) × Bool)) => (cond (not (a2.2 == a3.2)) (some false) (bindO (M_L_qInts (a2.1, a3.1)) (fun (a7 : Bool) => (cond (not a7) (some false) (cond (not (a5.2 == a6.2)) (some false) (bindO (M_L_qInts (a5.1, a6.1)) (fun (a8 : Bool) => (cond (not a8) (some false) (cond a5.2 (bindO (M_I_EvalAll (a4.1, (a5.1, a4.2))) (fun (a9 : ((List Int) × Bool)) => (bindO (M_I_DegreeOf (a4.1, a5.1)) (fun (a10 : (Int × Bool)) => (cond (not a9.2) (some false) (cond (not a10.2) (some false) (cond (a10.1 != (((List.length a4.2) : Nat) : Int)) (some false) (loopO (fun (again11 : (Int → (Option Bool))) => (fun (s12 : Int) => (cond (decide (s12 < (((List.length a9.1) : Nat) : Int))) (bindO (getI a9.1 s12) (fun (a13 : Int) => (cond (a13 != (0 : Int)) (some false) (bindO (some (IntKind.wrap .i64 (s12 + (1 : Int)))) (fun (a14 : Int) => (again11 a14)))))) (cond (not a2.2) (some true) (bindO (M_I_EvalAll (a1.1, (a2.1, a1.2.1))) (fun (a15 : ((List Int) × Bool)) => (bindO (M_I_ValueFrom (a1.1, (a1.2.1, (a1.2.2, (0 : Int))))) (fun (a16 : (Int × Bool)) => (bindO (M_I_EvalPoly (a1.1, (a2.1, (0 : Int)))) (fun (a17 : (Int × Bool)) => (bindO (M_I_LagrangeCoefs (a1.1, (a1.2.1, (0 : Int)))) (fun (a18 : ((List Int) × Bool)) => (bindO (M_I_DotMod (a18.1, (a1.2.2, a1.1))) (fun (a19 : (Int × Bool)) => (cond a15.2 (cond a16.2 (cond a17.2 (cond a18.2 (cond a19.2 (bindO (M_L_qInts (a15.1, a1.2.2)) (fun (a20 : Bool) => (cond a20 (cond (a16.1 == a17.1) (some (a19.1 == a17.1)) (some false)) (some false)))) (some false)) (some false)) (some false)) (some false)) (some false)))))))))))))))) (0 : Int))))))))) (cond (not a2.2) (some true) (bindO (M_I_EvalAll (a1.1, (a2.1, a1.2.1))) (fun (a21 : ((List Int) × Bool)) => (bindO (M_I_ValueFrom (a1.1, (a1.2.1, (a1.2.2, (0 : Int))))) (fun (a22 : (Int × Bool)) => (bindO (M_I_EvalPoly (a1.1, (a2.1, (0 : Int)))) (fun (a23 : (Int × Bool)) => (bindO (M_I_LagrangeCoefs (a1.1, (a1.2.1, (0 : Int)))) (fun (a24 : ((List Int) × Bool)) => (bindO (M_I_DotMod (a24.1, (a1.2.2, a1.1))) (fun (a25 : (Int × Bool)) => (cond a21.2 (cond a22.2 (cond a23.2 (cond a24.2 (cond a25.2 (bindO (M_L_qInts (a21.1, a1.2.2)) (fun (a26 : Bool) => (cond a26 (cond (a22.1 == a23.1) (some (a25.1 == a23.1)) (some false)) (some false)))) (some false)) (some false)) (some false)) (some false)) (some false)))))))))))))))))))))))))))))))))))))

noncomputable def c_L_FnInterpolation : Con0 := ⟨pk_L_FnInterpolation, rk_L_FnInterpolation, M_L_FnInterpolation⟩

set_option maxRecDepth 100000 in
theorem eq_L_FnInterpolation (x : In pk_L_FnInterpolation) : semF (mkE [(25, c_S_DrawInterpolate), (26, c_I_Interpolate), (27, c_S_Interpolate), (28, c_S_DrawPolyFromRoots), (29, c_I_PolyFromRoots), (30, c_S_PolyFromRoots), (31, c_L_qInts), (32, c_I_EvalAll), (33, c_I_DegreeOf), (34, c_I_ValueFrom), (35, c_I_EvalPoly), (36, c_I_LagrangeCoefs), (37, c_I_DotMod)]) h_L_FnInterpolation (info Try.f5) pk_L_FnInterpolation rk_L_FnInterpolation x = M_L_FnInterpolation x := (semFF_eq _ _ _ _ _ _).symm.trans (by kernel_rfl)

set_option maxRecDepth 100000 in
theorem m_L_FnInterpolation : ConOK Try.prog 5 c_L_FnInterpolation := fn_ok (tyOK _) (E := mkE [(25, c_S_DrawInterpolate), (26, c_I_Interpolate), (27, c_S_Interpolate), (28, c_S_DrawPolyFromRoots), (29, c_I_PolyFromRoots), (30, c_S_PolyFromRoots), (31, c_L_qInts), (32, c_I_EvalAll), (33, c_I_DegreeOf), (34, c_I_ValueFrom), (35, c_I_EvalPoly), (36, c_I_LagrangeCoefs), (37, c_I_DotMod)]) (consOK_cons m_S_DrawInterpolate (consOK_cons m_I_Interpolate (consOK_cons m_S_Interpolate (consOK_cons m_S_DrawPolyFromRoots (consOK_cons m_I_PolyFromRoots (consOK_cons m_S_PolyFromRoots (consOK_cons m_L_qInts (consOK_cons m_I_EvalAll (consOK_cons m_I_DegreeOf (consOK_cons m_I_ValueFrom (consOK_cons m_I_EvalPoly (consOK_cons m_I_LagrangeCoefs (consOK_cons m_I_DotMod (consOK_nil rfl)))))))))))))) Try.func5 (h := h_L_FnInterpolation) (by kernel_rfl) eq_L_FnInterpolation

/-- S_vDifferent -/
noncomputable def M_S_vDifferent (x : (List Int)) : (Option Bool) :=
  (loopO (fun (again0 : (Int → (Option Bool))) => (fun (s1 : Int) => (cond (decide (s1 < (((List.length x) : Nat) : Int))) (bindO (getI x s1) (fun (a2 : Int) => (bindO (sliceNH s1 (List.length x)) (fun (a3 : (Nat × Nat)) => (bindO (M_S_l1Has ((List.drop a3.1 (List.take a3.2 x)), a2)) (fun (a4 : Bool) => (cond a4 (some false) (bindO (some (IntKind.wrap .i64 (s1 + (1 : Int)))) (fun (a5 : Int) => (again0 a5)))))))))) (some true)))) (0 : Int))

end Go.Proofs.Ytgjneigkkgaaiaa.Vd
