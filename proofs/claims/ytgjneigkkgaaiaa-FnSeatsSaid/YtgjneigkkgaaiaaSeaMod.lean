/- The functions of the law as plain functions on data, and that the program's functions are these. No conditions. -/
import Derived.Test.YtgjneigkkgaaiaaVd4
import Derived.Test.YtgjneigkkgaaiaaChecked
import Derived.KernelRfl
set_option linter.unusedVariables false
namespace Go.Proofs.Ytgjneigkkgaaiaa.Vd
def tys : List (Option Ty) := [none, none, some (.int .i64), some (.int .i64), some .bool, some (.int .u8), some (.int .u8), some (.cons (.int .i64) (.cons (.int .i64) (.cons .bool (.one (.int .u8))))), some (.cons (.int .i64) (.cons (.int .i64) (.cons .bool (.one (.int .u8))))), some .str, some .str, some .str, some (.int .u64), some (.cons .str (.one (.int .u64))), some (.cons .str (.one (.int .u64))), none, none, none, none, none, none, some (.int .i32), some (.sl (.int .i64)), none, none, none, none, none, none, some (.cons (.int .i64) (.cons (.int .i64) (.one (.int .i64)))), some (.cons (.int .i64) (.cons (.int .i64) (.one (.int .i64)))), some (.sl (.sl (.cons (.int .i64) (.one (.int .i64))))), none, some (.sl (.cons (.int .i64) (.one (.int .i64)))), none, none, some (.cons (.int .i64) (.cons (.int .i64) (.one (.int .i64)))), none, some (.sl (.sl (.cons (.int .i64) (.one (.int .i64))))), none, none, none, none, none, none, some (.sl (.int .u8)), none, none, none, none, none, none, none, none, none, none, none, none, none, none, none, some (.sl (.sl (.int .i64))), none, none, none, none, none, none, none, none, none, none, none, none, none, none, none, none, some (.sl (.cons (.int .i64) (.one (.int .i64)))), none, none, none, none, none, some (.cons (.int .i64) (.one (.int .i64))), some (.cons (.int .i64) (.one (.int .i64))), none, none, none, none, some (.int .u64), some (.cons (.sl (.int .u8)) (.cons (.int .i64) (.one (.int .u64)))), some (.cons (.sl (.int .u8)) (.cons (.int .i64) (.one (.int .u64)))), none, none, none, none, none, none, none, none, none, none, none, none, none, none, none, none, none, none, some (.int .u64), none, none, none, none, none, none, none, none, none, none, some (.cons (.int .i64) (.one (.int .i64))), none, none, none, none, none, none, none, none, none, none, some (.sl .bool), none, none, none, some (.int .u32), none, none, none, none, none, none, none, none, none, none, none, none, none, none, none, none, none, some (.int .u8), some (.int .u8), none, none, some (.int .i32), some (.int .i32), none, none, none]
def others : List Nat := [1, 15, 16, 17, 24, 25, 26, 27, 28, 32, 35, 37, 39, 40, 41, 42, 43, 44, 47, 48, 50, 51, 53, 54, 55, 56, 57, 58, 60, 63, 65, 66, 67, 68, 69, 70, 71, 72, 73, 74, 75, 76, 77, 79, 80, 81, 82, 83, 86, 87, 88, 89, 93, 95, 96, 97, 98, 99, 100, 101, 102, 103, 104, 105, 106, 107, 108, 109, 110, 112, 113, 114, 115, 116, 117, 118, 119, 120, 121, 124, 125, 126, 127, 128, 129, 130, 131, 132, 134, 135, 136, 138, 139, 140, 141, 143, 145, 146, 147, 148, 149, 157, 158]
def pairs : List Nat := [84, 85, 122]
def sgN : Nat → Nat → List Nat
  | _, 0 => []
  | a, n + 1 => a :: sgN (a + 1) n

noncomputable def mkE (con : List (Nat × Con0)) : Env := ⟨[], tys, others, pairs, con⟩

set_option maxRecDepth 100000 in
theorem tyOK (con : List (Nat × Con0)) : TyOK Try.prog (mkE con) := tyOK_of (E := mkE con) (by kernel_rfl) (by kernel_rfl) (by kernel_rfl)

/-- L_big -/
def pk_L_big : List PK := [.data (.sl (.int .u8)), .data (.sl (.int .u8))]
def rk_L_big : List (Ty × Bool) := [(.bool, false)]
def h_L_big : Hints := { loops := [] }
noncomputable def M_L_big (x : ((List Int) × (List Int))) : (Option Bool) :=
  (cond (decide ((((List.length x.1) : Nat) : Int) > (1048576 : Int))) (some true) (bindO (some (IntKind.wrap .i64 ((1048576 : Int) - (((List.length x.1) : Nat) : Int)))) (fun (a0 : Int) => (some (decide ((((List.length x.2) : Nat) : Int) > a0))))))

noncomputable def c_L_big : Con0 := ⟨pk_L_big, rk_L_big, M_L_big⟩

set_option maxRecDepth 100000 in
theorem eq_L_big (x : In pk_L_big) : semF (mkE []) h_L_big (info Try.f38) pk_L_big rk_L_big x = M_L_big x := (semFF_eq _ _ _ _ _ _).symm.trans (by kernel_rfl)

set_option maxRecDepth 100000 in
theorem m_L_big : ConOK Try.prog 38 c_L_big := fn_ok (tyOK _) (E := mkE []) (consOK_nil rfl) Try.func38 (h := h_L_big) (by kernel_rfl) eq_L_big

/-- S_l1Cur_next -/
def pk_S_l1Cur_next : List PK := [.mp (.cons (.sl (.int .u8)) (.cons (.int .i64) (.one (.int .u64)))) false]
def rk_S_l1Cur_next : List (Ty × Bool) := [((.int .i64), false)]
def h_S_l1Cur_next : Hints := { loops := [] }
noncomputable def M_S_l1Cur_next (x : ((List Int) × (Int × Int))) : (Option (Int × ((List Int) × (Int × Int)))) :=
  (cond (decide (x.2.1 < (((List.length x.1) : Nat) : Int))) (bindO (getI x.1 x.2.1) (fun (a0 : Int) => (bindO (some (IntKind.wrap .i64 (x.2.1 + (1 : Int)))) (fun (a1 : Int) => (bindO (some (IntKind.wrap .u64 (x.2.2 * (6364136223846793005 : Int)))) (fun (a2 : Int) => (bindO (some (IntKind.wrap .u64 (a2 + (IntKind.wrap .u64 (IntKind.wrap .i64 a0))))) (fun (a3 : Int) => (bindO (some (IntKind.wrap .u64 (a3 + (1442695040888963407 : Int)))) (fun (a4 : Int) => (cond (decide (a1 ≤ (((List.length x.1) : Nat) : Int))) (some ((IntKind.wrap .i64 a0), (x.1, (a1, a4)))) (bindO (guardO (decide ((0 : Int) ≤ (40 : Int)))) (fun (a5 : Unit) => (bindO (some (shr .u64 a4 (40 : Int))) (fun (a6 : Int) => (bindO (some (bits .and .u64 a6 (255 : Int))) (fun (a7 : Int) => (some ((IntKind.wrap .i64 a7), (x.1, (a1, a4))))))))))))))))))))) (bindO (some (IntKind.wrap .i64 (x.2.1 + (1 : Int)))) (fun (a8 : Int) => (bindO (some (IntKind.wrap .u64 (x.2.2 * (6364136223846793005 : Int)))) (fun (a9 : Int) => (bindO (some (IntKind.wrap .u64 (a9 + (IntKind.wrap .u64 (0 : Int))))) (fun (a10 : Int) => (bindO (some (IntKind.wrap .u64 (a10 + (1442695040888963407 : Int)))) (fun (a11 : Int) => (cond (decide (a8 ≤ (((List.length x.1) : Nat) : Int))) (some ((0 : Int), (x.1, (a8, a11)))) (bindO (guardO (decide ((0 : Int) ≤ (40 : Int)))) (fun (a12 : Unit) => (bindO (some (shr .u64 a11 (40 : Int))) (fun (a13 : Int) => (bindO (some (bits .and .u64 a13 (255 : Int))) (fun (a14 : Int) => (some ((IntKind.wrap .i64 a14), (x.1, (a8, a11))))))))))))))))))))

noncomputable def c_S_l1Cur_next : Con0 := ⟨pk_S_l1Cur_next, rk_S_l1Cur_next, M_S_l1Cur_next⟩

set_option maxRecDepth 100000 in
theorem eq_S_l1Cur_next (x : In pk_S_l1Cur_next) : semF (mkE []) h_S_l1Cur_next (info Try.f152) pk_S_l1Cur_next rk_S_l1Cur_next x = M_S_l1Cur_next x := (semFF_eq _ _ _ _ _ _).symm.trans (by kernel_rfl)

set_option maxRecDepth 100000 in
theorem m_S_l1Cur_next : ConOK Try.prog 152 c_S_l1Cur_next := fn_ok (tyOK _) (E := mkE []) (consOK_nil rfl) Try.func152 (h := h_S_l1Cur_next) (by kernel_rfl) eq_S_l1Cur_next

/-- S_l1Cur_pick -/
def pk_S_l1Cur_pick : List PK := [.mp (.cons (.sl (.int .u8)) (.cons (.int .i64) (.one (.int .u64)))) false, .data (.int .i64)]
def rk_S_l1Cur_pick : List (Ty × Bool) := [((.int .i64), false)]
def h_S_l1Cur_pick : Hints := { loops := [] }
noncomputable def M_S_l1Cur_pick (x : (((List Int) × (Int × Int)) × Int)) : (Option (Int × ((List Int) × (Int × Int)))) :=
  (cond (decide (x.2 ≤ (1 : Int))) (some ((0 : Int), (x.1.1, (x.1.2.1, x.1.2.2)))) (bindO (M_S_l1Cur_next (x.1.1, (x.1.2.1, x.1.2.2))) (fun (a0 : (Int × ((List Int) × (Int × Int)))) => (cond (decide (x.2 > (200 : Int))) (bindO (some (IntKind.wrap .i64 (a0.1 * (256 : Int)))) (fun (a1 : Int) => (bindO (M_S_l1Cur_next (a0.2.1, (a0.2.2.1, a0.2.2.2))) (fun (a2 : (Int × ((List Int) × (Int × Int)))) => (bindO (some (IntKind.wrap .i64 (a1 + a2.1))) (fun (a3 : Int) => (bindO (guardO (x.2 != (0 : Int))) (fun (a4 : Unit) => (bindO (some (Int.tmod a3 x.2)) (fun (a5 : Int) => (some (a5, (a2.2.1, (a2.2.2.1, a2.2.2.2)))))))))))))) (bindO (guardO (x.2 != (0 : Int))) (fun (a6 : Unit) => (bindO (some (Int.tmod a0.1 x.2)) (fun (a7 : Int) => (some (a7, (a0.2.1, (a0.2.2.1, a0.2.2.2))))))))))))

noncomputable def c_S_l1Cur_pick : Con0 := ⟨pk_S_l1Cur_pick, rk_S_l1Cur_pick, M_S_l1Cur_pick⟩

set_option maxRecDepth 100000 in
theorem eq_S_l1Cur_pick (x : In pk_S_l1Cur_pick) : semF (mkE [(152, c_S_l1Cur_next)]) h_S_l1Cur_pick (info Try.f97) pk_S_l1Cur_pick rk_S_l1Cur_pick x = M_S_l1Cur_pick x := (semFF_eq _ _ _ _ _ _).symm.trans (by kernel_rfl)

set_option maxRecDepth 100000 in
theorem m_S_l1Cur_pick : ConOK Try.prog 97 c_S_l1Cur_pick := fn_ok (tyOK _) (E := mkE [(152, c_S_l1Cur_next)]) (consOK_cons m_S_l1Cur_next (consOK_nil rfl)) Try.func97 (h := h_S_l1Cur_pick) (by kernel_rfl) eq_S_l1Cur_pick

/-- S_l1Cur_among -/
def pk_S_l1Cur_among : List PK := [.mp (.cons (.sl (.int .u8)) (.cons (.int .i64) (.one (.int .u64)))) false, .data (.sl (.int .i64))]
def rk_S_l1Cur_among : List (Ty × Bool) := [((.int .i64), false)]
def h_S_l1Cur_among : Hints := { loops := [] }
noncomputable def M_S_l1Cur_among (x : (((List Int) × (Int × Int)) × (List Int))) : (Option (Int × ((List Int) × (Int × Int)))) :=
  (bindO (M_S_l1Cur_pick ((x.1.1, (x.1.2.1, x.1.2.2)), (((List.length x.2) : Nat) : Int))) (fun (a0 : (Int × ((List Int) × (Int × Int)))) => (bindO (getI x.2 a0.1) (fun (a1 : Int) => (some (a1, (a0.2.1, (a0.2.2.1, a0.2.2.2))))))))

noncomputable def c_S_l1Cur_among : Con0 := ⟨pk_S_l1Cur_among, rk_S_l1Cur_among, M_S_l1Cur_among⟩

set_option maxRecDepth 100000 in
theorem eq_S_l1Cur_among (x : In pk_S_l1Cur_among) : semF (mkE [(97, c_S_l1Cur_pick)]) h_S_l1Cur_among (info Try.f96) pk_S_l1Cur_among rk_S_l1Cur_among x = M_S_l1Cur_among x := (semFF_eq _ _ _ _ _ _).symm.trans (by kernel_rfl)

set_option maxRecDepth 100000 in
theorem m_S_l1Cur_among : ConOK Try.prog 96 c_S_l1Cur_among := fn_ok (tyOK _) (E := mkE [(97, c_S_l1Cur_pick)]) (consOK_cons m_S_l1Cur_pick (consOK_nil rfl)) Try.func96 (h := h_S_l1Cur_among) (by kernel_rfl) eq_S_l1Cur_among

/-- S_l1Cur_counts -/
def pk_S_l1Cur_counts : List PK := [.mp (.cons (.sl (.int .u8)) (.cons (.int .i64) (.one (.int .u64)))) false]
def rk_S_l1Cur_counts : List (Ty × Bool) := [((.sl (.int .i64)), true)]
def h_S_l1Cur_counts : Hints := { loops := [(0, { items := [.slot 3 (.own (.int .i64) true), .slot 4 (.data (.int .i64) []), .cell 0 0 (.data (.sl (.int .u8)) []), .cell 0 1 (.data (.int .i64) []), .cell 0 2 (.data (.int .u64) [])], kill := [1, 2] ++ (sgN 5 33) })] }
noncomputable def M_S_l1Cur_counts (x : ((List Int) × (Int × Int))) : (Option ((List Int) × ((List Int) × (Int × Int)))) :=
  (bindO (M_S_l1Cur_pick (x, (6 : Int))) (fun (a0 : (Int × ((List Int) × (Int × Int)))) => (bindO (some (IntKind.wrap .i64 ((1 : Int) + a0.1))) (fun (a1 : Int) => (loopO (fun (again2 : (((List Int) × (Int × ((List Int) × (Int × Int)))) → (Option ((List Int) × ((List Int) × (Int × Int)))))) => (fun (s3 : ((List Int) × (Int × ((List Int) × (Int × Int))))) => (cond (decide (s3.2.1 > (0 : Int))) (bindO (M_S_l1Cur_pick (s3.2.2, (100 : Int))) (fun (a4 : (Int × ((List Int) × (Int × Int)))) => (bindO (M_S_l1Cur_among (a4.2, ((0 : Int) :: ((1 : Int) :: ((2 : Int) :: ((3 : Int) :: ((5 : Int) :: ((10 : Int) :: (a4.1 :: ([] : List Int)))))))))) (fun (a5 : (Int × ((List Int) × (Int × Int)))) => (bindO (guardO (lenOk ((List.length s3.1) + (List.length (a5.1 :: ([] : List Int)))))) (fun (a6 : Unit) => (bindO (some (s3.1 ++ (a5.1 :: ([] : List Int)))) (fun (a7 : (List Int)) => (bindO (some (IntKind.wrap .i64 (s3.2.1 - (1 : Int)))) (fun (a8 : Int) => (again2 (a7, (a8, a5.2))))))))))))) (bindO (M_S_l1Cur_pick (s3.2.2, (20 : Int))) (fun (a9 : (Int × ((List Int) × (Int × Int)))) => (cond (a9.1 == (0 : Int)) (some (([] : List Int), a9.2)) (cond (a9.1 == (1 : Int)) (bindO (M_S_l1Cur_among (a9.2, ((- (1 : Int)) :: ((1000000 : Int) :: ((1000001 : Int) :: ([] : List Int)))))) (fun (a10 : (Int × ((List Int) × (Int × Int)))) => (bindO (getI s3.1 (0 : Int)) (fun (a11 : Int) => (bindO (some (List.set s3.1 (Int.toNat (0 : Int)) a10.1)) (fun (a12 : (List Int)) => (some (a12, a10.2)))))))) (cond (a9.1 == (2 : Int)) (bindO (M_S_l1Cur_pick (a9.2, (2 : Int))) (fun (a13 : (Int × ((List Int) × (Int × Int)))) => (bindO (some (IntKind.wrap .i64 ((8 : Int) + a13.1))) (fun (a14 : Int) => (bindO (guardO (((decide ((0 : Int) ≤ a14)) && (decide (a14 ≤ a14))) && (decide (a14 ≤ ((lim : Nat) : Int))))) (fun (a15 : Unit) => (some ((List.replicate (Int.toNat a14) (0 : Int)), a13.2)))))))) (some (s3.1, a9.2)))))))))) (([] : List Int), (a1, a0.2)))))))

noncomputable def c_S_l1Cur_counts : Con0 := ⟨pk_S_l1Cur_counts, rk_S_l1Cur_counts, M_S_l1Cur_counts⟩

set_option maxRecDepth 100000 in
theorem eq_S_l1Cur_counts (x : In pk_S_l1Cur_counts) : semF (mkE [(97, c_S_l1Cur_pick), (96, c_S_l1Cur_among)]) h_S_l1Cur_counts (info Try.f95) pk_S_l1Cur_counts rk_S_l1Cur_counts x = M_S_l1Cur_counts x := (semFF_eq _ _ _ _ _ _).symm.trans (by kernel_rfl)

set_option maxRecDepth 100000 in
theorem m_S_l1Cur_counts : ConOK Try.prog 95 c_S_l1Cur_counts := fn_ok (tyOK _) (E := mkE [(97, c_S_l1Cur_pick), (96, c_S_l1Cur_among)]) (consOK_cons m_S_l1Cur_pick (consOK_cons m_S_l1Cur_among (consOK_nil rfl))) Try.func95 (h := h_S_l1Cur_counts) (by kernel_rfl) eq_S_l1Cur_counts

/-- S_DrawDivisorSeats -/
def pk_S_DrawDivisorSeats : List PK := [.data (.sl (.int .u8))]
def rk_S_DrawDivisorSeats : List (Ty × Bool) := [((.sl (.int .i64)), true), ((.int .i64), false)]
def h_S_DrawDivisorSeats : Hints := { loops := [] }
noncomputable def M_S_DrawDivisorSeats (x : (List Int)) : (Option ((List Int) × Int)) :=
  (bindO (M_S_l1Cur_counts (x, ((0 : Int), (0 : Int)))) (fun (a0 : ((List Int) × ((List Int) × (Int × Int)))) => (bindO (M_S_l1Cur_among ((a0.2.1, (a0.2.2.1, a0.2.2.2)), ((1 : Int) :: ((2 : Int) :: ((3 : Int) :: ((4 : Int) :: ((7 : Int) :: ((20 : Int) :: ((21 : Int) :: ((0 : Int) :: ([] : List Int))))))))))) (fun (a1 : (Int × ((List Int) × (Int × Int)))) => (some (a0.1, a1.1))))))

noncomputable def c_S_DrawDivisorSeats : Con0 := ⟨pk_S_DrawDivisorSeats, rk_S_DrawDivisorSeats, M_S_DrawDivisorSeats⟩

set_option maxRecDepth 100000 in
theorem eq_S_DrawDivisorSeats (x : In pk_S_DrawDivisorSeats) : semF (mkE [(95, c_S_l1Cur_counts), (96, c_S_l1Cur_among)]) h_S_DrawDivisorSeats (info Try.f39) pk_S_DrawDivisorSeats rk_S_DrawDivisorSeats x = M_S_DrawDivisorSeats x := (semFF_eq _ _ _ _ _ _).symm.trans (by kernel_rfl)

set_option maxRecDepth 100000 in
theorem m_S_DrawDivisorSeats : ConOK Try.prog 39 c_S_DrawDivisorSeats := fn_ok (tyOK _) (E := mkE [(95, c_S_l1Cur_counts), (96, c_S_l1Cur_among)]) (consOK_cons m_S_l1Cur_counts (consOK_cons m_S_l1Cur_among (consOK_nil rfl))) Try.func39 (h := h_S_DrawDivisorSeats) (by kernel_rfl) eq_S_DrawDivisorSeats

/-- I_within -/
def pk_I_within : List PK := [.data (.int .i64), .data (.int .i64), .data (.int .i64)]
def rk_I_within : List (Ty × Bool) := [(.bool, false)]
def h_I_within : Hints := { loops := [] }
noncomputable def M_I_within (x : (Int × (Int × Int))) : (Option Bool) :=
  (cond (decide (x.1 ≥ x.2.1)) (some (decide (x.1 ≤ x.2.2))) (some false))

noncomputable def c_I_within : Con0 := ⟨pk_I_within, rk_I_within, M_I_within⟩

set_option maxRecDepth 100000 in
theorem eq_I_within (x : In pk_I_within) : semF (mkE []) h_I_within (info Try.f64) pk_I_within rk_I_within x = M_I_within x := (semFF_eq _ _ _ _ _ _).symm.trans (by kernel_rfl)

set_option maxRecDepth 100000 in
theorem m_I_within : ConOK Try.prog 64 c_I_within := fn_ok (tyOK _) (E := mkE []) (consOK_nil rfl) Try.func64 (h := h_I_within) (by kernel_rfl) eq_I_within

/-- slices_IndexFunc_sint_int -/
def pk_slices_IndexFunc_sint_int : List PK := [.data (.sl (.int .i64)), .fn [(.int .i64)] .bool]
def rk_slices_IndexFunc_sint_int : List (Ty × Bool) := [((.int .i64), false)]
def h_slices_IndexFunc_sint_int : Hints := { loops := [(0, { items := [.slot 8 (.data (.int .i64) [])], kill := sgN 2 5 ++ (sgN 9 10) })] }
noncomputable def M_slices_IndexFunc_sint_int (x : ((List Int) × (Int → (Option Bool)))) : (Option Int) :=
  (loopO (fun (again0 : (Int → (Option Int))) => (fun (s1 : Int) => (cond (decide (s1 < (((List.length x.1) : Nat) : Int))) (bindO (getI x.1 s1) (fun (a2 : Int) => (bindO (x.2 a2) (fun (a3 : Bool) => (cond a3 (some s1) (bindO (some (IntKind.wrap .i64 (s1 + (1 : Int)))) (fun (a4 : Int) => (again0 a4)))))))) (some (- (1 : Int)))))) (0 : Int))

noncomputable def c_slices_IndexFunc_sint_int : Con0 := ⟨pk_slices_IndexFunc_sint_int, rk_slices_IndexFunc_sint_int, M_slices_IndexFunc_sint_int⟩

set_option maxRecDepth 100000 in
theorem eq_slices_IndexFunc_sint_int (x : In pk_slices_IndexFunc_sint_int) : semF (mkE []) h_slices_IndexFunc_sint_int (info Try.f175) pk_slices_IndexFunc_sint_int rk_slices_IndexFunc_sint_int x = M_slices_IndexFunc_sint_int x := (semFF_eq _ _ _ _ _ _).symm.trans (by kernel_rfl)

set_option maxRecDepth 100000 in
theorem m_slices_IndexFunc_sint_int : ConOK Try.prog 175 c_slices_IndexFunc_sint_int := fn_ok (tyOK _) (E := mkE []) (consOK_nil rfl) Try.func175 (h := h_slices_IndexFunc_sint_int) (by kernel_rfl) eq_slices_IndexFunc_sint_int

/-- slices_ContainsFunc_sint_int -/
def pk_slices_ContainsFunc_sint_int : List PK := [.data (.sl (.int .i64)), .fn [(.int .i64)] .bool]
def rk_slices_ContainsFunc_sint_int : List (Ty × Bool) := [(.bool, false)]
def h_slices_ContainsFunc_sint_int : Hints := { loops := [] }
noncomputable def M_slices_ContainsFunc_sint_int (x : ((List Int) × (Int → (Option Bool)))) : (Option Bool) :=
  (bindO (M_slices_IndexFunc_sint_int (x.1, x.2)) (fun (a0 : Int) => (some (decide (a0 ≥ (0 : Int))))))

noncomputable def c_slices_ContainsFunc_sint_int : Con0 := ⟨pk_slices_ContainsFunc_sint_int, rk_slices_ContainsFunc_sint_int, M_slices_ContainsFunc_sint_int⟩

set_option maxRecDepth 100000 in
theorem eq_slices_ContainsFunc_sint_int (x : In pk_slices_ContainsFunc_sint_int) : semF (mkE [(175, c_slices_IndexFunc_sint_int)]) h_slices_ContainsFunc_sint_int (info Try.f162) pk_slices_ContainsFunc_sint_int rk_slices_ContainsFunc_sint_int x = M_slices_ContainsFunc_sint_int x := (semFF_eq _ _ _ _ _ _).symm.trans (by kernel_rfl)

set_option maxRecDepth 100000 in
theorem m_slices_ContainsFunc_sint_int : ConOK Try.prog 162 c_slices_ContainsFunc_sint_int := fn_ok (tyOK _) (E := mkE [(175, c_slices_IndexFunc_sint_int)]) (consOK_cons m_slices_IndexFunc_sint_int (consOK_nil rfl)) Try.func162 (h := h_slices_ContainsFunc_sint_int) (by kernel_rfl) eq_slices_ContainsFunc_sint_int

/-- I_areAll_1 -/
def pk_I_areAll_1 : List PK := [.data (.int .i64), .rfn [(.int .i64)] .bool]
def rk_I_areAll_1 : List (Ty × Bool) := [(.bool, false)]
def h_I_areAll_1 : Hints := { loops := [] }
noncomputable def M_I_areAll_1 (x : (Int × (Int → (Option Bool)))) : (Option Bool) :=
  (bindO (x.2 x.1) (fun (a0 : Bool) => (some (not a0))))

noncomputable def c_I_areAll_1 : Con0 := ⟨pk_I_areAll_1, rk_I_areAll_1, M_I_areAll_1⟩

set_option maxRecDepth 100000 in
theorem eq_I_areAll_1 (x : In pk_I_areAll_1) : semF (mkE []) h_I_areAll_1 (info Try.f163) pk_I_areAll_1 rk_I_areAll_1 x = M_I_areAll_1 x := (semFF_eq _ _ _ _ _ _).symm.trans (by kernel_rfl)

set_option maxRecDepth 100000 in
theorem m_I_areAll_1 : ConOK Try.prog 163 c_I_areAll_1 := fn_ok (tyOK _) (E := mkE []) (consOK_nil rfl) Try.func163 (h := h_I_areAll_1) (by kernel_rfl) eq_I_areAll_1

/-- I_areAll -/
def pk_I_areAll : List PK := [.data (.sl (.int .i64)), .fn [(.int .i64)] .bool]
def rk_I_areAll : List (Ty × Bool) := [(.bool, false)]
def h_I_areAll : Hints := { loops := [] }
noncomputable def M_I_areAll (x : ((List Int) × (Int → (Option Bool)))) : (Option Bool) :=
  (bindO (M_slices_ContainsFunc_sint_int (x.1, (fun (a0 : Int) => (bindO (M_I_areAll_1 (a0, x.2)) (fun (a1 : Bool) => (some a1)))))) (fun (a2 : Bool) => (some (not a2))))

noncomputable def c_I_areAll : Con0 := ⟨pk_I_areAll, rk_I_areAll, M_I_areAll⟩

set_option maxRecDepth 100000 in
theorem eq_I_areAll (x : In pk_I_areAll) : semF (mkE [(162, c_slices_ContainsFunc_sint_int), (163, c_I_areAll_1)]) h_I_areAll (info Try.f116) pk_I_areAll rk_I_areAll x = M_I_areAll x := (semFF_eq _ _ _ _ _ _).symm.trans (by kernel_rfl)

set_option maxRecDepth 100000 in
theorem m_I_areAll : ConOK Try.prog 116 c_I_areAll := fn_ok (tyOK _) (E := mkE [(162, c_slices_ContainsFunc_sint_int), (163, c_I_areAll_1)]) (consOK_cons m_slices_ContainsFunc_sint_int (consOK_cons m_I_areAll_1 (consOK_nil rfl))) Try.func116 (h := h_I_areAll) (by kernel_rfl) eq_I_areAll

/-- I_areCounts_1 -/
def pk_I_areCounts_1 : List PK := [.data (.int .i64)]
def rk_I_areCounts_1 : List (Ty × Bool) := [(.bool, false)]
def h_I_areCounts_1 : Hints := { loops := [] }
noncomputable def M_I_areCounts_1 (x : Int) : (Option Bool) :=
  (bindO (M_I_within (x, ((0 : Int), (1000000 : Int)))) (fun (a0 : Bool) => (some a0)))

noncomputable def c_I_areCounts_1 : Con0 := ⟨pk_I_areCounts_1, rk_I_areCounts_1, M_I_areCounts_1⟩

set_option maxRecDepth 100000 in
theorem eq_I_areCounts_1 (x : In pk_I_areCounts_1) : semF (mkE [(64, c_I_within)]) h_I_areCounts_1 (info Try.f117) pk_I_areCounts_1 rk_I_areCounts_1 x = M_I_areCounts_1 x := (semFF_eq _ _ _ _ _ _).symm.trans (by kernel_rfl)

set_option maxRecDepth 100000 in
theorem m_I_areCounts_1 : ConOK Try.prog 117 c_I_areCounts_1 := fn_ok (tyOK _) (E := mkE [(64, c_I_within)]) (consOK_cons m_I_within (consOK_nil rfl)) Try.func117 (h := h_I_areCounts_1) (by kernel_rfl) eq_I_areCounts_1

/-- I_areCounts -/
def pk_I_areCounts : List PK := [.data (.sl (.int .i64))]
def rk_I_areCounts : List (Ty × Bool) := [(.bool, false)]
def h_I_areCounts : Hints := { loops := [] }
noncomputable def M_I_areCounts (x : (List Int)) : (Option Bool) :=
  (bindO (M_I_within ((((List.length x) : Nat) : Int), ((1 : Int), (8 : Int)))) (fun (a0 : Bool) => (cond a0 (bindO (M_I_areAll (x, (fun (a1 : Int) => (bindO (M_I_areCounts_1 a1) (fun (a2 : Bool) => (some a2)))))) (fun (a3 : Bool) => (some a3))) (some false))))

noncomputable def c_I_areCounts : Con0 := ⟨pk_I_areCounts, rk_I_areCounts, M_I_areCounts⟩

set_option maxRecDepth 100000 in
theorem eq_I_areCounts (x : In pk_I_areCounts) : semF (mkE [(64, c_I_within), (116, c_I_areAll), (117, c_I_areCounts_1)]) h_I_areCounts (info Try.f63) pk_I_areCounts rk_I_areCounts x = M_I_areCounts x := (semFF_eq _ _ _ _ _ _).symm.trans (by kernel_rfl)

set_option maxRecDepth 100000 in
theorem m_I_areCounts : ConOK Try.prog 63 c_I_areCounts := fn_ok (tyOK _) (E := mkE [(64, c_I_within), (116, c_I_areAll), (117, c_I_areCounts_1)]) (consOK_cons m_I_within (consOK_cons m_I_areAll (consOK_cons m_I_areCounts_1 (consOK_nil rfl)))) Try.func63 (h := h_I_areCounts) (by kernel_rfl) eq_I_areCounts

/-- I_DivisorSeats -/
def pk_I_DivisorSeats : List PK := [.data (.sl (.int .i64)), .data (.int .i64)]
def rk_I_DivisorSeats : List (Ty × Bool) := [((.sl (.int .i64)), true), (.bool, false)]
def h_I_DivisorSeats : Hints := { loops := [(0, { items := [.slot 22 (.data (.int .i64) []), .arr 6 (.int .i64) true], kill := sgN 1 5 ++ (sgN 7 14 ++ (sgN 23 36)) }), (2, { items := [.slot 7 (.data (.int .i64) []), .slot 26 (.data (.int .i64) [])], kill := sgN 1 5 ++ (sgN 8 13 ++ ([23] ++ (sgN 27 32))) })] }
noncomputable def M_I_DivisorSeats (x : ((List Int) × Int)) : (Option ((List Int) × Bool)) :=
  (bindO (M_I_areCounts x.1) (fun (a0 : Bool) => (cond (not a0) (some (([] : List Int), false)) (bindO (M_I_within (x.2, ((1 : Int), (20 : Int)))) (fun (a1 : Bool) => (cond (not a1) (some (([] : List Int), false)) (bindO (guardO (((decide ((0 : Int) ≤ (((List.length x.1) : Nat) : Int))) && (decide ((((List.length x.1) : Nat) : Int) ≤ (((List.length x.1) : Nat) : Int)))) && (decide ((((List.length x.1) : Nat) : Int) ≤ ((lim : Nat) : Int))))) (fun (a2 : Unit) => (loopO (fun (again3 : ((Int × (List Int)) → (Option ((List Int) × Bool)))) => (fun (s4 : (Int × (List Int))) => (cond (decide (s4.1 < x.2)) (loopO (fun (again5 : ((Int × Int) → (Option ((List Int) × Bool)))) => (fun (s6 : (Int × Int)) => (cond (decide (s6.2 < (((List.length x.1) : Nat) : Int))) (bindO (getI x.1 s6.2) (fun (a7 : Int) => (bindO (getI s4.2 s6.1) (fun (a8 : Int) => (bindO (some (IntKind.wrap .i64 ((1 : Int) + a8))) (fun (a9 : Int) => (bindO (some (IntKind.wrap .i64 (a7 * a9))) (fun (a10 : Int) => (bindO (getI x.1 s6.1) (fun (a11 : Int) => (bindO (getI s4.2 s6.2) (fun (a12 : Int) => (bindO (some (IntKind.wrap .i64 ((1 : Int) + a12))) (fun (a13 : Int) => (bindO (some (IntKind.wrap .i64 (a11 * a13))) (fun (a14 : Int) => (cond (decide (a10 > a14)) (bindO (some (IntKind.wrap .i64 (s6.2 + (1 : Int)))) (fun (a15 : Int) => (again5 (s6.2, a15)))) (bindO (some (IntKind.wrap .i64 (s6.2 + (1 : Int)))) (fun (a16 : Int) => (again5 (s6.1, a16))))))))))))))))))))) (bindO (getI s4.2 s6.1) (fun (a17 : Int) => (bindO (some (IntKind.wrap .i64 (a17 + (1 : Int)))) (fun (a18 : Int) => (bindO (getI s4.2 s6.1) (fun (a19 : Int) => (bindO (some (List.set s4.2 (Int.toNat s6.1) a18)) (fun (a20 : (List Int)) => (bindO (some (IntKind.wrap .i64 (s4.1 + (1 : Int)))) (fun (a21 : Int) => (again3 (a21, a20))))))))))))))) ((0 : Int), (0 : Int))) (some (s4.2, true))))) ((0 : Int), (List.replicate (Int.toNat (((List.length x.1) : Nat) : Int)) (0 : Int))))))))))))

noncomputable def c_I_DivisorSeats : Con0 := ⟨pk_I_DivisorSeats, rk_I_DivisorSeats, M_I_DivisorSeats⟩

set_option maxRecDepth 100000 in
theorem eq_I_DivisorSeats (x : In pk_I_DivisorSeats) : semF (mkE [(63, c_I_areCounts), (64, c_I_within)]) h_I_DivisorSeats (info Try.f40) pk_I_DivisorSeats rk_I_DivisorSeats x = M_I_DivisorSeats x := (semFF_eq _ _ _ _ _ _).symm.trans (by kernel_rfl)

set_option maxRecDepth 100000 in
theorem m_I_DivisorSeats : ConOK Try.prog 40 c_I_DivisorSeats := fn_ok (tyOK _) (E := mkE [(63, c_I_areCounts), (64, c_I_within)]) (consOK_cons m_I_areCounts (consOK_cons m_I_within (consOK_nil rfl))) Try.func40 (h := h_I_DivisorSeats) (by kernel_rfl) eq_I_DivisorSeats

/-- S_l1In -/
def pk_S_l1In : List PK := [.data (.int .i64), .data (.int .i64), .data (.int .i64)]
def rk_S_l1In : List (Ty × Bool) := [(.bool, false)]
def h_S_l1In : Hints := { loops := [] }
noncomputable def M_S_l1In (x : (Int × (Int × Int))) : (Option Bool) :=
  (cond (decide (x.1 ≥ x.2.1)) (some (decide (x.1 ≤ x.2.2))) (some false))

noncomputable def c_S_l1In : Con0 := ⟨pk_S_l1In, rk_S_l1In, M_S_l1In⟩

set_option maxRecDepth 100000 in
theorem eq_S_l1In (x : In pk_S_l1In) : semF (mkE []) h_S_l1In (info Try.f61) pk_S_l1In rk_S_l1In x = M_S_l1In x := (semFF_eq _ _ _ _ _ _).symm.trans (by kernel_rfl)

set_option maxRecDepth 100000 in
theorem m_S_l1In : ConOK Try.prog 61 c_S_l1In := fn_ok (tyOK _) (E := mkE []) (consOK_nil rfl) Try.func61 (h := h_S_l1In) (by kernel_rfl) eq_S_l1In

/-- S_l1All -/
def pk_S_l1All : List PK := [.data (.sl (.int .i64)), .data (.int .i64), .data (.int .i64)]
def rk_S_l1All : List (Ty × Bool) := [(.bool, false)]
def h_S_l1All : Hints := { loops := [(0, { items := [.slot 11 (.data (.int .i64) [])], kill := [0] ++ (sgN 3 6 ++ (sgN 12 9)) })] }
noncomputable def M_S_l1All (x : ((List Int) × (Int × Int))) : (Option Bool) :=
  (loopO (fun (again0 : (Int → (Option Bool))) => (fun (s1 : Int) => (cond (decide (s1 < (((List.length x.1) : Nat) : Int))) (bindO (getI x.1 s1) (fun (a2 : Int) => (bindO (M_S_l1In (a2, (x.2.1, x.2.2))) (fun (a3 : Bool) => (cond (not a3) (some false) (bindO (some (IntKind.wrap .i64 (s1 + (1 : Int)))) (fun (a4 : Int) => (again0 a4)))))))) (some true)))) (0 : Int))

noncomputable def c_S_l1All : Con0 := ⟨pk_S_l1All, rk_S_l1All, M_S_l1All⟩

set_option maxRecDepth 100000 in
theorem eq_S_l1All (x : In pk_S_l1All) : semF (mkE [(61, c_S_l1In)]) h_S_l1All (info Try.f114) pk_S_l1All rk_S_l1All x = M_S_l1All x := (semFF_eq _ _ _ _ _ _).symm.trans (by kernel_rfl)

set_option maxRecDepth 100000 in
theorem m_S_l1All : ConOK Try.prog 114 c_S_l1All := fn_ok (tyOK _) (E := mkE [(61, c_S_l1In)]) (consOK_cons m_S_l1In (consOK_nil rfl)) Try.func114 (h := h_S_l1All) (by kernel_rfl) eq_S_l1All

/-- S_tCounts -/
def pk_S_tCounts : List PK := [.data (.sl (.int .i64))]
def rk_S_tCounts : List (Ty × Bool) := [(.bool, false)]
def h_S_tCounts : Hints := { loops := [] }
noncomputable def M_S_tCounts (x : (List Int)) : (Option Bool) :=
  (bindO (M_S_l1In ((((List.length x) : Nat) : Int), ((1 : Int), (8 : Int)))) (fun (a0 : Bool) => (cond a0 (bindO (M_S_l1All (x, ((0 : Int), (1000000 : Int)))) (fun (a1 : Bool) => (some a1))) (some false))))

noncomputable def c_S_tCounts : Con0 := ⟨pk_S_tCounts, rk_S_tCounts, M_S_tCounts⟩

set_option maxRecDepth 100000 in
theorem eq_S_tCounts (x : In pk_S_tCounts) : semF (mkE [(61, c_S_l1In), (114, c_S_l1All)]) h_S_tCounts (info Try.f60) pk_S_tCounts rk_S_tCounts x = M_S_tCounts x := (semFF_eq _ _ _ _ _ _).symm.trans (by kernel_rfl)

set_option maxRecDepth 100000 in
theorem m_S_tCounts : ConOK Try.prog 60 c_S_tCounts := fn_ok (tyOK _) (E := mkE [(61, c_S_l1In), (114, c_S_l1All)]) (consOK_cons m_S_l1In (consOK_cons m_S_l1All (consOK_nil rfl))) Try.func60 (h := h_S_tCounts) (by kernel_rfl) eq_S_tCounts

/-- S_DivisorSeats -/
def pk_S_DivisorSeats : List PK := [.data (.sl (.int .i64)), .data (.int .i64)]
def rk_S_DivisorSeats : List (Ty × Bool) := [((.sl (.int .i64)), true), (.bool, false)]
def h_S_DivisorSeats : Hints := { loops := [(0, { items := [.slot 1 (.data (.int .i64) []), .arr 6 (.int .i64) true], kill := sgN 2 4 ++ (sgN 7 52) }), (2, { items := [.slot 7 (.data (.int .i64) []), .slot 27 (.data (.int .i64) [])], kill := sgN 2 4 ++ (sgN 8 17 ++ (sgN 28 31)) })] }
noncomputable def M_S_DivisorSeats (x : ((List Int) × Int)) : (Option ((List Int) × Bool)) :=
  (bindO (M_S_tCounts x.1) (fun (a0 : Bool) => (cond (not a0) (some (([] : List Int), false)) (bindO (M_S_l1In (x.2, ((1 : Int), (20 : Int)))) (fun (a1 : Bool) => (cond (not a1) (some (([] : List Int), false)) (bindO (guardO (((decide ((0 : Int) ≤ (((List.length x.1) : Nat) : Int))) && (decide ((((List.length x.1) : Nat) : Int) ≤ (((List.length x.1) : Nat) : Int)))) && (decide ((((List.length x.1) : Nat) : Int) ≤ ((lim : Nat) : Int))))) (fun (a2 : Unit) => (loopO (fun (again3 : ((Int × (List Int)) → (Option ((List Int) × Bool)))) => (fun (s4 : (Int × (List Int))) => (cond (decide (s4.1 > (0 : Int))) (loopO (fun (again5 : ((Int × Int) → (Option ((List Int) × Bool)))) => (fun (s6 : (Int × Int)) => (cond (decide (s6.2 < (((List.length x.1) : Nat) : Int))) (bindO (getI x.1 s6.2) (fun (a7 : Int) => (bindO (getI s4.2 s6.1) (fun (a8 : Int) => (bindO (some (IntKind.wrap .i64 (a8 + (1 : Int)))) (fun (a9 : Int) => (bindO (some (IntKind.wrap .i64 (a7 * a9))) (fun (a10 : Int) => (bindO (getI x.1 s6.1) (fun (a11 : Int) => (bindO (getI s4.2 s6.2) (fun (a12 : Int) => (bindO (some (IntKind.wrap .i64 (a12 + (1 : Int)))) (fun (a13 : Int) => (bindO (some (IntKind.wrap .i64 (a11 * a13))) (fun (a14 : Int) => (cond (decide (a10 > a14)) (bindO (some (IntKind.wrap .i64 (s6.2 + (1 : Int)))) (fun (a15 : Int) => (again5 (s6.2, a15)))) (bindO (some (IntKind.wrap .i64 (s6.2 + (1 : Int)))) (fun (a16 : Int) => (again5 (s6.1, a16))))))))))))))))))))) (bindO (getI s4.2 s6.1) (fun (a17 : Int) => (bindO (some (IntKind.wrap .i64 (a17 + (1 : Int)))) (fun (a18 : Int) => (bindO (getI s4.2 s6.1) (fun (a19 : Int) => (bindO (some (List.set s4.2 (Int.toNat s6.1) a18)) (fun (a20 : (List Int)) => (bindO (some (IntKind.wrap .i64 (s4.1 - (1 : Int)))) (fun (a21 : Int) => (again3 (a21, a20))))))))))))))) ((0 : Int), (0 : Int))) (some (s4.2, true))))) (x.2, (List.replicate (Int.toNat (((List.length x.1) : Nat) : Int)) (0 : Int))))))))))))

noncomputable def c_S_DivisorSeats : Con0 := ⟨pk_S_DivisorSeats, rk_S_DivisorSeats, M_S_DivisorSeats⟩

set_option maxRecDepth 100000 in
theorem eq_S_DivisorSeats (x : In pk_S_DivisorSeats) : semF (mkE [(60, c_S_tCounts), (61, c_S_l1In)]) h_S_DivisorSeats (info Try.f41) pk_S_DivisorSeats rk_S_DivisorSeats x = M_S_DivisorSeats x := (semFF_eq _ _ _ _ _ _).symm.trans (by kernel_rfl)

set_option maxRecDepth 100000 in
theorem m_S_DivisorSeats : ConOK Try.prog 41 c_S_DivisorSeats := fn_ok (tyOK _) (E := mkE [(60, c_S_tCounts), (61, c_S_l1In)]) (consOK_cons m_S_tCounts (consOK_cons m_S_l1In (consOK_nil rfl))) Try.func41 (h := h_S_DivisorSeats) (by kernel_rfl) eq_S_DivisorSeats

/-- L_sameInts -/
def pk_L_sameInts : List PK := [.data (.sl (.int .i64)), .data (.sl (.int .i64))]
def rk_L_sameInts : List (Ty × Bool) := [(.bool, false)]
def h_L_sameInts : Hints := { loops := [(0, { items := [.slot 13 (.data (.int .i64) [])], kill := sgN 2 10 ++ (sgN 14 12) })] }
noncomputable def M_L_sameInts (x : ((List Int) × (List Int))) : (Option Bool) :=
  (cond ((((List.length x.1) : Nat) : Int) != (((List.length x.2) : Nat) : Int)) (some false) (loopO (fun (again0 : (Int → (Option Bool))) => (fun (s1 : Int) => (cond (decide (s1 < (((List.length x.1) : Nat) : Int))) (bindO (getI x.1 s1) (fun (a2 : Int) => (bindO (getI x.2 s1) (fun (a3 : Int) => (cond (a2 != a3) (some false) (bindO (some (IntKind.wrap .i64 (s1 + (1 : Int)))) (fun (a4 : Int) => (again0 a4)))))))) (some true)))) (0 : Int)))

noncomputable def c_L_sameInts : Con0 := ⟨pk_L_sameInts, rk_L_sameInts, M_L_sameInts⟩

set_option maxRecDepth 100000 in
theorem eq_L_sameInts (x : In pk_L_sameInts) : semF (mkE []) h_L_sameInts (info Try.f42) pk_L_sameInts rk_L_sameInts x = M_L_sameInts x := (semFF_eq _ _ _ _ _ _).symm.trans (by kernel_rfl)

set_option maxRecDepth 100000 in
theorem m_L_sameInts : ConOK Try.prog 42 c_L_sameInts := fn_ok (tyOK _) (E := mkE []) (consOK_nil rfl) Try.func42 (h := h_L_sameInts) (by kernel_rfl) eq_L_sameInts

/-- S_DrawTopOptions -/
def pk_S_DrawTopOptions : List PK := [.data (.sl (.int .u8))]
def rk_S_DrawTopOptions : List (Ty × Bool) := [((.sl (.int .i64)), true), ((.int .i64), false)]
def h_S_DrawTopOptions : Hints := { loops := [] }
noncomputable def M_S_DrawTopOptions (x : (List Int)) : (Option ((List Int) × Int)) :=
  (bindO (M_S_l1Cur_counts (x, ((0 : Int), (0 : Int)))) (fun (a0 : ((List Int) × ((List Int) × (Int × Int)))) => (bindO (some (IntKind.wrap .i64 ((((List.length a0.1) : Nat) : Int) + (2 : Int)))) (fun (a1 : Int) => (bindO (M_S_l1Cur_pick ((a0.2.1, (a0.2.2.1, a0.2.2.2)), a1)) (fun (a2 : (Int × ((List Int) × (Int × Int)))) => (some (a0.1, a2.1))))))))

noncomputable def c_S_DrawTopOptions : Con0 := ⟨pk_S_DrawTopOptions, rk_S_DrawTopOptions, M_S_DrawTopOptions⟩

set_option maxRecDepth 100000 in
theorem eq_S_DrawTopOptions (x : In pk_S_DrawTopOptions) : semF (mkE [(95, c_S_l1Cur_counts), (97, c_S_l1Cur_pick)]) h_S_DrawTopOptions (info Try.f43) pk_S_DrawTopOptions rk_S_DrawTopOptions x = M_S_DrawTopOptions x := (semFF_eq _ _ _ _ _ _).symm.trans (by kernel_rfl)

set_option maxRecDepth 100000 in
theorem m_S_DrawTopOptions : ConOK Try.prog 43 c_S_DrawTopOptions := fn_ok (tyOK _) (E := mkE [(95, c_S_l1Cur_counts), (97, c_S_l1Cur_pick)]) (consOK_cons m_S_l1Cur_counts (consOK_cons m_S_l1Cur_pick (consOK_nil rfl))) Try.func43 (h := h_S_DrawTopOptions) (by kernel_rfl) eq_S_DrawTopOptions

/-- slices_insertionSortCmpFunc_int -/
def pk_slices_insertionSortCmpFunc_int : List PK := [.mv (.sl (.int .i64)), .data (.int .i64), .data (.int .i64), .fn [(.int .i64), (.int .i64)] (.int .i64)]
def rk_slices_insertionSortCmpFunc_int : List (Ty × Bool) := []
def h_slices_insertionSortCmpFunc_int : Hints := { loops := [(0, { items := [.slot 8 (.data (.int .i64) []), .arr 0 (.int .i64) true], kill := sgN 4 4 ++ (sgN 9 44) }), (2, { items := [.slot 9 (.data (.int .i64) []), .arr 0 (.int .i64) true], kill := sgN 4 4 ++ (sgN 10 43) })] }
noncomputable def M_slices_insertionSortCmpFunc_int (x : ((List Int) × (Int × (Int × ((Int × Int) → (Option Int)))))) : (Option (List Int)) :=
  (bindO (some (IntKind.wrap .i64 (x.2.1 + (1 : Int)))) (fun (a0 : Int) => (loopO (fun (again1 : ((Int × (List Int)) → (Option (List Int)))) => (fun (s2 : (Int × (List Int))) => (cond (decide (s2.1 < x.2.2.1)) (loopO (fun (again3 : ((Int × (List Int)) → (Option (List Int)))) => (fun (s4 : (Int × (List Int))) => (cond (decide (s4.1 > x.2.1)) (bindO (getI s4.2 s4.1) (fun (a5 : Int) => (bindO (some (IntKind.wrap .i64 (s4.1 - (1 : Int)))) (fun (a6 : Int) => (bindO (getI s4.2 a6) (fun (a7 : Int) => (bindO (x.2.2.2 (a5, a7)) (fun (a8 : Int) => (cond (decide (a8 < (0 : Int))) (bindO (some (IntKind.wrap .i64 (s4.1 - (1 : Int)))) (fun (a9 : Int) => (bindO (some (IntKind.wrap .i64 (s4.1 - (1 : Int)))) (fun (a10 : Int) => (bindO (getI s4.2 a10) (fun (a11 : Int) => (bindO (getI s4.2 s4.1) (fun (a12 : Int) => (bindO (getI s4.2 s4.1) (fun (a13 : Int) => (bindO (some (List.set s4.2 (Int.toNat s4.1) a11)) (fun (a14 : (List Int)) => (bindO (getI a14 a9) (fun (a15 : Int) => (bindO (some (List.set a14 (Int.toNat a9) a12)) (fun (a16 : (List Int)) => (bindO (some (IntKind.wrap .i64 (s4.1 - (1 : Int)))) (fun (a17 : Int) => (again3 (a17, a16)))))))))))))))))))) (bindO (some (IntKind.wrap .i64 (s2.1 + (1 : Int)))) (fun (a18 : Int) => (again1 (a18, s4.2))))))))))))) (bindO (some (IntKind.wrap .i64 (s2.1 + (1 : Int)))) (fun (a19 : Int) => (again1 (a19, s4.2))))))) (s2.1, s2.2)) (some s2.2)))) (a0, x.1))))

noncomputable def c_slices_insertionSortCmpFunc_int : Con0 := ⟨pk_slices_insertionSortCmpFunc_int, rk_slices_insertionSortCmpFunc_int, M_slices_insertionSortCmpFunc_int⟩

set_option maxRecDepth 100000 in
theorem eq_slices_insertionSortCmpFunc_int (x : In pk_slices_insertionSortCmpFunc_int) : semF (mkE []) h_slices_insertionSortCmpFunc_int (info Try.f164) pk_slices_insertionSortCmpFunc_int rk_slices_insertionSortCmpFunc_int x = M_slices_insertionSortCmpFunc_int x := (semFF_eq _ _ _ _ _ _).symm.trans (by kernel_rfl)

set_option maxRecDepth 100000 in
theorem m_slices_insertionSortCmpFunc_int : ConOK Try.prog 164 c_slices_insertionSortCmpFunc_int := fn_ok (tyOK _) (E := mkE []) (consOK_nil rfl) Try.func164 (h := h_slices_insertionSortCmpFunc_int) (by kernel_rfl) eq_slices_insertionSortCmpFunc_int

/-- slices_swapRangeCmpFunc_int -/
def pk_slices_swapRangeCmpFunc_int : List PK := [.mv (.sl (.int .i64)), .data (.int .i64), .data (.int .i64), .data (.int .i64), .fn [(.int .i64), (.int .i64)] (.int .i64)]
def rk_slices_swapRangeCmpFunc_int : List (Ty × Bool) := []
def h_slices_swapRangeCmpFunc_int : Hints := { loops := [(0, { items := [.slot 10 (.data (.int .i64) []), .arr 0 (.int .i64) true], kill := sgN 4 6 ++ (sgN 11 27) })] }
noncomputable def M_slices_swapRangeCmpFunc_int (x : ((List Int) × (Int × (Int × (Int × ((Int × Int) → (Option Int))))))) : (Option (List Int)) :=
  (loopO (fun (again0 : ((Int × (List Int)) → (Option (List Int)))) => (fun (s1 : (Int × (List Int))) => (cond (decide (s1.1 < x.2.2.2.1)) (bindO (some (IntKind.wrap .i64 (x.2.1 + s1.1))) (fun (a2 : Int) => (bindO (some (IntKind.wrap .i64 (x.2.2.1 + s1.1))) (fun (a3 : Int) => (bindO (some (IntKind.wrap .i64 (x.2.2.1 + s1.1))) (fun (a4 : Int) => (bindO (getI s1.2 a4) (fun (a5 : Int) => (bindO (some (IntKind.wrap .i64 (x.2.1 + s1.1))) (fun (a6 : Int) => (bindO (getI s1.2 a6) (fun (a7 : Int) => (bindO (getI s1.2 a2) (fun (a8 : Int) => (bindO (some (List.set s1.2 (Int.toNat a2) a5)) (fun (a9 : (List Int)) => (bindO (getI a9 a3) (fun (a10 : Int) => (bindO (some (List.set a9 (Int.toNat a3) a7)) (fun (a11 : (List Int)) => (bindO (some (IntKind.wrap .i64 (s1.1 + (1 : Int)))) (fun (a12 : Int) => (again0 (a12, a11)))))))))))))))))))))))) (some s1.2)))) ((0 : Int), x.1))

noncomputable def c_slices_swapRangeCmpFunc_int : Con0 := ⟨pk_slices_swapRangeCmpFunc_int, rk_slices_swapRangeCmpFunc_int, M_slices_swapRangeCmpFunc_int⟩

set_option maxRecDepth 100000 in
theorem eq_slices_swapRangeCmpFunc_int (x : In pk_slices_swapRangeCmpFunc_int) : semF (mkE []) h_slices_swapRangeCmpFunc_int (info Try.f178) pk_slices_swapRangeCmpFunc_int rk_slices_swapRangeCmpFunc_int x = M_slices_swapRangeCmpFunc_int x := (semFF_eq _ _ _ _ _ _).symm.trans (by kernel_rfl)

set_option maxRecDepth 100000 in
theorem m_slices_swapRangeCmpFunc_int : ConOK Try.prog 178 c_slices_swapRangeCmpFunc_int := fn_ok (tyOK _) (E := mkE []) (consOK_nil rfl) Try.func178 (h := h_slices_swapRangeCmpFunc_int) (by kernel_rfl) eq_slices_swapRangeCmpFunc_int

/-- slices_rotateCmpFunc_int -/
def pk_slices_rotateCmpFunc_int : List PK := [.mv (.sl (.int .i64)), .data (.int .i64), .data (.int .i64), .data (.int .i64), .fn [(.int .i64), (.int .i64)] (.int .i64)]
def rk_slices_rotateCmpFunc_int : List (Ty × Bool) := []
def h_slices_rotateCmpFunc_int : Hints := { loops := [(0, { items := [.slot 10 (.data (.int .i64) []), .slot 11 (.data (.int .i64) []), .arr 0 (.int .i64) true], kill := [1, 3] ++ (sgN 5 5 ++ (sgN 12 46)) })] }
noncomputable def M_slices_rotateCmpFunc_int (x : ((List Int) × (Int × (Int × (Int × ((Int × Int) → (Option Int))))))) : (Option (List Int)) :=
  (bindO (some (IntKind.wrap .i64 (x.2.2.1 - x.2.1))) (fun (a0 : Int) => (bindO (some (IntKind.wrap .i64 (x.2.2.2.1 - x.2.2.1))) (fun (a1 : Int) => (loopO (fun (again2 : ((Int × (Int × (List Int))) → (Option (List Int)))) => (fun (s3 : (Int × (Int × (List Int)))) => (cond (s3.1 != s3.2.1) (cond (decide (s3.1 > s3.2.1)) (bindO (some (IntKind.wrap .i64 (x.2.2.1 - s3.1))) (fun (a4 : Int) => (bindO (M_slices_swapRangeCmpFunc_int (s3.2.2, (a4, (x.2.2.1, (s3.2.1, x.2.2.2.2))))) (fun (a5 : (List Int)) => (bindO (some (IntKind.wrap .i64 (s3.1 - s3.2.1))) (fun (a6 : Int) => (again2 (a6, (s3.2.1, a5))))))))) (bindO (some (IntKind.wrap .i64 (x.2.2.1 - s3.1))) (fun (a7 : Int) => (bindO (some (IntKind.wrap .i64 (x.2.2.1 + s3.2.1))) (fun (a8 : Int) => (bindO (some (IntKind.wrap .i64 (a8 - s3.1))) (fun (a9 : Int) => (bindO (M_slices_swapRangeCmpFunc_int (s3.2.2, (a7, (a9, (s3.1, x.2.2.2.2))))) (fun (a10 : (List Int)) => (bindO (some (IntKind.wrap .i64 (s3.2.1 - s3.1))) (fun (a11 : Int) => (again2 (s3.1, (a11, a10)))))))))))))) (bindO (some (IntKind.wrap .i64 (x.2.2.1 - s3.1))) (fun (a12 : Int) => (bindO (M_slices_swapRangeCmpFunc_int (s3.2.2, (a12, (x.2.2.1, (s3.1, x.2.2.2.2))))) (fun (a13 : (List Int)) => (some a13)))))))) (a0, (a1, x.1)))))))

noncomputable def c_slices_rotateCmpFunc_int : Con0 := ⟨pk_slices_rotateCmpFunc_int, rk_slices_rotateCmpFunc_int, M_slices_rotateCmpFunc_int⟩

set_option maxRecDepth 100000 in
theorem eq_slices_rotateCmpFunc_int (x : In pk_slices_rotateCmpFunc_int) : semF (mkE [(178, c_slices_swapRangeCmpFunc_int)]) h_slices_rotateCmpFunc_int (info Try.f177) pk_slices_rotateCmpFunc_int rk_slices_rotateCmpFunc_int x = M_slices_rotateCmpFunc_int x := (semFF_eq _ _ _ _ _ _).symm.trans (by kernel_rfl)

set_option maxRecDepth 100000 in
theorem m_slices_rotateCmpFunc_int : ConOK Try.prog 177 c_slices_rotateCmpFunc_int := fn_ok (tyOK _) (E := mkE [(178, c_slices_swapRangeCmpFunc_int)]) (consOK_cons m_slices_swapRangeCmpFunc_int (consOK_nil rfl)) Try.func177 (h := h_slices_rotateCmpFunc_int) (by kernel_rfl) eq_slices_rotateCmpFunc_int

/-- slices_symMergeCmpFunc_int -/
def pk_slices_symMergeCmpFunc_int : List PK := [.mv (.sl (.int .i64)), .data (.int .i64), .data (.int .i64), .data (.int .i64), .fn [(.int .i64), (.int .i64)] (.int .i64)]
def rk_slices_symMergeCmpFunc_int : List (Ty × Bool) := []
def h_slices_symMergeCmpFunc_int : Hints := { loops := [(0, { items := [.slot 10 (.data (.int .i64) []), .slot 11 (.data (.int .i64) [])], kill := [2, 3] ++ (sgN 5 5 ++ (sgN 12 208)) }), (2, { items := [.slot 13 (.data (.int .i64) []), .arr 0 (.int .i64) true], kill := sgN 1 9 ++ ([11, 12] ++ (sgN 14 206)) }), (4, { items := [.slot 14 (.data (.int .i64) []), .slot 15 (.data (.int .i64) [])], kill := [1, 3] ++ (sgN 5 9 ++ (sgN 16 204)) }), (6, { items := [.slot 17 (.data (.int .i64) []), .arr 0 (.int .i64) true], kill := sgN 1 13 ++ ([15, 16] ++ (sgN 18 202)) }), (8, { items := [.slot 20 (.data (.int .i64) []), .slot 21 (.data (.int .i64) [])], kill := sgN 5 13 ++ (sgN 23 197) })] }
noncomputable def R_slices_symMergeCmpFunc_int : Nat → ((List Int) × (Int × (Int × (Int × ((Int × Int) → (Option Int)))))) → (Option (List Int))
  | 0, _ => none
  | n + 1, x => (bindO (some (IntKind.wrap .i64 (x.2.2.1 - x.2.1))) (fun (a0 : Int) => (cond (a0 == (1 : Int)) (loopO (fun (again1 : ((Int × Int) → (Option (List Int)))) => (fun (s2 : (Int × Int)) => (cond (decide (s2.1 < s2.2)) (bindO (some (IntKind.wrap .i64 (s2.1 + s2.2))) (fun (a3 : Int) => (bindO (guardO (decide ((0 : Int) ≤ (1 : Int)))) (fun (a4 : Unit) => (bindO (some (shr .u64 (IntKind.wrap .u64 a3) (1 : Int))) (fun (a5 : Int) => (bindO (getI x.1 (IntKind.wrap .i64 a5)) (fun (a6 : Int) => (bindO (getI x.1 x.2.1) (fun (a7 : Int) => (bindO (x.2.2.2.2 (a6, a7)) (fun (a8 : Int) => (cond (decide (a8 < (0 : Int))) (bindO (some (IntKind.wrap .i64 ((IntKind.wrap .i64 a5) + (1 : Int)))) (fun (a9 : Int) => (again1 (a9, s2.2)))) (again1 (s2.1, (IntKind.wrap .i64 a5)))))))))))))))) (loopO (fun (again10 : ((Int × (List Int)) → (Option (List Int)))) => (fun (s11 : (Int × (List Int))) => (bindO (some (IntKind.wrap .i64 (s2.1 - (1 : Int)))) (fun (a12 : Int) => (cond (decide (s11.1 < a12)) (bindO (some (IntKind.wrap .i64 (s11.1 + (1 : Int)))) (fun (a13 : Int) => (bindO (some (IntKind.wrap .i64 (s11.1 + (1 : Int)))) (fun (a14 : Int) => (bindO (getI s11.2 a14) (fun (a15 : Int) => (bindO (getI s11.2 s11.1) (fun (a16 : Int) => (bindO (getI s11.2 s11.1) (fun (a17 : Int) => (bindO (some (List.set s11.2 (Int.toNat s11.1) a15)) (fun (a18 : (List Int)) => (bindO (getI a18 a13) (fun (a19 : Int) => (bindO (some (List.set a18 (Int.toNat a13) a16)) (fun (a20 : (List Int)) => (bindO (some (IntKind.wrap .i64 (s11.1 + (1 : Int)))) (fun (a21 : Int) => (again10 (a21, a20)))))))))))))))))))) (some s11.2)))))) (x.2.1, x.1))))) (x.2.2.1, x.2.2.2.1)) (bindO (some (IntKind.wrap .i64 (x.2.2.2.1 - x.2.2.1))) (fun (a22 : Int) => (cond (a22 == (1 : Int)) (loopO (fun (again23 : ((Int × Int) → (Option (List Int)))) => (fun (s24 : (Int × Int)) => (cond (decide (s24.1 < s24.2)) (bindO (some (IntKind.wrap .i64 (s24.1 + s24.2))) (fun (a25 : Int) => (bindO (guardO (decide ((0 : Int) ≤ (1 : Int)))) (fun (a26 : Unit) => (bindO (some (shr .u64 (IntKind.wrap .u64 a25) (1 : Int))) (fun (a27 : Int) => (bindO (getI x.1 x.2.2.1) (fun (a28 : Int) => (bindO (getI x.1 (IntKind.wrap .i64 a27)) (fun (a29 : Int) => (bindO (x.2.2.2.2 (a28, a29)) (fun (a30 : Int) => (cond (not (decide (a30 < (0 : Int)))) (bindO (some (IntKind.wrap .i64 ((IntKind.wrap .i64 a27) + (1 : Int)))) (fun (a31 : Int) => (again23 (a31, s24.2)))) (again23 (s24.1, (IntKind.wrap .i64 a27)))))))))))))))) (loopO (fun (again32 : ((Int × (List Int)) → (Option (List Int)))) => (fun (s33 : (Int × (List Int))) => (cond (decide (s33.1 > s24.1)) (bindO (some (IntKind.wrap .i64 (s33.1 - (1 : Int)))) (fun (a34 : Int) => (bindO (some (IntKind.wrap .i64 (s33.1 - (1 : Int)))) (fun (a35 : Int) => (bindO (getI s33.2 a35) (fun (a36 : Int) => (bindO (getI s33.2 s33.1) (fun (a37 : Int) => (bindO (getI s33.2 s33.1) (fun (a38 : Int) => (bindO (some (List.set s33.2 (Int.toNat s33.1) a36)) (fun (a39 : (List Int)) => (bindO (getI a39 a34) (fun (a40 : Int) => (bindO (some (List.set a39 (Int.toNat a34) a37)) (fun (a41 : (List Int)) => (bindO (some (IntKind.wrap .i64 (s33.1 - (1 : Int)))) (fun (a42 : Int) => (again32 (a42, a41)))))))))))))))))))) (some s33.2)))) (x.2.2.1, x.1))))) (x.2.1, x.2.2.1)) (bindO (some (IntKind.wrap .i64 (x.2.1 + x.2.2.2.1))) (fun (a43 : Int) => (bindO (guardO (decide ((0 : Int) ≤ (1 : Int)))) (fun (a44 : Unit) => (bindO (some (shr .u64 (IntKind.wrap .u64 a43) (1 : Int))) (fun (a45 : Int) => (bindO (some (IntKind.wrap .i64 ((IntKind.wrap .i64 a45) + x.2.2.1))) (fun (a46 : Int) => (cond (decide (x.2.2.1 > (IntKind.wrap .i64 a45))) (bindO (some (IntKind.wrap .i64 (a46 - x.2.2.2.1))) (fun (a47 : Int) => (bindO (some (IntKind.wrap .i64 (a46 - (1 : Int)))) (fun (a48 : Int) => (loopO (fun (again49 : ((Int × Int) → (Option (List Int)))) => (fun (s50 : (Int × Int)) => (cond (decide (s50.1 < s50.2)) (bindO (some (IntKind.wrap .i64 (s50.1 + s50.2))) (fun (a51 : Int) => (bindO (guardO (decide ((0 : Int) ≤ (1 : Int)))) (fun (a52 : Unit) => (bindO (some (shr .u64 (IntKind.wrap .u64 a51) (1 : Int))) (fun (a53 : Int) => (bindO (some (IntKind.wrap .i64 (a48 - (IntKind.wrap .i64 a53)))) (fun (a54 : Int) => (bindO (getI x.1 a54) (fun (a55 : Int) => (bindO (getI x.1 (IntKind.wrap .i64 a53)) (fun (a56 : Int) => (bindO (x.2.2.2.2 (a55, a56)) (fun (a57 : Int) => (cond (not (decide (a57 < (0 : Int)))) (bindO (some (IntKind.wrap .i64 ((IntKind.wrap .i64 a53) + (1 : Int)))) (fun (a58 : Int) => (again49 (a58, s50.2)))) (again49 (s50.1, (IntKind.wrap .i64 a53)))))))))))))))))) (bindO (some (IntKind.wrap .i64 (a46 - s50.1))) (fun (a59 : Int) => (cond (decide (s50.1 < x.2.2.1)) (cond (decide (x.2.2.1 < a59)) (bindO (M_slices_rotateCmpFunc_int (x.1, (s50.1, (x.2.2.1, (a59, x.2.2.2.2))))) (fun (a60 : (List Int)) => (cond (decide (x.2.1 < s50.1)) (cond (decide (s50.1 < (IntKind.wrap .i64 a45))) (bindO (R_slices_symMergeCmpFunc_int n (a60, (x.2.1, (s50.1, ((IntKind.wrap .i64 a45), x.2.2.2.2))))) (fun (a61 : (List Int)) => (cond (decide ((IntKind.wrap .i64 a45) < a59)) (cond (decide (a59 < x.2.2.2.1)) (bindO (R_slices_symMergeCmpFunc_int n (a61, ((IntKind.wrap .i64 a45), (a59, (x.2.2.2.1, x.2.2.2.2))))) (fun (a62 : (List Int)) => (some a62))) (some a61)) (some a61)))) (cond (decide ((IntKind.wrap .i64 a45) < a59)) (cond (decide (a59 < x.2.2.2.1)) (bindO (R_slices_symMergeCmpFunc_int n (a60, ((IntKind.wrap .i64 a45), (a59, (x.2.2.2.1, x.2.2.2.2))))) (fun (a63 : (List Int)) => (some a63))) (some a60)) (some a60))) (cond (decide ((IntKind.wrap .i64 a45) < a59)) (cond (decide (a59 < x.2.2.2.1)) (bindO (R_slices_symMergeCmpFunc_int n (a60, ((IntKind.wrap .i64 a45), (a59, (x.2.2.2.1, x.2.2.2.2))))) (fun (a64 : (List Int)) => (some a64))) (some a60)) (some a60))))) (cond (decide (x.2.1 < s50.1)) (cond (decide (s50.1 < (IntKind.wrap .i64 a45))) (bindO (R_slices_symMergeCmpFunc_int n (x.1, (x.2.1, (s50.1, ((IntKind.wrap .i64 a45), x.2.2.2.2))))) (fun (a65 : (List Int)) => (cond (decide ((IntKind.wrap .i64 a45) < a59)) (cond (decide (a59 < x.2.2.2.1)) (bindO (R_slices_symMergeCmpFunc_int n (a65, ((IntKind.wrap .i64 a45), (a59, (x.2.2.2.1, x.2.2.2.2))))) (fun (a66 : (List Int)) => (some a66))) (some a65)) (some a65)))) (cond (decide ((IntKind.wrap .i64 a45) < a59)) (cond (decide (a59 < x.2.2.2.1)) (bindO (R_slices_symMergeCmpFunc_int n (x.1, ((IntKind.wrap .i64 a45), (a59, (x.2.2.2.1, x.2.2.2.2))))) (fun (a67 : (List Int)) => (some a67))) (some x.1)) (some x.1))) (cond (decide ((IntKind.wrap .i64 a45) < a59)) (cond (decide (a59 < x.2.2.2.1)) (bindO (R_slices_symMergeCmpFunc_int n (x.1, ((IntKind.wrap .i64 a45), (a59, (x.2.2.2.1, x.2.2.2.2))))) (fun (a68 : (List Int)) => (some a68))) (some x.1)) (some x.1)))) (cond (decide (x.2.1 < s50.1)) (cond (decide (s50.1 < (IntKind.wrap .i64 a45))) (bindO (R_slices_symMergeCmpFunc_int n (x.1, (x.2.1, (s50.1, ((IntKind.wrap .i64 a45), x.2.2.2.2))))) (fun (a69 : (List Int)) => (cond (decide ((IntKind.wrap .i64 a45) < a59)) (cond (decide (a59 < x.2.2.2.1)) (bindO (R_slices_symMergeCmpFunc_int n (a69, ((IntKind.wrap .i64 a45), (a59, (x.2.2.2.1, x.2.2.2.2))))) (fun (a70 : (List Int)) => (some a70))) (some a69)) (some a69)))) (cond (decide ((IntKind.wrap .i64 a45) < a59)) (cond (decide (a59 < x.2.2.2.1)) (bindO (R_slices_symMergeCmpFunc_int n (x.1, ((IntKind.wrap .i64 a45), (a59, (x.2.2.2.1, x.2.2.2.2))))) (fun (a71 : (List Int)) => (some a71))) (some x.1)) (some x.1))) (cond (decide ((IntKind.wrap .i64 a45) < a59)) (cond (decide (a59 < x.2.2.2.1)) (bindO (R_slices_symMergeCmpFunc_int n (x.1, ((IntKind.wrap .i64 a45), (a59, (x.2.2.2.1, x.2.2.2.2))))) (fun (a72 : (List Int)) => (some a72))) (some x.1)) (some x.1))))))))) (a47, (IntKind.wrap .i64 a45))))))) (bindO (some (IntKind.wrap .i64 (a46 - (1 : Int)))) (fun (a73 : Int) => (loopO (fun (again74 : ((Int × Int) → (Option (List Int)))) => (fun (s75 : (Int × Int)) => (cond (decide (s75.1 < s75.2)) (bindO (some (IntKind.wrap .i64 (s75.1 + s75.2))) (fun (a76 : Int) => (bindO (guardO (decide ((0 : Int) ≤ (1 : Int)))) (fun (a77 : Unit) => (bindO (some (shr .u64 (IntKind.wrap .u64 a76) (1 : Int))) (fun (a78 : Int) => (bindO (some (IntKind.wrap .i64 (a73 - (IntKind.wrap .i64 a78)))) (fun (a79 : Int) => (bindO (getI x.1 a79) (fun (a80 : Int) => (bindO (getI x.1 (IntKind.wrap .i64 a78)) (fun (a81 : Int) => (bindO (x.2.2.2.2 (a80, a81)) (fun (a82 : Int) => (cond (not (decide (a82 < (0 : Int)))) (bindO (some (IntKind.wrap .i64 ((IntKind.wrap .i64 a78) + (1 : Int)))) (fun (a83 : Int) => (again74 (a83, s75.2)))) (again74 (s75.1, (IntKind.wrap .i64 a78)))))))))))))))))) (bindO (some (IntKind.wrap .i64 (a46 - s75.1))) (fun (a84 : Int) => (cond (decide (s75.1 < x.2.2.1)) (cond (decide (x.2.2.1 < a84)) (bindO (M_slices_rotateCmpFunc_int (x.1, (s75.1, (x.2.2.1, (a84, x.2.2.2.2))))) (fun (a85 : (List Int)) => (cond (decide (x.2.1 < s75.1)) (cond (decide (s75.1 < (IntKind.wrap .i64 a45))) (bindO (R_slices_symMergeCmpFunc_int n (a85, (x.2.1, (s75.1, ((IntKind.wrap .i64 a45), x.2.2.2.2))))) (fun (a86 : (List Int)) => (cond (decide ((IntKind.wrap .i64 a45) < a84)) (cond (decide (a84 < x.2.2.2.1)) (bindO (R_slices_symMergeCmpFunc_int n (a86, ((IntKind.wrap .i64 a45), (a84, (x.2.2.2.1, x.2.2.2.2))))) (fun (a87 : (List Int)) => (some a87))) (some a86)) (some a86)))) (cond (decide ((IntKind.wrap .i64 a45) < a84)) (cond (decide (a84 < x.2.2.2.1)) (bindO (R_slices_symMergeCmpFunc_int n (a85, ((IntKind.wrap .i64 a45), (a84, (x.2.2.2.1, x.2.2.2.2))))) (fun (a88 : (List Int)) => (some a88))) (some a85)) (some a85))) (cond (decide ((IntKind.wrap .i64 a45) < a84)) (cond (decide (a84 < x.2.2.2.1)) (bindO (R_slices_symMergeCmpFunc_int n (a85, ((IntKind.wrap .i64 a45), (a84, (x.2.2.2.1, x.2.2.2.2))))) (fun (a89 : (List Int)) => (some a89))) (some a85)) (some a85))))) (cond (decide (x.2.1 < s75.1)) (cond (decide (s75.1 < (IntKind.wrap .i64 a45))) (bindO (R_slices_symMergeCmpFunc_int n (x.1, (x.2.1, (s75.1, ((IntKind.wrap .i64 a45), x.2.2.2.2))))) (fun (a90 : (List Int)) => (cond (decide ((IntKind.wrap .i64 a45) < a84)) (cond (decide (a84 < x.2.2.2.1)) (bindO (R_slices_symMergeCmpFunc_int n (a90, ((IntKind.wrap .i64 a45), (a84, (x.2.2.2.1, x.2.2.2.2))))) (fun (a91 : (List Int)) => (some a91))) (some a90)) (some a90)))) (cond (decide ((IntKind.wrap .i64 a45) < a84)) (cond (decide (a84 < x.2.2.2.1)) (bindO (R_slices_symMergeCmpFunc_int n (x.1, ((IntKind.wrap .i64 a45), (a84, (x.2.2.2.1, x.2.2.2.2))))) (fun (a92 : (List Int)) => (some a92))) (some x.1)) (some x.1))) (cond (decide ((IntKind.wrap .i64 a45) < a84)) (cond (decide (a84 < x.2.2.2.1)) (bindO (R_slices_symMergeCmpFunc_int n (x.1, ((IntKind.wrap .i64 a45), (a84, (x.2.2.2.1, x.2.2.2.2))))) (fun (a93 : (List Int)) => (some a93))) (some x.1)) (some x.1)))) (cond (decide (x.2.1 < s75.1)) (cond (decide (s75.1 < (IntKind.wrap .i64 a45))) (bindO (R_slices_symMergeCmpFunc_int n (x.1, (x.2.1, (s75.1, ((IntKind.wrap .i64 a45), x.2.2.2.2))))) (fun (a94 : (List Int)) => (cond (decide ((IntKind.wrap .i64 a45) < a84)) (cond (decide (a84 < x.2.2.2.1)) (bindO (R_slices_symMergeCmpFunc_int n (a94, ((IntKind.wrap .i64 a45), (a84, (x.2.2.2.1, x.2.2.2.2))))) (fun (a95 : (List Int)) => (some a95))) (some a94)) (some a94)))) (cond (decide ((IntKind.wrap .i64 a45) < a84)) (cond (decide (a84 < x.2.2.2.1)) (bindO (R_slices_symMergeCmpFunc_int n (x.1, ((IntKind.wrap .i64 a45), (a84, (x.2.2.2.1, x.2.2.2.2))))) (fun (a96 : (List Int)) => (some a96))) (some x.1)) (some x.1))) (cond (decide ((IntKind.wrap .i64 a45) < a84)) (cond (decide (a84 < x.2.2.2.1)) (bindO (R_slices_symMergeCmpFunc_int n (x.1, ((IntKind.wrap .i64 a45), (a84, (x.2.2.2.1, x.2.2.2.2))))) (fun (a97 : (List Int)) => (some a97))) (some x.1)) (some x.1))))))))) (x.2.1, x.2.2.1)))))))))))))))))))

noncomputable def M_slices_symMergeCmpFunc_int (x : ((List Int) × (Int × (Int × (Int × ((Int × Int) → (Option Int))))))) : (Option (List Int)) := limO R_slices_symMergeCmpFunc_int x

noncomputable def c_slices_symMergeCmpFunc_int : Con0 := ⟨pk_slices_symMergeCmpFunc_int, rk_slices_symMergeCmpFunc_int, M_slices_symMergeCmpFunc_int⟩

set_option maxRecDepth 100000 in
theorem eq_slices_symMergeCmpFunc_int (n : Nat) (x : In pk_slices_symMergeCmpFunc_int) : semF (mkE ((165, ⟨pk_slices_symMergeCmpFunc_int, rk_slices_symMergeCmpFunc_int, R_slices_symMergeCmpFunc_int n⟩) :: [(177, c_slices_rotateCmpFunc_int)])) h_slices_symMergeCmpFunc_int (info Try.f165) pk_slices_symMergeCmpFunc_int rk_slices_symMergeCmpFunc_int x = R_slices_symMergeCmpFunc_int (n + 1) x := (semFF_eq _ _ _ _ _ _).symm.trans (by kernel_rfl)

set_option maxRecDepth 100000 in
theorem mR_slices_symMergeCmpFunc_int : ∀ n, ConOK Try.prog 165 ⟨pk_slices_symMergeCmpFunc_int, rk_slices_symMergeCmpFunc_int, R_slices_symMergeCmpFunc_int n⟩
  | 0 => conOK_none Try.func165 (h := h_slices_symMergeCmpFunc_int) (by kernel_rfl)
  | n + 1 => fn_ok (tyOK _) (E := mkE ((165, ⟨pk_slices_symMergeCmpFunc_int, rk_slices_symMergeCmpFunc_int, R_slices_symMergeCmpFunc_int n⟩) :: [(177, c_slices_rotateCmpFunc_int)])) (consOK_cons (mR_slices_symMergeCmpFunc_int n) (consOK_cons m_slices_rotateCmpFunc_int (consOK_nil rfl))) Try.func165 (h := h_slices_symMergeCmpFunc_int) (by kernel_rfl) (eq_slices_symMergeCmpFunc_int n)

theorem m_slices_symMergeCmpFunc_int : ConOK Try.prog 165 c_slices_symMergeCmpFunc_int := conOK_lim mR_slices_symMergeCmpFunc_int

/-- slices_stableCmpFunc_int -/
def pk_slices_stableCmpFunc_int : List PK := [.mv (.sl (.int .i64)), .data (.int .i64), .fn [(.int .i64), (.int .i64)] (.int .i64)]
def rk_slices_stableCmpFunc_int : List (Ty × Bool) := []
def h_slices_stableCmpFunc_int : Hints := { loops := [(0, { items := [.slot 7 (.data (.int .i64) []), .slot 8 (.data (.int .i64) []), .arr 0 (.int .i64) true], kill := [3, 4, 5] ++ (sgN 9 54) }), (2, { items := [.slot 6 (.data (.int .i64) []), .arr 0 (.int .i64) true], kill := [3, 4, 5] ++ (sgN 7 56) }), (4, { items := [.slot 7 (.data (.int .i64) []), .slot 8 (.data (.int .i64) []), .arr 0 (.int .i64) true], kill := [3, 4, 5] ++ (sgN 9 54) })] }
noncomputable def M_slices_stableCmpFunc_int (x : ((List Int) × (Int × ((Int × Int) → (Option Int))))) : (Option (List Int)) :=
  (loopO (fun (again0 : ((Int × (Int × (List Int))) → (Option (List Int)))) => (fun (s1 : (Int × (Int × (List Int)))) => (cond (decide (s1.2.1 ≤ x.2.1)) (bindO (M_slices_insertionSortCmpFunc_int (s1.2.2, (s1.1, (s1.2.1, x.2.2)))) (fun (a2 : (List Int)) => (bindO (some (IntKind.wrap .i64 (s1.2.1 + (20 : Int)))) (fun (a3 : Int) => (again0 (s1.2.1, (a3, a2))))))) (bindO (M_slices_insertionSortCmpFunc_int (s1.2.2, (s1.1, (x.2.1, x.2.2)))) (fun (a4 : (List Int)) => (loopO (fun (again5 : ((Int × (List Int)) → (Option (List Int)))) => (fun (s6 : (Int × (List Int))) => (cond (decide (s6.1 < x.2.1)) (bindO (some (IntKind.wrap .i64 ((2 : Int) * s6.1))) (fun (a7 : Int) => (loopO (fun (again8 : ((Int × (Int × (List Int))) → (Option (List Int)))) => (fun (s9 : (Int × (Int × (List Int)))) => (cond (decide (s9.2.1 ≤ x.2.1)) (bindO (some (IntKind.wrap .i64 (s9.1 + s6.1))) (fun (a10 : Int) => (bindO (M_slices_symMergeCmpFunc_int (s9.2.2, (s9.1, (a10, (s9.2.1, x.2.2))))) (fun (a11 : (List Int)) => (bindO (some (IntKind.wrap .i64 ((2 : Int) * s6.1))) (fun (a12 : Int) => (bindO (some (IntKind.wrap .i64 (s9.2.1 + a12))) (fun (a13 : Int) => (again8 (s9.2.1, (a13, a11))))))))))) (bindO (some (IntKind.wrap .i64 (s9.1 + s6.1))) (fun (a14 : Int) => (cond (decide (a14 < x.2.1)) (bindO (M_slices_symMergeCmpFunc_int (s9.2.2, (s9.1, (a14, (x.2.1, x.2.2))))) (fun (a15 : (List Int)) => (bindO (some (IntKind.wrap .i64 (s6.1 * (2 : Int)))) (fun (a16 : Int) => (again5 (a16, a15)))))) (bindO (some (IntKind.wrap .i64 (s6.1 * (2 : Int)))) (fun (a17 : Int) => (again5 (a17, s9.2.2)))))))))) ((0 : Int), (a7, s6.2))))) (some s6.2)))) ((20 : Int), a4))))))) ((0 : Int), ((20 : Int), x.1)))

noncomputable def c_slices_stableCmpFunc_int : Con0 := ⟨pk_slices_stableCmpFunc_int, rk_slices_stableCmpFunc_int, M_slices_stableCmpFunc_int⟩

set_option maxRecDepth 100000 in
theorem eq_slices_stableCmpFunc_int (x : In pk_slices_stableCmpFunc_int) : semF (mkE [(164, c_slices_insertionSortCmpFunc_int), (165, c_slices_symMergeCmpFunc_int)]) h_slices_stableCmpFunc_int (info Try.f118) pk_slices_stableCmpFunc_int rk_slices_stableCmpFunc_int x = M_slices_stableCmpFunc_int x := (semFF_eq _ _ _ _ _ _).symm.trans (by kernel_rfl)

set_option maxRecDepth 100000 in
theorem m_slices_stableCmpFunc_int : ConOK Try.prog 118 c_slices_stableCmpFunc_int := fn_ok (tyOK _) (E := mkE [(164, c_slices_insertionSortCmpFunc_int), (165, c_slices_symMergeCmpFunc_int)]) (consOK_cons m_slices_insertionSortCmpFunc_int (consOK_cons m_slices_symMergeCmpFunc_int (consOK_nil rfl))) Try.func118 (h := h_slices_stableCmpFunc_int) (by kernel_rfl) eq_slices_stableCmpFunc_int

/-- slices_SortStableFunc_sint_int -/
def pk_slices_SortStableFunc_sint_int : List PK := [.mv (.sl (.int .i64)), .fn [(.int .i64), (.int .i64)] (.int .i64)]
def rk_slices_SortStableFunc_sint_int : List (Ty × Bool) := []
def h_slices_SortStableFunc_sint_int : Hints := { loops := [] }
noncomputable def M_slices_SortStableFunc_sint_int (x : ((List Int) × ((Int × Int) → (Option Int)))) : (Option (List Int)) :=
  (bindO (M_slices_stableCmpFunc_int (x.1, ((((List.length x.1) : Nat) : Int), x.2))) (fun (a0 : (List Int)) => (some a0)))

noncomputable def c_slices_SortStableFunc_sint_int : Con0 := ⟨pk_slices_SortStableFunc_sint_int, rk_slices_SortStableFunc_sint_int, M_slices_SortStableFunc_sint_int⟩

set_option maxRecDepth 100000 in
theorem eq_slices_SortStableFunc_sint_int (x : In pk_slices_SortStableFunc_sint_int) : semF (mkE [(118, c_slices_stableCmpFunc_int)]) h_slices_SortStableFunc_sint_int (info Try.f65) pk_slices_SortStableFunc_sint_int rk_slices_SortStableFunc_sint_int x = M_slices_SortStableFunc_sint_int x := (semFF_eq _ _ _ _ _ _).symm.trans (by kernel_rfl)

set_option maxRecDepth 100000 in
theorem m_slices_SortStableFunc_sint_int : ConOK Try.prog 65 c_slices_SortStableFunc_sint_int := fn_ok (tyOK _) (E := mkE [(118, c_slices_stableCmpFunc_int)]) (consOK_cons m_slices_stableCmpFunc_int (consOK_nil rfl)) Try.func65 (h := h_slices_SortStableFunc_sint_int) (by kernel_rfl) eq_slices_SortStableFunc_sint_int

/-- slices_Clone_sint_int -/
def pk_slices_Clone_sint_int : List PK := [.data (.sl (.int .i64))]
def rk_slices_Clone_sint_int : List (Ty × Bool) := [((.sl (.int .i64)), true)]
def h_slices_Clone_sint_int : Hints := { loops := [] }
noncomputable def M_slices_Clone_sint_int (x : (List Int)) : (Option (List Int)) :=
  (cond (List.isEmpty x) (ambO (some ([] : List Int)) (cond (not true) (some ([] : List Int)) (bindO (guardO (lenOk ((List.length ([] : List Int)) + (List.length x)))) (fun (a0 : Unit) => (bindO (some (([] : List Int) ++ x)) (fun (a1 : (List Int)) => (some a1))))))) (cond (not true) (some ([] : List Int)) (bindO (guardO (lenOk ((List.length ([] : List Int)) + (List.length x)))) (fun (a2 : Unit) => (bindO (some (([] : List Int) ++ x)) (fun (a3 : (List Int)) => (some a3)))))))

noncomputable def c_slices_Clone_sint_int : Con0 := ⟨pk_slices_Clone_sint_int, rk_slices_Clone_sint_int, M_slices_Clone_sint_int⟩

set_option maxRecDepth 100000 in
theorem eq_slices_Clone_sint_int (x : In pk_slices_Clone_sint_int) : semF (mkE []) h_slices_Clone_sint_int (info Try.f68) pk_slices_Clone_sint_int rk_slices_Clone_sint_int x = M_slices_Clone_sint_int x := (semFF_eq _ _ _ _ _ _).symm.trans (by kernel_rfl)

set_option maxRecDepth 100000 in
theorem m_slices_Clone_sint_int : ConOK Try.prog 68 c_slices_Clone_sint_int := fn_ok (tyOK _) (E := mkE []) (consOK_nil rfl) Try.func68 (h := h_slices_Clone_sint_int) (by kernel_rfl) eq_slices_Clone_sint_int

/-- cmp_isNaN_int -/
def pk_cmp_isNaN_int : List PK := [.data (.int .i64)]
def rk_cmp_isNaN_int : List (Ty × Bool) := [(.bool, false)]
def h_cmp_isNaN_int : Hints := { loops := [] }
noncomputable def M_cmp_isNaN_int (x : Int) : (Option Bool) :=
  (some (x != x))

noncomputable def c_cmp_isNaN_int : Con0 := ⟨pk_cmp_isNaN_int, rk_cmp_isNaN_int, M_cmp_isNaN_int⟩

set_option maxRecDepth 100000 in
theorem eq_cmp_isNaN_int (x : In pk_cmp_isNaN_int) : semF (mkE []) h_cmp_isNaN_int (info Try.f119) pk_cmp_isNaN_int rk_cmp_isNaN_int x = M_cmp_isNaN_int x := (semFF_eq _ _ _ _ _ _).symm.trans (by kernel_rfl)

set_option maxRecDepth 100000 in
theorem m_cmp_isNaN_int : ConOK Try.prog 119 c_cmp_isNaN_int := fn_ok (tyOK _) (E := mkE []) (consOK_nil rfl) Try.func119 (h := h_cmp_isNaN_int) (by kernel_rfl) eq_cmp_isNaN_int

/-- cmp_Compare_int -/
def pk_cmp_Compare_int : List PK := [.data (.int .i64), .data (.int .i64)]
def rk_cmp_Compare_int : List (Ty × Bool) := [((.int .i64), false)]
def h_cmp_Compare_int : Hints := { loops := [] }
noncomputable def M_cmp_Compare_int (x : (Int × Int)) : (Option Int) :=
  (bindO (M_cmp_isNaN_int x.1) (fun (a0 : Bool) => (bindO (M_cmp_isNaN_int x.2) (fun (a1 : Bool) => (cond a0 (cond a1 (some (0 : Int)) (some (- (1 : Int)))) (cond a1 (some (1 : Int)) (cond (decide (x.1 < x.2)) (some (- (1 : Int))) (cond (decide (x.1 > x.2)) (some (1 : Int)) (some (0 : Int))))))))))

noncomputable def c_cmp_Compare_int : Con0 := ⟨pk_cmp_Compare_int, rk_cmp_Compare_int, M_cmp_Compare_int⟩

set_option maxRecDepth 100000 in
theorem eq_cmp_Compare_int (x : In pk_cmp_Compare_int) : semF (mkE [(119, c_cmp_isNaN_int)]) h_cmp_Compare_int (info Try.f67) pk_cmp_Compare_int rk_cmp_Compare_int x = M_cmp_Compare_int x := (semFF_eq _ _ _ _ _ _).symm.trans (by kernel_rfl)

set_option maxRecDepth 100000 in
theorem m_cmp_Compare_int : ConOK Try.prog 67 c_cmp_Compare_int := fn_ok (tyOK _) (E := mkE [(119, c_cmp_isNaN_int)]) (consOK_cons m_cmp_isNaN_int (consOK_nil rfl)) Try.func67 (h := h_cmp_Compare_int) (by kernel_rfl) eq_cmp_Compare_int

/-- I_TopOptions_1 -/
def pk_I_TopOptions_1 : List PK := [.data (.int .i64), .data (.int .i64), .rp (.sl (.int .i64))]
def rk_I_TopOptions_1 : List (Ty × Bool) := [((.int .i64), false)]
def h_I_TopOptions_1 : Hints := { loops := [] }
noncomputable def M_I_TopOptions_1 (x : (Int × (Int × (List Int)))) : (Option Int) :=
  (bindO (getI x.2.2 x.2.1) (fun (a0 : Int) => (bindO (getI x.2.2 x.1) (fun (a1 : Int) => (bindO (M_cmp_Compare_int (a0, a1)) (fun (a2 : Int) => (some a2)))))))

noncomputable def c_I_TopOptions_1 : Con0 := ⟨pk_I_TopOptions_1, rk_I_TopOptions_1, M_I_TopOptions_1⟩

set_option maxRecDepth 100000 in
theorem eq_I_TopOptions_1 (x : In pk_I_TopOptions_1) : semF (mkE [(67, c_cmp_Compare_int)]) h_I_TopOptions_1 (info Try.f66) pk_I_TopOptions_1 rk_I_TopOptions_1 x = M_I_TopOptions_1 x := (semFF_eq _ _ _ _ _ _).symm.trans (by kernel_rfl)

set_option maxRecDepth 100000 in
theorem m_I_TopOptions_1 : ConOK Try.prog 66 c_I_TopOptions_1 := fn_ok (tyOK _) (E := mkE [(67, c_cmp_Compare_int)]) (consOK_cons m_cmp_Compare_int (consOK_nil rfl)) Try.func66 (h := h_I_TopOptions_1) (by kernel_rfl) eq_I_TopOptions_1

/-- I_TopOptions -/
def pk_I_TopOptions : List PK := [.data (.sl (.int .i64)), .data (.int .i64)]
def rk_I_TopOptions : List (Ty × Bool) := [((.sl (.int .i64)), true), (.bool, false)]
def h_I_TopOptions : Hints := { loops := [(0, { items := [.slot 6 (.own (.int .i64) true), .slot 21 (.data (.int .i64) [])], kill := [0, 3, 4, 5] ++ (sgN 7 13 ++ (sgN 22 14)) })] }
noncomputable def M_I_TopOptions (x : ((List Int) × Int)) : (Option ((List Int) × Bool)) :=
  (bindO (M_I_areCounts x.1) (fun (a0 : Bool) => (cond (not a0) (some (([] : List Int), false)) (bindO (M_I_within (x.2, ((1 : Int), (((List.length x.1) : Nat) : Int)))) (fun (a1 : Bool) => (cond (not a1) (some (([] : List Int), false)) (loopO (fun (again2 : (((List Int) × Int) → (Option ((List Int) × Bool)))) => (fun (s3 : ((List Int) × Int)) => (cond (decide (s3.2 < (((List.length x.1) : Nat) : Int))) (bindO (guardO (lenOk ((List.length s3.1) + (List.length (s3.2 :: ([] : List Int)))))) (fun (a4 : Unit) => (bindO (some (s3.1 ++ (s3.2 :: ([] : List Int)))) (fun (a5 : (List Int)) => (bindO (some (IntKind.wrap .i64 (s3.2 + (1 : Int)))) (fun (a6 : Int) => (again2 (a5, a6)))))))) (bindO (M_slices_SortStableFunc_sint_int (s3.1, (fun (a7 : (Int × Int)) => (bindO (M_I_TopOptions_1 (a7.1, (a7.2, x.1))) (fun (a8 : Int) => (some a8)))))) (fun (a9 : (List Int)) => (bindO (sliceNH x.2 (List.length a9)) (fun (a10 : (Nat × Nat)) => (bindO (M_slices_Clone_sint_int (List.take a10.2 a9)) (fun (a11 : (List Int)) => (some (a11, true))))))))))) (([] : List Int), (0 : Int)))))))))

noncomputable def c_I_TopOptions : Con0 := ⟨pk_I_TopOptions, rk_I_TopOptions, M_I_TopOptions⟩

set_option maxRecDepth 100000 in
theorem eq_I_TopOptions (x : In pk_I_TopOptions) : semF (mkE [(63, c_I_areCounts), (64, c_I_within), (65, c_slices_SortStableFunc_sint_int), (68, c_slices_Clone_sint_int), (66, c_I_TopOptions_1)]) h_I_TopOptions (info Try.f11) pk_I_TopOptions rk_I_TopOptions x = M_I_TopOptions x := (semFF_eq _ _ _ _ _ _).symm.trans (by kernel_rfl)

set_option maxRecDepth 100000 in
theorem m_I_TopOptions : ConOK Try.prog 11 c_I_TopOptions := fn_ok (tyOK _) (E := mkE [(63, c_I_areCounts), (64, c_I_within), (65, c_slices_SortStableFunc_sint_int), (68, c_slices_Clone_sint_int), (66, c_I_TopOptions_1)]) (consOK_cons m_I_areCounts (consOK_cons m_I_within (consOK_cons m_slices_SortStableFunc_sint_int (consOK_cons m_slices_Clone_sint_int (consOK_cons m_I_TopOptions_1 (consOK_nil rfl)))))) Try.func11 (h := h_I_TopOptions) (by kernel_rfl) eq_I_TopOptions

/-- S_l1Has -/
def pk_S_l1Has : List PK := [.data (.sl (.int .i64)), .data (.int .i64)]
def rk_S_l1Has : List (Ty × Bool) := [(.bool, false)]
def h_S_l1Has : Hints := { loops := [(0, { items := [.slot 9 (.data (.int .i64) [])], kill := [0] ++ (sgN 2 5 ++ (sgN 10 7)) })] }
noncomputable def M_S_l1Has (x : ((List Int) × Int)) : (Option Bool) :=
  (loopO (fun (again0 : (Int → (Option Bool))) => (fun (s1 : Int) => (cond (decide (s1 < (((List.length x.1) : Nat) : Int))) (bindO (getI x.1 s1) (fun (a2 : Int) => (cond (a2 == x.2) (some true) (bindO (some (IntKind.wrap .i64 (s1 + (1 : Int)))) (fun (a3 : Int) => (again0 a3)))))) (some false)))) (0 : Int))

noncomputable def c_S_l1Has : Con0 := ⟨pk_S_l1Has, rk_S_l1Has, M_S_l1Has⟩

set_option maxRecDepth 100000 in
theorem eq_S_l1Has (x : In pk_S_l1Has) : semF (mkE []) h_S_l1Has (info Try.f115) pk_S_l1Has rk_S_l1Has x = M_S_l1Has x := (semFF_eq _ _ _ _ _ _).symm.trans (by kernel_rfl)

set_option maxRecDepth 100000 in
theorem m_S_l1Has : ConOK Try.prog 115 c_S_l1Has := fn_ok (tyOK _) (E := mkE []) (consOK_nil rfl) Try.func115 (h := h_S_l1Has) (by kernel_rfl) eq_S_l1Has

/-- S_tTop -/
def pk_S_tTop : List PK := [.data (.sl (.int .i64)), .data (.int .i64)]
def rk_S_tTop : List (Ty × Bool) := [((.sl (.int .i64)), true)]
def h_S_tTop : Hints := { loops := [(0, { items := [.slot 5 (.own (.int .i64) true)], kill := [2, 3, 4] ++ (sgN 6 37) }), (2, { items := [.slot 6 (.data (.int .i64) []), .slot 15 (.data (.int .i64) [])], kill := [2, 3, 4] ++ (sgN 7 6 ++ (sgN 16 27)) })] }
noncomputable def M_S_tTop (x : ((List Int) × Int)) : (Option (List Int)) :=
  (loopO (fun (again0 : ((List Int) → (Option (List Int)))) => (fun (s1 : (List Int)) => (cond (decide ((((List.length s1) : Nat) : Int) < x.2)) (loopO (fun (again2 : ((Int × Int) → (Option (List Int)))) => (fun (s3 : (Int × Int)) => (cond (decide (s3.2 < (((List.length x.1) : Nat) : Int))) (bindO (getI x.1 s3.2) (fun (a4 : Int) => (bindO (M_S_l1Has (s1, s3.2)) (fun (a5 : Bool) => (cond (not a5) (cond (decide (s3.1 < (0 : Int))) (bindO (some (IntKind.wrap .i64 (s3.2 + (1 : Int)))) (fun (a6 : Int) => (again2 (s3.2, a6)))) (bindO (getI x.1 s3.1) (fun (a7 : Int) => (cond (decide (a4 > a7)) (bindO (some (IntKind.wrap .i64 (s3.2 + (1 : Int)))) (fun (a8 : Int) => (again2 (s3.2, a8)))) (bindO (some (IntKind.wrap .i64 (s3.2 + (1 : Int)))) (fun (a9 : Int) => (again2 (s3.1, a9)))))))) (bindO (some (IntKind.wrap .i64 (s3.2 + (1 : Int)))) (fun (a10 : Int) => (again2 (s3.1, a10))))))))) (bindO (guardO (lenOk ((List.length s1) + (List.length (s3.1 :: ([] : List Int)))))) (fun (a11 : Unit) => (bindO (some (s1 ++ (s3.1 :: ([] : List Int)))) (fun (a12 : (List Int)) => (again0 a12)))))))) ((- (1 : Int)), (0 : Int))) (some s1)))) ([] : List Int))

noncomputable def c_S_tTop : Con0 := ⟨pk_S_tTop, rk_S_tTop, M_S_tTop⟩

set_option maxRecDepth 100000 in
theorem eq_S_tTop (x : In pk_S_tTop) : semF (mkE [(115, c_S_l1Has)]) h_S_tTop (info Try.f62) pk_S_tTop rk_S_tTop x = M_S_tTop x := (semFF_eq _ _ _ _ _ _).symm.trans (by kernel_rfl)

set_option maxRecDepth 100000 in
theorem m_S_tTop : ConOK Try.prog 62 c_S_tTop := fn_ok (tyOK _) (E := mkE [(115, c_S_l1Has)]) (consOK_cons m_S_l1Has (consOK_nil rfl)) Try.func62 (h := h_S_tTop) (by kernel_rfl) eq_S_tTop

/-- S_TopOptions -/
def pk_S_TopOptions : List PK := [.data (.sl (.int .i64)), .data (.int .i64)]
def rk_S_TopOptions : List (Ty × Bool) := [((.sl (.int .i64)), true), (.bool, false)]
def h_S_TopOptions : Hints := { loops := [] }
noncomputable def M_S_TopOptions (x : ((List Int) × Int)) : (Option ((List Int) × Bool)) :=
  (bindO (M_S_tCounts x.1) (fun (a0 : Bool) => (cond (not a0) (some (([] : List Int), false)) (bindO (M_S_l1In (x.2, ((1 : Int), (((List.length x.1) : Nat) : Int)))) (fun (a1 : Bool) => (cond (not a1) (some (([] : List Int), false)) (bindO (M_S_tTop (x.1, x.2)) (fun (a2 : (List Int)) => (some (a2, true))))))))))

noncomputable def c_S_TopOptions : Con0 := ⟨pk_S_TopOptions, rk_S_TopOptions, M_S_TopOptions⟩

set_option maxRecDepth 100000 in
theorem eq_S_TopOptions (x : In pk_S_TopOptions) : semF (mkE [(60, c_S_tCounts), (61, c_S_l1In), (62, c_S_tTop)]) h_S_TopOptions (info Try.f9) pk_S_TopOptions rk_S_TopOptions x = M_S_TopOptions x := (semFF_eq _ _ _ _ _ _).symm.trans (by kernel_rfl)

set_option maxRecDepth 100000 in
theorem m_S_TopOptions : ConOK Try.prog 9 c_S_TopOptions := fn_ok (tyOK _) (E := mkE [(60, c_S_tCounts), (61, c_S_l1In), (62, c_S_tTop)]) (consOK_cons m_S_tCounts (consOK_cons m_S_l1In (consOK_cons m_S_tTop (consOK_nil rfl)))) Try.func9 (h := h_S_TopOptions) (by kernel_rfl) eq_S_TopOptions

/-- L_FnSeats -/
def pk_L_FnSeats : List PK := [.data (.sl (.int .u8)), .data (.sl (.int .u8))]
def rk_L_FnSeats : List (Ty × Bool) := [(.bool, false)]
def h_L_FnSeats : Hints := { loops := [(0, { items := [.slot 11 (.data (.int .i64) []), .slot 54 (.data (.int .i64) [])], kill := [0, 2, 3, 4, 7, 10] ++ (sgN 12 40 ++ (sgN 55 92)) }), (2, { items := [.slot 64 (.data (.int .i64) [])], kill := [0, 2, 3, 4, 7, 10] ++ (sgN 14 38 ++ (sgN 55 7 ++ (sgN 65 82))) }), (4, { items := [.slot 22 (.data (.int .i64) [])], kill := sgN 0 16 ++ ([18, 21] ++ (sgN 23 124)) })] }
noncomputable def M_L_FnSeats (x : ((List Int) × (List Int))) : (Option Bool) :=
  (bindO (M_L_big (x.1, x.2)) (fun (a0 : Bool) => (cond a0 (some true) (bindO (M_S_DrawDivisorSeats x.1) (fun (a1 : ((List Int) × Int)) => (bindO (M_I_DivisorSeats (a1.1, a1.2)) (fun (a2 : ((List Int) × Bool)) => (bindO (M_S_DivisorSeats (a1.1, a1.2)) (fun (a3 : ((List Int) × Bool)) => (cond (not (a2.2 == a3.2)) (some false) (bindO (M_L_sameInts (a2.1, a3.1)) (fun (a4 : Bool) => (cond (not a4) (some false) (loopO (fun (again5 : ((Int × Int) → (Option Bool))) => (fun (s6 : (Int × Int)) => (cond (decide (s6.2 < (((List.length a3.1) : Nat) : Int))) (bindO (getI a3.1 s6.2) (fun (a7 : Int) => (bindO (some (IntKind.wrap .i64 (s6.1 + a7))) (fun (a8 : Int) => (loopO (fun (again9 : (Int → (Option Bool))) => (fun (s10 : Int) => (cond (decide (s10 < (((List.length a3.1) : Nat) : Int))) (bindO (getI a3.1 s10) (fun (a11 : Int) => (bindO (getI a1.1 s6.2) (fun (a12 : Int) => (bindO (getI a1.1 s10) (fun (a13 : Int) => (cond (decide (a12 > a13)) (cond (decide (a7 < a11)) (some false) (bindO (some (IntKind.wrap .i64 (s10 + (1 : Int)))) (fun (a14 : Int) => (again9 a14)))) (bindO (some (IntKind.wrap .i64 (s10 + (1 : Int)))) (fun (a15 : Int) => (again9 a15)))))))))) (bindO (some (IntKind.wrap .i64 (s6.2 + (1 : Int)))) (fun (a16 : Int) => (again5 (a8, a16))))))) (0 : Int)))))) (cond a2.2 (cond (s6.1 != a1.2) (some false) (bindO (M_S_DrawTopOptions x.2) (fun (a17 : ((List Int) × Int)) => (bindO (M_I_TopOptions (a17.1, a17.2)) (fun (a18 : ((List Int) × Bool)) => (bindO (M_S_TopOptions (a17.1, a17.2)) (fun (a19 : ((List Int) × Bool)) => (cond (not (a18.2 == a19.2)) (some false) (bindO (M_L_sameInts (a18.1, a19.1)) (fun (a20 : Bool) => (cond (not a20) (some false) (loopO (fun (again21 : (Int → (Option Bool))) => (fun (s22 : Int) => (cond (decide (s22 < (((List.length a19.1) : Nat) : Int))) (bindO (some (IntKind.wrap .i64 (s22 - (1 : Int)))) (fun (a23 : Int) => (bindO (getI a19.1 a23) (fun (a24 : Int) => (bindO (getI a17.1 a24) (fun (a25 : Int) => (bindO (getI a19.1 s22) (fun (a26 : Int) => (bindO (getI a17.1 a26) (fun (a27 : Int) => (cond (decide (a25 < a27)) (some false) (bindO (some (IntKind.wrap .i64 (s22 + (1 : Int)))) (fun (a28 : Int) => (again21 a28)))))))))))))) (cond (not a18.2) (some true) (some ((((List.length a19.1) : Nat) : Int) == a17.2)))))) (1 : Int))))))))))))) (bindO (M_S_DrawTopOptions x.2) (fun (a29 : ((List Int) × Int)) => (bindO (M_I_TopOptions (a29.1, a29.2)) (fun (a30 : ((List Int) × Bool)) => (bindO (M_S_TopOptions (a29.1, a29.2)) (fun (a31 : ((List Int) × Bool)) => (cond (not (a30.2 == a31.2)) (some false) (bindO (M_L_sameInts (a30.1, a31.1)) (fun (a32 : Bool) => (cond (not a32) (some false) (loopO (fun (again33 : (Int → (Option Bool))) => (fun (s34 : Int) => (cond (decide (s34 < (((List.length a31.1) : Nat) : Int))) (bindO (some (IntKind.wrap .i64 (s34 - (1 : Int)))) (fun (a35 : Int) => (bindO (getI a31.1 a35) (fun (a36 : Int) => (bindO (getI a29.1 a36) (fun (a37 : Int) => (bindO (getI a31.1 s34) (fun (a38 : Int) => (bindO (getI a29.1 a38) (fun (a39 : Int) => (cond (decide (a37 < a39)) (some false) (bindO (some (IntKind.wrap .i64 (s34 + (1 : Int)))) (fun (a40 : Int) => (again33 a40)))))))))))))) (cond (not a30.2) (some true) (some ((((List.length a31.1) : Nat) : Int) == a29.2)))))) (1 : Int)))))))))))))))) ((0 : Int), (0 : Int))))))))))))))))

noncomputable def c_L_FnSeats : Con0 := ⟨pk_L_FnSeats, rk_L_FnSeats, M_L_FnSeats⟩

set_option maxRecDepth 100000 in
theorem eq_L_FnSeats (x : In pk_L_FnSeats) : semF (mkE [(38, c_L_big), (39, c_S_DrawDivisorSeats), (40, c_I_DivisorSeats), (41, c_S_DivisorSeats), (42, c_L_sameInts), (43, c_S_DrawTopOptions), (11, c_I_TopOptions), (9, c_S_TopOptions)]) h_L_FnSeats (info Try.f6) pk_L_FnSeats rk_L_FnSeats x = M_L_FnSeats x := (semFF_eq _ _ _ _ _ _).symm.trans (by kernel_rfl)

set_option maxRecDepth 100000 in
theorem m_L_FnSeats : ConOK Try.prog 6 c_L_FnSeats := fn_ok (tyOK _) (E := mkE [(38, c_L_big), (39, c_S_DrawDivisorSeats), (40, c_I_DivisorSeats), (41, c_S_DivisorSeats), (42, c_L_sameInts), (43, c_S_DrawTopOptions), (11, c_I_TopOptions), (9, c_S_TopOptions)]) (consOK_cons m_L_big (consOK_cons m_S_DrawDivisorSeats (consOK_cons m_I_DivisorSeats (consOK_cons m_S_DivisorSeats (consOK_cons m_L_sameInts (consOK_cons m_S_DrawTopOptions (consOK_cons m_I_TopOptions (consOK_cons m_S_TopOptions (consOK_nil rfl))))))))) Try.func6 (h := h_L_FnSeats) (by kernel_rfl) eq_L_FnSeats

/-- L_qInts -/
noncomputable def M_L_qInts (x : ((List Int) × (List Int))) : (Option Bool) :=
  (cond ((((List.length x.1) : Nat) : Int) != (((List.length x.2) : Nat) : Int)) (some false) (loopO (fun (again0 : (Int → (Option Bool))) => (fun (s1 : Int) => (cond (decide (s1 < (((List.length x.1) : Nat) : Int))) (bindO (getI x.1 s1) (fun (a2 : Int) => (bindO (getI x.2 s1) (fun (a3 : Int) => (cond (a2 != a3) (some false) (bindO (some (IntKind.wrap .i64 (s1 + (1 : Int)))) (fun (a4 : Int) => (again0 a4)))))))) (some true)))) (0 : Int)))

end Go.Proofs.Ytgjneigkkgaaiaa.Vd
