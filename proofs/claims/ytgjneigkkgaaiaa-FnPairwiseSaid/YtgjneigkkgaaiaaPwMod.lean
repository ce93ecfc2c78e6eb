/- The functions of the law as plain functions on data, and that the program's functions are these. No conditions. -/
import Derived.Test.YtgjneigkkgaaiaaVd4
import Derived.Test.YtgjneigkkgaaiaaChecked
import Derived.KernelRfl
set_option linter.unusedVariables false
namespace Go.Proofs.Ytgjneigkkgaaiaa.Vd
def tys : List (Option Ty) := [none, none, some (.int .i64), some (.int .i64), some .bool, some (.int .u8), some (.int .u8), some (.cons (.int .i64) (.cons (.int .i64) (.cons .bool (.one (.int .u8))))), some (.cons (.int .i64) (.cons (.int .i64) (.cons .bool (.one (.int .u8))))), some .str, some .str, some .str, some (.int .u64), some (.cons .str (.one (.int .u64))), some (.cons .str (.one (.int .u64))), none, none, none, none, none, none, some (.int .i32), some (.sl (.int .i64)), none, none, none, none, none, none, some (.cons (.int .i64) (.cons (.int .i64) (.one (.int .i64)))), some (.cons (.int .i64) (.cons (.int .i64) (.one (.int .i64)))), some (.sl (.sl (.cons (.int .i64) (.one (.int .i64))))), none, some (.sl (.cons (.int .i64) (.one (.int .i64)))), none, none, some (.cons (.int .i64) (.cons (.int .i64) (.one (.int .i64)))), none, some (.sl (.sl (.cons (.int .i64) (.one (.int .i64))))), none, none, none, none, none, none, some (.sl (.int .u8)), none, none, none, none, none, none, none, none, none, none, none, none, none, none, none, some (.sl (.sl (.int .i64))), none, none, none, none, none, none, none, none, none, none, none, none, none, none, none, none, some (.sl (.cons (.int .i64) (.one (.int .i64)))), none, none, none, none, none, some (.cons (.int .i64) (.one (.int .i64))), some (.cons (.int .i64) (.one (.int .i64))), none, none, none, none, some (.int .u64), some (.cons (.sl (.int .u8)) (.cons (.int .i64) (.one (.int .u64)))), some (.cons (.sl (.int .u8)) (.cons (.int .i64) (.one (.int .u64)))), none, none, none, none, none, none, none, none, none, none, none, none, none, none, none, none, none, none, some (.int .u64), none, none, none, none, none, none, none, none, none, none, some (.cons (.int .i64) (.one (.int .i64))), none, none, none, none, none, none, none, none, none, none, some (.sl .bool), none, none, none, some (.int .u32), none, none, none, none, none, none, none, none, none, none, none, none, none, none, none, none, none, some (.int .u8), some (.int .u8), none, none, some (.int .i32), some (.int .i32), none, none, none]
def others : List Nat := [1, 15, 16, 17, 24, 25, 26, 27, 28, 32, 35, 37, 39, 40, 41, 42, 43, 44, 47, 48, 50, 51, 53, 54, 55, 56, 57, 58, 60, 63, 65, 66, 67, 68, 69, 70, 71, 72, 73, 74, 75, 76, 77, 79, 80, 81, 82, 83, 86, 87, 88, 89, 93, 95, 96, 97, 98, 99, 100, 101, 102, 103, 104, 105, 106, 107, 108, 109, 110, 112, 113, 114, 115, 116, 117, 118, 119, 120, 121, 124, 125, 126, 127, 128, 129, 130, 131, 132, 134, 135, 136, 138, 139, 140, 141, 143, 145, 146, 147, 148, 149, 157, 158]
def pairs : List Nat := [84, 85, 122]
def sgN : Nat → Nat → List Nat
  | _, 0 => []
  | a, n + 1 => a :: sgN (a + 1) n

noncomputable def mkE (con : List (Nat × Con0)) : Env := ⟨[], tys, others, pairs, con, []⟩

set_option maxRecDepth 100000 in
theorem tyOK (con : List (Nat × Con0)) : TyOK Try.prog (mkE con) := tyOK_of (E := mkE con) (by kernel_rfl) (by kernel_rfl) (by kernel_rfl)

/-- L_big -/
def pk_L_big : List PK := [.data (.sl (.int .u8)), .data (.sl (.int .u8))]
def rk_L_big : List (Ty × Bool) := [(.bool, false)]
def h_L_big : Hints := { loops := [] }
noncomputable def M_L_big (x : ((List Int) × (List Int))) : (Option Bool) :=
  (cond (decide ((((List.length x.1) : Nat) : Int) > (1048576 : Int))) (some true) (bindO (some (IntKind.wrap .i64 ((1048576 : Int) - (((List.length x.1) : Nat) : Int)))) (fun (a0 : Int) => (some (decide ((((List.length x.2) : Nat) : Int) > a0))))))

noncomputable def c_L_big : Con0 := ⟨pk_L_big, rk_L_big, M_L_big⟩

set_option maxRecDepth 100000 in
theorem eq_L_big (x : In pk_L_big) : semF (mkE []) h_L_big (info Try.f38) pk_L_big rk_L_big x = M_L_big x := (semFF_eq _ _ _ _ _ _).symm.trans (by kernel_rfl)

set_option maxRecDepth 100000 in
theorem m_L_big : ConOK Try.prog 38 c_L_big := fn_ok (tyOK _) (E := mkE []) (consOK_nil rfl) Try.func38 (h := h_L_big) (by kernel_rfl) eq_L_big

/-- S_l1Cur_next -/
def pk_S_l1Cur_next : List PK := [.mp (.cons (.sl (.int .u8)) (.cons (.int .i64) (.one (.int .u64)))) false]
def rk_S_l1Cur_next : List (Ty × Bool) := [((.int .i64), false)]
def h_S_l1Cur_next : Hints := { loops := [] }
noncomputable def M_S_l1Cur_next (x : ((List Int) × (Int × Int))) : (Option (Int × ((List Int) × (Int × Int)))) :=
  (cond (decide (x.2.1 < (((List.length x.1) : Nat) : Int))) (bindO (getI x.1 x.2.1) (fun (a0 : Int) => (bindO (some (IntKind.wrap .i64 (x.2.1 + (1 : Int)))) (fun (a1 : Int) => (bindO (some (IntKind.wrap .u64 (x.2.2 * (6364136223846793005 : Int)))) (fun (a2 : Int) => (bindO (some (IntKind.wrap .u64 (a2 + (IntKind.wrap .u64 (IntKind.wrap .i64 a0))))) (fun (a3 : Int) => (bindO (some (IntKind.wrap .u64 (a3 + (1442695040888963407 : Int)))) (fun (a4 : Int) => (cond (decide (a1 ≤ (((List.length x.1) : Nat) : Int))) (some ((IntKind.wrap .i64 a0), (x.1, (a1, a4)))) (bindO (guardO (decide ((0 : Int) ≤ (40 : Int)))) (fun (a5 : Unit) => (bindO (some (shr .u64 a4 (40 : Int))) (fun (a6 : Int) => (bindO (some (bits .and .u64 a6 (255 : Int))) (fun (a7 : Int) => (some ((IntKind.wrap .i64 a7), (x.1, (a1, a4))))))))))))))))))))) (bindO (some (IntKind.wrap .i64 (x.2.1 + (1 : Int)))) (fun (a8 : Int) => (bindO (some (IntKind.wrap .u64 (x.2.2 * (6364136223846793005 : Int)))) (fun (a9 : Int) => (bindO (some (IntKind.wrap .u64 (a9 + (IntKind.wrap .u64 (0 : Int))))) (fun (a10 : Int) => (bindO (some (IntKind.wrap .u64 (a10 + (1442695040888963407 : Int)))) (fun (a11 : Int) => (cond (decide (a8 ≤ (((List.length x.1) : Nat) : Int))) (some ((0 : Int), (x.1, (a8, a11)))) (bindO (guardO (decide ((0 : Int) ≤ (40 : Int)))) (fun (a12 : Unit) => (bindO (some (shr .u64 a11 (40 : Int))) (fun (a13 : Int) => (bindO (some (bits .and .u64 a13 (255 : Int))) (fun (a14 : Int) => (some ((IntKind.wrap .i64 a14), (x.1, (a8, a11))))))))))))))))))))

noncomputable def c_S_l1Cur_next : Con0 := ⟨pk_S_l1Cur_next, rk_S_l1Cur_next, M_S_l1Cur_next⟩

set_option maxRecDepth 100000 in
theorem eq_S_l1Cur_next (x : In pk_S_l1Cur_next) : semF (mkE []) h_S_l1Cur_next (info Try.f152) pk_S_l1Cur_next rk_S_l1Cur_next x = M_S_l1Cur_next x := (semFF_eq _ _ _ _ _ _).symm.trans (by kernel_rfl)

set_option maxRecDepth 100000 in
theorem m_S_l1Cur_next : ConOK Try.prog 152 c_S_l1Cur_next := fn_ok (tyOK _) (E := mkE []) (consOK_nil rfl) Try.func152 (h := h_S_l1Cur_next) (by kernel_rfl) eq_S_l1Cur_next

/-- S_l1Cur_pick -/
def pk_S_l1Cur_pick : List PK := [.mp (.cons (.sl (.int .u8)) (.cons (.int .i64) (.one (.int .u64)))) false, .data (.int .i64)]
def rk_S_l1Cur_pick : List (Ty × Bool) := [((.int .i64), false)]
def h_S_l1Cur_pick : Hints := { loops := [] }
noncomputable def M_S_l1Cur_pick (x : (((List Int) × (Int × Int)) × Int)) : (Option (Int × ((List Int) × (Int × Int)))) :=
  (cond (decide (x.2 ≤ (1 : Int))) (some ((0 : Int), (x.1.1, (x.1.2.1, x.1.2.2)))) (bindO (M_S_l1Cur_next (x.1.1, (x.1.2.1, x.1.2.2))) (fun (a0 : (Int × ((List Int) × (Int × Int)))) => (cond (decide (x.2 > (200 : Int))) (bindO (some (IntKind.wrap .i64 (a0.1 * (256 : Int)))) (fun (a1 : Int) => (bindO (M_S_l1Cur_next (a0.2.1, (a0.2.2.1, a0.2.2.2))) (fun (a2 : (Int × ((List Int) × (Int × Int)))) => (bindO (some (IntKind.wrap .i64 (a1 + a2.1))) (fun (a3 : Int) => (bindO (guardO (x.2 != (0 : Int))) (fun (a4 : Unit) => (bindO (some (Int.tmod a3 x.2)) (fun (a5 : Int) => (some (a5, (a2.2.1, (a2.2.2.1, a2.2.2.2)))))))))))))) (bindO (guardO (x.2 != (0 : Int))) (fun (a6 : Unit) => (bindO (some (Int.tmod a0.1 x.2)) (fun (a7 : Int) => (some (a7, (a0.2.1, (a0.2.2.1, a0.2.2.2))))))))))))

noncomputable def c_S_l1Cur_pick : Con0 := ⟨pk_S_l1Cur_pick, rk_S_l1Cur_pick, M_S_l1Cur_pick⟩

set_option maxRecDepth 100000 in
theorem eq_S_l1Cur_pick (x : In pk_S_l1Cur_pick) : semF (mkE [(152, c_S_l1Cur_next)]) h_S_l1Cur_pick (info Try.f97) pk_S_l1Cur_pick rk_S_l1Cur_pick x = M_S_l1Cur_pick x := (semFF_eq _ _ _ _ _ _).symm.trans (by kernel_rfl)

set_option maxRecDepth 100000 in
theorem m_S_l1Cur_pick : ConOK Try.prog 97 c_S_l1Cur_pick := fn_ok (tyOK _) (E := mkE [(152, c_S_l1Cur_next)]) (consOK_cons m_S_l1Cur_next (consOK_nil rfl)) Try.func97 (h := h_S_l1Cur_pick) (by kernel_rfl) eq_S_l1Cur_pick

/-- S_l1Cur_one -/
def pk_S_l1Cur_one : List PK := [.mp (.cons (.sl (.int .u8)) (.cons (.int .i64) (.one (.int .u64)))) false, .data (.int .i64)]
def rk_S_l1Cur_one : List (Ty × Bool) := [(.bool, false)]
def h_S_l1Cur_one : Hints := { loops := [] }
noncomputable def M_S_l1Cur_one (x : (((List Int) × (Int × Int)) × Int)) : (Option (Bool × ((List Int) × (Int × Int)))) :=
  (bindO (M_S_l1Cur_pick ((x.1.1, (x.1.2.1, x.1.2.2)), x.2)) (fun (a0 : (Int × ((List Int) × (Int × Int)))) => (some ((a0.1 == (0 : Int)), (a0.2.1, (a0.2.2.1, a0.2.2.2))))))

noncomputable def c_S_l1Cur_one : Con0 := ⟨pk_S_l1Cur_one, rk_S_l1Cur_one, M_S_l1Cur_one⟩

set_option maxRecDepth 100000 in
theorem eq_S_l1Cur_one (x : In pk_S_l1Cur_one) : semF (mkE [(97, c_S_l1Cur_pick)]) h_S_l1Cur_one (info Try.f134) pk_S_l1Cur_one rk_S_l1Cur_one x = M_S_l1Cur_one x := (semFF_eq _ _ _ _ _ _).symm.trans (by kernel_rfl)

set_option maxRecDepth 100000 in
theorem m_S_l1Cur_one : ConOK Try.prog 134 c_S_l1Cur_one := fn_ok (tyOK _) (E := mkE [(97, c_S_l1Cur_pick)]) (consOK_cons m_S_l1Cur_pick (consOK_nil rfl)) Try.func134 (h := h_S_l1Cur_one) (by kernel_rfl) eq_S_l1Cur_one

/-- S_l1Cur_among -/
def pk_S_l1Cur_among : List PK := [.mp (.cons (.sl (.int .u8)) (.cons (.int .i64) (.one (.int .u64)))) false, .data (.sl (.int .i64))]
def rk_S_l1Cur_among : List (Ty × Bool) := [((.int .i64), false)]
def h_S_l1Cur_among : Hints := { loops := [] }
noncomputable def M_S_l1Cur_among (x : (((List Int) × (Int × Int)) × (List Int))) : (Option (Int × ((List Int) × (Int × Int)))) :=
  (bindO (M_S_l1Cur_pick ((x.1.1, (x.1.2.1, x.1.2.2)), (((List.length x.2) : Nat) : Int))) (fun (a0 : (Int × ((List Int) × (Int × Int)))) => (bindO (getI x.2 a0.1) (fun (a1 : Int) => (some (a1, (a0.2.1, (a0.2.2.1, a0.2.2.2))))))))

noncomputable def c_S_l1Cur_among : Con0 := ⟨pk_S_l1Cur_among, rk_S_l1Cur_among, M_S_l1Cur_among⟩

set_option maxRecDepth 100000 in
theorem eq_S_l1Cur_among (x : In pk_S_l1Cur_among) : semF (mkE [(97, c_S_l1Cur_pick)]) h_S_l1Cur_among (info Try.f96) pk_S_l1Cur_among rk_S_l1Cur_among x = M_S_l1Cur_among x := (semFF_eq _ _ _ _ _ _).symm.trans (by kernel_rfl)

set_option maxRecDepth 100000 in
theorem m_S_l1Cur_among : ConOK Try.prog 96 c_S_l1Cur_among := fn_ok (tyOK _) (E := mkE [(97, c_S_l1Cur_pick)]) (consOK_cons m_S_l1Cur_pick (consOK_nil rfl)) Try.func96 (h := h_S_l1Cur_among) (by kernel_rfl) eq_S_l1Cur_among

/-- S_l1In -/
def pk_S_l1In : List PK := [.data (.int .i64), .data (.int .i64), .data (.int .i64)]
def rk_S_l1In : List (Ty × Bool) := [(.bool, false)]
def h_S_l1In : Hints := { loops := [] }
noncomputable def M_S_l1In (x : (Int × (Int × Int))) : (Option Bool) :=
  (cond (decide (x.1 ≥ x.2.1)) (some (decide (x.1 ≤ x.2.2))) (some false))

noncomputable def c_S_l1In : Con0 := ⟨pk_S_l1In, rk_S_l1In, M_S_l1In⟩

set_option maxRecDepth 100000 in
theorem eq_S_l1In (x : In pk_S_l1In) : semF (mkE []) h_S_l1In (info Try.f61) pk_S_l1In rk_S_l1In x = M_S_l1In x := (semFF_eq _ _ _ _ _ _).symm.trans (by kernel_rfl)

set_option maxRecDepth 100000 in
theorem m_S_l1In : ConOK Try.prog 61 c_S_l1In := fn_ok (tyOK _) (E := mkE []) (consOK_nil rfl) Try.func61 (h := h_S_l1In) (by kernel_rfl) eq_S_l1In

/-- S_ShuffleCoins -/
def pk_S_ShuffleCoins : List PK := [.data (.int .i64), .data (.sl (.int .i64))]
def rk_S_ShuffleCoins : List (Ty × Bool) := [((.sl (.int .i64)), true), (.bool, false)]
def h_S_ShuffleCoins : Hints := { loops := [(0, { items := [.slot 6 (.own (.int .i64) true), .slot 7 (.data (.int .i64) [])], kill := sgN 2 4 ++ (sgN 8 58) }), (2, { items := [.slot 34 (.data (.int .i64) []), .arr 6 (.int .i64) true], kill := sgN 1 5 ++ (sgN 7 25 ++ (sgN 35 31)) })] }
noncomputable def M_S_ShuffleCoins (x : (Int × (List Int))) : (Option ((List Int) × Bool)) :=
  (bindO (M_S_l1In (x.1, ((1 : Int), (24 : Int)))) (fun (a0 : Bool) => (cond (not a0) (some (([] : List Int), false)) (bindO (some (IntKind.wrap .i64 (x.1 - (1 : Int)))) (fun (a1 : Int) => (cond ((((List.length x.2) : Nat) : Int) != a1) (some (([] : List Int), false)) (loopO (fun (again2 : (((List Int) × Int) → (Option ((List Int) × Bool)))) => (fun (s3 : ((List Int) × Int)) => (cond (decide (s3.2 < x.1)) (bindO (guardO (lenOk ((List.length s3.1) + (List.length (s3.2 :: ([] : List Int)))))) (fun (a4 : Unit) => (bindO (some (s3.1 ++ (s3.2 :: ([] : List Int)))) (fun (a5 : (List Int)) => (bindO (some (IntKind.wrap .i64 (s3.2 + (1 : Int)))) (fun (a6 : Int) => (again2 (a5, a6)))))))) (loopO (fun (again7 : ((Int × (List Int)) → (Option ((List Int) × Bool)))) => (fun (s8 : (Int × (List Int))) => (cond (decide (s8.1 < (((List.length x.2) : Nat) : Int))) (bindO (getI x.2 s8.1) (fun (a9 : Int) => (cond (decide (a9 < (0 : Int))) (some (([] : List Int), false)) (bindO (some (IntKind.wrap .i64 (x.1 - (1 : Int)))) (fun (a10 : Int) => (bindO (some (IntKind.wrap .i64 (a10 - s8.1))) (fun (a11 : Int) => (bindO (some (IntKind.wrap .i64 (a11 + (1 : Int)))) (fun (a12 : Int) => (bindO (guardO (a12 != (0 : Int))) (fun (a13 : Unit) => (bindO (some (Int.tmod a9 a12)) (fun (a14 : Int) => (bindO (getI s8.2 a11) (fun (a15 : Int) => (bindO (getI s8.2 a14) (fun (a16 : Int) => (bindO (getI s8.2 a11) (fun (a17 : Int) => (bindO (some (List.set s8.2 (Int.toNat a11) a16)) (fun (a18 : (List Int)) => (bindO (getI a18 a14) (fun (a19 : Int) => (bindO (some (List.set a18 (Int.toNat a14) a15)) (fun (a20 : (List Int)) => (bindO (some (IntKind.wrap .i64 (s8.1 + (1 : Int)))) (fun (a21 : Int) => (again7 (a21, a20))))))))))))))))))))))))))))) (some (s8.2, true))))) ((0 : Int), s3.1))))) (([] : List Int), (0 : Int)))))))))

noncomputable def c_S_ShuffleCoins : Con0 := ⟨pk_S_ShuffleCoins, rk_S_ShuffleCoins, M_S_ShuffleCoins⟩

set_option maxRecDepth 100000 in
theorem eq_S_ShuffleCoins (x : In pk_S_ShuffleCoins) : semF (mkE [(61, c_S_l1In)]) h_S_ShuffleCoins (info Try.f173) pk_S_ShuffleCoins rk_S_ShuffleCoins x = M_S_ShuffleCoins x := (semFF_eq _ _ _ _ _ _).symm.trans (by kernel_rfl)

set_option maxRecDepth 100000 in
theorem m_S_ShuffleCoins : ConOK Try.prog 173 c_S_ShuffleCoins := fn_ok (tyOK _) (E := mkE [(61, c_S_l1In)]) (consOK_cons m_S_l1In (consOK_nil rfl)) Try.func173 (h := h_S_ShuffleCoins) (by kernel_rfl) eq_S_ShuffleCoins

/-- S_l1Cur_permutation -/
def pk_S_l1Cur_permutation : List PK := [.mp (.cons (.sl (.int .u8)) (.cons (.int .i64) (.one (.int .u64)))) false, .data (.int .i64)]
def rk_S_l1Cur_permutation : List (Ty × Bool) := [((.sl (.int .i64)), true)]
def h_S_l1Cur_permutation : Hints := { loops := [(0, { items := [.slot 5 (.own (.int .i64) true), .slot 6 (.data (.int .i64) []), .cell 0 0 (.data (.sl (.int .u8)) []), .cell 0 1 (.data (.int .i64) []), .cell 0 2 (.data (.int .u64) [])], kill := [2, 3, 4] ++ (sgN 7 19) })] }
noncomputable def M_S_l1Cur_permutation (x : (((List Int) × (Int × Int)) × Int)) : (Option ((List Int) × ((List Int) × (Int × Int)))) :=
  (loopO (fun (again0 : (((List Int) × (Int × ((List Int) × (Int × Int)))) → (Option ((List Int) × ((List Int) × (Int × Int)))))) => (fun (s1 : ((List Int) × (Int × ((List Int) × (Int × Int))))) => (cond (decide (s1.2.1 < x.2)) (bindO (M_S_l1Cur_pick ((s1.2.2.1, (s1.2.2.2.1, s1.2.2.2.2)), (24 : Int))) (fun (a2 : (Int × ((List Int) × (Int × Int)))) => (bindO (guardO (lenOk ((List.length s1.1) + (List.length (a2.1 :: ([] : List Int)))))) (fun (a3 : Unit) => (bindO (some (s1.1 ++ (a2.1 :: ([] : List Int)))) (fun (a4 : (List Int)) => (bindO (some (IntKind.wrap .i64 (s1.2.1 + (1 : Int)))) (fun (a5 : Int) => (again0 (a4, (a5, (a2.2.1, (a2.2.2.1, a2.2.2.2))))))))))))) (bindO (M_S_ShuffleCoins (x.2, s1.1)) (fun (a6 : ((List Int) × Bool)) => (some (a6.1, (s1.2.2.1, (s1.2.2.2.1, s1.2.2.2.2))))))))) (([] : List Int), ((1 : Int), (x.1.1, (x.1.2.1, x.1.2.2)))))

noncomputable def c_S_l1Cur_permutation : Con0 := ⟨pk_S_l1Cur_permutation, rk_S_l1Cur_permutation, M_S_l1Cur_permutation⟩

set_option maxRecDepth 100000 in
theorem eq_S_l1Cur_permutation (x : In pk_S_l1Cur_permutation) : semF (mkE [(97, c_S_l1Cur_pick), (173, c_S_ShuffleCoins)]) h_S_l1Cur_permutation (info Try.f153) pk_S_l1Cur_permutation rk_S_l1Cur_permutation x = M_S_l1Cur_permutation x := (semFF_eq _ _ _ _ _ _).symm.trans (by kernel_rfl)

set_option maxRecDepth 100000 in
theorem m_S_l1Cur_permutation : ConOK Try.prog 153 c_S_l1Cur_permutation := fn_ok (tyOK _) (E := mkE [(97, c_S_l1Cur_pick), (173, c_S_ShuffleCoins)]) (consOK_cons m_S_l1Cur_pick (consOK_cons m_S_ShuffleCoins (consOK_nil rfl))) Try.func153 (h := h_S_l1Cur_permutation) (by kernel_rfl) eq_S_l1Cur_permutation

/-- S_l1Cur_ranks -/
def pk_S_l1Cur_ranks : List PK := [.mp (.cons (.sl (.int .u8)) (.cons (.int .i64) (.one (.int .u64)))) false]
def rk_S_l1Cur_ranks : List (Ty × Bool) := [((.int .i64), false), ((.sl (.sl (.int .i64))), true)]
def h_S_l1Cur_ranks : Hints := { loops := [(0, { items := [.slot 5 (.own (.sl (.int .i64)) true), .slot 6 (.data (.int .i64) []), .cell 0 0 (.data (.sl (.int .u8)) []), .cell 0 1 (.data (.int .i64) []), .cell 0 2 (.data (.int .u64) [])], kill := [1, 2, 3] ++ (sgN 7 61) })], cuts := [43] }
noncomputable def M_S_l1Cur_ranks (x : ((List Int) × (Int × Int))) : (Option (Int × ((List (List Int)) × ((List Int) × (Int × Int))))) :=
  (bindO (M_S_l1Cur_pick (x, (5 : Int))) (fun (a0 : (Int × ((List Int) × (Int × Int)))) => (bindO (some (IntKind.wrap .i64 ((1 : Int) + a0.1))) (fun (a1 : Int) => (bindO (M_S_l1Cur_one (a0.2, (12 : Int))) (fun (a2 : (Bool × ((List Int) × (Int × Int)))) => (cond a2.1 (bindO (M_S_l1Cur_among (a2.2, ((0 : Int) :: ((8 : Int) :: ((9 : Int) :: ([] : List Int)))))) (fun (a3 : (Int × ((List Int) × (Int × Int)))) => (bindO (M_S_l1Cur_pick (a3.2, (8 : Int))) (fun (a4 : (Int × ((List Int) × (Int × Int)))) => (bindO (M_S_l1Cur_one (a4.2, (20 : Int))) (fun (a5 : (Bool × ((List Int) × (Int × Int)))) => (cond a5.1 (bindO (M_S_l1Cur_pick (a5.2, (2 : Int))) (fun (a6 : (Int × ((List Int) × (Int × Int)))) => (bindO (some (IntKind.wrap .i64 ((24 : Int) + a6.1))) (fun (a7 : Int) => (loopO (fun (again8 : (((List (List Int)) × (Int × ((List Int) × (Int × Int)))) → (Option (Int × ((List (List Int)) × ((List Int) × (Int × Int))))))) => (fun (s9 : ((List (List Int)) × (Int × ((List Int) × (Int × Int))))) => (cond (decide (s9.2.1 > (0 : Int))) (bindO (M_S_l1Cur_permutation (s9.2.2, a3.1)) (fun (a10 : ((List Int) × ((List Int) × (Int × Int)))) => (cond (decide ((((List.length a10.1) : Nat) : Int) > (0 : Int))) (bindO (M_S_l1Cur_one (a10.2, (3 : Int))) (fun (a11 : (Bool × ((List Int) × (Int × Int)))) => (cond a11.1 (bindO (some (IntKind.wrap .i64 ((((List.length a10.1) : Nat) : Int) + (1 : Int)))) (fun (a12 : Int) => (bindO (M_S_l1Cur_pick (a11.2, a12)) (fun (a13 : (Int × ((List Int) × (Int × Int)))) => (bindO (sliceNH a13.1 (List.length a10.1)) (fun (a14 : (Nat × Nat)) => (bindO (guardO (lenOk ((List.length s9.1) + (List.length ((List.take a14.2 a10.1) :: ([] : List (List Int))))))) (fun (a15 : Unit) => (bindO (some (s9.1 ++ ((List.take a14.2 a10.1) :: ([] : List (List Int))))) (fun (a16 : (List (List Int))) => (bindO (some (IntKind.wrap .i64 (s9.2.1 - (1 : Int)))) (fun (a17 : Int) => (again8 (a16, (a17, a13.2))))))))))))))) (bindO (guardO (lenOk ((List.length s9.1) + (List.length (a10.1 :: ([] : List (List Int))))))) (fun (a18 : Unit) => (bindO (some (s9.1 ++ (a10.1 :: ([] : List (List Int))))) (fun (a19 : (List (List Int))) => (bindO (some (IntKind.wrap .i64 (s9.2.1 - (1 : Int)))) (fun (a20 : Int) => (again8 (a19, (a20, a11.2)))))))))))) (bindO (guardO (lenOk ((List.length s9.1) + (List.length (a10.1 :: ([] : List (List Int))))))) (fun (a21 : Unit) => (bindO (some (s9.1 ++ (a10.1 :: ([] : List (List Int))))) (fun (a22 : (List (List Int))) => (bindO (some (IntKind.wrap .i64 (s9.2.1 - (1 : Int)))) (fun (a23 : Int) => (again8 (a22, (a23, a10.2)))))))))))) (cond (decide ((((List.length s9.1) : Nat) : Int) > (0 : Int))) (bindO (M_S_l1Cur_one (s9.2.2, (12 : Int))) (fun (a24 : (Bool × ((List Int) × (Int × Int)))) => (cond a24.1 (bindO (getI s9.1 (0 : Int)) (fun (a25 : (List Int)) => (bindO (some (IntKind.wrap .i64 (a3.1 + (1 : Int)))) (fun (a26 : Int) => (bindO (M_S_l1Cur_pick (a24.2, a26)) (fun (a27 : (Int × ((List Int) × (Int × Int)))) => (bindO (guardO (lenOk ((List.length a25) + (List.length (a27.1 :: ([] : List Int)))))) (fun (a28 : Unit) => (bindO (some s9.1) (fun (a29 : (List (List Int))) => (bindO (getI a29 (0 : Int)) (fun (a30 : (List Int)) => (bindO (some (List.set a29 (Int.toNat (0 : Int)) (a25 ++ (a27.1 :: ([] : List Int))))) (fun (a31 : (List (List Int))) => (some (a3.1, (a31, a27.2))))))))))))))))) (some (a3.1, (s9.1, a24.2)))))) (some (a3.1, (s9.1, s9.2.2))))))) (([] : List (List Int)), (a7, a6.2))))))) (loopO (fun (again32 : (((List (List Int)) × (Int × ((List Int) × (Int × Int)))) → (Option (Int × ((List (List Int)) × ((List Int) × (Int × Int))))))) => (fun (s33 : ((List (List Int)) × (Int × ((List Int) × (Int × Int))))) => (cond (decide (s33.2.1 > (0 : Int))) (bindO (M_S_l1Cur_permutation (s33.2.2, a3.1)) (fun (a34 : ((List Int) × ((List Int) × (Int × Int)))) => (cond (decide ((((List.length a34.1) : Nat) : Int) > (0 : Int))) (bindO (M_S_l1Cur_one (a34.2, (3 : Int))) (fun (a35 : (Bool × ((List Int) × (Int × Int)))) => (cond a35.1 (bindO (some (IntKind.wrap .i64 ((((List.length a34.1) : Nat) : Int) + (1 : Int)))) (fun (a36 : Int) => (bindO (M_S_l1Cur_pick (a35.2, a36)) (fun (a37 : (Int × ((List Int) × (Int × Int)))) => (bindO (sliceNH a37.1 (List.length a34.1)) (fun (a38 : (Nat × Nat)) => (bindO (guardO (lenOk ((List.length s33.1) + (List.length ((List.take a38.2 a34.1) :: ([] : List (List Int))))))) (fun (a39 : Unit) => (bindO (some (s33.1 ++ ((List.take a38.2 a34.1) :: ([] : List (List Int))))) (fun (a40 : (List (List Int))) => (bindO (some (IntKind.wrap .i64 (s33.2.1 - (1 : Int)))) (fun (a41 : Int) => (again32 (a40, (a41, a37.2))))))))))))))) (bindO (guardO (lenOk ((List.length s33.1) + (List.length (a34.1 :: ([] : List (List Int))))))) (fun (a42 : Unit) => (bindO (some (s33.1 ++ (a34.1 :: ([] : List (List Int))))) (fun (a43 : (List (List Int))) => (bindO (some (IntKind.wrap .i64 (s33.2.1 - (1 : Int)))) (fun (a44 : Int) => (again32 (a43, (a44, a35.2)))))))))))) (bindO (guardO (lenOk ((List.length s33.1) + (List.length (a34.1 :: ([] : List (List Int))))))) (fun (a45 : Unit) => (bindO (some (s33.1 ++ (a34.1 :: ([] : List (List Int))))) (fun (a46 : (List (List Int))) => (bindO (some (IntKind.wrap .i64 (s33.2.1 - (1 : Int)))) (fun (a47 : Int) => (again32 (a46, (a47, a34.2)))))))))))) (cond (decide ((((List.length s33.1) : Nat) : Int) > (0 : Int))) (bindO (M_S_l1Cur_one (s33.2.2, (12 : Int))) (fun (a48 : (Bool × ((List Int) × (Int × Int)))) => (cond a48.1 (bindO (getI s33.1 (0 : Int)) (fun (a49 : (List Int)) => (bindO (some (IntKind.wrap .i64 (a3.1 + (1 : Int)))) (fun (a50 : Int) => (bindO (M_S_l1Cur_pick (a48.2, a50)) (fun (a51 : (Int × ((List Int) × (Int × Int)))) => (bindO (guardO (lenOk ((List.length a49) + (List.length (a51.1 :: ([] : List Int)))))) (fun (a52 : Unit) => (bindO (some s33.1) (fun (a53 : (List (List Int))) => (bindO (getI a53 (0 : Int)) (fun (a54 : (List Int)) => (bindO (some (List.set a53 (Int.toNat (0 : Int)) (a49 ++ (a51.1 :: ([] : List Int))))) (fun (a55 : (List (List Int))) => (some (a3.1, (a55, a51.2))))))))))))))))) (some (a3.1, (s33.1, a48.2)))))) (some (a3.1, (s33.1, s33.2.2))))))) (([] : List (List Int)), (a4.1, a5.2)))))))))) (bindO (M_S_l1Cur_pick (a2.2, (8 : Int))) (fun (a56 : (Int × ((List Int) × (Int × Int)))) => (bindO (M_S_l1Cur_one (a56.2, (20 : Int))) (fun (a57 : (Bool × ((List Int) × (Int × Int)))) => (cond a57.1 (bindO (M_S_l1Cur_pick (a57.2, (2 : Int))) (fun (a58 : (Int × ((List Int) × (Int × Int)))) => (bindO (some (IntKind.wrap .i64 ((24 : Int) + a58.1))) (fun (a59 : Int) => (loopO (fun (again60 : (((List (List Int)) × (Int × ((List Int) × (Int × Int)))) → (Option (Int × ((List (List Int)) × ((List Int) × (Int × Int))))))) => (fun (s61 : ((List (List Int)) × (Int × ((List Int) × (Int × Int))))) => (cond (decide (s61.2.1 > (0 : Int))) (bindO (M_S_l1Cur_permutation (s61.2.2, a1)) (fun (a62 : ((List Int) × ((List Int) × (Int × Int)))) => (cond (decide ((((List.length a62.1) : Nat) : Int) > (0 : Int))) (bindO (M_S_l1Cur_one (a62.2, (3 : Int))) (fun (a63 : (Bool × ((List Int) × (Int × Int)))) => (cond a63.1 (bindO (some (IntKind.wrap .i64 ((((List.length a62.1) : Nat) : Int) + (1 : Int)))) (fun (a64 : Int) => (bindO (M_S_l1Cur_pick (a63.2, a64)) (fun (a65 : (Int × ((List Int) × (Int × Int)))) => (bindO (sliceNH a65.1 (List.length a62.1)) (fun (a66 : (Nat × Nat)) => (bindO (guardO (lenOk ((List.length s61.1) + (List.length ((List.take a66.2 a62.1) :: ([] : List (List Int))))))) (fun (a67 : Unit) => (bindO (some (s61.1 ++ ((List.take a66.2 a62.1) :: ([] : List (List Int))))) (fun (a68 : (List (List Int))) => (bindO (some (IntKind.wrap .i64 (s61.2.1 - (1 : Int)))) (fun (a69 : Int) => (again60 (a68, (a69, a65.2))))))))))))))) (bindO (guardO (lenOk ((List.length s61.1) + (List.length (a62.1 :: ([] : List (List Int))))))) (fun (a70 : Unit) => (bindO (some (s61.1 ++ (a62.1 :: ([] : List (List Int))))) (fun (a71 : (List (List Int))) => (bindO (some (IntKind.wrap .i64 (s61.2.1 - (1 : Int)))) (fun (a72 : Int) => (again60 (a71, (a72, a63.2)))))))))))) (bindO (guardO (lenOk ((List.length s61.1) + (List.length (a62.1 :: ([] : List (List Int))))))) (fun (a73 : Unit) => (bindO (some (s61.1 ++ (a62.1 :: ([] : List (List Int))))) (fun (a74 : (List (List Int))) => (bindO (some (IntKind.wrap .i64 (s61.2.1 - (1 : Int)))) (fun (a75 : Int) => (again60 (a74, (a75, a62.2)))))))))))) (cond (decide ((((List.length s61.1) : Nat) : Int) > (0 : Int))) (bindO (M_S_l1Cur_one (s61.2.2, (12 : Int))) (fun (a76 : (Bool × ((List Int) × (Int × Int)))) => (cond a76.1 (bindO (getI s61.1 (0 : Int)) (fun (a77 : (List Int)) => (bindO (some (IntKind.wrap .i64 (a1 + (1 : Int)))) (fun (a78 : Int) => (bindO (M_S_l1Cur_pick (a76.2, a78)) (fun (a79 : (Int × ((List Int) × (Int × Int)))) => (bindO (guardO (lenOk ((List.length a77) + (List.length (a79.1 :: ([] : List Int)))))) (fun (a80 : Unit) => (bindO (some s61.1) (fun (a81 : (List (List Int))) => (bindO (getI a81 (0 : Int)) (fun (a82 : (List Int)) => (bindO (some (List.set a81 (Int.toNat (0 : Int)) (a77 ++ (a79.1 :: ([] : List Int))))) (fun (a83 : (List (List Int))) => (some (a1, (a83, a79.2))))))))))))))))) (some (a1, (s61.1, a76.2)))))) (some (a1, (s61.1, s61.2.2))))))) (([] : List (List Int)), (a59, a58.2))))))) (loopO (fun (again84 : (((List (List Int)) × (Int × ((List Int) × (Int × Int)))) → (Option (Int × ((List (List Int)) × ((List Int) × (Int × Int))))))) => (fun (s85 : ((List (List Int)) × (Int × ((List Int) × (Int × Int))))) => (cond (decide (s85.2.1 > (0 : Int))) (bindO (M_S_l1Cur_permutation (s85.2.2, a1)) (fun (a86 : ((List Int) × ((List Int) × (Int × Int)))) => (cond (decide ((((List.length a86.1) : Nat) : Int) > (0 : Int))) (bindO (M_S_l1Cur_one (a86.2, (3 : Int))) (fun (a87 : (Bool × ((List Int) × (Int × Int)))) => (cond a87.1 (bindO (some (IntKind.wrap .i64 ((((List.length a86.1) : Nat) : Int) + (1 : Int)))) (fun (a88 : Int) => (bindO (M_S_l1Cur_pick (a87.2, a88)) (fun (a89 : (Int × ((List Int) × (Int × Int)))) => (bindO (sliceNH a89.1 (List.length a86.1)) (fun (a90 : (Nat × Nat)) => (bindO (guardO (lenOk ((List.length s85.1) + (List.length ((List.take a90.2 a86.1) :: ([] : List (List Int))))))) (fun (a91 : Unit) => (bindO (some (s85.1 ++ ((List.take a90.2 a86.1) :: ([] : List (List Int))))) (fun (a92 : (List (List Int))) => (bindO (some (IntKind.wrap .i64 (s85.2.1 - (1 : Int)))) (fun (a93 : Int) => (again84 (a92, (a93, a89.2))))))))))))))) (bindO (guardO (lenOk ((List.length s85.1) + (List.length (a86.1 :: ([] : List (List Int))))))) (fun (a94 : Unit) => (bindO (some (s85.1 ++ (a86.1 :: ([] : List (List Int))))) (fun (a95 : (List (List Int))) => (bindO (some (IntKind.wrap .i64 (s85.2.1 - (1 : Int)))) (fun (a96 : Int) => (again84 (a95, (a96, a87.2)))))))))))) (bindO (guardO (lenOk ((List.length s85.1) + (List.length (a86.1 :: ([] : List (List Int))))))) (fun (a97 : Unit) => (bindO (some (s85.1 ++ (a86.1 :: ([] : List (List Int))))) (fun (a98 : (List (List Int))) => (bindO (some (IntKind.wrap .i64 (s85.2.1 - (1 : Int)))) (fun (a99 : Int) => (again84 (a98, (a99, a86.2)))))))))))) (cond (decide ((((List.length s85.1) : Nat) : Int) > (0 : Int))) (bindO (M_S_l1Cur_one (s85.2.2, (12 : Int))) (fun (a100 : (Bool × ((List Int) × (Int × Int)))) => (cond a100.1 (bindO (getI s85.1 (0 : Int)) (fun (a101 : (List Int)) => (bindO (some (IntKind.wrap .i64 (a1 + (1 : Int)))) (fun (a102 : Int) => (bindO (M_S_l1Cur_pick (a100.2, a102)) (fun (a103 : (Int × ((List Int) × (Int × Int)))) => (bindO (guardO (lenOk ((List.length a101) + (List.length (a103.1 :: ([] : List Int)))))) (fun (a104 : Unit) => (bindO (some s85.1) (fun (a105 : (List (List Int))) => (bindO (getI a105 (0 : Int)) (fun (a106 : (List Int)) => (bindO (some (List.set a105 (Int.toNat (0 : Int)) (a101 ++ (a103.1 :: ([] : List Int))))) (fun (a107 : (List (List Int))) => (some (a1, (a107, a103.2))))))))))))))))) (some (a1, (s85.1, a100.2)))))) (some (a1, (s85.1, s85.2.2))))))) (([] : List (List Int)), (a56.1, a57.2)))))))))))))))

noncomputable def c_S_l1Cur_ranks : Con0 := ⟨pk_S_l1Cur_ranks, rk_S_l1Cur_ranks, M_S_l1Cur_ranks⟩

set_option maxRecDepth 100000 in
theorem eq_S_l1Cur_ranks (x : In pk_S_l1Cur_ranks) : semF (mkE [(97, c_S_l1Cur_pick), (134, c_S_l1Cur_one), (96, c_S_l1Cur_among), (153, c_S_l1Cur_permutation)]) h_S_l1Cur_ranks (info Try.f98) pk_S_l1Cur_ranks rk_S_l1Cur_ranks x = M_S_l1Cur_ranks x := (semFF_eq _ _ _ _ _ _).symm.trans (by kernel_rfl)

set_option maxRecDepth 100000 in
theorem m_S_l1Cur_ranks : ConOK Try.prog 98 c_S_l1Cur_ranks := fn_ok (tyOK _) (E := mkE [(97, c_S_l1Cur_pick), (134, c_S_l1Cur_one), (96, c_S_l1Cur_among), (153, c_S_l1Cur_permutation)]) (consOK_cons m_S_l1Cur_pick (consOK_cons m_S_l1Cur_one (consOK_cons m_S_l1Cur_among (consOK_cons m_S_l1Cur_permutation (consOK_nil rfl))))) Try.func98 (h := h_S_l1Cur_ranks) (by kernel_rfl) eq_S_l1Cur_ranks

/-- S_DrawRunoffRounds -/
def pk_S_DrawRunoffRounds : List PK := [.data (.sl (.int .u8))]
def rk_S_DrawRunoffRounds : List (Ty × Bool) := [((.int .i64), false), ((.sl (.sl (.int .i64))), true)]
def h_S_DrawRunoffRounds : Hints := { loops := [] }
noncomputable def M_S_DrawRunoffRounds (x : (List Int)) : (Option (Int × (List (List Int)))) :=
  (bindO (M_S_l1Cur_ranks (x, ((0 : Int), (0 : Int)))) (fun (a0 : (Int × ((List (List Int)) × ((List Int) × (Int × Int))))) => (some (a0.1, a0.2.1))))

noncomputable def c_S_DrawRunoffRounds : Con0 := ⟨pk_S_DrawRunoffRounds, rk_S_DrawRunoffRounds, M_S_DrawRunoffRounds⟩

set_option maxRecDepth 100000 in
theorem eq_S_DrawRunoffRounds (x : In pk_S_DrawRunoffRounds) : semF (mkE [(98, c_S_l1Cur_ranks)]) h_S_DrawRunoffRounds (info Try.f44) pk_S_DrawRunoffRounds rk_S_DrawRunoffRounds x = M_S_DrawRunoffRounds x := (semFF_eq _ _ _ _ _ _).symm.trans (by kernel_rfl)

set_option maxRecDepth 100000 in
theorem m_S_DrawRunoffRounds : ConOK Try.prog 44 c_S_DrawRunoffRounds := fn_ok (tyOK _) (E := mkE [(98, c_S_l1Cur_ranks)]) (consOK_cons m_S_l1Cur_ranks (consOK_nil rfl)) Try.func44 (h := h_S_DrawRunoffRounds) (by kernel_rfl) eq_S_DrawRunoffRounds

/-- S_DrawPairwiseMatrix -/
def pk_S_DrawPairwiseMatrix : List PK := [.data (.sl (.int .u8))]
def rk_S_DrawPairwiseMatrix : List (Ty × Bool) := [((.int .i64), false), ((.sl (.sl (.int .i64))), true)]
def h_S_DrawPairwiseMatrix : Hints := { loops := [] }
noncomputable def M_S_DrawPairwiseMatrix (x : (List Int)) : (Option (Int × (List (List Int)))) :=
  (bindO (M_S_DrawRunoffRounds x) (fun (a0 : (Int × (List (List Int)))) => (some (a0.1, a0.2))))

noncomputable def c_S_DrawPairwiseMatrix : Con0 := ⟨pk_S_DrawPairwiseMatrix, rk_S_DrawPairwiseMatrix, M_S_DrawPairwiseMatrix⟩

set_option maxRecDepth 100000 in
theorem eq_S_DrawPairwiseMatrix (x : In pk_S_DrawPairwiseMatrix) : semF (mkE [(44, c_S_DrawRunoffRounds)]) h_S_DrawPairwiseMatrix (info Try.f52) pk_S_DrawPairwiseMatrix rk_S_DrawPairwiseMatrix x = M_S_DrawPairwiseMatrix x := (semFF_eq _ _ _ _ _ _).symm.trans (by kernel_rfl)

set_option maxRecDepth 100000 in
theorem m_S_DrawPairwiseMatrix : ConOK Try.prog 52 c_S_DrawPairwiseMatrix := fn_ok (tyOK _) (E := mkE [(44, c_S_DrawRunoffRounds)]) (consOK_cons m_S_DrawRunoffRounds (consOK_nil rfl)) Try.func52 (h := h_S_DrawPairwiseMatrix) (by kernel_rfl) eq_S_DrawPairwiseMatrix

/-- I_within -/
def pk_I_within : List PK := [.data (.int .i64), .data (.int .i64), .data (.int .i64)]
def rk_I_within : List (Ty × Bool) := [(.bool, false)]
def h_I_within : Hints := { loops := [] }
noncomputable def M_I_within (x : (Int × (Int × Int))) : (Option Bool) :=
  (cond (decide (x.1 ≥ x.2.1)) (some (decide (x.1 ≤ x.2.2))) (some false))

noncomputable def c_I_within : Con0 := ⟨pk_I_within, rk_I_within, M_I_within⟩

set_option maxRecDepth 100000 in
theorem eq_I_within (x : In pk_I_within) : semF (mkE []) h_I_within (info Try.f64) pk_I_within rk_I_within x = M_I_within x := (semFF_eq _ _ _ _ _ _).symm.trans (by kernel_rfl)

set_option maxRecDepth 100000 in
theorem m_I_within : ConOK Try.prog 64 c_I_within := fn_ok (tyOK _) (E := mkE []) (consOK_nil rfl) Try.func64 (h := h_I_within) (by kernel_rfl) eq_I_within

/-- slices_IndexFunc_ssint_sint -/
def pk_slices_IndexFunc_ssint_sint : List PK := [.data (.sl (.sl (.int .i64))), .fn [(.sl (.int .i64))] .bool]
def rk_slices_IndexFunc_ssint_sint : List (Ty × Bool) := [((.int .i64), false)]
def h_slices_IndexFunc_ssint_sint : Hints := { loops := [(0, { items := [.slot 8 (.data (.int .i64) [])], kill := sgN 2 5 ++ (sgN 9 10) })] }
noncomputable def M_slices_IndexFunc_ssint_sint (x : ((List (List Int)) × ((List Int) → (Option Bool)))) : (Option Int) :=
  (loopO (fun (again0 : (Int → (Option Int))) => (fun (s1 : Int) => (cond (decide (s1 < (((List.length x.1) : Nat) : Int))) (bindO (getI x.1 s1) (fun (a2 : (List Int)) => (bindO (x.2 a2) (fun (a3 : Bool) => (cond a3 (some s1) (bindO (some (IntKind.wrap .i64 (s1 + (1 : Int)))) (fun (a4 : Int) => (again0 a4)))))))) (some (- (1 : Int)))))) (0 : Int))

noncomputable def c_slices_IndexFunc_ssint_sint : Con0 := ⟨pk_slices_IndexFunc_ssint_sint, rk_slices_IndexFunc_ssint_sint, M_slices_IndexFunc_ssint_sint⟩

set_option maxRecDepth 100000 in
theorem eq_slices_IndexFunc_ssint_sint (x : In pk_slices_IndexFunc_ssint_sint) : semF (mkE []) h_slices_IndexFunc_ssint_sint (info Try.f174) pk_slices_IndexFunc_ssint_sint rk_slices_IndexFunc_ssint_sint x = M_slices_IndexFunc_ssint_sint x := (semFF_eq _ _ _ _ _ _).symm.trans (by kernel_rfl)

set_option maxRecDepth 100000 in
theorem m_slices_IndexFunc_ssint_sint : ConOK Try.prog 174 c_slices_IndexFunc_ssint_sint := fn_ok (tyOK _) (E := mkE []) (consOK_nil rfl) Try.func174 (h := h_slices_IndexFunc_ssint_sint) (by kernel_rfl) eq_slices_IndexFunc_ssint_sint

/-- slices_ContainsFunc_ssint_sint -/
def pk_slices_ContainsFunc_ssint_sint : List PK := [.data (.sl (.sl (.int .i64))), .fn [(.sl (.int .i64))] .bool]
def rk_slices_ContainsFunc_ssint_sint : List (Ty × Bool) := [(.bool, false)]
def h_slices_ContainsFunc_ssint_sint : Hints := { loops := [] }
noncomputable def M_slices_ContainsFunc_ssint_sint (x : ((List (List Int)) × ((List Int) → (Option Bool)))) : (Option Bool) :=
  (bindO (M_slices_IndexFunc_ssint_sint (x.1, x.2)) (fun (a0 : Int) => (some (decide (a0 ≥ (0 : Int))))))

noncomputable def c_slices_ContainsFunc_ssint_sint : Con0 := ⟨pk_slices_ContainsFunc_ssint_sint, rk_slices_ContainsFunc_ssint_sint, M_slices_ContainsFunc_ssint_sint⟩

set_option maxRecDepth 100000 in
theorem eq_slices_ContainsFunc_ssint_sint (x : In pk_slices_ContainsFunc_ssint_sint) : semF (mkE [(174, c_slices_IndexFunc_ssint_sint)]) h_slices_ContainsFunc_ssint_sint (info Try.f154) pk_slices_ContainsFunc_ssint_sint rk_slices_ContainsFunc_ssint_sint x = M_slices_ContainsFunc_ssint_sint x := (semFF_eq _ _ _ _ _ _).symm.trans (by kernel_rfl)

set_option maxRecDepth 100000 in
theorem m_slices_ContainsFunc_ssint_sint : ConOK Try.prog 154 c_slices_ContainsFunc_ssint_sint := fn_ok (tyOK _) (E := mkE [(174, c_slices_IndexFunc_ssint_sint)]) (consOK_cons m_slices_IndexFunc_ssint_sint (consOK_nil rfl)) Try.func154 (h := h_slices_ContainsFunc_ssint_sint) (by kernel_rfl) eq_slices_ContainsFunc_ssint_sint

/-- slices_IndexFunc_sint_int -/
def pk_slices_IndexFunc_sint_int : List PK := [.data (.sl (.int .i64)), .fn [(.int .i64)] .bool]
def rk_slices_IndexFunc_sint_int : List (Ty × Bool) := [((.int .i64), false)]
def h_slices_IndexFunc_sint_int : Hints := { loops := [(0, { items := [.slot 8 (.data (.int .i64) [])], kill := sgN 2 5 ++ (sgN 9 10) })] }
noncomputable def M_slices_IndexFunc_sint_int (x : ((List Int) × (Int → (Option Bool)))) : (Option Int) :=
  (loopO (fun (again0 : (Int → (Option Int))) => (fun (s1 : Int) => (cond (decide (s1 < (((List.length x.1) : Nat) : Int))) (bindO (getI x.1 s1) (fun (a2 : Int) => (bindO (x.2 a2) (fun (a3 : Bool) => (cond a3 (some s1) (bindO (some (IntKind.wrap .i64 (s1 + (1 : Int)))) (fun (a4 : Int) => (again0 a4)))))))) (some (- (1 : Int)))))) (0 : Int))

noncomputable def c_slices_IndexFunc_sint_int : Con0 := ⟨pk_slices_IndexFunc_sint_int, rk_slices_IndexFunc_sint_int, M_slices_IndexFunc_sint_int⟩

set_option maxRecDepth 100000 in
theorem eq_slices_IndexFunc_sint_int (x : In pk_slices_IndexFunc_sint_int) : semF (mkE []) h_slices_IndexFunc_sint_int (info Try.f175) pk_slices_IndexFunc_sint_int rk_slices_IndexFunc_sint_int x = M_slices_IndexFunc_sint_int x := (semFF_eq _ _ _ _ _ _).symm.trans (by kernel_rfl)

set_option maxRecDepth 100000 in
theorem m_slices_IndexFunc_sint_int : ConOK Try.prog 175 c_slices_IndexFunc_sint_int := fn_ok (tyOK _) (E := mkE []) (consOK_nil rfl) Try.func175 (h := h_slices_IndexFunc_sint_int) (by kernel_rfl) eq_slices_IndexFunc_sint_int

/-- slices_ContainsFunc_sint_int -/
def pk_slices_ContainsFunc_sint_int : List PK := [.data (.sl (.int .i64)), .fn [(.int .i64)] .bool]
def rk_slices_ContainsFunc_sint_int : List (Ty × Bool) := [(.bool, false)]
def h_slices_ContainsFunc_sint_int : Hints := { loops := [] }
noncomputable def M_slices_ContainsFunc_sint_int (x : ((List Int) × (Int → (Option Bool)))) : (Option Bool) :=
  (bindO (M_slices_IndexFunc_sint_int (x.1, x.2)) (fun (a0 : Int) => (some (decide (a0 ≥ (0 : Int))))))

noncomputable def c_slices_ContainsFunc_sint_int : Con0 := ⟨pk_slices_ContainsFunc_sint_int, rk_slices_ContainsFunc_sint_int, M_slices_ContainsFunc_sint_int⟩

set_option maxRecDepth 100000 in
theorem eq_slices_ContainsFunc_sint_int (x : In pk_slices_ContainsFunc_sint_int) : semF (mkE [(175, c_slices_IndexFunc_sint_int)]) h_slices_ContainsFunc_sint_int (info Try.f162) pk_slices_ContainsFunc_sint_int rk_slices_ContainsFunc_sint_int x = M_slices_ContainsFunc_sint_int x := (semFF_eq _ _ _ _ _ _).symm.trans (by kernel_rfl)

set_option maxRecDepth 100000 in
theorem m_slices_ContainsFunc_sint_int : ConOK Try.prog 162 c_slices_ContainsFunc_sint_int := fn_ok (tyOK _) (E := mkE [(175, c_slices_IndexFunc_sint_int)]) (consOK_cons m_slices_IndexFunc_sint_int (consOK_nil rfl)) Try.func162 (h := h_slices_ContainsFunc_sint_int) (by kernel_rfl) eq_slices_ContainsFunc_sint_int

/-- I_areAll_1 -/
def pk_I_areAll_1 : List PK := [.data (.int .i64), .rfn [(.int .i64)] .bool]
def rk_I_areAll_1 : List (Ty × Bool) := [(.bool, false)]
def h_I_areAll_1 : Hints := { loops := [] }
noncomputable def M_I_areAll_1 (x : (Int × (Int → (Option Bool)))) : (Option Bool) :=
  (bindO (x.2 x.1) (fun (a0 : Bool) => (some (not a0))))

noncomputable def c_I_areAll_1 : Con0 := ⟨pk_I_areAll_1, rk_I_areAll_1, M_I_areAll_1⟩

set_option maxRecDepth 100000 in
theorem eq_I_areAll_1 (x : In pk_I_areAll_1) : semF (mkE []) h_I_areAll_1 (info Try.f163) pk_I_areAll_1 rk_I_areAll_1 x = M_I_areAll_1 x := (semFF_eq _ _ _ _ _ _).symm.trans (by kernel_rfl)

set_option maxRecDepth 100000 in
theorem m_I_areAll_1 : ConOK Try.prog 163 c_I_areAll_1 := fn_ok (tyOK _) (E := mkE []) (consOK_nil rfl) Try.func163 (h := h_I_areAll_1) (by kernel_rfl) eq_I_areAll_1

/-- I_areAll -/
def pk_I_areAll : List PK := [.data (.sl (.int .i64)), .fn [(.int .i64)] .bool]
def rk_I_areAll : List (Ty × Bool) := [(.bool, false)]
def h_I_areAll : Hints := { loops := [] }
noncomputable def M_I_areAll (x : ((List Int) × (Int → (Option Bool)))) : (Option Bool) :=
  (bindO (M_slices_ContainsFunc_sint_int (x.1, (fun (a0 : Int) => (bindO (M_I_areAll_1 (a0, x.2)) (fun (a1 : Bool) => (some a1)))))) (fun (a2 : Bool) => (some (not a2))))

noncomputable def c_I_areAll : Con0 := ⟨pk_I_areAll, rk_I_areAll, M_I_areAll⟩

set_option maxRecDepth 100000 in
theorem eq_I_areAll (x : In pk_I_areAll) : semF (mkE [(162, c_slices_ContainsFunc_sint_int), (163, c_I_areAll_1)]) h_I_areAll (info Try.f116) pk_I_areAll rk_I_areAll x = M_I_areAll x := (semFF_eq _ _ _ _ _ _).symm.trans (by kernel_rfl)

set_option maxRecDepth 100000 in
theorem m_I_areAll : ConOK Try.prog 116 c_I_areAll := fn_ok (tyOK _) (E := mkE [(162, c_slices_ContainsFunc_sint_int), (163, c_I_areAll_1)]) (consOK_cons m_slices_ContainsFunc_sint_int (consOK_cons m_I_areAll_1 (consOK_nil rfl))) Try.func116 (h := h_I_areAll) (by kernel_rfl) eq_I_areAll

/-- I_areBelow_1 -/
def pk_I_areBelow_1 : List PK := [.data (.int .i64), .rp (.int .i64)]
def rk_I_areBelow_1 : List (Ty × Bool) := [(.bool, false)]
def h_I_areBelow_1 : Hints := { loops := [] }
noncomputable def M_I_areBelow_1 (x : (Int × Int)) : (Option Bool) :=
  (bindO (some (IntKind.wrap .i64 (x.2 - (1 : Int)))) (fun (a0 : Int) => (bindO (M_I_within (x.1, ((0 : Int), a0))) (fun (a1 : Bool) => (some a1)))))

noncomputable def c_I_areBelow_1 : Con0 := ⟨pk_I_areBelow_1, rk_I_areBelow_1, M_I_areBelow_1⟩

set_option maxRecDepth 100000 in
theorem eq_I_areBelow_1 (x : In pk_I_areBelow_1) : semF (mkE [(64, c_I_within)]) h_I_areBelow_1 (info Try.f136) pk_I_areBelow_1 rk_I_areBelow_1 x = M_I_areBelow_1 x := (semFF_eq _ _ _ _ _ _).symm.trans (by kernel_rfl)

set_option maxRecDepth 100000 in
theorem m_I_areBelow_1 : ConOK Try.prog 136 c_I_areBelow_1 := fn_ok (tyOK _) (E := mkE [(64, c_I_within)]) (consOK_cons m_I_within (consOK_nil rfl)) Try.func136 (h := h_I_areBelow_1) (by kernel_rfl) eq_I_areBelow_1

/-- I_areBelow -/
def pk_I_areBelow : List PK := [.data (.sl (.int .i64)), .data (.int .i64)]
def rk_I_areBelow : List (Ty × Bool) := [(.bool, false)]
def h_I_areBelow : Hints := { loops := [] }
noncomputable def M_I_areBelow (x : ((List Int) × Int)) : (Option Bool) :=
  (bindO (M_I_areAll (x.1, (fun (a0 : Int) => (bindO (M_I_areBelow_1 (a0, x.2)) (fun (a1 : Bool) => (some a1)))))) (fun (a2 : Bool) => (some a2)))

noncomputable def c_I_areBelow : Con0 := ⟨pk_I_areBelow, rk_I_areBelow, M_I_areBelow⟩

set_option maxRecDepth 100000 in
theorem eq_I_areBelow (x : In pk_I_areBelow) : semF (mkE [(116, c_I_areAll), (136, c_I_areBelow_1)]) h_I_areBelow (info Try.f82) pk_I_areBelow rk_I_areBelow x = M_I_areBelow x := (semFF_eq _ _ _ _ _ _).symm.trans (by kernel_rfl)

set_option maxRecDepth 100000 in
theorem m_I_areBelow : ConOK Try.prog 82 c_I_areBelow := fn_ok (tyOK _) (E := mkE [(116, c_I_areAll), (136, c_I_areBelow_1)]) (consOK_cons m_I_areAll (consOK_cons m_I_areBelow_1 (consOK_nil rfl))) Try.func82 (h := h_I_areBelow) (by kernel_rfl) eq_I_areBelow

/-- slices_Index_sint_int -/
def pk_slices_Index_sint_int : List PK := [.data (.sl (.int .i64)), .data (.int .i64)]
def rk_slices_Index_sint_int : List (Ty × Bool) := [((.int .i64), false)]
def h_slices_Index_sint_int : Hints := { loops := [(0, { items := [.slot 8 (.data (.int .i64) [])], kill := sgN 2 5 ++ (sgN 9 10) })] }
noncomputable def M_slices_Index_sint_int (x : ((List Int) × Int)) : (Option Int) :=
  (loopO (fun (again0 : (Int → (Option Int))) => (fun (s1 : Int) => (cond (decide (s1 < (((List.length x.1) : Nat) : Int))) (bindO (getI x.1 s1) (fun (a2 : Int) => (cond (x.2 == a2) (some s1) (bindO (some (IntKind.wrap .i64 (s1 + (1 : Int)))) (fun (a3 : Int) => (again0 a3)))))) (some (- (1 : Int)))))) (0 : Int))

noncomputable def c_slices_Index_sint_int : Con0 := ⟨pk_slices_Index_sint_int, rk_slices_Index_sint_int, M_slices_Index_sint_int⟩

set_option maxRecDepth 100000 in
theorem eq_slices_Index_sint_int (x : In pk_slices_Index_sint_int) : semF (mkE []) h_slices_Index_sint_int (info Try.f103) pk_slices_Index_sint_int rk_slices_Index_sint_int x = M_slices_Index_sint_int x := (semFF_eq _ _ _ _ _ _).symm.trans (by kernel_rfl)

set_option maxRecDepth 100000 in
theorem m_slices_Index_sint_int : ConOK Try.prog 103 c_slices_Index_sint_int := fn_ok (tyOK _) (E := mkE []) (consOK_nil rfl) Try.func103 (h := h_slices_Index_sint_int) (by kernel_rfl) eq_slices_Index_sint_int

/-- slices_Contains_sint_int -/
def pk_slices_Contains_sint_int : List PK := [.data (.sl (.int .i64)), .data (.int .i64)]
def rk_slices_Contains_sint_int : List (Ty × Bool) := [(.bool, false)]
def h_slices_Contains_sint_int : Hints := { loops := [] }
noncomputable def M_slices_Contains_sint_int (x : ((List Int) × Int)) : (Option Bool) :=
  (bindO (M_slices_Index_sint_int (x.1, x.2)) (fun (a0 : Int) => (some (decide (a0 ≥ (0 : Int))))))

noncomputable def c_slices_Contains_sint_int : Con0 := ⟨pk_slices_Contains_sint_int, rk_slices_Contains_sint_int, M_slices_Contains_sint_int⟩

set_option maxRecDepth 100000 in
theorem eq_slices_Contains_sint_int (x : In pk_slices_Contains_sint_int) : semF (mkE [(103, c_slices_Index_sint_int)]) h_slices_Contains_sint_int (info Try.f105) pk_slices_Contains_sint_int rk_slices_Contains_sint_int x = M_slices_Contains_sint_int x := (semFF_eq _ _ _ _ _ _).symm.trans (by kernel_rfl)

set_option maxRecDepth 100000 in
theorem m_slices_Contains_sint_int : ConOK Try.prog 105 c_slices_Contains_sint_int := fn_ok (tyOK _) (E := mkE [(103, c_slices_Index_sint_int)]) (consOK_cons m_slices_Index_sint_int (consOK_nil rfl)) Try.func105 (h := h_slices_Contains_sint_int) (by kernel_rfl) eq_slices_Contains_sint_int

/-- I_areDifferent -/
def pk_I_areDifferent : List PK := [.data (.sl (.int .i64))]
def rk_I_areDifferent : List (Ty × Bool) := [(.bool, false)]
def h_I_areDifferent : Hints := { loops := [(0, { items := [.slot 7 (.data (.int .i64) [])], kill := sgN 1 4 ++ (sgN 8 10) })] }
noncomputable def M_I_areDifferent (x : (List Int)) : (Option Bool) :=
  (loopO (fun (again0 : (Int → (Option Bool))) => (fun (s1 : Int) => (cond (decide (s1 < (((List.length x) : Nat) : Int))) (bindO (getI x s1) (fun (a2 : Int) => (bindO (sliceNH s1 (List.length x)) (fun (a3 : (Nat × Nat)) => (bindO (M_slices_Contains_sint_int ((List.drop a3.1 (List.take a3.2 x)), a2)) (fun (a4 : Bool) => (cond a4 (some false) (bindO (some (IntKind.wrap .i64 (s1 + (1 : Int)))) (fun (a5 : Int) => (again0 a5)))))))))) (some true)))) (0 : Int))

noncomputable def c_I_areDifferent : Con0 := ⟨pk_I_areDifferent, rk_I_areDifferent, M_I_areDifferent⟩

set_option maxRecDepth 100000 in
theorem eq_I_areDifferent (x : In pk_I_areDifferent) : semF (mkE [(105, c_slices_Contains_sint_int)]) h_I_areDifferent (info Try.f135) pk_I_areDifferent rk_I_areDifferent x = M_I_areDifferent x := (semFF_eq _ _ _ _ _ _).symm.trans (by kernel_rfl)

set_option maxRecDepth 100000 in
theorem m_I_areDifferent : ConOK Try.prog 135 c_I_areDifferent := fn_ok (tyOK _) (E := mkE [(105, c_slices_Contains_sint_int)]) (consOK_cons m_slices_Contains_sint_int (consOK_nil rfl)) Try.func135 (h := h_I_areDifferent) (by kernel_rfl) eq_I_areDifferent

/-- I_areRankings_1 -/
def pk_I_areRankings_1 : List PK := [.data (.sl (.int .i64)), .rp (.int .i64)]
def rk_I_areRankings_1 : List (Ty × Bool) := [(.bool, false)]
def h_I_areRankings_1 : Hints := { loops := [] }
noncomputable def M_I_areRankings_1 (x : ((List Int) × Int)) : (Option Bool) :=
  (bindO (M_I_areBelow (x.1, x.2)) (fun (a0 : Bool) => (cond (not a0) (some true) (bindO (M_I_areDifferent x.1) (fun (a1 : Bool) => (some (not a1)))))))

noncomputable def c_I_areRankings_1 : Con0 := ⟨pk_I_areRankings_1, rk_I_areRankings_1, M_I_areRankings_1⟩

set_option maxRecDepth 100000 in
theorem eq_I_areRankings_1 (x : In pk_I_areRankings_1) : semF (mkE [(82, c_I_areBelow), (135, c_I_areDifferent)]) h_I_areRankings_1 (info Try.f155) pk_I_areRankings_1 rk_I_areRankings_1 x = M_I_areRankings_1 x := (semFF_eq _ _ _ _ _ _).symm.trans (by kernel_rfl)

set_option maxRecDepth 100000 in
theorem m_I_areRankings_1 : ConOK Try.prog 155 c_I_areRankings_1 := fn_ok (tyOK _) (E := mkE [(82, c_I_areBelow), (135, c_I_areDifferent)]) (consOK_cons m_I_areBelow (consOK_cons m_I_areDifferent (consOK_nil rfl))) Try.func155 (h := h_I_areRankings_1) (by kernel_rfl) eq_I_areRankings_1

/-- I_areRankings -/
def pk_I_areRankings : List PK := [.data (.int .i64), .data (.sl (.sl (.int .i64)))]
def rk_I_areRankings : List (Ty × Bool) := [(.bool, false)]
def h_I_areRankings : Hints := { loops := [] }
noncomputable def M_I_areRankings (x : (Int × (List (List Int)))) : (Option Bool) :=
  (bindO (M_I_within (x.1, ((1 : Int), (8 : Int)))) (fun (a0 : Bool) => (cond a0 (cond (decide ((((List.length x.2) : Nat) : Int) ≤ (24 : Int))) (bindO (M_slices_ContainsFunc_ssint_sint (x.2, (fun (a1 : (List Int)) => (bindO (M_I_areRankings_1 (a1, x.1)) (fun (a2 : Bool) => (some a2)))))) (fun (a3 : Bool) => (some (not a3)))) (some false)) (some false))))

noncomputable def c_I_areRankings : Con0 := ⟨pk_I_areRankings, rk_I_areRankings, M_I_areRankings⟩

set_option maxRecDepth 100000 in
theorem eq_I_areRankings (x : In pk_I_areRankings) : semF (mkE [(64, c_I_within), (154, c_slices_ContainsFunc_ssint_sint), (155, c_I_areRankings_1)]) h_I_areRankings (info Try.f99) pk_I_areRankings rk_I_areRankings x = M_I_areRankings x := (semFF_eq _ _ _ _ _ _).symm.trans (by kernel_rfl)

set_option maxRecDepth 100000 in
theorem m_I_areRankings : ConOK Try.prog 99 c_I_areRankings := fn_ok (tyOK _) (E := mkE [(64, c_I_within), (154, c_slices_ContainsFunc_ssint_sint), (155, c_I_areRankings_1)]) (consOK_cons m_I_within (consOK_cons m_slices_ContainsFunc_ssint_sint (consOK_cons m_I_areRankings_1 (consOK_nil rfl)))) Try.func99 (h := h_I_areRankings) (by kernel_rfl) eq_I_areRankings

/-- I_PairwiseMatrix -/
def pk_I_PairwiseMatrix : List PK := [.data (.int .i64), .data (.sl (.sl (.int .i64)))]
def rk_I_PairwiseMatrix : List (Ty × Bool) := [((.sl (.sl (.int .i64))), true), (.bool, false)]
def h_I_PairwiseMatrix : Hints := { loops := [(0, { items := [.slot 6 (.own (.sl (.int .i64)) true), .slot 18 (.data (.int .i64) [])], kill := sgN 2 4 ++ (sgN 7 10 ++ (sgN 19 44)) }), (2, { items := [.slot 28 (.data (.int .i64) []), .arr 6 (.sl (.int .i64)) true], kill := sgN 1 5 ++ (sgN 7 19 ++ (sgN 29 34)) }), (4, { items := [.slot 34 (.data (.int .i64) []), .arr 6 (.sl (.int .i64)) true], kill := sgN 1 5 ++ ([7] ++ (sgN 9 17 ++ ([29, 30, 31] ++ (sgN 35 28)))) }), (6, { items := [.slot 40 (.data (.int .i64) []), .arr 6 (.sl (.int .i64)) true], kill := sgN 1 5 ++ ([7] ++ (sgN 11 15 ++ ([29, 30, 31] ++ (sgN 35 4 ++ (sgN 41 22))))) })] }
noncomputable def M_I_PairwiseMatrix (x : (Int × (List (List Int)))) : (Option ((List (List Int)) × Bool)) :=
  (bindO (M_I_areRankings (x.1, x.2)) (fun (a0 : Bool) => (cond (not a0) (some (([] : List (List Int)), false)) (loopO (fun (again1 : (((List (List Int)) × Int) → (Option ((List (List Int)) × Bool)))) => (fun (s2 : ((List (List Int)) × Int)) => (cond (decide (s2.2 < x.1)) (bindO (guardO (((decide ((0 : Int) ≤ x.1)) && (decide (x.1 ≤ x.1))) && (decide (x.1 ≤ ((lim : Nat) : Int))))) (fun (a3 : Unit) => (bindO (guardO (lenOk ((List.length s2.1) + (List.length ((List.replicate (Int.toNat x.1) (0 : Int)) :: ([] : List (List Int))))))) (fun (a4 : Unit) => (bindO (some (s2.1 ++ ((List.replicate (Int.toNat x.1) (0 : Int)) :: ([] : List (List Int))))) (fun (a5 : (List (List Int))) => (bindO (some (IntKind.wrap .i64 (s2.2 + (1 : Int)))) (fun (a6 : Int) => (again1 (a5, a6)))))))))) (loopO (fun (again7 : ((Int × (List (List Int))) → (Option ((List (List Int)) × Bool)))) => (fun (s8 : (Int × (List (List Int)))) => (cond (decide (s8.1 < (((List.length x.2) : Nat) : Int))) (bindO (getI x.2 s8.1) (fun (a9 : (List Int)) => (loopO (fun (again10 : ((Int × (List (List Int))) → (Option ((List (List Int)) × Bool)))) => (fun (s11 : (Int × (List (List Int)))) => (cond (decide (s11.1 < (((List.length a9) : Nat) : Int))) (bindO (getI a9 s11.1) (fun (a12 : Int) => (loopO (fun (again13 : ((Int × (List (List Int))) → (Option ((List (List Int)) × Bool)))) => (fun (s14 : (Int × (List (List Int)))) => (cond (decide (s14.1 < x.1)) (bindO (some (IntKind.wrap .i64 (s11.1 + (1 : Int)))) (fun (a15 : Int) => (bindO (sliceNH a15 (List.length a9)) (fun (a16 : (Nat × Nat)) => (bindO (M_slices_Contains_sint_int ((List.drop a16.1 (List.take a16.2 a9)), s14.1)) (fun (a17 : Bool) => (cond (not a17) (bindO (getI s14.2 a12) (fun (a18 : (List Int)) => (bindO (getI a18 s14.1) (fun (a19 : Int) => (bindO (some (IntKind.wrap .i64 (a19 + (1 : Int)))) (fun (a20 : Int) => (bindO (getI a18 s14.1) (fun (a21 : Int) => (bindO (some (List.modify s14.2 (Int.toNat a12) (fun (a22 : (List Int)) => (List.set a18 (Int.toNat s14.1) a20)))) (fun (a23 : (List (List Int))) => (bindO (some (IntKind.wrap .i64 (s14.1 + (1 : Int)))) (fun (a24 : Int) => (again13 (a24, a23)))))))))))))) (bindO (some (IntKind.wrap .i64 (s14.1 + (1 : Int)))) (fun (a25 : Int) => (again13 (a25, s14.2))))))))))) (bindO (some (IntKind.wrap .i64 (s11.1 + (1 : Int)))) (fun (a26 : Int) => (again10 (a26, s14.2))))))) ((0 : Int), s11.2)))) (bindO (some (IntKind.wrap .i64 (s8.1 + (1 : Int)))) (fun (a27 : Int) => (again7 (a27, s11.2))))))) ((0 : Int), s8.2)))) (some (s8.2, true))))) ((0 : Int), s2.1))))) (([] : List (List Int)), (0 : Int))))))

noncomputable def c_I_PairwiseMatrix : Con0 := ⟨pk_I_PairwiseMatrix, rk_I_PairwiseMatrix, M_I_PairwiseMatrix⟩

set_option maxRecDepth 100000 in
theorem eq_I_PairwiseMatrix (x : In pk_I_PairwiseMatrix) : semF (mkE [(99, c_I_areRankings), (105, c_slices_Contains_sint_int)]) h_I_PairwiseMatrix (info Try.f53) pk_I_PairwiseMatrix rk_I_PairwiseMatrix x = M_I_PairwiseMatrix x := (semFF_eq _ _ _ _ _ _).symm.trans (by kernel_rfl)

set_option maxRecDepth 100000 in
theorem m_I_PairwiseMatrix : ConOK Try.prog 53 c_I_PairwiseMatrix := fn_ok (tyOK _) (E := mkE [(99, c_I_areRankings), (105, c_slices_Contains_sint_int)]) (consOK_cons m_I_areRankings (consOK_cons m_slices_Contains_sint_int (consOK_nil rfl))) Try.func53 (h := h_I_PairwiseMatrix) (by kernel_rfl) eq_I_PairwiseMatrix

/-- S_l1All -/
def pk_S_l1All : List PK := [.data (.sl (.int .i64)), .data (.int .i64), .data (.int .i64)]
def rk_S_l1All : List (Ty × Bool) := [(.bool, false)]
def h_S_l1All : Hints := { loops := [(0, { items := [.slot 11 (.data (.int .i64) [])], kill := [0] ++ (sgN 3 6 ++ (sgN 12 9)) })] }
noncomputable def M_S_l1All (x : ((List Int) × (Int × Int))) : (Option Bool) :=
  (loopO (fun (again0 : (Int → (Option Bool))) => (fun (s1 : Int) => (cond (decide (s1 < (((List.length x.1) : Nat) : Int))) (bindO (getI x.1 s1) (fun (a2 : Int) => (bindO (M_S_l1In (a2, (x.2.1, x.2.2))) (fun (a3 : Bool) => (cond (not a3) (some false) (bindO (some (IntKind.wrap .i64 (s1 + (1 : Int)))) (fun (a4 : Int) => (again0 a4)))))))) (some true)))) (0 : Int))

noncomputable def c_S_l1All : Con0 := ⟨pk_S_l1All, rk_S_l1All, M_S_l1All⟩

set_option maxRecDepth 100000 in
theorem eq_S_l1All (x : In pk_S_l1All) : semF (mkE [(61, c_S_l1In)]) h_S_l1All (info Try.f114) pk_S_l1All rk_S_l1All x = M_S_l1All x := (semFF_eq _ _ _ _ _ _).symm.trans (by kernel_rfl)

set_option maxRecDepth 100000 in
theorem m_S_l1All : ConOK Try.prog 114 c_S_l1All := fn_ok (tyOK _) (E := mkE [(61, c_S_l1In)]) (consOK_cons m_S_l1In (consOK_nil rfl)) Try.func114 (h := h_S_l1All) (by kernel_rfl) eq_S_l1All

/-- S_l1Has -/
def pk_S_l1Has : List PK := [.data (.sl (.int .i64)), .data (.int .i64)]
def rk_S_l1Has : List (Ty × Bool) := [(.bool, false)]
def h_S_l1Has : Hints := { loops := [(0, { items := [.slot 9 (.data (.int .i64) [])], kill := [0] ++ (sgN 2 5 ++ (sgN 10 7)) })] }
noncomputable def M_S_l1Has (x : ((List Int) × Int)) : (Option Bool) :=
  (loopO (fun (again0 : (Int → (Option Bool))) => (fun (s1 : Int) => (cond (decide (s1 < (((List.length x.1) : Nat) : Int))) (bindO (getI x.1 s1) (fun (a2 : Int) => (cond (a2 == x.2) (some true) (bindO (some (IntKind.wrap .i64 (s1 + (1 : Int)))) (fun (a3 : Int) => (again0 a3)))))) (some false)))) (0 : Int))

noncomputable def c_S_l1Has : Con0 := ⟨pk_S_l1Has, rk_S_l1Has, M_S_l1Has⟩

set_option maxRecDepth 100000 in
theorem eq_S_l1Has (x : In pk_S_l1Has) : semF (mkE []) h_S_l1Has (info Try.f115) pk_S_l1Has rk_S_l1Has x = M_S_l1Has x := (semFF_eq _ _ _ _ _ _).symm.trans (by kernel_rfl)

set_option maxRecDepth 100000 in
theorem m_S_l1Has : ConOK Try.prog 115 c_S_l1Has := fn_ok (tyOK _) (E := mkE []) (consOK_nil rfl) Try.func115 (h := h_S_l1Has) (by kernel_rfl) eq_S_l1Has

/-- S_vDifferent -/
def pk_S_vDifferent : List PK := [.data (.sl (.int .i64))]
def rk_S_vDifferent : List (Ty × Bool) := [(.bool, false)]
def h_S_vDifferent : Hints := { loops := [(0, { items := [.slot 7 (.data (.int .i64) [])], kill := sgN 1 4 ++ (sgN 8 10) })] }
noncomputable def M_S_vDifferent (x : (List Int)) : (Option Bool) :=
  (loopO (fun (again0 : (Int → (Option Bool))) => (fun (s1 : Int) => (cond (decide (s1 < (((List.length x) : Nat) : Int))) (bindO (getI x s1) (fun (a2 : Int) => (bindO (sliceNH s1 (List.length x)) (fun (a3 : (Nat × Nat)) => (bindO (M_S_l1Has ((List.drop a3.1 (List.take a3.2 x)), a2)) (fun (a4 : Bool) => (cond a4 (some false) (bindO (some (IntKind.wrap .i64 (s1 + (1 : Int)))) (fun (a5 : Int) => (again0 a5)))))))))) (some true)))) (0 : Int))

noncomputable def c_S_vDifferent : Con0 := ⟨pk_S_vDifferent, rk_S_vDifferent, M_S_vDifferent⟩

set_option maxRecDepth 100000 in
theorem eq_S_vDifferent (x : In pk_S_vDifferent) : semF (mkE [(115, c_S_l1Has)]) h_S_vDifferent (info Try.f157) pk_S_vDifferent rk_S_vDifferent x = M_S_vDifferent x := (semFF_eq _ _ _ _ _ _).symm.trans (by kernel_rfl)

set_option maxRecDepth 100000 in
theorem m_S_vDifferent : ConOK Try.prog 157 c_S_vDifferent := fn_ok (tyOK _) (E := mkE [(115, c_S_l1Has)]) (consOK_cons m_S_l1Has (consOK_nil rfl)) Try.func157 (h := h_S_vDifferent) (by kernel_rfl) eq_S_vDifferent

/-- S_tRanks -/
def pk_S_tRanks : List PK := [.data (.int .i64), .data (.sl (.sl (.int .i64)))]
def rk_S_tRanks : List (Ty × Bool) := [(.bool, false)]
def h_S_tRanks : Hints := { loops := [(0, { items := [.slot 17 (.data (.int .i64) [])], kill := sgN 1 14 ++ (sgN 18 14) })] }
noncomputable def M_S_tRanks (x : (Int × (List (List Int)))) : (Option Bool) :=
  (bindO (M_S_l1In (x.1, ((1 : Int), (8 : Int)))) (fun (a0 : Bool) => (cond (not a0) (some false) (cond (decide ((((List.length x.2) : Nat) : Int) > (24 : Int))) (some false) (loopO (fun (again1 : (Int → (Option Bool))) => (fun (s2 : Int) => (cond (decide (s2 < (((List.length x.2) : Nat) : Int))) (bindO (getI x.2 s2) (fun (a3 : (List Int)) => (bindO (some (IntKind.wrap .i64 (x.1 - (1 : Int)))) (fun (a4 : Int) => (bindO (M_S_l1All (a3, ((0 : Int), a4))) (fun (a5 : Bool) => (cond (not a5) (some false) (bindO (M_S_vDifferent a3) (fun (a6 : Bool) => (cond (not a6) (some false) (bindO (some (IntKind.wrap .i64 (s2 + (1 : Int)))) (fun (a7 : Int) => (again1 a7))))))))))))) (some true)))) (0 : Int))))))

noncomputable def c_S_tRanks : Con0 := ⟨pk_S_tRanks, rk_S_tRanks, M_S_tRanks⟩

set_option maxRecDepth 100000 in
theorem eq_S_tRanks (x : In pk_S_tRanks) : semF (mkE [(61, c_S_l1In), (114, c_S_l1All), (157, c_S_vDifferent)]) h_S_tRanks (info Try.f101) pk_S_tRanks rk_S_tRanks x = M_S_tRanks x := (semFF_eq _ _ _ _ _ _).symm.trans (by kernel_rfl)

set_option maxRecDepth 100000 in
theorem m_S_tRanks : ConOK Try.prog 101 c_S_tRanks := fn_ok (tyOK _) (E := mkE [(61, c_S_l1In), (114, c_S_l1All), (157, c_S_vDifferent)]) (consOK_cons m_S_l1In (consOK_cons m_S_l1All (consOK_cons m_S_vDifferent (consOK_nil rfl)))) Try.func101 (h := h_S_tRanks) (by kernel_rfl) eq_S_tRanks

/-- S_tPlace -/
def pk_S_tPlace : List PK := [.data (.sl (.int .i64)), .data (.int .i64)]
def rk_S_tPlace : List (Ty × Bool) := [((.int .i64), false)]
def h_S_tPlace : Hints := { loops := [(0, { items := [.slot 9 (.data (.int .i64) [])], kill := [0] ++ (sgN 2 5 ++ (sgN 10 9)) })] }
noncomputable def M_S_tPlace (x : ((List Int) × Int)) : (Option Int) :=
  (loopO (fun (again0 : (Int → (Option Int))) => (fun (s1 : Int) => (cond (decide (s1 < (((List.length x.1) : Nat) : Int))) (bindO (getI x.1 s1) (fun (a2 : Int) => (cond (a2 == x.2) (some s1) (bindO (some (IntKind.wrap .i64 (s1 + (1 : Int)))) (fun (a3 : Int) => (again0 a3)))))) (some (8 : Int))))) (0 : Int))

noncomputable def c_S_tPlace : Con0 := ⟨pk_S_tPlace, rk_S_tPlace, M_S_tPlace⟩

set_option maxRecDepth 100000 in
theorem eq_S_tPlace (x : In pk_S_tPlace) : semF (mkE []) h_S_tPlace (info Try.f106) pk_S_tPlace rk_S_tPlace x = M_S_tPlace x := (semFF_eq _ _ _ _ _ _).symm.trans (by kernel_rfl)

set_option maxRecDepth 100000 in
theorem m_S_tPlace : ConOK Try.prog 106 c_S_tPlace := fn_ok (tyOK _) (E := mkE []) (consOK_nil rfl) Try.func106 (h := h_S_tPlace) (by kernel_rfl) eq_S_tPlace

/-- S_PairwiseMatrix -/
def pk_S_PairwiseMatrix : List PK := [.data (.int .i64), .data (.sl (.sl (.int .i64)))]
def rk_S_PairwiseMatrix : List (Ty × Bool) := [((.sl (.sl (.int .i64))), true), (.bool, false)]
def h_S_PairwiseMatrix : Hints := { loops := [(0, { items := [.slot 6 (.own (.sl (.int .i64)) true), .slot 7 (.data (.int .i64) [])], kill := sgN 2 4 ++ (sgN 8 46) }), (2, { items := [.slot 25 (.data (.int .i64) []), .arr 8 (.int .i64) true], kill := sgN 2 4 ++ (sgN 9 15 ++ (sgN 26 28)) }), (4, { items := [.slot 30 (.data (.int .i64) []), .arr 8 (.int .i64) true], kill := sgN 2 4 ++ (sgN 10 14 ++ ([26, 27] ++ (sgN 31 23))) })] }
noncomputable def M_S_PairwiseMatrix (x : (Int × (List (List Int)))) : (Option ((List (List Int)) × Bool)) :=
  (bindO (M_S_tRanks (x.1, x.2)) (fun (a0 : Bool) => (cond (not a0) (some (([] : List (List Int)), false)) (loopO (fun (again1 : (((List (List Int)) × Int) → (Option ((List (List Int)) × Bool)))) => (fun (s2 : ((List (List Int)) × Int)) => (cond (decide (s2.2 < x.1)) (bindO (guardO (((decide ((0 : Int) ≤ x.1)) && (decide (x.1 ≤ x.1))) && (decide (x.1 ≤ ((lim : Nat) : Int))))) (fun (a3 : Unit) => (loopO (fun (again4 : ((Int × (List Int)) → (Option ((List (List Int)) × Bool)))) => (fun (s5 : (Int × (List Int))) => (cond (decide (s5.1 < (((List.length (List.replicate (Int.toNat x.1) (0 : Int))) : Nat) : Int))) (loopO (fun (again6 : ((Int × (List Int)) → (Option ((List (List Int)) × Bool)))) => (fun (s7 : (Int × (List Int))) => (cond (decide (s7.1 < (((List.length x.2) : Nat) : Int))) (bindO (getI x.2 s7.1) (fun (a8 : (List Int)) => (bindO (M_S_tPlace (a8, s2.2)) (fun (a9 : Int) => (bindO (M_S_tPlace (a8, s5.1)) (fun (a10 : Int) => (cond (decide (a9 < a10)) (bindO (getI s7.2 s5.1) (fun (a11 : Int) => (bindO (some (IntKind.wrap .i64 (a11 + (1 : Int)))) (fun (a12 : Int) => (bindO (getI s7.2 s5.1) (fun (a13 : Int) => (bindO (some (List.set s7.2 (Int.toNat s5.1) a12)) (fun (a14 : (List Int)) => (bindO (some (IntKind.wrap .i64 (s7.1 + (1 : Int)))) (fun (a15 : Int) => (again6 (a15, a14)))))))))))) (bindO (some (IntKind.wrap .i64 (s7.1 + (1 : Int)))) (fun (a16 : Int) => (again6 (a16, s7.2))))))))))) (bindO (some (IntKind.wrap .i64 (s5.1 + (1 : Int)))) (fun (a17 : Int) => (again4 (a17, s7.2))))))) ((0 : Int), s5.2)) (bindO (guardO (lenOk ((List.length s2.1) + (List.length (s5.2 :: ([] : List (List Int))))))) (fun (a18 : Unit) => (bindO (some (s2.1 ++ (s5.2 :: ([] : List (List Int))))) (fun (a19 : (List (List Int))) => (bindO (some (IntKind.wrap .i64 (s2.2 + (1 : Int)))) (fun (a20 : Int) => (again1 (a19, a20))))))))))) ((0 : Int), (List.replicate (Int.toNat x.1) (0 : Int)))))) (some (s2.1, true))))) (([] : List (List Int)), (0 : Int))))))

noncomputable def c_S_PairwiseMatrix : Con0 := ⟨pk_S_PairwiseMatrix, rk_S_PairwiseMatrix, M_S_PairwiseMatrix⟩

set_option maxRecDepth 100000 in
theorem eq_S_PairwiseMatrix (x : In pk_S_PairwiseMatrix) : semF (mkE [(101, c_S_tRanks), (106, c_S_tPlace)]) h_S_PairwiseMatrix (info Try.f54) pk_S_PairwiseMatrix rk_S_PairwiseMatrix x = M_S_PairwiseMatrix x := (semFF_eq _ _ _ _ _ _).symm.trans (by kernel_rfl)

set_option maxRecDepth 100000 in
theorem m_S_PairwiseMatrix : ConOK Try.prog 54 c_S_PairwiseMatrix := fn_ok (tyOK _) (E := mkE [(101, c_S_tRanks), (106, c_S_tPlace)]) (consOK_cons m_S_tRanks (consOK_cons m_S_tPlace (consOK_nil rfl))) Try.func54 (h := h_S_PairwiseMatrix) (by kernel_rfl) eq_S_PairwiseMatrix

/-- L_sameInts -/
def pk_L_sameInts : List PK := [.data (.sl (.int .i64)), .data (.sl (.int .i64))]
def rk_L_sameInts : List (Ty × Bool) := [(.bool, false)]
def h_L_sameInts : Hints := { loops := [(0, { items := [.slot 13 (.data (.int .i64) [])], kill := sgN 2 10 ++ (sgN 14 12) })] }
noncomputable def M_L_sameInts (x : ((List Int) × (List Int))) : (Option Bool) :=
  (cond ((((List.length x.1) : Nat) : Int) != (((List.length x.2) : Nat) : Int)) (some false) (loopO (fun (again0 : (Int → (Option Bool))) => (fun (s1 : Int) => (cond (decide (s1 < (((List.length x.1) : Nat) : Int))) (bindO (getI x.1 s1) (fun (a2 : Int) => (bindO (getI x.2 s1) (fun (a3 : Int) => (cond (a2 != a3) (some false) (bindO (some (IntKind.wrap .i64 (s1 + (1 : Int)))) (fun (a4 : Int) => (again0 a4)))))))) (some true)))) (0 : Int)))

noncomputable def c_L_sameInts : Con0 := ⟨pk_L_sameInts, rk_L_sameInts, M_L_sameInts⟩

set_option maxRecDepth 100000 in
theorem eq_L_sameInts (x : In pk_L_sameInts) : semF (mkE []) h_L_sameInts (info Try.f42) pk_L_sameInts rk_L_sameInts x = M_L_sameInts x := (semFF_eq _ _ _ _ _ _).symm.trans (by kernel_rfl)

set_option maxRecDepth 100000 in
theorem m_L_sameInts : ConOK Try.prog 42 c_L_sameInts := fn_ok (tyOK _) (E := mkE []) (consOK_nil rfl) Try.func42 (h := h_L_sameInts) (by kernel_rfl) eq_L_sameInts

/-- L_sameLists -/
def pk_L_sameLists : List PK := [.data (.sl (.sl (.int .i64))), .data (.sl (.sl (.int .i64)))]
def rk_L_sameLists : List (Ty × Bool) := [(.bool, false)]
def h_L_sameLists : Hints := { loops := [(0, { items := [.slot 13 (.data (.int .i64) [])], kill := sgN 2 10 ++ (sgN 14 13) })] }
noncomputable def M_L_sameLists (x : ((List (List Int)) × (List (List Int)))) : (Option Bool) :=
  (cond ((((List.length x.1) : Nat) : Int) != (((List.length x.2) : Nat) : Int)) (some false) (loopO (fun (again0 : (Int → (Option Bool))) => (fun (s1 : Int) => (cond (decide (s1 < (((List.length x.1) : Nat) : Int))) (bindO (getI x.1 s1) (fun (a2 : (List Int)) => (bindO (getI x.2 s1) (fun (a3 : (List Int)) => (bindO (M_L_sameInts (a2, a3)) (fun (a4 : Bool) => (cond (not a4) (some false) (bindO (some (IntKind.wrap .i64 (s1 + (1 : Int)))) (fun (a5 : Int) => (again0 a5)))))))))) (some true)))) (0 : Int)))

noncomputable def c_L_sameLists : Con0 := ⟨pk_L_sameLists, rk_L_sameLists, M_L_sameLists⟩

set_option maxRecDepth 100000 in
theorem eq_L_sameLists (x : In pk_L_sameLists) : semF (mkE [(42, c_L_sameInts)]) h_L_sameLists (info Try.f47) pk_L_sameLists rk_L_sameLists x = M_L_sameLists x := (semFF_eq _ _ _ _ _ _).symm.trans (by kernel_rfl)

set_option maxRecDepth 100000 in
theorem m_L_sameLists : ConOK Try.prog 47 c_L_sameLists := fn_ok (tyOK _) (E := mkE [(42, c_L_sameInts)]) (consOK_cons m_L_sameInts (consOK_nil rfl)) Try.func47 (h := h_L_sameLists) (by kernel_rfl) eq_L_sameLists

/-- S_DrawCondorcetWinner -/
def pk_S_DrawCondorcetWinner : List PK := [.data (.sl (.int .u8))]
def rk_S_DrawCondorcetWinner : List (Ty × Bool) := [((.sl (.sl (.int .i64))), true)]
def h_S_DrawCondorcetWinner : Hints := { loops := [(0, { items := [.slot 4 (.own (.sl (.int .i64)) true), .slot 7 (.data (.int .i64) []), .cell 12 0 (.data (.sl (.int .u8)) []), .cell 12 1 (.data (.int .i64) []), .cell 12 2 (.data (.int .u64) [])], kill := [0, 1, 2, 5] ++ (sgN 8 4 ++ (sgN 13 49)) }), (2, { items := [.slot 39 (.data (.int .i64) []), .cell 12 0 (.data (.sl (.int .u8)) []), .cell 12 1 (.data (.int .i64) []), .cell 12 2 (.data (.int .u64) []), .arr 8 (.int .i64) true], kill := [0, 1, 2, 5, 9, 10, 11] ++ (sgN 13 25 ++ (sgN 40 22)) })] }
noncomputable def M_S_DrawCondorcetWinner (x : (List Int)) : (Option (List (List Int))) :=
  (bindO (M_S_l1Cur_ranks (x, ((0 : Int), (0 : Int)))) (fun (a0 : (Int × ((List (List Int)) × ((List Int) × (Int × Int))))) => (bindO (M_S_PairwiseMatrix (a0.1, a0.2.1)) (fun (a1 : ((List (List Int)) × Bool)) => (cond (not a1.2) (bindO (M_S_l1Cur_pick (a0.2.2, (5 : Int))) (fun (a2 : (Int × ((List Int) × (Int × Int)))) => (bindO (some (IntKind.wrap .i64 ((1 : Int) + a2.1))) (fun (a3 : Int) => (loopO (fun (again4 : (((List (List Int)) × (Int × ((List Int) × (Int × Int)))) → (Option (List (List Int))))) => (fun (s5 : ((List (List Int)) × (Int × ((List Int) × (Int × Int))))) => (cond (decide (s5.2.1 < a3)) (bindO (guardO (((decide ((0 : Int) ≤ a3)) && (decide (a3 ≤ a3))) && (decide (a3 ≤ ((lim : Nat) : Int))))) (fun (a6 : Unit) => (loopO (fun (again7 : ((Int × ((List Int) × (Int × (Int × (List Int))))) → (Option (List (List Int))))) => (fun (s8 : (Int × ((List Int) × (Int × (Int × (List Int)))))) => (cond (decide (s8.1 < (((List.length (List.replicate (Int.toNat a3) (0 : Int))) : Nat) : Int))) (bindO (M_S_l1Cur_pick ((s8.2.1, (s8.2.2.1, s8.2.2.2.1)), (5 : Int))) (fun (a9 : (Int × ((List Int) × (Int × Int)))) => (bindO (getI s8.2.2.2.2 s8.1) (fun (a10 : Int) => (bindO (some (List.set s8.2.2.2.2 (Int.toNat s8.1) a9.1)) (fun (a11 : (List Int)) => (bindO (some (IntKind.wrap .i64 (s8.1 + (1 : Int)))) (fun (a12 : Int) => (again7 (a12, (a9.2.1, (a9.2.2.1, (a9.2.2.2, a11))))))))))))) (bindO (guardO (lenOk ((List.length s5.1) + (List.length (s8.2.2.2.2 :: ([] : List (List Int))))))) (fun (a13 : Unit) => (bindO (some (s5.1 ++ (s8.2.2.2.2 :: ([] : List (List Int))))) (fun (a14 : (List (List Int))) => (bindO (some (IntKind.wrap .i64 (s5.2.1 + (1 : Int)))) (fun (a15 : Int) => (again4 (a14, (a15, (s8.2.1, (s8.2.2.1, s8.2.2.2.1)))))))))))))) ((0 : Int), (s5.2.2.1, (s5.2.2.2.1, (s5.2.2.2.2, (List.replicate (Int.toNat a3) (0 : Int))))))))) (bindO (M_S_l1Cur_one (s5.2.2, (16 : Int))) (fun (a16 : (Bool × ((List Int) × (Int × Int)))) => (cond a16.1 (bindO (getI s5.1 (0 : Int)) (fun (a17 : (List Int)) => (bindO (guardO (lenOk ((List.length a17) + (List.length ((1 : Int) :: ([] : List Int)))))) (fun (a18 : Unit) => (bindO (some s5.1) (fun (a19 : (List (List Int))) => (bindO (getI a19 (0 : Int)) (fun (a20 : (List Int)) => (bindO (some (List.set a19 (Int.toNat (0 : Int)) (a17 ++ ((1 : Int) :: ([] : List Int))))) (fun (a21 : (List (List Int))) => (some a21))))))))))) (some s5.1))))))) (([] : List (List Int)), ((0 : Int), a2.2))))))) (bindO (M_S_l1Cur_one (a0.2.2, (3 : Int))) (fun (a22 : (Bool × ((List Int) × (Int × Int)))) => (cond a22.1 (bindO (M_S_l1Cur_pick (a22.2, (5 : Int))) (fun (a23 : (Int × ((List Int) × (Int × Int)))) => (bindO (some (IntKind.wrap .i64 ((1 : Int) + a23.1))) (fun (a24 : Int) => (loopO (fun (again25 : (((List (List Int)) × (Int × ((List Int) × (Int × Int)))) → (Option (List (List Int))))) => (fun (s26 : ((List (List Int)) × (Int × ((List Int) × (Int × Int))))) => (cond (decide (s26.2.1 < a24)) (bindO (guardO (((decide ((0 : Int) ≤ a24)) && (decide (a24 ≤ a24))) && (decide (a24 ≤ ((lim : Nat) : Int))))) (fun (a27 : Unit) => (loopO (fun (again28 : ((Int × ((List Int) × (Int × (Int × (List Int))))) → (Option (List (List Int))))) => (fun (s29 : (Int × ((List Int) × (Int × (Int × (List Int)))))) => (cond (decide (s29.1 < (((List.length (List.replicate (Int.toNat a24) (0 : Int))) : Nat) : Int))) (bindO (M_S_l1Cur_pick ((s29.2.1, (s29.2.2.1, s29.2.2.2.1)), (5 : Int))) (fun (a30 : (Int × ((List Int) × (Int × Int)))) => (bindO (getI s29.2.2.2.2 s29.1) (fun (a31 : Int) => (bindO (some (List.set s29.2.2.2.2 (Int.toNat s29.1) a30.1)) (fun (a32 : (List Int)) => (bindO (some (IntKind.wrap .i64 (s29.1 + (1 : Int)))) (fun (a33 : Int) => (again28 (a33, (a30.2.1, (a30.2.2.1, (a30.2.2.2, a32))))))))))))) (bindO (guardO (lenOk ((List.length s26.1) + (List.length (s29.2.2.2.2 :: ([] : List (List Int))))))) (fun (a34 : Unit) => (bindO (some (s26.1 ++ (s29.2.2.2.2 :: ([] : List (List Int))))) (fun (a35 : (List (List Int))) => (bindO (some (IntKind.wrap .i64 (s26.2.1 + (1 : Int)))) (fun (a36 : Int) => (again25 (a35, (a36, (s29.2.1, (s29.2.2.1, s29.2.2.2.1)))))))))))))) ((0 : Int), (s26.2.2.1, (s26.2.2.2.1, (s26.2.2.2.2, (List.replicate (Int.toNat a24) (0 : Int))))))))) (bindO (M_S_l1Cur_one (s26.2.2, (16 : Int))) (fun (a37 : (Bool × ((List Int) × (Int × Int)))) => (cond a37.1 (bindO (getI s26.1 (0 : Int)) (fun (a38 : (List Int)) => (bindO (guardO (lenOk ((List.length a38) + (List.length ((1 : Int) :: ([] : List Int)))))) (fun (a39 : Unit) => (bindO (some s26.1) (fun (a40 : (List (List Int))) => (bindO (getI a40 (0 : Int)) (fun (a41 : (List Int)) => (bindO (some (List.set a40 (Int.toNat (0 : Int)) (a38 ++ ((1 : Int) :: ([] : List Int))))) (fun (a42 : (List (List Int))) => (some a42))))))))))) (some s26.1))))))) (([] : List (List Int)), ((0 : Int), a23.2))))))) (bindO (M_S_l1Cur_one (a22.2, (16 : Int))) (fun (a43 : (Bool × ((List Int) × (Int × Int)))) => (cond a43.1 (bindO (getI a1.1 (0 : Int)) (fun (a44 : (List Int)) => (bindO (guardO (lenOk ((List.length a44) + (List.length ((1 : Int) :: ([] : List Int)))))) (fun (a45 : Unit) => (bindO (some a1.1) (fun (a46 : (List (List Int))) => (bindO (getI a46 (0 : Int)) (fun (a47 : (List Int)) => (bindO (some (List.set a46 (Int.toNat (0 : Int)) (a44 ++ ((1 : Int) :: ([] : List Int))))) (fun (a48 : (List (List Int))) => (some a48))))))))))) (some a1.1))))))))))))

noncomputable def c_S_DrawCondorcetWinner : Con0 := ⟨pk_S_DrawCondorcetWinner, rk_S_DrawCondorcetWinner, M_S_DrawCondorcetWinner⟩

set_option maxRecDepth 100000 in
theorem eq_S_DrawCondorcetWinner (x : In pk_S_DrawCondorcetWinner) : semF (mkE [(98, c_S_l1Cur_ranks), (54, c_S_PairwiseMatrix), (134, c_S_l1Cur_one), (97, c_S_l1Cur_pick)]) h_S_DrawCondorcetWinner (info Try.f107) pk_S_DrawCondorcetWinner rk_S_DrawCondorcetWinner x = M_S_DrawCondorcetWinner x := (semFF_eq _ _ _ _ _ _).symm.trans (by kernel_rfl)

set_option maxRecDepth 100000 in
theorem m_S_DrawCondorcetWinner : ConOK Try.prog 107 c_S_DrawCondorcetWinner := fn_ok (tyOK _) (E := mkE [(98, c_S_l1Cur_ranks), (54, c_S_PairwiseMatrix), (134, c_S_l1Cur_one), (97, c_S_l1Cur_pick)]) (consOK_cons m_S_l1Cur_ranks (consOK_cons m_S_PairwiseMatrix (consOK_cons m_S_l1Cur_one (consOK_cons m_S_l1Cur_pick (consOK_nil rfl))))) Try.func107 (h := h_S_DrawCondorcetWinner) (by kernel_rfl) eq_S_DrawCondorcetWinner

/-- S_DrawSmithSet -/
def pk_S_DrawSmithSet : List PK := [.data (.sl (.int .u8))]
def rk_S_DrawSmithSet : List (Ty × Bool) := [((.sl (.sl (.int .i64))), true)]
def h_S_DrawSmithSet : Hints := { loops := [] }
noncomputable def M_S_DrawSmithSet (x : (List Int)) : (Option (List (List Int))) :=
  (bindO (M_S_DrawCondorcetWinner x) (fun (a0 : (List (List Int))) => (some a0)))

noncomputable def c_S_DrawSmithSet : Con0 := ⟨pk_S_DrawSmithSet, rk_S_DrawSmithSet, M_S_DrawSmithSet⟩

set_option maxRecDepth 100000 in
theorem eq_S_DrawSmithSet (x : In pk_S_DrawSmithSet) : semF (mkE [(107, c_S_DrawCondorcetWinner)]) h_S_DrawSmithSet (info Try.f55) pk_S_DrawSmithSet rk_S_DrawSmithSet x = M_S_DrawSmithSet x := (semFF_eq _ _ _ _ _ _).symm.trans (by kernel_rfl)

set_option maxRecDepth 100000 in
theorem m_S_DrawSmithSet : ConOK Try.prog 55 c_S_DrawSmithSet := fn_ok (tyOK _) (E := mkE [(107, c_S_DrawCondorcetWinner)]) (consOK_cons m_S_DrawCondorcetWinner (consOK_nil rfl)) Try.func55 (h := h_S_DrawSmithSet) (by kernel_rfl) eq_S_DrawSmithSet

/-- I_areCounts_1 -/
def pk_I_areCounts_1 : List PK := [.data (.int .i64)]
def rk_I_areCounts_1 : List (Ty × Bool) := [(.bool, false)]
def h_I_areCounts_1 : Hints := { loops := [] }
noncomputable def M_I_areCounts_1 (x : Int) : (Option Bool) :=
  (bindO (M_I_within (x, ((0 : Int), (1000000 : Int)))) (fun (a0 : Bool) => (some a0)))

noncomputable def c_I_areCounts_1 : Con0 := ⟨pk_I_areCounts_1, rk_I_areCounts_1, M_I_areCounts_1⟩

set_option maxRecDepth 100000 in
theorem eq_I_areCounts_1 (x : In pk_I_areCounts_1) : semF (mkE [(64, c_I_within)]) h_I_areCounts_1 (info Try.f117) pk_I_areCounts_1 rk_I_areCounts_1 x = M_I_areCounts_1 x := (semFF_eq _ _ _ _ _ _).symm.trans (by kernel_rfl)

set_option maxRecDepth 100000 in
theorem m_I_areCounts_1 : ConOK Try.prog 117 c_I_areCounts_1 := fn_ok (tyOK _) (E := mkE [(64, c_I_within)]) (consOK_cons m_I_within (consOK_nil rfl)) Try.func117 (h := h_I_areCounts_1) (by kernel_rfl) eq_I_areCounts_1

/-- I_areCounts -/
def pk_I_areCounts : List PK := [.data (.sl (.int .i64))]
def rk_I_areCounts : List (Ty × Bool) := [(.bool, false)]
def h_I_areCounts : Hints := { loops := [] }
noncomputable def M_I_areCounts (x : (List Int)) : (Option Bool) :=
  (bindO (M_I_within ((((List.length x) : Nat) : Int), ((1 : Int), (8 : Int)))) (fun (a0 : Bool) => (cond a0 (bindO (M_I_areAll (x, (fun (a1 : Int) => (bindO (M_I_areCounts_1 a1) (fun (a2 : Bool) => (some a2)))))) (fun (a3 : Bool) => (some a3))) (some false))))

noncomputable def c_I_areCounts : Con0 := ⟨pk_I_areCounts, rk_I_areCounts, M_I_areCounts⟩

set_option maxRecDepth 100000 in
theorem eq_I_areCounts (x : In pk_I_areCounts) : semF (mkE [(64, c_I_within), (116, c_I_areAll), (117, c_I_areCounts_1)]) h_I_areCounts (info Try.f63) pk_I_areCounts rk_I_areCounts x = M_I_areCounts x := (semFF_eq _ _ _ _ _ _).symm.trans (by kernel_rfl)

set_option maxRecDepth 100000 in
theorem m_I_areCounts : ConOK Try.prog 63 c_I_areCounts := fn_ok (tyOK _) (E := mkE [(64, c_I_within), (116, c_I_areAll), (117, c_I_areCounts_1)]) (consOK_cons m_I_within (consOK_cons m_I_areAll (consOK_cons m_I_areCounts_1 (consOK_nil rfl)))) Try.func63 (h := h_I_areCounts) (by kernel_rfl) eq_I_areCounts

/-- I_isPairwise_1 -/
def pk_I_isPairwise_1 : List PK := [.data (.sl (.int .i64)), .rp (.sl (.sl (.int .i64)))]
def rk_I_isPairwise_1 : List (Ty × Bool) := [(.bool, false)]
def h_I_isPairwise_1 : Hints := { loops := [] }
noncomputable def M_I_isPairwise_1 (x : ((List Int) × (List (List Int)))) : (Option Bool) :=
  (cond ((((List.length x.1) : Nat) : Int) != (((List.length x.2) : Nat) : Int)) (some true) (bindO (M_I_areCounts x.1) (fun (a0 : Bool) => (some (not a0)))))

noncomputable def c_I_isPairwise_1 : Con0 := ⟨pk_I_isPairwise_1, rk_I_isPairwise_1, M_I_isPairwise_1⟩

set_option maxRecDepth 100000 in
theorem eq_I_isPairwise_1 (x : In pk_I_isPairwise_1) : semF (mkE [(63, c_I_areCounts)]) h_I_isPairwise_1 (info Try.f159) pk_I_isPairwise_1 rk_I_isPairwise_1 x = M_I_isPairwise_1 x := (semFF_eq _ _ _ _ _ _).symm.trans (by kernel_rfl)

set_option maxRecDepth 100000 in
theorem m_I_isPairwise_1 : ConOK Try.prog 159 c_I_isPairwise_1 := fn_ok (tyOK _) (E := mkE [(63, c_I_areCounts)]) (consOK_cons m_I_areCounts (consOK_nil rfl)) Try.func159 (h := h_I_isPairwise_1) (by kernel_rfl) eq_I_isPairwise_1

/-- I_isPairwise -/
def pk_I_isPairwise : List PK := [.data (.sl (.sl (.int .i64)))]
def rk_I_isPairwise : List (Ty × Bool) := [(.bool, false)]
def h_I_isPairwise : Hints := { loops := [] }
noncomputable def M_I_isPairwise (x : (List (List Int))) : (Option Bool) :=
  (bindO (M_I_within ((((List.length x) : Nat) : Int), ((1 : Int), (8 : Int)))) (fun (a0 : Bool) => (cond a0 (bindO (M_slices_ContainsFunc_ssint_sint (x, (fun (a1 : (List Int)) => (bindO (M_I_isPairwise_1 (a1, x)) (fun (a2 : Bool) => (some a2)))))) (fun (a3 : Bool) => (some (not a3)))) (some false))))

noncomputable def c_I_isPairwise : Con0 := ⟨pk_I_isPairwise, rk_I_isPairwise, M_I_isPairwise⟩

set_option maxRecDepth 100000 in
theorem eq_I_isPairwise (x : In pk_I_isPairwise) : semF (mkE [(64, c_I_within), (154, c_slices_ContainsFunc_ssint_sint), (159, c_I_isPairwise_1)]) h_I_isPairwise (info Try.f108) pk_I_isPairwise rk_I_isPairwise x = M_I_isPairwise x := (semFF_eq _ _ _ _ _ _).symm.trans (by kernel_rfl)

set_option maxRecDepth 100000 in
theorem m_I_isPairwise : ConOK Try.prog 108 c_I_isPairwise := fn_ok (tyOK _) (E := mkE [(64, c_I_within), (154, c_slices_ContainsFunc_ssint_sint), (159, c_I_isPairwise_1)]) (consOK_cons m_I_within (consOK_cons m_slices_ContainsFunc_ssint_sint (consOK_cons m_I_isPairwise_1 (consOK_nil rfl)))) Try.func108 (h := h_I_isPairwise) (by kernel_rfl) eq_I_isPairwise

/-- math_bits_OnesCount32 -/
def pk_math_bits_OnesCount32 : List PK := [.data (.int .u32)]
def rk_math_bits_OnesCount32 : List (Ty × Bool) := [((.int .i64), false)]
def h_math_bits_OnesCount32 : Hints := { loops := [] }
noncomputable def M_math_bits_OnesCount32 (x : Int) : (Option Int) :=
  (bindO (guardO (decide ((0 : Int) ≤ (24 : Int)))) (fun (a0 : Unit) => (bindO (some (shr .u32 x (24 : Int))) (fun (a1 : Int) => (bindO (if ((0 : Int) ≤ a1) then ((bytesOf [0, 1, 1, 2, 1, 2, 2, 3, 1, 2, 2, 3, 2, 3, 3, 4, 1, 2, 2, 3, 2, 3, 3, 4, 2, 3, 3, 4, 3, 4, 4, 5, 1, 2, 2, 3, 2, 3, 3, 4, 2, 3, 3, 4, 3, 4, 4, 5, 2, 3, 3, 4, 3, 4, 4, 5, 3, 4, 4, 5, 4, 5, 5, 6, 1, 2, 2, 3, 2, 3, 3, 4, 2, 3, 3, 4, 3, 4, 4, 5, 2, 3, 3, 4, 3, 4, 4, 5, 3, 4, 4, 5, 4, 5, 5, 6, 2, 3, 3, 4, 3, 4, 4, 5, 3, 4, 4, 5, 4, 5, 5, 6, 3, 4, 4, 5, 4, 5, 5, 6, 4, 5, 5, 6, 5, 6, 6, 7, 1, 2, 2, 3, 2, 3, 3, 4, 2, 3, 3, 4, 3, 4, 4, 5, 2, 3, 3, 4, 3, 4, 4, 5, 3, 4, 4, 5, 4, 5, 5, 6, 2, 3, 3, 4, 3, 4, 4, 5, 3, 4, 4, 5, 4, 5, 5, 6, 3, 4, 4, 5, 4, 5, 5, 6, 4, 5, 5, 6, 5, 6, 6, 7, 2, 3, 3, 4, 3, 4, 4, 5, 3, 4, 4, 5, 4, 5, 5, 6, 3, 4, 4, 5, 4, 5, 5, 6, 4, 5, 5, 6, 5, 6, 6, 7, 3, 4, 4, 5, 4, 5, 5, 6, 4, 5, 5, 6, 5, 6, 6, 7, 4, 5, 5, 6, 5, 6, 6, 7, 5, 6, 6, 7, 6, 7, 7, 8])[(Int.toNat a1)]?) else (none : Option (UInt8))) (fun (a2 : (UInt8)) => (bindO (guardO (decide ((0 : Int) ≤ (16 : Int)))) (fun (a3 : Unit) => (bindO (some (shr .u32 x (16 : Int))) (fun (a4 : Int) => (bindO (some (bits .and .u32 a4 (255 : Int))) (fun (a5 : Int) => (bindO (if ((0 : Int) ≤ a5) then ((bytesOf [0, 1, 1, 2, 1, 2, 2, 3, 1, 2, 2, 3, 2, 3, 3, 4, 1, 2, 2, 3, 2, 3, 3, 4, 2, 3, 3, 4, 3, 4, 4, 5, 1, 2, 2, 3, 2, 3, 3, 4, 2, 3, 3, 4, 3, 4, 4, 5, 2, 3, 3, 4, 3, 4, 4, 5, 3, 4, 4, 5, 4, 5, 5, 6, 1, 2, 2, 3, 2, 3, 3, 4, 2, 3, 3, 4, 3, 4, 4, 5, 2, 3, 3, 4, 3, 4, 4, 5, 3, 4, 4, 5, 4, 5, 5, 6, 2, 3, 3, 4, 3, 4, 4, 5, 3, 4, 4, 5, 4, 5, 5, 6, 3, 4, 4, 5, 4, 5, 5, 6, 4, 5, 5, 6, 5, 6, 6, 7, 1, 2, 2, 3, 2, 3, 3, 4, 2, 3, 3, 4, 3, 4, 4, 5, 2, 3, 3, 4, 3, 4, 4, 5, 3, 4, 4, 5, 4, 5, 5, 6, 2, 3, 3, 4, 3, 4, 4, 5, 3, 4, 4, 5, 4, 5, 5, 6, 3, 4, 4, 5, 4, 5, 5, 6, 4, 5, 5, 6, 5, 6, 6, 7, 2, 3, 3, 4, 3, 4, 4, 5, 3, 4, 4, 5, 4, 5, 5, 6, 3, 4, 4, 5, 4, 5, 5, 6, 4, 5, 5, 6, 5, 6, 6, 7, 3, 4, 4, 5, 4, 5, 5, 6, 4, 5, 5, 6, 5, 6, 6, 7, 4, 5, 5, 6, 5, 6, 6, 7, 5, 6, 6, 7, 6, 7, 7, 8])[(Int.toNat a5)]?) else (none : Option (UInt8))) (fun (a6 : (UInt8)) => (bindO (some (IntKind.wrap .u8 ((((UInt8.toNat a2) : Nat) : Int) + (((UInt8.toNat a6) : Nat) : Int)))) (fun (a7 : Int) => (bindO (guardO (decide ((0 : Int) ≤ (8 : Int)))) (fun (a8 : Unit) => (bindO (some (shr .u32 x (8 : Int))) (fun (a9 : Int) => (bindO (some (bits .and .u32 a9 (255 : Int))) (fun (a10 : Int) => (bindO (if ((0 : Int) ≤ a10) then ((bytesOf [0, 1, 1, 2, 1, 2, 2, 3, 1, 2, 2, 3, 2, 3, 3, 4, 1, 2, 2, 3, 2, 3, 3, 4, 2, 3, 3, 4, 3, 4, 4, 5, 1, 2, 2, 3, 2, 3, 3, 4, 2, 3, 3, 4, 3, 4, 4, 5, 2, 3, 3, 4, 3, 4, 4, 5, 3, 4, 4, 5, 4, 5, 5, 6, 1, 2, 2, 3, 2, 3, 3, 4, 2, 3, 3, 4, 3, 4, 4, 5, 2, 3, 3, 4, 3, 4, 4, 5, 3, 4, 4, 5, 4, 5, 5, 6, 2, 3, 3, 4, 3, 4, 4, 5, 3, 4, 4, 5, 4, 5, 5, 6, 3, 4, 4, 5, 4, 5, 5, 6, 4, 5, 5, 6, 5, 6, 6, 7, 1, 2, 2, 3, 2, 3, 3, 4, 2, 3, 3, 4, 3, 4, 4, 5, 2, 3, 3, 4, 3, 4, 4, 5, 3, 4, 4, 5, 4, 5, 5, 6, 2, 3, 3, 4, 3, 4, 4, 5, 3, 4, 4, 5, 4, 5, 5, 6, 3, 4, 4, 5, 4, 5, 5, 6, 4, 5, 5, 6, 5, 6, 6, 7, 2, 3, 3, 4, 3, 4, 4, 5, 3, 4, 4, 5, 4, 5, 5, 6, 3, 4, 4, 5, 4, 5, 5, 6, 4, 5, 5, 6, 5, 6, 6, 7, 3, 4, 4, 5, 4, 5, 5, 6, 4, 5, 5, 6, 5, 6, 6, 7, 4, 5, 5, 6, 5, 6, 6, 7, 5, 6, 6, 7, 6, 7, 7, 8])[(Int.toNat a10)]?) else (none : Option (UInt8))) (fun (a11 : (UInt8)) => (bindO (some (IntKind.wrap .u8 (a7 + (((UInt8.toNat a11) : Nat) : Int)))) (fun (a12 : Int) => (bindO (some (bits .and .u32 x (255 : Int))) (fun (a13 : Int) => (bindO (if ((0 : Int) ≤ a13) then ((bytesOf [0, 1, 1, 2, 1, 2, 2, 3, 1, 2, 2, 3, 2, 3, 3, 4, 1, 2, 2, 3, 2, 3, 3, 4, 2, 3, 3, 4, 3, 4, 4, 5, 1, 2, 2, 3, 2, 3, 3, 4, 2, 3, 3, 4, 3, 4, 4, 5, 2, 3, 3, 4, 3, 4, 4, 5, 3, 4, 4, 5, 4, 5, 5, 6, 1, 2, 2, 3, 2, 3, 3, 4, 2, 3, 3, 4, 3, 4, 4, 5, 2, 3, 3, 4, 3, 4, 4, 5, 3, 4, 4, 5, 4, 5, 5, 6, 2, 3, 3, 4, 3, 4, 4, 5, 3, 4, 4, 5, 4, 5, 5, 6, 3, 4, 4, 5, 4, 5, 5, 6, 4, 5, 5, 6, 5, 6, 6, 7, 1, 2, 2, 3, 2, 3, 3, 4, 2, 3, 3, 4, 3, 4, 4, 5, 2, 3, 3, 4, 3, 4, 4, 5, 3, 4, 4, 5, 4, 5, 5, 6, 2, 3, 3, 4, 3, 4, 4, 5, 3, 4, 4, 5, 4, 5, 5, 6, 3, 4, 4, 5, 4, 5, 5, 6, 4, 5, 5, 6, 5, 6, 6, 7, 2, 3, 3, 4, 3, 4, 4, 5, 3, 4, 4, 5, 4, 5, 5, 6, 3, 4, 4, 5, 4, 5, 5, 6, 4, 5, 5, 6, 5, 6, 6, 7, 3, 4, 4, 5, 4, 5, 5, 6, 4, 5, 5, 6, 5, 6, 6, 7, 4, 5, 5, 6, 5, 6, 6, 7, 5, 6, 6, 7, 6, 7, 7, 8])[(Int.toNat a13)]?) else (none : Option (UInt8))) (fun (a14 : (UInt8)) => (bindO (some (IntKind.wrap .u8 (a12 + (((UInt8.toNat a14) : Nat) : Int)))) (fun (a15 : Int) => (some (IntKind.wrap .i64 a15))))))))))))))))))))))))))))))))))

noncomputable def c_math_bits_OnesCount32 : Con0 := ⟨pk_math_bits_OnesCount32, rk_math_bits_OnesCount32, M_math_bits_OnesCount32⟩

set_option maxRecDepth 100000 in
theorem eq_math_bits_OnesCount32 (x : In pk_math_bits_OnesCount32) : semF (mkE []) h_math_bits_OnesCount32 (info Try.f160) pk_math_bits_OnesCount32 rk_math_bits_OnesCount32 x = M_math_bits_OnesCount32 x := (semFF_eq _ _ _ _ _ _).symm.trans (by kernel_rfl)

set_option maxRecDepth 100000 in
theorem m_math_bits_OnesCount32 : ConOK Try.prog 160 c_math_bits_OnesCount32 := fn_ok (tyOK _) (E := mkE []) (consOK_nil rfl) Try.func160 (h := h_math_bits_OnesCount32) (by kernel_rfl) eq_math_bits_OnesCount32

/-- math_bits_OnesCount64 -/
def pk_math_bits_OnesCount64 : List PK := [.data (.int .u64)]
def rk_math_bits_OnesCount64 : List (Ty × Bool) := [((.int .i64), false)]
def h_math_bits_OnesCount64 : Hints := { loops := [] }
noncomputable def M_math_bits_OnesCount64 (x : Int) : (Option Int) :=
  (bindO (guardO (decide ((0 : Int) ≤ (1 : Int)))) (fun (a0 : Unit) => (bindO (some (shr .u64 x (1 : Int))) (fun (a1 : Int) => (bindO (some (bits .and .u64 a1 (6148914691236517205 : Int))) (fun (a2 : Int) => (bindO (some (bits .and .u64 x (6148914691236517205 : Int))) (fun (a3 : Int) => (bindO (some (IntKind.wrap .u64 (a2 + a3))) (fun (a4 : Int) => (bindO (guardO (decide ((0 : Int) ≤ (2 : Int)))) (fun (a5 : Unit) => (bindO (some (shr .u64 a4 (2 : Int))) (fun (a6 : Int) => (bindO (some (bits .and .u64 a6 (3689348814741910323 : Int))) (fun (a7 : Int) => (bindO (some (bits .and .u64 a4 (3689348814741910323 : Int))) (fun (a8 : Int) => (bindO (some (IntKind.wrap .u64 (a7 + a8))) (fun (a9 : Int) => (bindO (guardO (decide ((0 : Int) ≤ (4 : Int)))) (fun (a10 : Unit) => (bindO (some (shr .u64 a9 (4 : Int))) (fun (a11 : Int) => (bindO (some (IntKind.wrap .u64 (a11 + a9))) (fun (a12 : Int) => (bindO (some (bits .and .u64 a12 (1085102592571150095 : Int))) (fun (a13 : Int) => (bindO (guardO (decide ((0 : Int) ≤ (8 : Int)))) (fun (a14 : Unit) => (bindO (some (shr .u64 a13 (8 : Int))) (fun (a15 : Int) => (bindO (some (IntKind.wrap .u64 (a13 + a15))) (fun (a16 : Int) => (bindO (guardO (decide ((0 : Int) ≤ (16 : Int)))) (fun (a17 : Unit) => (bindO (some (shr .u64 a16 (16 : Int))) (fun (a18 : Int) => (bindO (some (IntKind.wrap .u64 (a16 + a18))) (fun (a19 : Int) => (bindO (guardO (decide ((0 : Int) ≤ (32 : Int)))) (fun (a20 : Unit) => (bindO (some (shr .u64 a19 (32 : Int))) (fun (a21 : Int) => (bindO (some (IntKind.wrap .u64 (a19 + a21))) (fun (a22 : Int) => (bindO (some (bits .and .i64 (IntKind.wrap .i64 a22) (127 : Int))) (fun (a23 : Int) => (some a23)))))))))))))))))))))))))))))))))))))))))))))))))

noncomputable def c_math_bits_OnesCount64 : Con0 := ⟨pk_math_bits_OnesCount64, rk_math_bits_OnesCount64, M_math_bits_OnesCount64⟩

set_option maxRecDepth 100000 in
theorem eq_math_bits_OnesCount64 (x : In pk_math_bits_OnesCount64) : semF (mkE []) h_math_bits_OnesCount64 (info Try.f161) pk_math_bits_OnesCount64 rk_math_bits_OnesCount64 x = M_math_bits_OnesCount64 x := by kernel_rfl

set_option maxRecDepth 100000 in
theorem m_math_bits_OnesCount64 : ConOK Try.prog 161 c_math_bits_OnesCount64 := fn_ok (tyOK _) (E := mkE []) (consOK_nil rfl) Try.func161 (h := h_math_bits_OnesCount64) (by kernel_rfl) eq_math_bits_OnesCount64

/-- math_bits_OnesCount -/
def pk_math_bits_OnesCount : List PK := [.data (.int .u64)]
def rk_math_bits_OnesCount : List (Ty × Bool) := [((.int .i64), false)]
def h_math_bits_OnesCount : Hints := { loops := [] }
noncomputable def M_math_bits_OnesCount (x : Int) : (Option Int) :=
  (bindO (M_math_bits_OnesCount64 x) (fun (a0 : Int) => (some a0)))

noncomputable def c_math_bits_OnesCount : Con0 := ⟨pk_math_bits_OnesCount, rk_math_bits_OnesCount, M_math_bits_OnesCount⟩

set_option maxRecDepth 100000 in
theorem eq_math_bits_OnesCount (x : In pk_math_bits_OnesCount) : semF (mkE [(160, c_math_bits_OnesCount32), (161, c_math_bits_OnesCount64)]) h_math_bits_OnesCount (info Try.f109) pk_math_bits_OnesCount rk_math_bits_OnesCount x = M_math_bits_OnesCount x := (semFF_eq _ _ _ _ _ _).symm.trans (by kernel_rfl)

set_option maxRecDepth 100000 in
theorem m_math_bits_OnesCount : ConOK Try.prog 109 c_math_bits_OnesCount := fn_ok (tyOK _) (E := mkE [(160, c_math_bits_OnesCount32), (161, c_math_bits_OnesCount64)]) (consOK_cons m_math_bits_OnesCount32 (consOK_cons m_math_bits_OnesCount64 (consOK_nil rfl))) Try.func109 (h := h_math_bits_OnesCount) (by kernel_rfl) eq_math_bits_OnesCount

/-- I_dominates -/
def pk_I_dominates : List PK := [.data (.sl (.sl (.int .i64))), .data (.int .i64)]
def rk_I_dominates : List (Ty × Bool) := [(.bool, false)]
def h_I_dominates : Hints := { loops := [(0, { items := [.slot 9 (.data (.int .i64) [])], kill := sgN 2 6 ++ (sgN 10 40) }), (2, { items := [.slot 14 (.data (.int .i64) [])], kill := [2, 3, 4, 6, 7, 10, 11, 12] ++ (sgN 15 35) })] }
noncomputable def M_I_dominates (x : ((List (List Int)) × Int)) : (Option Bool) :=
  (loopO (fun (again0 : (Int → (Option Bool))) => (fun (s1 : Int) => (cond (decide (s1 < (((List.length x.1) : Nat) : Int))) (loopO (fun (again2 : (Int → (Option Bool))) => (fun (s3 : Int) => (cond (decide (s3 < (((List.length x.1) : Nat) : Int))) (bindO (guardO (decide ((0 : Int) ≤ (IntKind.wrap .u64 s1)))) (fun (a4 : Unit) => (bindO (some (shr .i64 x.2 (IntKind.wrap .u64 s1))) (fun (a5 : Int) => (bindO (some (bits .and .i64 a5 (1 : Int))) (fun (a6 : Int) => (cond (a6 == (1 : Int)) (bindO (guardO (decide ((0 : Int) ≤ (IntKind.wrap .u64 s3)))) (fun (a7 : Unit) => (bindO (some (shr .i64 x.2 (IntKind.wrap .u64 s3))) (fun (a8 : Int) => (bindO (some (bits .and .i64 a8 (1 : Int))) (fun (a9 : Int) => (cond (a9 == (0 : Int)) (bindO (getI x.1 s1) (fun (a10 : (List Int)) => (bindO (getI a10 s3) (fun (a11 : Int) => (bindO (getI x.1 s3) (fun (a12 : (List Int)) => (bindO (getI a12 s1) (fun (a13 : Int) => (cond (decide (a11 ≤ a13)) (some false) (bindO (some (IntKind.wrap .i64 (s3 + (1 : Int)))) (fun (a14 : Int) => (again2 a14)))))))))))) (bindO (some (IntKind.wrap .i64 (s3 + (1 : Int)))) (fun (a15 : Int) => (again2 a15)))))))))) (bindO (some (IntKind.wrap .i64 (s3 + (1 : Int)))) (fun (a16 : Int) => (again2 a16)))))))))) (bindO (some (IntKind.wrap .i64 (s1 + (1 : Int)))) (fun (a17 : Int) => (again0 a17)))))) (0 : Int)) (some true)))) (0 : Int))

noncomputable def c_I_dominates : Con0 := ⟨pk_I_dominates, rk_I_dominates, M_I_dominates⟩

set_option maxRecDepth 100000 in
theorem eq_I_dominates (x : In pk_I_dominates) : semF (mkE []) h_I_dominates (info Try.f110) pk_I_dominates rk_I_dominates x = M_I_dominates x := (semFF_eq _ _ _ _ _ _).symm.trans (by kernel_rfl)

set_option maxRecDepth 100000 in
theorem m_I_dominates : ConOK Try.prog 110 c_I_dominates := fn_ok (tyOK _) (E := mkE []) (consOK_nil rfl) Try.func110 (h := h_I_dominates) (by kernel_rfl) eq_I_dominates

/-- I_SmithSet -/
def pk_I_SmithSet : List PK := [.data (.sl (.sl (.int .i64)))]
def rk_I_SmithSet : List (Ty × Bool) := [((.sl (.int .i64)), true), (.bool, false)]
def h_I_SmithSet : Hints := { loops := [(0, { items := [.slot 4 (.data (.int .i64) []), .slot 5 (.data (.int .i64) [])], kill := [1, 2, 3] ++ (sgN 6 49) }), (2, { items := [.slot 6 (.own (.int .i64) true), .slot 40 (.data (.int .i64) [])], kill := sgN 0 4 ++ ([5] ++ (sgN 7 32 ++ (sgN 41 14))) })] }
noncomputable def M_I_SmithSet (x : (List (List Int))) : (Option ((List Int) × Bool)) :=
  (bindO (M_I_isPairwise x) (fun (a0 : Bool) => (cond (not a0) (some (([] : List Int), false)) (bindO (guardO (decide ((0 : Int) ≤ (IntKind.wrap .u64 (((List.length x) : Nat) : Int))))) (fun (a1 : Unit) => (bindO (some (shl .i64 (1 : Int) (IntKind.wrap .u64 (((List.length x) : Nat) : Int)))) (fun (a2 : Int) => (bindO (some (IntKind.wrap .i64 (a2 - (1 : Int)))) (fun (a3 : Int) => (loopO (fun (again4 : ((Int × Int) → (Option ((List Int) × Bool)))) => (fun (s5 : (Int × Int)) => (bindO (guardO (decide ((0 : Int) ≤ (IntKind.wrap .u64 (((List.length x) : Nat) : Int))))) (fun (a6 : Unit) => (bindO (some (shl .i64 (1 : Int) (IntKind.wrap .u64 (((List.length x) : Nat) : Int)))) (fun (a7 : Int) => (cond (decide (s5.2 < a7)) (bindO (M_math_bits_OnesCount (IntKind.wrap .u64 s5.2)) (fun (a8 : Int) => (bindO (M_math_bits_OnesCount (IntKind.wrap .u64 s5.1)) (fun (a9 : Int) => (cond (decide (a8 < a9)) (bindO (M_I_dominates (x, s5.2)) (fun (a10 : Bool) => (cond a10 (bindO (some (IntKind.wrap .i64 (s5.2 + (1 : Int)))) (fun (a11 : Int) => (again4 (s5.2, a11)))) (bindO (some (IntKind.wrap .i64 (s5.2 + (1 : Int)))) (fun (a12 : Int) => (again4 (s5.1, a12))))))) (bindO (some (IntKind.wrap .i64 (s5.2 + (1 : Int)))) (fun (a13 : Int) => (again4 (s5.1, a13))))))))) (loopO (fun (again14 : (((List Int) × Int) → (Option ((List Int) × Bool)))) => (fun (s15 : ((List Int) × Int)) => (cond (decide (s15.2 < (((List.length x) : Nat) : Int))) (bindO (guardO (decide ((0 : Int) ≤ (IntKind.wrap .u64 s15.2)))) (fun (a16 : Unit) => (bindO (some (shr .i64 s5.1 (IntKind.wrap .u64 s15.2))) (fun (a17 : Int) => (bindO (some (bits .and .i64 a17 (1 : Int))) (fun (a18 : Int) => (cond (a18 == (1 : Int)) (bindO (guardO (lenOk ((List.length s15.1) + (List.length (s15.2 :: ([] : List Int)))))) (fun (a19 : Unit) => (bindO (some (s15.1 ++ (s15.2 :: ([] : List Int)))) (fun (a20 : (List Int)) => (bindO (some (IntKind.wrap .i64 (s15.2 + (1 : Int)))) (fun (a21 : Int) => (again14 (a20, a21)))))))) (bindO (some (IntKind.wrap .i64 (s15.2 + (1 : Int)))) (fun (a22 : Int) => (again14 (s15.1, a22))))))))))) (some (s15.1, true))))) (([] : List Int), (0 : Int)))))))))) (a3, (1 : Int))))))))))))

noncomputable def c_I_SmithSet : Con0 := ⟨pk_I_SmithSet, rk_I_SmithSet, M_I_SmithSet⟩

set_option maxRecDepth 100000 in
theorem eq_I_SmithSet (x : In pk_I_SmithSet) : semF (mkE [(108, c_I_isPairwise), (109, c_math_bits_OnesCount), (110, c_I_dominates)]) h_I_SmithSet (info Try.f56) pk_I_SmithSet rk_I_SmithSet x = M_I_SmithSet x := (semFF_eq _ _ _ _ _ _).symm.trans (by kernel_rfl)

set_option maxRecDepth 100000 in
theorem m_I_SmithSet : ConOK Try.prog 56 c_I_SmithSet := fn_ok (tyOK _) (E := mkE [(108, c_I_isPairwise), (109, c_math_bits_OnesCount), (110, c_I_dominates)]) (consOK_cons m_I_isPairwise (consOK_cons m_math_bits_OnesCount (consOK_cons m_I_dominates (consOK_nil rfl)))) Try.func56 (h := h_I_SmithSet) (by kernel_rfl) eq_I_SmithSet

/-- S_tMatrix -/
def pk_S_tMatrix : List PK := [.data (.sl (.sl (.int .i64)))]
def rk_S_tMatrix : List (Ty × Bool) := [(.bool, false)]
def h_S_tMatrix : Hints := { loops := [(0, { items := [.slot 11 (.data (.int .i64) [])], kill := sgN 1 8 ++ (sgN 12 14) })] }
noncomputable def M_S_tMatrix (x : (List (List Int))) : (Option Bool) :=
  (bindO (M_S_l1In ((((List.length x) : Nat) : Int), ((1 : Int), (8 : Int)))) (fun (a0 : Bool) => (cond (not a0) (some false) (loopO (fun (again1 : (Int → (Option Bool))) => (fun (s2 : Int) => (cond (decide (s2 < (((List.length x) : Nat) : Int))) (bindO (getI x s2) (fun (a3 : (List Int)) => (cond ((((List.length a3) : Nat) : Int) != (((List.length x) : Nat) : Int)) (some false) (bindO (M_S_l1All (a3, ((0 : Int), (1000000 : Int)))) (fun (a4 : Bool) => (cond (not a4) (some false) (bindO (some (IntKind.wrap .i64 (s2 + (1 : Int)))) (fun (a5 : Int) => (again1 a5))))))))) (some true)))) (0 : Int)))))

noncomputable def c_S_tMatrix : Con0 := ⟨pk_S_tMatrix, rk_S_tMatrix, M_S_tMatrix⟩

set_option maxRecDepth 100000 in
theorem eq_S_tMatrix (x : In pk_S_tMatrix) : semF (mkE [(61, c_S_l1In), (114, c_S_l1All)]) h_S_tMatrix (info Try.f111) pk_S_tMatrix rk_S_tMatrix x = M_S_tMatrix x := (semFF_eq _ _ _ _ _ _).symm.trans (by kernel_rfl)

set_option maxRecDepth 100000 in
theorem m_S_tMatrix : ConOK Try.prog 111 c_S_tMatrix := fn_ok (tyOK _) (E := mkE [(61, c_S_l1In), (114, c_S_l1All)]) (consOK_cons m_S_l1In (consOK_cons m_S_l1All (consOK_nil rfl))) Try.func111 (h := h_S_tMatrix) (by kernel_rfl) eq_S_tMatrix

/-- S_tBeats -/
def pk_S_tBeats : List PK := [.data (.sl (.sl (.int .i64))), .data (.int .i64)]
def rk_S_tBeats : List (Ty × Bool) := [(.bool, false)]
def h_S_tBeats : Hints := { loops := [(0, { items := [.slot 9 (.data (.int .i64) [])], kill := sgN 2 6 ++ (sgN 10 40) }), (2, { items := [.slot 14 (.data (.int .i64) [])], kill := [2, 3, 4, 6, 7, 10, 11, 12] ++ (sgN 15 35) })] }
noncomputable def M_S_tBeats (x : ((List (List Int)) × Int)) : (Option Bool) :=
  (loopO (fun (again0 : (Int → (Option Bool))) => (fun (s1 : Int) => (cond (decide (s1 < (((List.length x.1) : Nat) : Int))) (loopO (fun (again2 : (Int → (Option Bool))) => (fun (s3 : Int) => (cond (decide (s3 < (((List.length x.1) : Nat) : Int))) (bindO (guardO (decide ((0 : Int) ≤ (IntKind.wrap .u64 s1)))) (fun (a4 : Unit) => (bindO (some (shr .i64 x.2 (IntKind.wrap .u64 s1))) (fun (a5 : Int) => (bindO (some (bits .and .i64 a5 (1 : Int))) (fun (a6 : Int) => (cond (a6 == (1 : Int)) (bindO (guardO (decide ((0 : Int) ≤ (IntKind.wrap .u64 s3)))) (fun (a7 : Unit) => (bindO (some (shr .i64 x.2 (IntKind.wrap .u64 s3))) (fun (a8 : Int) => (bindO (some (bits .and .i64 a8 (1 : Int))) (fun (a9 : Int) => (cond (a9 == (0 : Int)) (bindO (getI x.1 s1) (fun (a10 : (List Int)) => (bindO (getI a10 s3) (fun (a11 : Int) => (bindO (getI x.1 s3) (fun (a12 : (List Int)) => (bindO (getI a12 s1) (fun (a13 : Int) => (cond (decide (a11 ≤ a13)) (some false) (bindO (some (IntKind.wrap .i64 (s3 + (1 : Int)))) (fun (a14 : Int) => (again2 a14)))))))))))) (bindO (some (IntKind.wrap .i64 (s3 + (1 : Int)))) (fun (a15 : Int) => (again2 a15)))))))))) (bindO (some (IntKind.wrap .i64 (s3 + (1 : Int)))) (fun (a16 : Int) => (again2 a16)))))))))) (bindO (some (IntKind.wrap .i64 (s1 + (1 : Int)))) (fun (a17 : Int) => (again0 a17)))))) (0 : Int)) (some true)))) (0 : Int))

noncomputable def c_S_tBeats : Con0 := ⟨pk_S_tBeats, rk_S_tBeats, M_S_tBeats⟩

set_option maxRecDepth 100000 in
theorem eq_S_tBeats (x : In pk_S_tBeats) : semF (mkE []) h_S_tBeats (info Try.f112) pk_S_tBeats rk_S_tBeats x = M_S_tBeats x := (semFF_eq _ _ _ _ _ _).symm.trans (by kernel_rfl)

set_option maxRecDepth 100000 in
theorem m_S_tBeats : ConOK Try.prog 112 c_S_tBeats := fn_ok (tyOK _) (E := mkE []) (consOK_nil rfl) Try.func112 (h := h_S_tBeats) (by kernel_rfl) eq_S_tBeats

/-- S_kOnes -/
def pk_S_kOnes : List PK := [.data (.int .i64)]
def rk_S_kOnes : List (Ty × Bool) := [((.int .i64), false)]
def h_S_kOnes : Hints := { loops := [(0, { items := [.slot 0 (.data (.int .i64) []), .slot 3 (.data (.int .i64) [])], kill := [1, 2, 4, 5, 6, 7, 8, 9, 10, 11, 12] })] }
noncomputable def M_S_kOnes (x : Int) : (Option Int) :=
  (loopO (fun (again0 : ((Int × Int) → (Option Int))) => (fun (s1 : (Int × Int)) => (cond (decide (s1.1 > (0 : Int))) (bindO (guardO ((2 : Int) != (0 : Int))) (fun (a2 : Unit) => (bindO (some (Int.tmod s1.1 (2 : Int))) (fun (a3 : Int) => (bindO (some (IntKind.wrap .i64 (s1.2 + a3))) (fun (a4 : Int) => (bindO (guardO ((2 : Int) != (0 : Int))) (fun (a5 : Unit) => (bindO (some (IntKind.wrap .i64 (Int.tdiv s1.1 (2 : Int)))) (fun (a6 : Int) => (again0 (a6, a4)))))))))))) (some s1.2)))) (x, (0 : Int)))

noncomputable def c_S_kOnes : Con0 := ⟨pk_S_kOnes, rk_S_kOnes, M_S_kOnes⟩

set_option maxRecDepth 100000 in
theorem eq_S_kOnes (x : In pk_S_kOnes) : semF (mkE []) h_S_kOnes (info Try.f113) pk_S_kOnes rk_S_kOnes x = M_S_kOnes x := (semFF_eq _ _ _ _ _ _).symm.trans (by kernel_rfl)

set_option maxRecDepth 100000 in
theorem m_S_kOnes : ConOK Try.prog 113 c_S_kOnes := fn_ok (tyOK _) (E := mkE []) (consOK_nil rfl) Try.func113 (h := h_S_kOnes) (by kernel_rfl) eq_S_kOnes

/-- S_SmithSet -/
def pk_S_SmithSet : List PK := [.data (.sl (.sl (.int .i64)))]
def rk_S_SmithSet : List (Ty × Bool) := [((.sl (.int .i64)), true), (.bool, false)]
def h_S_SmithSet : Hints := { loops := [(0, { items := [.slot 4 (.data (.int .i64) []), .slot 5 (.data (.int .i64) [])], kill := [1, 2, 3] ++ (sgN 6 46) }), (2, { items := [.slot 6 (.own (.int .i64) true), .slot 37 (.data (.int .i64) [])], kill := sgN 0 4 ++ ([5] ++ (sgN 7 29 ++ (sgN 38 14))) })] }
noncomputable def M_S_SmithSet (x : (List (List Int))) : (Option ((List Int) × Bool)) :=
  (bindO (M_S_tMatrix x) (fun (a0 : Bool) => (cond (not a0) (some (([] : List Int), false)) (bindO (guardO (decide ((0 : Int) ≤ (IntKind.wrap .u64 (((List.length x) : Nat) : Int))))) (fun (a1 : Unit) => (bindO (some (shl .i64 (1 : Int) (IntKind.wrap .u64 (((List.length x) : Nat) : Int)))) (fun (a2 : Int) => (bindO (some (IntKind.wrap .i64 (a2 - (1 : Int)))) (fun (a3 : Int) => (loopO (fun (again4 : ((Int × Int) → (Option ((List Int) × Bool)))) => (fun (s5 : (Int × Int)) => (bindO (guardO (decide ((0 : Int) ≤ (IntKind.wrap .u64 (((List.length x) : Nat) : Int))))) (fun (a6 : Unit) => (bindO (some (shl .i64 (1 : Int) (IntKind.wrap .u64 (((List.length x) : Nat) : Int)))) (fun (a7 : Int) => (cond (decide (s5.2 < a7)) (bindO (M_S_tBeats (x, s5.2)) (fun (a8 : Bool) => (cond a8 (bindO (M_S_kOnes s5.2) (fun (a9 : Int) => (bindO (M_S_kOnes s5.1) (fun (a10 : Int) => (cond (decide (a9 < a10)) (bindO (some (IntKind.wrap .i64 (s5.2 + (1 : Int)))) (fun (a11 : Int) => (again4 (s5.2, a11)))) (bindO (some (IntKind.wrap .i64 (s5.2 + (1 : Int)))) (fun (a12 : Int) => (again4 (s5.1, a12))))))))) (bindO (some (IntKind.wrap .i64 (s5.2 + (1 : Int)))) (fun (a13 : Int) => (again4 (s5.1, a13))))))) (loopO (fun (again14 : (((List Int) × Int) → (Option ((List Int) × Bool)))) => (fun (s15 : ((List Int) × Int)) => (cond (decide (s15.2 < (((List.length x) : Nat) : Int))) (bindO (guardO (decide ((0 : Int) ≤ (IntKind.wrap .u64 s15.2)))) (fun (a16 : Unit) => (bindO (some (shr .i64 s5.1 (IntKind.wrap .u64 s15.2))) (fun (a17 : Int) => (bindO (some (bits .and .i64 a17 (1 : Int))) (fun (a18 : Int) => (cond (a18 == (1 : Int)) (bindO (guardO (lenOk ((List.length s15.1) + (List.length (s15.2 :: ([] : List Int)))))) (fun (a19 : Unit) => (bindO (some (s15.1 ++ (s15.2 :: ([] : List Int)))) (fun (a20 : (List Int)) => (bindO (some (IntKind.wrap .i64 (s15.2 + (1 : Int)))) (fun (a21 : Int) => (again14 (a20, a21)))))))) (bindO (some (IntKind.wrap .i64 (s15.2 + (1 : Int)))) (fun (a22 : Int) => (again14 (s15.1, a22))))))))))) (some (s15.1, true))))) (([] : List Int), (0 : Int)))))))))) (a3, (1 : Int))))))))))))

noncomputable def c_S_SmithSet : Con0 := ⟨pk_S_SmithSet, rk_S_SmithSet, M_S_SmithSet⟩

set_option maxRecDepth 100000 in
theorem eq_S_SmithSet (x : In pk_S_SmithSet) : semF (mkE [(111, c_S_tMatrix), (112, c_S_tBeats), (113, c_S_kOnes)]) h_S_SmithSet (info Try.f57) pk_S_SmithSet rk_S_SmithSet x = M_S_SmithSet x := (semFF_eq _ _ _ _ _ _).symm.trans (by kernel_rfl)

set_option maxRecDepth 100000 in
theorem m_S_SmithSet : ConOK Try.prog 57 c_S_SmithSet := fn_ok (tyOK _) (E := mkE [(111, c_S_tMatrix), (112, c_S_tBeats), (113, c_S_kOnes)]) (consOK_cons m_S_tMatrix (consOK_cons m_S_tBeats (consOK_cons m_S_kOnes (consOK_nil rfl)))) Try.func57 (h := h_S_SmithSet) (by kernel_rfl) eq_S_SmithSet

/-- I_CondorcetWinner -/
def pk_I_CondorcetWinner : List PK := [.data (.sl (.sl (.int .i64)))]
def rk_I_CondorcetWinner : List (Ty × Bool) := [((.int .i64), false), (.bool, false)]
def h_I_CondorcetWinner : Hints := { loops := [(0, { items := [.slot 10 (.data (.int .i64) [])], kill := sgN 1 8 ++ (sgN 11 9) })] }
noncomputable def M_I_CondorcetWinner (x : (List (List Int))) : (Option (Int × Bool)) :=
  (bindO (M_I_isPairwise x) (fun (a0 : Bool) => (cond (not a0) (some ((0 : Int), false)) (loopO (fun (again1 : (Int → (Option (Int × Bool)))) => (fun (s2 : Int) => (cond (decide (s2 < (((List.length x) : Nat) : Int))) (bindO (guardO (decide ((0 : Int) ≤ (IntKind.wrap .u64 s2)))) (fun (a3 : Unit) => (bindO (some (shl .i64 (1 : Int) (IntKind.wrap .u64 s2))) (fun (a4 : Int) => (bindO (M_I_dominates (x, a4)) (fun (a5 : Bool) => (cond a5 (some (s2, true)) (bindO (some (IntKind.wrap .i64 (s2 + (1 : Int)))) (fun (a6 : Int) => (again1 a6)))))))))) (some ((0 : Int), false))))) (0 : Int)))))

noncomputable def c_I_CondorcetWinner : Con0 := ⟨pk_I_CondorcetWinner, rk_I_CondorcetWinner, M_I_CondorcetWinner⟩

set_option maxRecDepth 100000 in
theorem eq_I_CondorcetWinner (x : In pk_I_CondorcetWinner) : semF (mkE [(108, c_I_isPairwise), (110, c_I_dominates)]) h_I_CondorcetWinner (info Try.f58) pk_I_CondorcetWinner rk_I_CondorcetWinner x = M_I_CondorcetWinner x := (semFF_eq _ _ _ _ _ _).symm.trans (by kernel_rfl)

set_option maxRecDepth 100000 in
theorem m_I_CondorcetWinner : ConOK Try.prog 58 c_I_CondorcetWinner := fn_ok (tyOK _) (E := mkE [(108, c_I_isPairwise), (110, c_I_dominates)]) (consOK_cons m_I_isPairwise (consOK_cons m_I_dominates (consOK_nil rfl))) Try.func58 (h := h_I_CondorcetWinner) (by kernel_rfl) eq_I_CondorcetWinner

/-- S_CondorcetWinner -/
def pk_S_CondorcetWinner : List PK := [.data (.sl (.sl (.int .i64)))]
def rk_S_CondorcetWinner : List (Ty × Bool) := [((.int .i64), false), (.bool, false)]
def h_S_CondorcetWinner : Hints := { loops := [(0, { items := [.slot 10 (.data (.int .i64) [])], kill := sgN 1 8 ++ (sgN 11 9) })] }
noncomputable def M_S_CondorcetWinner (x : (List (List Int))) : (Option (Int × Bool)) :=
  (bindO (M_S_tMatrix x) (fun (a0 : Bool) => (cond (not a0) (some ((0 : Int), false)) (loopO (fun (again1 : (Int → (Option (Int × Bool)))) => (fun (s2 : Int) => (cond (decide (s2 < (((List.length x) : Nat) : Int))) (bindO (guardO (decide ((0 : Int) ≤ (IntKind.wrap .u64 s2)))) (fun (a3 : Unit) => (bindO (some (shl .i64 (1 : Int) (IntKind.wrap .u64 s2))) (fun (a4 : Int) => (bindO (M_S_tBeats (x, a4)) (fun (a5 : Bool) => (cond a5 (some (s2, true)) (bindO (some (IntKind.wrap .i64 (s2 + (1 : Int)))) (fun (a6 : Int) => (again1 a6)))))))))) (some ((0 : Int), false))))) (0 : Int)))))

noncomputable def c_S_CondorcetWinner : Con0 := ⟨pk_S_CondorcetWinner, rk_S_CondorcetWinner, M_S_CondorcetWinner⟩

set_option maxRecDepth 100000 in
theorem eq_S_CondorcetWinner (x : In pk_S_CondorcetWinner) : semF (mkE [(111, c_S_tMatrix), (112, c_S_tBeats)]) h_S_CondorcetWinner (info Try.f59) pk_S_CondorcetWinner rk_S_CondorcetWinner x = M_S_CondorcetWinner x := (semFF_eq _ _ _ _ _ _).symm.trans (by kernel_rfl)

set_option maxRecDepth 100000 in
theorem m_S_CondorcetWinner : ConOK Try.prog 59 c_S_CondorcetWinner := fn_ok (tyOK _) (E := mkE [(111, c_S_tMatrix), (112, c_S_tBeats)]) (consOK_cons m_S_tMatrix (consOK_cons m_S_tBeats (consOK_nil rfl))) Try.func59 (h := h_S_CondorcetWinner) (by kernel_rfl) eq_S_CondorcetWinner

/-- L_FnPairwise -/
def pk_L_FnPairwise : List PK := [.data (.sl (.int .u8)), .data (.sl (.int .u8))]
def rk_L_FnPairwise : List (Ty × Bool) := [(.bool, false)]
def h_L_FnPairwise : Hints := { loops := [(0, { items := [.slot 53 (.data (.int .i64) [])], kill := [0] ++ (sgN 2 4 ++ ([7, 8] ++ (sgN 10 42 ++ (sgN 54 82)))) }), (2, { items := [.slot 58 (.data (.int .i64) [])], kill := [0] ++ (sgN 2 4 ++ ([7, 8, 10] ++ (sgN 12 40 ++ ([54, 55, 56] ++ (sgN 59 77))))) })] }
noncomputable def M_L_FnPairwise (x : ((List Int) × (List Int))) : (Option Bool) :=
  (bindO (M_L_big (x.1, x.2)) (fun (a0 : Bool) => (cond a0 (some true) (bindO (M_S_DrawPairwiseMatrix x.1) (fun (a1 : (Int × (List (List Int)))) => (bindO (M_I_PairwiseMatrix (a1.1, a1.2)) (fun (a2 : ((List (List Int)) × Bool)) => (bindO (M_S_PairwiseMatrix (a1.1, a1.2)) (fun (a3 : ((List (List Int)) × Bool)) => (cond (not (a2.2 == a3.2)) (some false) (bindO (M_L_sameLists (a2.1, a3.1)) (fun (a4 : Bool) => (cond (not a4) (some false) (loopO (fun (again5 : (Int → (Option Bool))) => (fun (s6 : Int) => (cond (decide (s6 < (((List.length a3.1) : Nat) : Int))) (loopO (fun (again7 : (Int → (Option Bool))) => (fun (s8 : Int) => (cond (decide (s8 < (((List.length a3.1) : Nat) : Int))) (bindO (getI a3.1 s6) (fun (a9 : (List Int)) => (bindO (getI a9 s8) (fun (a10 : Int) => (bindO (getI a3.1 s8) (fun (a11 : (List Int)) => (bindO (getI a11 s6) (fun (a12 : Int) => (bindO (some (IntKind.wrap .i64 (a10 + a12))) (fun (a13 : Int) => (cond (decide (a13 > (((List.length a1.2) : Nat) : Int))) (some false) (bindO (some (IntKind.wrap .i64 (s8 + (1 : Int)))) (fun (a14 : Int) => (again7 a14)))))))))))))) (bindO (some (IntKind.wrap .i64 (s6 + (1 : Int)))) (fun (a15 : Int) => (again5 a15)))))) (0 : Int)) (bindO (M_S_DrawSmithSet x.2) (fun (a16 : (List (List Int))) => (bindO (M_I_SmithSet a16) (fun (a17 : ((List Int) × Bool)) => (bindO (M_S_SmithSet a16) (fun (a18 : ((List Int) × Bool)) => (bindO (M_I_CondorcetWinner a16) (fun (a19 : (Int × Bool)) => (bindO (M_S_CondorcetWinner a16) (fun (a20 : (Int × Bool)) => (cond (not (a17.2 == a18.2)) (some false) (bindO (M_L_sameInts (a17.1, a18.1)) (fun (a21 : Bool) => (cond (not a21) (some false) (cond (not (a19.2 == a20.2)) (some false) (cond (a19.1 != a20.1) (some false) (cond (not a19.2) (some true) (cond ((((List.length a17.1) : Nat) : Int) == (1 : Int)) (bindO (getI a17.1 (0 : Int)) (fun (a22 : Int) => (some (a22 == a19.1)))) (some false)))))))))))))))))))))) (0 : Int)))))))))))))))

noncomputable def c_L_FnPairwise : Con0 := ⟨pk_L_FnPairwise, rk_L_FnPairwise, M_L_FnPairwise⟩

set_option maxRecDepth 100000 in
theorem eq_L_FnPairwise (x : In pk_L_FnPairwise) : semF (mkE [(38, c_L_big), (52, c_S_DrawPairwiseMatrix), (53, c_I_PairwiseMatrix), (54, c_S_PairwiseMatrix), (47, c_L_sameLists), (55, c_S_DrawSmithSet), (56, c_I_SmithSet), (57, c_S_SmithSet), (58, c_I_CondorcetWinner), (59, c_S_CondorcetWinner), (42, c_L_sameInts)]) h_L_FnPairwise (info Try.f8) pk_L_FnPairwise rk_L_FnPairwise x = M_L_FnPairwise x := (semFF_eq _ _ _ _ _ _).symm.trans (by kernel_rfl)

set_option maxRecDepth 100000 in
theorem m_L_FnPairwise : ConOK Try.prog 8 c_L_FnPairwise := fn_ok (tyOK _) (E := mkE [(38, c_L_big), (52, c_S_DrawPairwiseMatrix), (53, c_I_PairwiseMatrix), (54, c_S_PairwiseMatrix), (47, c_L_sameLists), (55, c_S_DrawSmithSet), (56, c_I_SmithSet), (57, c_S_SmithSet), (58, c_I_CondorcetWinner), (59, c_S_CondorcetWinner), (42, c_L_sameInts)]) (consOK_cons m_L_big (consOK_cons m_S_DrawPairwiseMatrix (consOK_cons m_I_PairwiseMatrix (consOK_cons m_S_PairwiseMatrix (consOK_cons m_L_sameLists (consOK_cons m_S_DrawSmithSet (consOK_cons m_I_SmithSet (consOK_cons m_S_SmithSet (consOK_cons m_I_CondorcetWinner (consOK_cons m_S_CondorcetWinner (consOK_cons m_L_sameInts (consOK_nil rfl)))))))))))) Try.func8 (h := h_L_FnPairwise) (by kernel_rfl) eq_L_FnPairwise

/-- L_qInts -/
noncomputable def M_L_qInts (x : ((List Int) × (List Int))) : (Option Bool) :=
  (cond ((((List.length x.1) : Nat) : Int) != (((List.length x.2) : Nat) : Int)) (some false) (loopO (fun (again0 : (Int → (Option Bool))) => (fun (s1 : Int) => (cond (decide (s1 < (((List.length x.1) : Nat) : Int))) (bindO (getI x.1 s1) (fun (a2 : Int) => (bindO (getI x.2 s1) (fun (a3 : Int) => (cond (a2 != a3) (some false) (bindO (some (IntKind.wrap .i64 (s1 + (1 : Int)))) (fun (a4 : Int) => (again0 a4)))))))) (some true)))) (0 : Int)))

end Go.Proofs.Ytgjneigkkgaaiaa.Vd
