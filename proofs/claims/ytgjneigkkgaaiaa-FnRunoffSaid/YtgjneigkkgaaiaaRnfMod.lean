/- The functions of the law as plain functions on data, and that the program's functions are these. No conditions. -/
import Derived.Test.YtgjneigkkgaaiaaVd4
import Derived.Test.YtgjneigkkgaaiaaChecked
import Derived.KernelRfl
set_option linter.unusedVariables false
namespace Go.Proofs.Ytgjneigkkgaaiaa.Vd
def tys : List (Option Ty) := [none, none, some (.int .i64), some (.int .i64), some .bool, some (.int .u8), some (.int .u8), some (.cons (.int .i64) (.cons (.int .i64) (.cons .bool (.one (.int .u8))))), some (.cons (.int .i64) (.cons (.int .i64) (.cons .bool (.one (.int .u8))))), some .str, some .str, some .str, some (.int .u64), some (.cons .str (.one (.int .u64))), some (.cons .str (.one (.int .u64))), none, none, none, none, none, none, some (.int .i32), some (.sl (.int .i64)), none, none, none, none, none, none, some (.cons (.int .i64) (.cons (.int .i64) (.one (.int .i64)))), some (.cons (.int .i64) (.cons (.int .i64) (.one (.int .i64)))), some (.sl (.sl (.cons (.int .i64) (.one (.int .i64))))), none, some (.sl (.cons (.int .i64) (.one (.int .i64)))), none, none, some (.cons (.int .i64) (.cons (.int .i64) (.one (.int .i64)))), none, some (.sl (.sl (.cons (.int .i64) (.one (.int .i64))))), none, none, none, none, none, none, some (.sl (.int .u8)), none, none, none, none, none, none, none, none, none, none, none, none, none, none, none, some (.sl (.sl (.int .i64))), none, none, none, none, none, none, none, none, none, none, none, none, none, none, none, none, some (.sl (.cons (.int .i64) (.one (.int .i64)))), none, none, none, none, none, some (.cons (.int .i64) (.one (.int .i64))), some (.cons (.int .i64) (.one (.int .i64))), none, none, none, none, some (.int .u64), some (.cons (.sl (.int .u8)) (.cons (.int .i64) (.one (.int .u64)))), some (.cons (.sl (.int .u8)) (.cons (.int .i64) (.one (.int .u64)))), none, none, none, none, none, none, none, none, none, none, none, none, none, none, none, none, none, none, some (.int .u64), none, none, none, none, none, none, none, none, none, none, some (.cons (.int .i64) (.one (.int .i64))), none, none, none, none, none, none, none, none, none, none, some (.sl .bool), none, none, none, some (.int .u32), none, none, none, none, none, none, none, none, none, none, none, none, none, none, none, none, none, some (.int .u8), some (.int .u8), none, none, some (.int .i32), some (.int .i32), none, none, none]
def others : List Nat := [1, 15, 16, 17, 24, 25, 26, 27, 28, 32, 35, 37, 39, 40, 41, 42, 43, 44, 47, 48, 50, 51, 53, 54, 55, 56, 57, 58, 60, 63, 65, 66, 67, 68, 69, 70, 71, 72, 73, 74, 75, 76, 77, 79, 80, 81, 82, 83, 86, 87, 88, 89, 93, 95, 96, 97, 98, 99, 100, 101, 102, 103, 104, 105, 106, 107, 108, 109, 110, 112, 113, 114, 115, 116, 117, 118, 119, 120, 121, 124, 125, 126, 127, 128, 129, 130, 131, 132, 134, 135, 136, 138, 139, 140, 141, 143, 145, 146, 147, 148, 149, 157, 158]
def pairs : List Nat := [84, 85, 122]
def sgN : Nat → Nat → List Nat
  | _, 0 => []
  | a, n + 1 => a :: sgN (a + 1) n

noncomputable def mkE (con : List (Nat × Con0)) : Env := ⟨[], tys, others, pairs, con, []⟩

set_option maxRecDepth 100000 in
theorem tyOK (con : List (Nat × Con0)) : TyOK Try.prog (mkE con) := tyOK_of (E := mkE con) (by kernel_rfl) (by kernel_rfl) (by kernel_rfl)

/-- L_big -/
def pk_L_big : List PK := [.data (.sl (.int .u8)), .data (.sl (.int .u8))]
def rk_L_big : List (Ty × Bool) := [(.bool, false)]
def h_L_big : Hints := { loops := [] }
noncomputable def M_L_big (x : ((List Int) × (List Int))) : (Option Bool) :=
  (cond (decide ((((List.length x.1) : Nat) : Int) > (1048576 : Int))) (some true) (bindO (some (IntKind.wrap .i64 ((1048576 : Int) - (((List.length x.1) : Nat) : Int)))) (fun (a0 : Int) => (some (decide ((((List.length x.2) : Nat) : Int) > a0))))))

noncomputable def c_L_big : Con0 := ⟨pk_L_big, rk_L_big, M_L_big⟩

set_option maxRecDepth 100000 in
theorem eq_L_big (x : In pk_L_big) : semF (mkE []) h_L_big (info Try.f38) pk_L_big rk_L_big x = M_L_big x := (semFF_eq _ _ _ _ _ _).symm.trans (by kernel_rfl)

set_option maxRecDepth 100000 in
theorem m_L_big : ConOK Try.prog 38 c_L_big := fn_ok (tyOK _) (E := mkE []) (consOK_nil rfl) Try.func38 (h := h_L_big) (by kernel_rfl) eq_L_big

/-- S_l1Cur_next -/
def pk_S_l1Cur_next : List PK := [.mp (.cons (.sl (.int .u8)) (.cons (.int .i64) (.one (.int .u64)))) false]
def rk_S_l1Cur_next : List (Ty × Bool) := [((.int .i64), false)]
def h_S_l1Cur_next : Hints := { loops := [] }
noncomputable def M_S_l1Cur_next (x : ((List Int) × (Int × Int))) : (Option (Int × ((List Int) × (Int × Int)))) :=
  (cond (decide (x.2.1 < (((List.length x.1) : Nat) : Int))) (bindO (getI x.1 x.2.1) (fun (a0 : Int) => (bindO (some (IntKind.wrap .i64 (x.2.1 + (1 : Int)))) (fun (a1 : Int) => (bindO (some (IntKind.wrap .u64 (x.2.2 * (6364136223846793005 : Int)))) (fun (a2 : Int) => (bindO (some (IntKind.wrap .u64 (a2 + (IntKind.wrap .u64 (IntKind.wrap .i64 a0))))) (fun (a3 : Int) => (bindO (some (IntKind.wrap .u64 (a3 + (1442695040888963407 : Int)))) (fun (a4 : Int) => (cond (decide (a1 ≤ (((List.length x.1) : Nat) : Int))) (some ((IntKind.wrap .i64 a0), (x.1, (a1, a4)))) (bindO (guardO (decide ((0 : Int) ≤ (40 : Int)))) (fun (a5 : Unit) => (bindO (some (shr .u64 a4 (40 : Int))) (fun (a6 : Int) => (bindO (some (bits .and .u64 a6 (255 : Int))) (fun (a7 : Int) => (some ((IntKind.wrap .i64 a7), (x.1, (a1, a4))))))))))))))))))))) (bindO (some (IntKind.wrap .i64 (x.2.1 + (1 : Int)))) (fun (a8 : Int) => (bindO (some (IntKind.wrap .u64 (x.2.2 * (6364136223846793005 : Int)))) (fun (a9 : Int) => (bindO (some (IntKind.wrap .u64 (a9 + (IntKind.wrap .u64 (0 : Int))))) (fun (a10 : Int) => (bindO (some (IntKind.wrap .u64 (a10 + (1442695040888963407 : Int)))) (fun (a11 : Int) => (cond (decide (a8 ≤ (((List.length x.1) : Nat) : Int))) (some ((0 : Int), (x.1, (a8, a11)))) (bindO (guardO (decide ((0 : Int) ≤ (40 : Int)))) (fun (a12 : Unit) => (bindO (some (shr .u64 a11 (40 : Int))) (fun (a13 : Int) => (bindO (some (bits .and .u64 a13 (255 : Int))) (fun (a14 : Int) => (some ((IntKind.wrap .i64 a14), (x.1, (a8, a11))))))))))))))))))))

noncomputable def c_S_l1Cur_next : Con0 := ⟨pk_S_l1Cur_next, rk_S_l1Cur_next, M_S_l1Cur_next⟩

set_option maxRecDepth 100000 in
theorem eq_S_l1Cur_next (x : In pk_S_l1Cur_next) : semF (mkE []) h_S_l1Cur_next (info Try.f152) pk_S_l1Cur_next rk_S_l1Cur_next x = M_S_l1Cur_next x := (semFF_eq _ _ _ _ _ _).symm.trans (by kernel_rfl)

set_option maxRecDepth 100000 in
theorem m_S_l1Cur_next : ConOK Try.prog 152 c_S_l1Cur_next := fn_ok (tyOK _) (E := mkE []) (consOK_nil rfl) Try.func152 (h := h_S_l1Cur_next) (by kernel_rfl) eq_S_l1Cur_next

/-- S_l1Cur_pick -/
def pk_S_l1Cur_pick : List PK := [.mp (.cons (.sl (.int .u8)) (.cons (.int .i64) (.one (.int .u64)))) false, .data (.int .i64)]
def rk_S_l1Cur_pick : List (Ty × Bool) := [((.int .i64), false)]
def h_S_l1Cur_pick : Hints := { loops := [] }
noncomputable def M_S_l1Cur_pick (x : (((List Int) × (Int × Int)) × Int)) : (Option (Int × ((List Int) × (Int × Int)))) :=
  (cond (decide (x.2 ≤ (1 : Int))) (some ((0 : Int), (x.1.1, (x.1.2.1, x.1.2.2)))) (bindO (M_S_l1Cur_next (x.1.1, (x.1.2.1, x.1.2.2))) (fun (a0 : (Int × ((List Int) × (Int × Int)))) => (cond (decide (x.2 > (200 : Int))) (bindO (some (IntKind.wrap .i64 (a0.1 * (256 : Int)))) (fun (a1 : Int) => (bindO (M_S_l1Cur_next (a0.2.1, (a0.2.2.1, a0.2.2.2))) (fun (a2 : (Int × ((List Int) × (Int × Int)))) => (bindO (some (IntKind.wrap .i64 (a1 + a2.1))) (fun (a3 : Int) => (bindO (guardO (x.2 != (0 : Int))) (fun (a4 : Unit) => (bindO (some (Int.tmod a3 x.2)) (fun (a5 : Int) => (some (a5, (a2.2.1, (a2.2.2.1, a2.2.2.2)))))))))))))) (bindO (guardO (x.2 != (0 : Int))) (fun (a6 : Unit) => (bindO (some (Int.tmod a0.1 x.2)) (fun (a7 : Int) => (some (a7, (a0.2.1, (a0.2.2.1, a0.2.2.2))))))))))))

noncomputable def c_S_l1Cur_pick : Con0 := ⟨pk_S_l1Cur_pick, rk_S_l1Cur_pick, M_S_l1Cur_pick⟩

set_option maxRecDepth 100000 in
theorem eq_S_l1Cur_pick (x : In pk_S_l1Cur_pick) : semF (mkE [(152, c_S_l1Cur_next)]) h_S_l1Cur_pick (info Try.f97) pk_S_l1Cur_pick rk_S_l1Cur_pick x = M_S_l1Cur_pick x := (semFF_eq _ _ _ _ _ _).symm.trans (by kernel_rfl)

set_option maxRecDepth 100000 in
theorem m_S_l1Cur_pick : ConOK Try.prog 97 c_S_l1Cur_pick := fn_ok (tyOK _) (E := mkE [(152, c_S_l1Cur_next)]) (consOK_cons m_S_l1Cur_next (consOK_nil rfl)) Try.func97 (h := h_S_l1Cur_pick) (by kernel_rfl) eq_S_l1Cur_pick

/-- S_l1Cur_one -/
def pk_S_l1Cur_one : List PK := [.mp (.cons (.sl (.int .u8)) (.cons (.int .i64) (.one (.int .u64)))) false, .data (.int .i64)]
def rk_S_l1Cur_one : List (Ty × Bool) := [(.bool, false)]
def h_S_l1Cur_one : Hints := { loops := [] }
noncomputable def M_S_l1Cur_one (x : (((List Int) × (Int × Int)) × Int)) : (Option (Bool × ((List Int) × (Int × Int)))) :=
  (bindO (M_S_l1Cur_pick ((x.1.1, (x.1.2.1, x.1.2.2)), x.2)) (fun (a0 : (Int × ((List Int) × (Int × Int)))) => (some ((a0.1 == (0 : Int)), (a0.2.1, (a0.2.2.1, a0.2.2.2))))))

noncomputable def c_S_l1Cur_one : Con0 := ⟨pk_S_l1Cur_one, rk_S_l1Cur_one, M_S_l1Cur_one⟩

set_option maxRecDepth 100000 in
theorem eq_S_l1Cur_one (x : In pk_S_l1Cur_one) : semF (mkE [(97, c_S_l1Cur_pick)]) h_S_l1Cur_one (info Try.f134) pk_S_l1Cur_one rk_S_l1Cur_one x = M_S_l1Cur_one x := (semFF_eq _ _ _ _ _ _).symm.trans (by kernel_rfl)

set_option maxRecDepth 100000 in
theorem m_S_l1Cur_one : ConOK Try.prog 134 c_S_l1Cur_one := fn_ok (tyOK _) (E := mkE [(97, c_S_l1Cur_pick)]) (consOK_cons m_S_l1Cur_pick (consOK_nil rfl)) Try.func134 (h := h_S_l1Cur_one) (by kernel_rfl) eq_S_l1Cur_one

/-- S_l1Cur_among -/
def pk_S_l1Cur_among : List PK := [.mp (.cons (.sl (.int .u8)) (.cons (.int .i64) (.one (.int .u64)))) false, .data (.sl (.int .i64))]
def rk_S_l1Cur_among : List (Ty × Bool) := [((.int .i64), false)]
def h_S_l1Cur_among : Hints := { loops := [] }
noncomputable def M_S_l1Cur_among (x : (((List Int) × (Int × Int)) × (List Int))) : (Option (Int × ((List Int) × (Int × Int)))) :=
  (bindO (M_S_l1Cur_pick ((x.1.1, (x.1.2.1, x.1.2.2)), (((List.length x.2) : Nat) : Int))) (fun (a0 : (Int × ((List Int) × (Int × Int)))) => (bindO (getI x.2 a0.1) (fun (a1 : Int) => (some (a1, (a0.2.1, (a0.2.2.1, a0.2.2.2))))))))

noncomputable def c_S_l1Cur_among : Con0 := ⟨pk_S_l1Cur_among, rk_S_l1Cur_among, M_S_l1Cur_among⟩

set_option maxRecDepth 100000 in
theorem eq_S_l1Cur_among (x : In pk_S_l1Cur_among) : semF (mkE [(97, c_S_l1Cur_pick)]) h_S_l1Cur_among (info Try.f96) pk_S_l1Cur_among rk_S_l1Cur_among x = M_S_l1Cur_among x := (semFF_eq _ _ _ _ _ _).symm.trans (by kernel_rfl)

set_option maxRecDepth 100000 in
theorem m_S_l1Cur_among : ConOK Try.prog 96 c_S_l1Cur_among := fn_ok (tyOK _) (E := mkE [(97, c_S_l1Cur_pick)]) (consOK_cons m_S_l1Cur_pick (consOK_nil rfl)) Try.func96 (h := h_S_l1Cur_among) (by kernel_rfl) eq_S_l1Cur_among

/-- S_l1In -/
def pk_S_l1In : List PK := [.data (.int .i64), .data (.int .i64), .data (.int .i64)]
def rk_S_l1In : List (Ty × Bool) := [(.bool, false)]
def h_S_l1In : Hints := { loops := [] }
noncomputable def M_S_l1In (x : (Int × (Int × Int))) : (Option Bool) :=
  (cond (decide (x.1 ≥ x.2.1)) (some (decide (x.1 ≤ x.2.2))) (some false))

noncomputable def c_S_l1In : Con0 := ⟨pk_S_l1In, rk_S_l1In, M_S_l1In⟩

set_option maxRecDepth 100000 in
theorem eq_S_l1In (x : In pk_S_l1In) : semF (mkE []) h_S_l1In (info Try.f61) pk_S_l1In rk_S_l1In x = M_S_l1In x := (semFF_eq _ _ _ _ _ _).symm.trans (by kernel_rfl)

set_option maxRecDepth 100000 in
theorem m_S_l1In : ConOK Try.prog 61 c_S_l1In := fn_ok (tyOK _) (E := mkE []) (consOK_nil rfl) Try.func61 (h := h_S_l1In) (by kernel_rfl) eq_S_l1In

/-- S_ShuffleCoins -/
def pk_S_ShuffleCoins : List PK := [.data (.int .i64), .data (.sl (.int .i64))]
def rk_S_ShuffleCoins : List (Ty × Bool) := [((.sl (.int .i64)), true), (.bool, false)]
def h_S_ShuffleCoins : Hints := { loops := [(0, { items := [.slot 6 (.own (.int .i64) true), .slot 7 (.data (.int .i64) [])], kill := sgN 2 4 ++ (sgN 8 58) }), (2, { items := [.slot 34 (.data (.int .i64) []), .arr 6 (.int .i64) true], kill := sgN 1 5 ++ (sgN 7 25 ++ (sgN 35 31)) })] }
noncomputable def M_S_ShuffleCoins (x : (Int × (List Int))) : (Option ((List Int) × Bool)) :=
  (bindO (M_S_l1In (x.1, ((1 : Int), (24 : Int)))) (fun (a0 : Bool) => (cond (not a0) (some (([] : List Int), false)) (bindO (some (IntKind.wrap .i64 (x.1 - (1 : Int)))) (fun (a1 : Int) => (cond ((((List.length x.2) : Nat) : Int) != a1) (some (([] : List Int), false)) (loopO (fun (again2 : (((List Int) × Int) → (Option ((List Int) × Bool)))) => (fun (s3 : ((List Int) × Int)) => (cond (decide (s3.2 < x.1)) (bindO (guardO (lenOk ((List.length s3.1) + (List.length (s3.2 :: ([] : List Int)))))) (fun (a4 : Unit) => (bindO (some (s3.1 ++ (s3.2 :: ([] : List Int)))) (fun (a5 : (List Int)) => (bindO (some (IntKind.wrap .i64 (s3.2 + (1 : Int)))) (fun (a6 : Int) => (again2 (a5, a6)))))))) (loopO (fun (again7 : ((Int × (List Int)) → (Option ((List Int) × Bool)))) => (fun (s8 : (Int × (List Int))) => (cond (decide (s8.1 < (((List.length x.2) : Nat) : Int))) (bindO (getI x.2 s8.1) (fun (a9 : Int) => (cond (decide (a9 < (0 : Int))) (some (([] : List Int), false)) (bindO (some (IntKind.wrap .i64 (x.1 - (1 : Int)))) (fun (a10 : Int) => (bindO (some (IntKind.wrap .i64 (a10 - s8.1))) (fun (a11 : Int) => (bindO (some (IntKind.wrap .i64 (a11 + (1 : Int)))) (fun (a12 : Int) => (bindO (guardO (a12 != (0 : Int))) (fun (a13 : Unit) => (bindO (some (Int.tmod a9 a12)) (fun (a14 : Int) => (bindO (getI s8.2 a11) (fun (a15 : Int) => (bindO (getI s8.2 a14) (fun (a16 : Int) => (bindO (getI s8.2 a11) (fun (a17 : Int) => (bindO (some (List.set s8.2 (Int.toNat a11) a16)) (fun (a18 : (List Int)) => (bindO (getI a18 a14) (fun (a19 : Int) => (bindO (some (List.set a18 (Int.toNat a14) a15)) (fun (a20 : (List Int)) => (bindO (some (IntKind.wrap .i64 (s8.1 + (1 : Int)))) (fun (a21 : Int) => (again7 (a21, a20))))))))))))))))))))))))))))) (some (s8.2, true))))) ((0 : Int), s3.1))))) (([] : List Int), (0 : Int)))))))))

noncomputable def c_S_ShuffleCoins : Con0 := ⟨pk_S_ShuffleCoins, rk_S_ShuffleCoins, M_S_ShuffleCoins⟩

set_option maxRecDepth 100000 in
theorem eq_S_ShuffleCoins (x : In pk_S_ShuffleCoins) : semF (mkE [(61, c_S_l1In)]) h_S_ShuffleCoins (info Try.f173) pk_S_ShuffleCoins rk_S_ShuffleCoins x = M_S_ShuffleCoins x := (semFF_eq _ _ _ _ _ _).symm.trans (by kernel_rfl)

set_option maxRecDepth 100000 in
theorem m_S_ShuffleCoins : ConOK Try.prog 173 c_S_ShuffleCoins := fn_ok (tyOK _) (E := mkE [(61, c_S_l1In)]) (consOK_cons m_S_l1In (consOK_nil rfl)) Try.func173 (h := h_S_ShuffleCoins) (by kernel_rfl) eq_S_ShuffleCoins

/-- S_l1Cur_permutation -/
def pk_S_l1Cur_permutation : List PK := [.mp (.cons (.sl (.int .u8)) (.cons (.int .i64) (.one (.int .u64)))) false, .data (.int .i64)]
def rk_S_l1Cur_permutation : List (Ty × Bool) := [((.sl (.int .i64)), true)]
def h_S_l1Cur_permutation : Hints := { loops := [(0, { items := [.slot 5 (.own (.int .i64) true), .slot 6 (.data (.int .i64) []), .cell 0 0 (.data (.sl (.int .u8)) []), .cell 0 1 (.data (.int .i64) []), .cell 0 2 (.data (.int .u64) [])], kill := [2, 3, 4] ++ (sgN 7 19) })] }
noncomputable def M_S_l1Cur_permutation (x : (((List Int) × (Int × Int)) × Int)) : (Option ((List Int) × ((List Int) × (Int × Int)))) :=
  (loopO (fun (again0 : (((List Int) × (Int × ((List Int) × (Int × Int)))) → (Option ((List Int) × ((List Int) × (Int × Int)))))) => (fun (s1 : ((List Int) × (Int × ((List Int) × (Int × Int))))) => (cond (decide (s1.2.1 < x.2)) (bindO (M_S_l1Cur_pick ((s1.2.2.1, (s1.2.2.2.1, s1.2.2.2.2)), (24 : Int))) (fun (a2 : (Int × ((List Int) × (Int × Int)))) => (bindO (guardO (lenOk ((List.length s1.1) + (List.length (a2.1 :: ([] : List Int)))))) (fun (a3 : Unit) => (bindO (some (s1.1 ++ (a2.1 :: ([] : List Int)))) (fun (a4 : (List Int)) => (bindO (some (IntKind.wrap .i64 (s1.2.1 + (1 : Int)))) (fun (a5 : Int) => (again0 (a4, (a5, (a2.2.1, (a2.2.2.1, a2.2.2.2))))))))))))) (bindO (M_S_ShuffleCoins (x.2, s1.1)) (fun (a6 : ((List Int) × Bool)) => (some (a6.1, (s1.2.2.1, (s1.2.2.2.1, s1.2.2.2.2))))))))) (([] : List Int), ((1 : Int), (x.1.1, (x.1.2.1, x.1.2.2)))))

noncomputable def c_S_l1Cur_permutation : Con0 := ⟨pk_S_l1Cur_permutation, rk_S_l1Cur_permutation, M_S_l1Cur_permutation⟩

set_option maxRecDepth 100000 in
theorem eq_S_l1Cur_permutation (x : In pk_S_l1Cur_permutation) : semF (mkE [(97, c_S_l1Cur_pick), (173, c_S_ShuffleCoins)]) h_S_l1Cur_permutation (info Try.f153) pk_S_l1Cur_permutation rk_S_l1Cur_permutation x = M_S_l1Cur_permutation x := (semFF_eq _ _ _ _ _ _).symm.trans (by kernel_rfl)

set_option maxRecDepth 100000 in
theorem m_S_l1Cur_permutation : ConOK Try.prog 153 c_S_l1Cur_permutation := fn_ok (tyOK _) (E := mkE [(97, c_S_l1Cur_pick), (173, c_S_ShuffleCoins)]) (consOK_cons m_S_l1Cur_pick (consOK_cons m_S_ShuffleCoins (consOK_nil rfl))) Try.func153 (h := h_S_l1Cur_permutation) (by kernel_rfl) eq_S_l1Cur_permutation

/-- S_l1Cur_ranks -/
def pk_S_l1Cur_ranks : List PK := [.mp (.cons (.sl (.int .u8)) (.cons (.int .i64) (.one (.int .u64)))) false]
def rk_S_l1Cur_ranks : List (Ty × Bool) := [((.int .i64), false), ((.sl (.sl (.int .i64))), true)]
def h_S_l1Cur_ranks : Hints := { loops := [(0, { items := [.slot 5 (.own (.sl (.int .i64)) true), .slot 6 (.data (.int .i64) []), .cell 0 0 (.data (.sl (.int .u8)) []), .cell 0 1 (.data (.int .i64) []), .cell 0 2 (.data (.int .u64) [])], kill := [1, 2, 3] ++ (sgN 7 61) })], cuts := [43] }
noncomputable def M_S_l1Cur_ranks (x : ((List Int) × (Int × Int))) : (Option (Int × ((List (List Int)) × ((List Int) × (Int × Int))))) :=
  (bindO (M_S_l1Cur_pick (x, (5 : Int))) (fun (a0 : (Int × ((List Int) × (Int × Int)))) => (bindO (some (IntKind.wrap .i64 ((1 : Int) + a0.1))) (fun (a1 : Int) => (bindO (M_S_l1Cur_one (a0.2, (12 : Int))) (fun (a2 : (Bool × ((List Int) × (Int × Int)))) => (cond a2.1 (bindO (M_S_l1Cur_among (a2.2, ((0 : Int) :: ((8 : Int) :: ((9 : Int) :: ([] : List Int)))))) (fun (a3 : (Int × ((List Int) × (Int × Int)))) => (bindO (M_S_l1Cur_pick (a3.2, (8 : Int))) (fun (a4 : (Int × ((List Int) × (Int × Int)))) => (bindO (M_S_l1Cur_one (a4.2, (20 : Int))) (fun (a5 : (Bool × ((List Int) × (Int × Int)))) => (cond a5.1 (bindO (M_S_l1Cur_pick (a5.2, (2 : Int))) (fun (a6 : (Int × ((List Int) × (Int × Int)))) => (bindO (some (IntKind.wrap .i64 ((24 : Int) + a6.1))) (fun (a7 : Int) => (loopO (fun (again8 : (((List (List Int)) × (Int × ((List Int) × (Int × Int)))) → (Option (Int × ((List (List Int)) × ((List Int) × (Int × Int))))))) => (fun (s9 : ((List (List Int)) × (Int × ((List Int) × (Int × Int))))) => (cond (decide (s9.2.1 > (0 : Int))) (bindO (M_S_l1Cur_permutation (s9.2.2, a3.1)) (fun (a10 : ((List Int) × ((List Int) × (Int × Int)))) => (cond (decide ((((List.length a10.1) : Nat) : Int) > (0 : Int))) (bindO (M_S_l1Cur_one (a10.2, (3 : Int))) (fun (a11 : (Bool × ((List Int) × (Int × Int)))) => (cond a11.1 (bindO (some (IntKind.wrap .i64 ((((List.length a10.1) : Nat) : Int) + (1 : Int)))) (fun (a12 : Int) => (bindO (M_S_l1Cur_pick (a11.2, a12)) (fun (a13 : (Int × ((List Int) × (Int × Int)))) => (bindO (sliceNH a13.1 (List.length a10.1)) (fun (a14 : (Nat × Nat)) => (bindO (guardO (lenOk ((List.length s9.1) + (List.length ((List.take a14.2 a10.1) :: ([] : List (List Int))))))) (fun (a15 : Unit) => (bindO (some (s9.1 ++ ((List.take a14.2 a10.1) :: ([] : List (List Int))))) (fun (a16 : (List (List Int))) => (bindO (some (IntKind.wrap .i64 (s9.2.1 - (1 : Int)))) (fun (a17 : Int) => (again8 (a16, (a17, a13.2))))))))))))))) (bindO (guardO (lenOk ((List.length s9.1) + (List.length (a10.1 :: ([] : List (List Int))))))) (fun (a18 : Unit) => (bindO (some (s9.1 ++ (a10.1 :: ([] : List (List Int))))) (fun (a19 : (List (List Int))) => (bindO (some (IntKind.wrap .i64 (s9.2.1 - (1 : Int)))) (fun (a20 : Int) => (again8 (a19, (a20, a11.2)))))))))))) (bindO (guardO (lenOk ((List.length s9.1) + (List.length (a10.1 :: ([] : List (List Int))))))) (fun (a21 : Unit) => (bindO (some (s9.1 ++ (a10.1 :: ([] : List (List Int))))) (fun (a22 : (List (List Int))) => (bindO (some (IntKind.wrap .i64 (s9.2.1 - (1 : Int)))) (fun (a23 : Int) => (again8 (a22, (a23, a10.2)))))))))))) (cond (decide ((((List.length s9.1) : Nat) : Int) > (0 : Int))) (bindO (M_S_l1Cur_one (s9.2.2, (12 : Int))) (fun (a24 : (Bool × ((List Int) × (Int × Int)))) => (cond a24.1 (bindO (getI s9.1 (0 : Int)) (fun (a25 : (List Int)) => (bindO (some (IntKind.wrap .i64 (a3.1 + (1 : Int)))) (fun (a26 : Int) => (bindO (M_S_l1Cur_pick (a24.2, a26)) (fun (a27 : (Int × ((List Int) × (Int × Int)))) => (bindO (guardO (lenOk ((List.length a25) + (List.length (a27.1 :: ([] : List Int)))))) (fun (a28 : Unit) => (bindO (some s9.1) (fun (a29 : (List (List Int))) => (bindO (getI a29 (0 : Int)) (fun (a30 : (List Int)) => (bindO (some (List.set a29 (Int.toNat (0 : Int)) (a25 ++ (a27.1 :: ([] : List Int))))) (fun (a31 : (List (List Int))) => (some (a3.1, (a31, a27.2))))))))))))))))) (some (a3.1, (s9.1, a24.2)))))) (some (a3.1, (s9.1, s9.2.2))))))) (([] : List (List Int)), (a7, a6.2))))))) (loopO (fun (again32 : (((List (List Int)) × (Int × ((List Int) × (Int × Int)))) → (Option (Int × ((List (List Int)) × ((List Int) × (Int × Int))))))) => (fun (s33 : ((List (List Int)) × (Int × ((List Int) × (Int × Int))))) => (cond (decide (s33.2.1 > (0 : Int))) (bindO (M_S_l1Cur_permutation (s33.2.2, a3.1)) (fun (a34 : ((List Int) × ((List Int) × (Int × Int)))) => (cond (decide ((((List.length a34.1) : Nat) : Int) > (0 : Int))) (bindO (M_S_l1Cur_one (a34.2, (3 : Int))) (fun (a35 : (Bool × ((List Int) × (Int × Int)))) => (cond a35.1 (bindO (some (IntKind.wrap .i64 ((((List.length a34.1) : Nat) : Int) + (1 : Int)))) (fun (a36 : Int) => (bindO (M_S_l1Cur_pick (a35.2, a36)) (fun (a37 : (Int × ((List Int) × (Int × Int)))) => (bindO (sliceNH a37.1 (List.length a34.1)) (fun (a38 : (Nat × Nat)) => (bindO (guardO (lenOk ((List.length s33.1) + (List.length ((List.take a38.2 a34.1) :: ([] : List (List Int))))))) (fun (a39 : Unit) => (bindO (some (s33.1 ++ ((List.take a38.2 a34.1) :: ([] : List (List Int))))) (fun (a40 : (List (List Int))) => (bindO (some (IntKind.wrap .i64 (s33.2.1 - (1 : Int)))) (fun (a41 : Int) => (again32 (a40, (a41, a37.2))))))))))))))) (bindO (guardO (lenOk ((List.length s33.1) + (List.length (a34.1 :: ([] : List (List Int))))))) (fun (a42 : Unit) => (bindO (some (s33.1 ++ (a34.1 :: ([] : List (List Int))))) (fun (a43 : (List (List Int))) => (bindO (some (IntKind.wrap .i64 (s33.2.1 - (1 : Int)))) (fun (a44 : Int) => (again32 (a43, (a44, a35.2)))))))))))) (bindO (guardO (lenOk ((List.length s33.1) + (List.length (a34.1 :: ([] : List (List Int))))))) (fun (a45 : Unit) => (bindO (some (s33.1 ++ (a34.1 :: ([] : List (List Int))))) (fun (a46 : (List (List Int))) => (bindO (some (IntKind.wrap .i64 (s33.2.1 - (1 : Int)))) (fun (a47 : Int) => (again32 (a46, (a47, a34.2)))))))))))) (cond (decide ((((List.length s33.1) : Nat) : Int) > (0 : Int))) (bindO (M_S_l1Cur_one (s33.2.2, (12 : Int))) (fun (a48 : (Bool × ((List Int) × (Int × Int)))) => (cond a48.1 (bindO (getI s33.1 (0 : Int)) (fun (a49 : (List Int)) => (bindO (some (IntKind.wrap .i64 (a3.1 + (1 : Int)))) (fun (a50 : Int) => (bindO (M_S_l1Cur_pick (a48.2, a50)) (fun (a51 : (Int × ((List Int) × (Int × Int)))) => (bindO (guardO (lenOk ((List.length a49) + (List.length (a51.1 :: ([] : List Int)))))) (fun (a52 : Unit) => (bindO (some s33.1) (fun (a53 : (List (List Int))) => (bindO (getI a53 (0 : Int)) (fun (a54 : (List Int)) => (bindO (some (List.set a53 (Int.toNat (0 : Int)) (a49 ++ (a51.1 :: ([] : List Int))))) (fun (a55 : (List (List Int))) => (some (a3.1, (a55, a51.2))))))))))))))))) (some (a3.1, (s33.1, a48.2)))))) (some (a3.1, (s33.1, s33.2.2))))))) (([] : List (List Int)), (a4.1, a5.2)))))))))) (bindO (M_S_l1Cur_pick (a2.2, (8 : Int))) (fun (a56 : (Int × ((List Int) × (Int × Int)))) => (bindO (M_S_l1Cur_one (a56.2, (20 : Int))) (fun (a57 : (Bool × ((List Int) × (Int × Int)))) => (cond a57.1 (bindO (M_S_l1Cur_pick (a57.2, (2 : Int))) (fun (a58 : (Int × ((List Int) × (Int × Int)))) => (bindO (some (IntKind.wrap .i64 ((24 : Int) + a58.1))) (fun (a59 : Int) => (loopO (fun (again60 : (((List (List Int)) × (Int × ((List Int) × (Int × Int)))) → (Option (Int × ((List (List Int)) × ((List Int) × (Int × Int))))))) => (fun (s61 : ((List (List Int)) × (Int × ((List Int) × (Int × Int))))) => (cond (decide (s61.2.1 > (0 : Int))) (bindO (M_S_l1Cur_permutation (s61.2.2, a1)) (fun (a62 : ((List Int) × ((List Int) × (Int × Int)))) => (cond (decide ((((List.length a62.1) : Nat) : Int) > (0 : Int))) (bindO (M_S_l1Cur_one (a62.2, (3 : Int))) (fun (a63 : (Bool × ((List Int) × (Int × Int)))) => (cond a63.1 (bindO (some (IntKind.wrap .i64 ((((List.length a62.1) : Nat) : Int) + (1 : Int)))) (fun (a64 : Int) => (bindO (M_S_l1Cur_pick (a63.2, a64)) (fun (a65 : (Int × ((List Int) × (Int × Int)))) => (bindO (sliceNH a65.1 (List.length a62.1)) (fun (a66 : (Nat × Nat)) => (bindO (guardO (lenOk ((List.length s61.1) + (List.length ((List.take a66.2 a62.1) :: ([] : List (List Int))))))) (fun (a67 : Unit) => (bindO (some (s61.1 ++ ((List.take a66.2 a62.1) :: ([] : List (List Int))))) (fun (a68 : (List (List Int))) => (bindO (some (IntKind.wrap .i64 (s61.2.1 - (1 : Int)))) (fun (a69 : Int) => (again60 (a68, (a69, a65.2))))))))))))))) (bindO (guardO (lenOk ((List.length s61.1) + (List.length (a62.1 :: ([] : List (List Int))))))) (fun (a70 : Unit) => (bindO (some (s61.1 ++ (a62.1 :: ([] : List (List Int))))) (fun (a71 : (List (List Int))) => (bindO (some (IntKind.wrap .i64 (s61.2.1 - (1 : Int)))) (fun (a72 : Int) => (again60 (a71, (a72, a63.2)))))))))))) (bindO (guardO (lenOk ((List.length s61.1) + (List.length (a62.1 :: ([] : List (List Int))))))) (fun (a73 : Unit) => (bindO (some (s61.1 ++ (a62.1 :: ([] : List (List Int))))) (fun (a74 : (List (List Int))) => (bindO (some (IntKind.wrap .i64 (s61.2.1 - (1 : Int)))) (fun (a75 : Int) => (again60 (a74, (a75, a62.2)))))))))))) (cond (decide ((((List.length s61.1) : Nat) : Int) > (0 : Int))) (bindO (M_S_l1Cur_one (s61.2.2, (12 : Int))) (fun (a76 : (Bool × ((List Int) × (Int × Int)))) => (cond a76.1 (bindO (getI s61.1 (0 : Int)) (fun (a77 : (List Int)) => (bindO (some (IntKind.wrap .i64 (a1 + (1 : Int)))) (fun (a78 : Int) => (bindO (M_S_l1Cur_pick (a76.2, a78)) (fun (a79 : (Int × ((List Int) × (Int × Int)))) => (bindO (guardO (lenOk ((List.length a77) + (List.length (a79.1 :: ([] : List Int)))))) (fun (a80 : Unit) => (bindO (some s61.1) (fun (a81 : (List (List Int))) => (bindO (getI a81 (0 : Int)) (fun (a82 : (List Int)) => (bindO (some (List.set a81 (Int.toNat (0 : Int)) (a77 ++ (a79.1 :: ([] : List Int))))) (fun (a83 : (List (List Int))) => (some (a1, (a83, a79.2))))))))))))))))) (some (a1, (s61.1, a76.2)))))) (some (a1, (s61.1, s61.2.2))))))) (([] : List (List Int)), (a59, a58.2))))))) (loopO (fun (again84 : (((List (List Int)) × (Int × ((List Int) × (Int × Int)))) → (Option (Int × ((List (List Int)) × ((List Int) × (Int × Int))))))) => (fun (s85 : ((List (List Int)) × (Int × ((List Int) × (Int × Int))))) => (cond (decide (s85.2.1 > (0 : Int))) (bindO (M_S_l1Cur_permutation (s85.2.2, a1)) (fun (a86 : ((List Int) × ((List Int) × (Int × Int)))) => (cond (decide ((((List.length a86.1) : Nat) : Int) > (0 : Int))) (bindO (M_S_l1Cur_one (a86.2, (3 : Int))) (fun (a87 : (Bool × ((List Int) × (Int × Int)))) => (cond a87.1 (bindO (some (IntKind.wrap .i64 ((((List.length a86.1) : Nat) : Int) + (1 : Int)))) (fun (a88 : Int) => (bindO (M_S_l1Cur_pick (a87.2, a88)) (fun (a89 : (Int × ((List Int) × (Int × Int)))) => (bindO (sliceNH a89.1 (List.length a86.1)) (fun (a90 : (Nat × Nat)) => (bindO (guardO (lenOk ((List.length s85.1) + (List.length ((List.take a90.2 a86.1) :: ([] : List (List Int))))))) (fun (a91 : Unit) => (bindO (some (s85.1 ++ ((List.take a90.2 a86.1) :: ([] : List (List Int))))) (fun (a92 : (List (List Int))) => (bindO (some (IntKind.wrap .i64 (s85.2.1 - (1 : Int)))) (fun (a93 : Int) => (again84 (a92, (a93, a89.2))))))))))))))) (bindO (guardO (lenOk ((List.length s85.1) + (List.length (a86.1 :: ([] : List (List Int))))))) (fun (a94 : Unit) => (bindO (some (s85.1 ++ (a86.1 :: ([] : List (List Int))))) (fun (a95 : (List (List Int))) => (bindO (some (IntKind.wrap .i64 (s85.2.1 - (1 : Int)))) (fun (a96 : Int) => (again84 (a95, (a96, a87.2)))))))))))) (bindO (guardO (lenOk ((List.length s85.1) + (List.length (a86.1 :: ([] : List (List Int))))))) (fun (a97 : Unit) => (bindO (some (s85.1 ++ (a86.1 :: ([] : List (List Int))))) (fun (a98 : (List (List Int))) => (bindO (some (IntKind.wrap .i64 (s85.2.1 - (1 : Int)))) (fun (a99 : Int) => (again84 (a98, (a99, a86.2)))))))))))) (cond (decide ((((List.length s85.1) : Nat) : Int) > (0 : Int))) (bindO (M_S_l1Cur_one (s85.2.2, (12 : Int))) (fun (a100 : (Bool × ((List Int) × (Int × Int)))) => (cond a100.1 (bindO (getI s85.1 (0 : Int)) (fun (a101 : (List Int)) => (bindO (some (IntKind.wrap .i64 (a1 + (1 : Int)))) (fun (a102 : Int) => (bindO (M_S_l1Cur_pick (a100.2, a102)) (fun (a103 : (Int × ((List Int) × (Int × Int)))) => (bindO (guardO (lenOk ((List.length a101) + (List.length (a103.1 :: ([] : List Int)))))) (fun (a104 : Unit) => (bindO (some s85.1) (fun (a105 : (List (List Int))) => (bindO (getI a105 (0 : Int)) (fun (a106 : (List Int)) => (bindO (some (List.set a105 (Int.toNat (0 : Int)) (a101 ++ (a103.1 :: ([] : List Int))))) (fun (a107 : (List (List Int))) => (some (a1, (a107, a103.2))))))))))))))))) (some (a1, (s85.1, a100.2)))))) (some (a1, (s85.1, s85.2.2))))))) (([] : List (List Int)), (a56.1, a57.2)))))))))))))))

noncomputable def c_S_l1Cur_ranks : Con0 := ⟨pk_S_l1Cur_ranks, rk_S_l1Cur_ranks, M_S_l1Cur_ranks⟩

set_option maxRecDepth 100000 in
theorem eq_S_l1Cur_ranks (x : In pk_S_l1Cur_ranks) : semF (mkE [(97, c_S_l1Cur_pick), (134, c_S_l1Cur_one), (96, c_S_l1Cur_among), (153, c_S_l1Cur_permutation)]) h_S_l1Cur_ranks (info Try.f98) pk_S_l1Cur_ranks rk_S_l1Cur_ranks x = M_S_l1Cur_ranks x := (semFF_eq _ _ _ _ _ _).symm.trans (by kernel_rfl)

set_option maxRecDepth 100000 in
theorem m_S_l1Cur_ranks : ConOK Try.prog 98 c_S_l1Cur_ranks := fn_ok (tyOK _) (E := mkE [(97, c_S_l1Cur_pick), (134, c_S_l1Cur_one), (96, c_S_l1Cur_among), (153, c_S_l1Cur_permutation)]) (consOK_cons m_S_l1Cur_pick (consOK_cons m_S_l1Cur_one (consOK_cons m_S_l1Cur_among (consOK_cons m_S_l1Cur_permutation (consOK_nil rfl))))) Try.func98 (h := h_S_l1Cur_ranks) (by kernel_rfl) eq_S_l1Cur_ranks

/-- S_DrawRunoffRounds -/
def pk_S_DrawRunoffRounds : List PK := [.data (.sl (.int .u8))]
def rk_S_DrawRunoffRounds : List (Ty × Bool) := [((.int .i64), false), ((.sl (.sl (.int .i64))), true)]
def h_S_DrawRunoffRounds : Hints := { loops := [] }
noncomputable def M_S_DrawRunoffRounds (x : (List Int)) : (Option (Int × (List (List Int)))) :=
  (bindO (M_S_l1Cur_ranks (x, ((0 : Int), (0 : Int)))) (fun (a0 : (Int × ((List (List Int)) × ((List Int) × (Int × Int))))) => (some (a0.1, a0.2.1))))

noncomputable def c_S_DrawRunoffRounds : Con0 := ⟨pk_S_DrawRunoffRounds, rk_S_DrawRunoffRounds, M_S_DrawRunoffRounds⟩

set_option maxRecDepth 100000 in
theorem eq_S_DrawRunoffRounds (x : In pk_S_DrawRunoffRounds) : semF (mkE [(98, c_S_l1Cur_ranks)]) h_S_DrawRunoffRounds (info Try.f44) pk_S_DrawRunoffRounds rk_S_DrawRunoffRounds x = M_S_DrawRunoffRounds x := (semFF_eq _ _ _ _ _ _).symm.trans (by kernel_rfl)

set_option maxRecDepth 100000 in
theorem m_S_DrawRunoffRounds : ConOK Try.prog 44 c_S_DrawRunoffRounds := fn_ok (tyOK _) (E := mkE [(98, c_S_l1Cur_ranks)]) (consOK_cons m_S_l1Cur_ranks (consOK_nil rfl)) Try.func44 (h := h_S_DrawRunoffRounds) (by kernel_rfl) eq_S_DrawRunoffRounds

/-- I_within -/
def pk_I_within : List PK := [.data (.int .i64), .data (.int .i64), .data (.int .i64)]
def rk_I_within : List (Ty × Bool) := [(.bool, false)]
def h_I_within : Hints := { loops := [] }
noncomputable def M_I_within (x : (Int × (Int × Int))) : (Option Bool) :=
  (cond (decide (x.1 ≥ x.2.1)) (some (decide (x.1 ≤ x.2.2))) (some false))

noncomputable def c_I_within : Con0 := ⟨pk_I_within, rk_I_within, M_I_within⟩

set_option maxRecDepth 100000 in
theorem eq_I_within (x : In pk_I_within) : semF (mkE []) h_I_within (info Try.f64) pk_I_within rk_I_within x = M_I_within x := (semFF_eq _ _ _ _ _ _).symm.trans (by kernel_rfl)

set_option maxRecDepth 100000 in
theorem m_I_within : ConOK Try.prog 64 c_I_within := fn_ok (tyOK _) (E := mkE []) (consOK_nil rfl) Try.func64 (h := h_I_within) (by kernel_rfl) eq_I_within

/-- slices_IndexFunc_ssint_sint -/
def pk_slices_IndexFunc_ssint_sint : List PK := [.data (.sl (.sl (.int .i64))), .fn [(.sl (.int .i64))] .bool]
def rk_slices_IndexFunc_ssint_sint : List (Ty × Bool) := [((.int .i64), false)]
def h_slices_IndexFunc_ssint_sint : Hints := { loops := [(0, { items := [.slot 8 (.data (.int .i64) [])], kill := sgN 2 5 ++ (sgN 9 10) })] }
noncomputable def M_slices_IndexFunc_ssint_sint (x : ((List (List Int)) × ((List Int) → (Option Bool)))) : (Option Int) :=
  (loopO (fun (again0 : (Int → (Option Int))) => (fun (s1 : Int) => (cond (decide (s1 < (((List.length x.1) : Nat) : Int))) (bindO (getI x.1 s1) (fun (a2 : (List Int)) => (bindO (x.2 a2) (fun (a3 : Bool) => (cond a3 (some s1) (bindO (some (IntKind.wrap .i64 (s1 + (1 : Int)))) (fun (a4 : Int) => (again0 a4)))))))) (some (- (1 : Int)))))) (0 : Int))

noncomputable def c_slices_IndexFunc_ssint_sint : Con0 := ⟨pk_slices_IndexFunc_ssint_sint, rk_slices_IndexFunc_ssint_sint, M_slices_IndexFunc_ssint_sint⟩

set_option maxRecDepth 100000 in
theorem eq_slices_IndexFunc_ssint_sint (x : In pk_slices_IndexFunc_ssint_sint) : semF (mkE []) h_slices_IndexFunc_ssint_sint (info Try.f174) pk_slices_IndexFunc_ssint_sint rk_slices_IndexFunc_ssint_sint x = M_slices_IndexFunc_ssint_sint x := (semFF_eq _ _ _ _ _ _).symm.trans (by kernel_rfl)

set_option maxRecDepth 100000 in
theorem m_slices_IndexFunc_ssint_sint : ConOK Try.prog 174 c_slices_IndexFunc_ssint_sint := fn_ok (tyOK _) (E := mkE []) (consOK_nil rfl) Try.func174 (h := h_slices_IndexFunc_ssint_sint) (by kernel_rfl) eq_slices_IndexFunc_ssint_sint

/-- slices_ContainsFunc_ssint_sint -/
def pk_slices_ContainsFunc_ssint_sint : List PK := [.data (.sl (.sl (.int .i64))), .fn [(.sl (.int .i64))] .bool]
def rk_slices_ContainsFunc_ssint_sint : List (Ty × Bool) := [(.bool, false)]
def h_slices_ContainsFunc_ssint_sint : Hints := { loops := [] }
noncomputable def M_slices_ContainsFunc_ssint_sint (x : ((List (List Int)) × ((List Int) → (Option Bool)))) : (Option Bool) :=
  (bindO (M_slices_IndexFunc_ssint_sint (x.1, x.2)) (fun (a0 : Int) => (some (decide (a0 ≥ (0 : Int))))))

noncomputable def c_slices_ContainsFunc_ssint_sint : Con0 := ⟨pk_slices_ContainsFunc_ssint_sint, rk_slices_ContainsFunc_ssint_sint, M_slices_ContainsFunc_ssint_sint⟩

set_option maxRecDepth 100000 in
theorem eq_slices_ContainsFunc_ssint_sint (x : In pk_slices_ContainsFunc_ssint_sint) : semF (mkE [(174, c_slices_IndexFunc_ssint_sint)]) h_slices_ContainsFunc_ssint_sint (info Try.f154) pk_slices_ContainsFunc_ssint_sint rk_slices_ContainsFunc_ssint_sint x = M_slices_ContainsFunc_ssint_sint x := (semFF_eq _ _ _ _ _ _).symm.trans (by kernel_rfl)

set_option maxRecDepth 100000 in
theorem m_slices_ContainsFunc_ssint_sint : ConOK Try.prog 154 c_slices_ContainsFunc_ssint_sint := fn_ok (tyOK _) (E := mkE [(174, c_slices_IndexFunc_ssint_sint)]) (consOK_cons m_slices_IndexFunc_ssint_sint (consOK_nil rfl)) Try.func154 (h := h_slices_ContainsFunc_ssint_sint) (by kernel_rfl) eq_slices_ContainsFunc_ssint_sint

/-- slices_IndexFunc_sint_int -/
def pk_slices_IndexFunc_sint_int : List PK := [.data (.sl (.int .i64)), .fn [(.int .i64)] .bool]
def rk_slices_IndexFunc_sint_int : List (Ty × Bool) := [((.int .i64), false)]
def h_slices_IndexFunc_sint_int : Hints := { loops := [(0, { items := [.slot 8 (.data (.int .i64) [])], kill := sgN 2 5 ++ (sgN 9 10) })] }
noncomputable def M_slices_IndexFunc_sint_int (x : ((List Int) × (Int → (Option Bool)))) : (Option Int) :=
  (loopO (fun (again0 : (Int → (Option Int))) => (fun (s1 : Int) => (cond (decide (s1 < (((List.length x.1) : Nat) : Int))) (bindO (getI x.1 s1) (fun (a2 : Int) => (bindO (x.2 a2) (fun (a3 : Bool) => (cond a3 (some s1) (bindO (some (IntKind.wrap .i64 (s1 + (1 : Int)))) (fun (a4 : Int) => (again0 a4)))))))) (some (- (1 : Int)))))) (0 : Int))

noncomputable def c_slices_IndexFunc_sint_int : Con0 := ⟨pk_slices_IndexFunc_sint_int, rk_slices_IndexFunc_sint_int, M_slices_IndexFunc_sint_int⟩

set_option maxRecDepth 100000 in
theorem eq_slices_IndexFunc_sint_int (x : In pk_slices_IndexFunc_sint_int) : semF (mkE []) h_slices_IndexFunc_sint_int (info Try.f175) pk_slices_IndexFunc_sint_int rk_slices_IndexFunc_sint_int x = M_slices_IndexFunc_sint_int x := (semFF_eq _ _ _ _ _ _).symm.trans (by kernel_rfl)

set_option maxRecDepth 100000 in
theorem m_slices_IndexFunc_sint_int : ConOK Try.prog 175 c_slices_IndexFunc_sint_int := fn_ok (tyOK _) (E := mkE []) (consOK_nil rfl) Try.func175 (h := h_slices_IndexFunc_sint_int) (by kernel_rfl) eq_slices_IndexFunc_sint_int

/-- slices_ContainsFunc_sint_int -/
def pk_slices_ContainsFunc_sint_int : List PK := [.data (.sl (.int .i64)), .fn [(.int .i64)] .bool]
def rk_slices_ContainsFunc_sint_int : List (Ty × Bool) := [(.bool, false)]
def h_slices_ContainsFunc_sint_int : Hints := { loops := [] }
noncomputable def M_slices_ContainsFunc_sint_int (x : ((List Int) × (Int → (Option Bool)))) : (Option Bool) :=
  (bindO (M_slices_IndexFunc_sint_int (x.1, x.2)) (fun (a0 : Int) => (some (decide (a0 ≥ (0 : Int))))))

noncomputable def c_slices_ContainsFunc_sint_int : Con0 := ⟨pk_slices_ContainsFunc_sint_int, rk_slices_ContainsFunc_sint_int, M_slices_ContainsFunc_sint_int⟩

set_option maxRecDepth 100000 in
theorem eq_slices_ContainsFunc_sint_int (x : In pk_slices_ContainsFunc_sint_int) : semF (mkE [(175, c_slices_IndexFunc_sint_int)]) h_slices_ContainsFunc_sint_int (info Try.f162) pk_slices_ContainsFunc_sint_int rk_slices_ContainsFunc_sint_int x = M_slices_ContainsFunc_sint_int x := (semFF_eq _ _ _ _ _ _).symm.trans (by kernel_rfl)

set_option maxRecDepth 100000 in
theorem m_slices_ContainsFunc_sint_int : ConOK Try.prog 162 c_slices_ContainsFunc_sint_int := fn_ok (tyOK _) (E := mkE [(175, c_slices_IndexFunc_sint_int)]) (consOK_cons m_slices_IndexFunc_sint_int (consOK_nil rfl)) Try.func162 (h := h_slices_ContainsFunc_sint_int) (by kernel_rfl) eq_slices_ContainsFunc_sint_int

/-- I_areAll_1 -/
def pk_I_areAll_1 : List PK := [.data (.int .i64), .rfn [(.int .i64)] .bool]
def rk_I_areAll_1 : List (Ty × Bool) := [(.bool, false)]
def h_I_areAll_1 : Hints := { loops := [] }
noncomputable def M_I_areAll_1 (x : (Int × (Int → (Option Bool)))) : (Option Bool) :=
  (bindO (x.2 x.1) (fun (a0 : Bool) => (some (not a0))))

noncomputable def c_I_areAll_1 : Con0 := ⟨pk_I_areAll_1, rk_I_areAll_1, M_I_areAll_1⟩

set_option maxRecDepth 100000 in
theorem eq_I_areAll_1 (x : In pk_I_areAll_1) : semF (mkE []) h_I_areAll_1 (info Try.f163) pk_I_areAll_1 rk_I_areAll_1 x = M_I_areAll_1 x := (semFF_eq _ _ _ _ _ _).symm.trans (by kernel_rfl)

set_option maxRecDepth 100000 in
theorem m_I_areAll_1 : ConOK Try.prog 163 c_I_areAll_1 := fn_ok (tyOK _) (E := mkE []) (consOK_nil rfl) Try.func163 (h := h_I_areAll_1) (by kernel_rfl) eq_I_areAll_1

/-- I_areAll -/
def pk_I_areAll : List PK := [.data (.sl (.int .i64)), .fn [(.int .i64)] .bool]
def rk_I_areAll : List (Ty × Bool) := [(.bool, false)]
def h_I_areAll : Hints := { loops := [] }
noncomputable def M_I_areAll (x : ((List Int) × (Int → (Option Bool)))) : (Option Bool) :=
  (bindO (M_slices_ContainsFunc_sint_int (x.1, (fun (a0 : Int) => (bindO (M_I_areAll_1 (a0, x.2)) (fun (a1 : Bool) => (some a1)))))) (fun (a2 : Bool) => (some (not a2))))

noncomputable def c_I_areAll : Con0 := ⟨pk_I_areAll, rk_I_areAll, M_I_areAll⟩

set_option maxRecDepth 100000 in
theorem eq_I_areAll (x : In pk_I_areAll) : semF (mkE [(162, c_slices_ContainsFunc_sint_int), (163, c_I_areAll_1)]) h_I_areAll (info Try.f116) pk_I_areAll rk_I_areAll x = M_I_areAll x := (semFF_eq _ _ _ _ _ _).symm.trans (by kernel_rfl)

set_option maxRecDepth 100000 in
theorem m_I_areAll : ConOK Try.prog 116 c_I_areAll := fn_ok (tyOK _) (E := mkE [(162, c_slices_ContainsFunc_sint_int), (163, c_I_areAll_1)]) (consOK_cons m_slices_ContainsFunc_sint_int (consOK_cons m_I_areAll_1 (consOK_nil rfl))) Try.func116 (h := h_I_areAll) (by kernel_rfl) eq_I_areAll

/-- I_areBelow_1 -/
def pk_I_areBelow_1 : List PK := [.data (.int .i64), .rp (.int .i64)]
def rk_I_areBelow_1 : List (Ty × Bool) := [(.bool, false)]
def h_I_areBelow_1 : Hints := { loops := [] }
noncomputable def M_I_areBelow_1 (x : (Int × Int)) : (Option Bool) :=
  (bindO (some (IntKind.wrap .i64 (x.2 - (1 : Int)))) (fun (a0 : Int) => (bindO (M_I_within (x.1, ((0 : Int), a0))) (fun (a1 : Bool) => (some a1)))))

noncomputable def c_I_areBelow_1 : Con0 := ⟨pk_I_areBelow_1, rk_I_areBelow_1, M_I_areBelow_1⟩

set_option maxRecDepth 100000 in
theorem eq_I_areBelow_1 (x : In pk_I_areBelow_1) : semF (mkE [(64, c_I_within)]) h_I_areBelow_1 (info Try.f136) pk_I_areBelow_1 rk_I_areBelow_1 x = M_I_areBelow_1 x := (semFF_eq _ _ _ _ _ _).symm.trans (by kernel_rfl)

set_option maxRecDepth 100000 in
theorem m_I_areBelow_1 : ConOK Try.prog 136 c_I_areBelow_1 := fn_ok (tyOK _) (E := mkE [(64, c_I_within)]) (consOK_cons m_I_within (consOK_nil rfl)) Try.func136 (h := h_I_areBelow_1) (by kernel_rfl) eq_I_areBelow_1

/-- I_areBelow -/
def pk_I_areBelow : List PK := [.data (.sl (.int .i64)), .data (.int .i64)]
def rk_I_areBelow : List (Ty × Bool) := [(.bool, false)]
def h_I_areBelow : Hints := { loops := [] }
noncomputable def M_I_areBelow (x : ((List Int) × Int)) : (Option Bool) :=
  (bindO (M_I_areAll (x.1, (fun (a0 : Int) => (bindO (M_I_areBelow_1 (a0, x.2)) (fun (a1 : Bool) => (some a1)))))) (fun (a2 : Bool) => (some a2)))

noncomputable def c_I_areBelow : Con0 := ⟨pk_I_areBelow, rk_I_areBelow, M_I_areBelow⟩

set_option maxRecDepth 100000 in
theorem eq_I_areBelow (x : In pk_I_areBelow) : semF (mkE [(116, c_I_areAll), (136, c_I_areBelow_1)]) h_I_areBelow (info Try.f82) pk_I_areBelow rk_I_areBelow x = M_I_areBelow x := (semFF_eq _ _ _ _ _ _).symm.trans (by kernel_rfl)

set_option maxRecDepth 100000 in
theorem m_I_areBelow : ConOK Try.prog 82 c_I_areBelow := fn_ok (tyOK _) (E := mkE [(116, c_I_areAll), (136, c_I_areBelow_1)]) (consOK_cons m_I_areAll (consOK_cons m_I_areBelow_1 (consOK_nil rfl))) Try.func82 (h := h_I_areBelow) (by kernel_rfl) eq_I_areBelow

/-- slices_Index_sint_int -/
def pk_slices_Index_sint_int : List PK := [.data (.sl (.int .i64)), .data (.int .i64)]
def rk_slices_Index_sint_int : List (Ty × Bool) := [((.int .i64), false)]
def h_slices_Index_sint_int : Hints := { loops := [(0, { items := [.slot 8 (.data (.int .i64) [])], kill := sgN 2 5 ++ (sgN 9 10) })] }
noncomputable def M_slices_Index_sint_int (x : ((List Int) × Int)) : (Option Int) :=
  (loopO (fun (again0 : (Int → (Option Int))) => (fun (s1 : Int) => (cond (decide (s1 < (((List.length x.1) : Nat) : Int))) (bindO (getI x.1 s1) (fun (a2 : Int) => (cond (x.2 == a2) (some s1) (bindO (some (IntKind.wrap .i64 (s1 + (1 : Int)))) (fun (a3 : Int) => (again0 a3)))))) (some (- (1 : Int)))))) (0 : Int))

noncomputable def c_slices_Index_sint_int : Con0 := ⟨pk_slices_Index_sint_int, rk_slices_Index_sint_int, M_slices_Index_sint_int⟩

set_option maxRecDepth 100000 in
theorem eq_slices_Index_sint_int (x : In pk_slices_Index_sint_int) : semF (mkE []) h_slices_Index_sint_int (info Try.f103) pk_slices_Index_sint_int rk_slices_Index_sint_int x = M_slices_Index_sint_int x := (semFF_eq _ _ _ _ _ _).symm.trans (by kernel_rfl)

set_option maxRecDepth 100000 in
theorem m_slices_Index_sint_int : ConOK Try.prog 103 c_slices_Index_sint_int := fn_ok (tyOK _) (E := mkE []) (consOK_nil rfl) Try.func103 (h := h_slices_Index_sint_int) (by kernel_rfl) eq_slices_Index_sint_int

/-- slices_Contains_sint_int -/
def pk_slices_Contains_sint_int : List PK := [.data (.sl (.int .i64)), .data (.int .i64)]
def rk_slices_Contains_sint_int : List (Ty × Bool) := [(.bool, false)]
def h_slices_Contains_sint_int : Hints := { loops := [] }
noncomputable def M_slices_Contains_sint_int (x : ((List Int) × Int)) : (Option Bool) :=
  (bindO (M_slices_Index_sint_int (x.1, x.2)) (fun (a0 : Int) => (some (decide (a0 ≥ (0 : Int))))))

noncomputable def c_slices_Contains_sint_int : Con0 := ⟨pk_slices_Contains_sint_int, rk_slices_Contains_sint_int, M_slices_Contains_sint_int⟩

set_option maxRecDepth 100000 in
theorem eq_slices_Contains_sint_int (x : In pk_slices_Contains_sint_int) : semF (mkE [(103, c_slices_Index_sint_int)]) h_slices_Contains_sint_int (info Try.f105) pk_slices_Contains_sint_int rk_slices_Contains_sint_int x = M_slices_Contains_sint_int x := (semFF_eq _ _ _ _ _ _).symm.trans (by kernel_rfl)

set_option maxRecDepth 100000 in
theorem m_slices_Contains_sint_int : ConOK Try.prog 105 c_slices_Contains_sint_int := fn_ok (tyOK _) (E := mkE [(103, c_slices_Index_sint_int)]) (consOK_cons m_slices_Index_sint_int (consOK_nil rfl)) Try.func105 (h := h_slices_Contains_sint_int) (by kernel_rfl) eq_slices_Contains_sint_int

/-- I_areDifferent -/
def pk_I_areDifferent : List PK := [.data (.sl (.int .i64))]
def rk_I_areDifferent : List (Ty × Bool) := [(.bool, false)]
def h_I_areDifferent : Hints := { loops := [(0, { items := [.slot 7 (.data (.int .i64) [])], kill := sgN 1 4 ++ (sgN 8 10) })] }
noncomputable def M_I_areDifferent (x : (List Int)) : (Option Bool) :=
  (loopO (fun (again0 : (Int → (Option Bool))) => (fun (s1 : Int) => (cond (decide (s1 < (((List.length x) : Nat) : Int))) (bindO (getI x s1) (fun (a2 : Int) => (bindO (sliceNH s1 (List.length x)) (fun (a3 : (Nat × Nat)) => (bindO (M_slices_Contains_sint_int ((List.drop a3.1 (List.take a3.2 x)), a2)) (fun (a4 : Bool) => (cond a4 (some false) (bindO (some (IntKind.wrap .i64 (s1 + (1 : Int)))) (fun (a5 : Int) => (again0 a5)))))))))) (some true)))) (0 : Int))

noncomputable def c_I_areDifferent : Con0 := ⟨pk_I_areDifferent, rk_I_areDifferent, M_I_areDifferent⟩

set_option maxRecDepth 100000 in
theorem eq_I_areDifferent (x : In pk_I_areDifferent) : semF (mkE [(105, c_slices_Contains_sint_int)]) h_I_areDifferent (info Try.f135) pk_I_areDifferent rk_I_areDifferent x = M_I_areDifferent x := (semFF_eq _ _ _ _ _ _).symm.trans (by kernel_rfl)

set_option maxRecDepth 100000 in
theorem m_I_areDifferent : ConOK Try.prog 135 c_I_areDifferent := fn_ok (tyOK _) (E := mkE [(105, c_slices_Contains_sint_int)]) (consOK_cons m_slices_Contains_sint_int (consOK_nil rfl)) Try.func135 (h := h_I_areDifferent) (by kernel_rfl) eq_I_areDifferent

/-- I_areRankings_1 -/
def pk_I_areRankings_1 : List PK := [.data (.sl (.int .i64)), .rp (.int .i64)]
def rk_I_areRankings_1 : List (Ty × Bool) := [(.bool, false)]
def h_I_areRankings_1 : Hints := { loops := [] }
noncomputable def M_I_areRankings_1 (x : ((List Int) × Int)) : (Option Bool) :=
  (bindO (M_I_areBelow (x.1, x.2)) (fun (a0 : Bool) => (cond (not a0) (some true) (bindO (M_I_areDifferent x.1) (fun (a1 : Bool) => (some (not a1)))))))

noncomputable def c_I_areRankings_1 : Con0 := ⟨pk_I_areRankings_1, rk_I_areRankings_1, M_I_areRankings_1⟩

set_option maxRecDepth 100000 in
theorem eq_I_areRankings_1 (x : In pk_I_areRankings_1) : semF (mkE [(82, c_I_areBelow), (135, c_I_areDifferent)]) h_I_areRankings_1 (info Try.f155) pk_I_areRankings_1 rk_I_areRankings_1 x = M_I_areRankings_1 x := (semFF_eq _ _ _ _ _ _).symm.trans (by kernel_rfl)

set_option maxRecDepth 100000 in
theorem m_I_areRankings_1 : ConOK Try.prog 155 c_I_areRankings_1 := fn_ok (tyOK _) (E := mkE [(82, c_I_areBelow), (135, c_I_areDifferent)]) (consOK_cons m_I_areBelow (consOK_cons m_I_areDifferent (consOK_nil rfl))) Try.func155 (h := h_I_areRankings_1) (by kernel_rfl) eq_I_areRankings_1

/-- I_areRankings -/
def pk_I_areRankings : List PK := [.data (.int .i64), .data (.sl (.sl (.int .i64)))]
def rk_I_areRankings : List (Ty × Bool) := [(.bool, false)]
def h_I_areRankings : Hints := { loops := [] }
noncomputable def M_I_areRankings (x : (Int × (List (List Int)))) : (Option Bool) :=
  (bindO (M_I_within (x.1, ((1 : Int), (8 : Int)))) (fun (a0 : Bool) => (cond a0 (cond (decide ((((List.length x.2) : Nat) : Int) ≤ (24 : Int))) (bindO (M_slices_ContainsFunc_ssint_sint (x.2, (fun (a1 : (List Int)) => (bindO (M_I_areRankings_1 (a1, x.1)) (fun (a2 : Bool) => (some a2)))))) (fun (a3 : Bool) => (some (not a3)))) (some false)) (some false))))

noncomputable def c_I_areRankings : Con0 := ⟨pk_I_areRankings, rk_I_areRankings, M_I_areRankings⟩

set_option maxRecDepth 100000 in
theorem eq_I_areRankings (x : In pk_I_areRankings) : semF (mkE [(64, c_I_within), (154, c_slices_ContainsFunc_ssint_sint), (155, c_I_areRankings_1)]) h_I_areRankings (info Try.f99) pk_I_areRankings rk_I_areRankings x = M_I_areRankings x := (semFF_eq _ _ _ _ _ _).symm.trans (by kernel_rfl)

set_option maxRecDepth 100000 in
theorem m_I_areRankings : ConOK Try.prog 99 c_I_areRankings := fn_ok (tyOK _) (E := mkE [(64, c_I_within), (154, c_slices_ContainsFunc_ssint_sint), (155, c_I_areRankings_1)]) (consOK_cons m_I_within (consOK_cons m_slices_ContainsFunc_ssint_sint (consOK_cons m_I_areRankings_1 (consOK_nil rfl)))) Try.func99 (h := h_I_areRankings) (by kernel_rfl) eq_I_areRankings

/-- I_round_1 -/
def pk_I_round_1 : List PK := [.data (.int .i64), .rp (.sl .bool)]
def rk_I_round_1 : List (Ty × Bool) := [(.bool, false)]
def h_I_round_1 : Hints := { loops := [] }
noncomputable def M_I_round_1 (x : (Int × (List Bool))) : (Option Bool) :=
  (bindO (getI x.2 x.1) (fun (a0 : Bool) => (some (not a0))))

noncomputable def c_I_round_1 : Con0 := ⟨pk_I_round_1, rk_I_round_1, M_I_round_1⟩

set_option maxRecDepth 100000 in
theorem eq_I_round_1 (x : In pk_I_round_1) : semF (mkE []) h_I_round_1 (info Try.f176) pk_I_round_1 rk_I_round_1 x = M_I_round_1 x := (semFF_eq _ _ _ _ _ _).symm.trans (by kernel_rfl)

set_option maxRecDepth 100000 in
theorem m_I_round_1 : ConOK Try.prog 176 c_I_round_1 := fn_ok (tyOK _) (E := mkE []) (consOK_nil rfl) Try.func176 (h := h_I_round_1) (by kernel_rfl) eq_I_round_1

/-- I_round -/
def pk_I_round : List PK := [.data (.sl (.sl (.int .i64))), .data (.sl .bool)]
def rk_I_round : List (Ty × Bool) := [((.sl (.int .i64)), true)]
def h_I_round : Hints := { loops := [(0, { items := [.slot 16 (.data (.int .i64) []), .arr 5 (.int .i64) true], kill := [1, 2, 4] ++ (sgN 6 8 ++ (sgN 17 31)) }), (2, { items := [.slot 28 (.data (.int .i64) []), .arr 5 (.int .i64) true], kill := [0, 1, 2, 4] ++ (sgN 6 20 ++ (sgN 29 19)) })] }
noncomputable def M_I_round (x : ((List (List Int)) × (List Bool))) : (Option (List Int)) :=
  (bindO (guardO (((decide ((0 : Int) ≤ (((List.length x.2) : Nat) : Int))) && (decide ((((List.length x.2) : Nat) : Int) ≤ (((List.length x.2) : Nat) : Int)))) && (decide ((((List.length x.2) : Nat) : Int) ≤ ((lim : Nat) : Int))))) (fun (a0 : Unit) => (loopO (fun (again1 : ((Int × (List Int)) → (Option (List Int)))) => (fun (s2 : (Int × (List Int))) => (cond (decide (s2.1 < (((List.length x.2) : Nat) : Int))) (bindO (getI x.2 s2.1) (fun (a3 : Bool) => (cond a3 (bindO (getI s2.2 s2.1) (fun (a4 : Int) => (bindO (some (List.set s2.2 (Int.toNat s2.1) (- (1 : Int)))) (fun (a5 : (List Int)) => (bindO (some (IntKind.wrap .i64 (s2.1 + (1 : Int)))) (fun (a6 : Int) => (again1 (a6, a5)))))))) (bindO (some (IntKind.wrap .i64 (s2.1 + (1 : Int)))) (fun (a7 : Int) => (again1 (a7, s2.2))))))) (loopO (fun (again8 : ((Int × (List Int)) → (Option (List Int)))) => (fun (s9 : (Int × (List Int))) => (cond (decide (s9.1 < (((List.length x.1) : Nat) : Int))) (bindO (getI x.1 s9.1) (fun (a10 : (List Int)) => (bindO (M_slices_IndexFunc_sint_int (a10, (fun (a11 : Int) => (bindO (M_I_round_1 (a11, x.2)) (fun (a12 : Bool) => (some a12)))))) (fun (a13 : Int) => (cond (decide (a13 ≥ (0 : Int))) (bindO (getI a10 a13) (fun (a14 : Int) => (bindO (getI s9.2 a14) (fun (a15 : Int) => (bindO (some (IntKind.wrap .i64 (a15 + (1 : Int)))) (fun (a16 : Int) => (bindO (getI s9.2 a14) (fun (a17 : Int) => (bindO (some (List.set s9.2 (Int.toNat a14) a16)) (fun (a18 : (List Int)) => (bindO (some (IntKind.wrap .i64 (s9.1 + (1 : Int)))) (fun (a19 : Int) => (again8 (a19, a18)))))))))))))) (bindO (some (IntKind.wrap .i64 (s9.1 + (1 : Int)))) (fun (a20 : Int) => (again8 (a20, s9.2))))))))) (some s9.2)))) ((0 : Int), s2.2))))) ((0 : Int), (List.replicate (Int.toNat (((List.length x.2) : Nat) : Int)) (0 : Int))))))

noncomputable def c_I_round : Con0 := ⟨pk_I_round, rk_I_round, M_I_round⟩

set_option maxRecDepth 100000 in
theorem eq_I_round (x : In pk_I_round) : semF (mkE [(175, c_slices_IndexFunc_sint_int), (176, c_I_round_1)]) h_I_round (info Try.f156) pk_I_round rk_I_round x = M_I_round x := (semFF_eq _ _ _ _ _ _).symm.trans (by kernel_rfl)

set_option maxRecDepth 100000 in
theorem m_I_round : ConOK Try.prog 156 c_I_round := fn_ok (tyOK _) (E := mkE [(175, c_slices_IndexFunc_sint_int), (176, c_I_round_1)]) (consOK_cons m_slices_IndexFunc_sint_int (consOK_cons m_I_round_1 (consOK_nil rfl))) Try.func156 (h := h_I_round) (by kernel_rfl) eq_I_round

/-- slices_Max_sint_int -/
def pk_slices_Max_sint_int : List PK := [.data (.sl (.int .i64))]
def rk_slices_Max_sint_int : List (Ty × Bool) := [((.int .i64), false)]
def h_slices_Max_sint_int : Hints := { loops := [(0, { items := [.slot 3 (.data (.int .i64) []), .slot 4 (.data (.int .i64) [])], kill := [1, 2] ++ (sgN 5 20) })] }
noncomputable def M_slices_Max_sint_int (x : (List Int)) : (Option Int) :=
  (cond (decide ((((List.length x) : Nat) : Int) < (1 : Int))) (none : Option Int) (bindO (getI x (0 : Int)) (fun (a0 : Int) => (loopO (fun (again1 : ((Int × Int) → (Option Int))) => (fun (s2 : (Int × Int)) => (cond (decide (s2.2 < (((List.length x) : Nat) : Int))) (bindO (getI x s2.2) (fun (a3 : Int) => (bindO (some (IntKind.wrap .i64 (s2.2 + (1 : Int)))) (fun (a4 : Int) => (again1 ((if (s2.1 < a3) then a3 else s2.1), a4)))))) (some s2.1)))) (a0, (1 : Int))))))

noncomputable def c_slices_Max_sint_int : Con0 := ⟨pk_slices_Max_sint_int, rk_slices_Max_sint_int, M_slices_Max_sint_int⟩

set_option maxRecDepth 100000 in
theorem eq_slices_Max_sint_int (x : In pk_slices_Max_sint_int) : semF (mkE []) h_slices_Max_sint_int (info Try.f104) pk_slices_Max_sint_int rk_slices_Max_sint_int x = M_slices_Max_sint_int x := (semFF_eq _ _ _ _ _ _).symm.trans (by kernel_rfl)

set_option maxRecDepth 100000 in
theorem m_slices_Max_sint_int : ConOK Try.prog 104 c_slices_Max_sint_int := fn_ok (tyOK _) (E := mkE []) (consOK_nil rfl) Try.func104 (h := h_slices_Max_sint_int) (by kernel_rfl) eq_slices_Max_sint_int

/-- I_rounds -/
def pk_I_rounds : List PK := [.data (.int .i64), .data (.sl (.sl (.int .i64)))]
def rk_I_rounds : List (Ty × Bool) := [((.sl (.sl (.int .i64))), true)]
def h_I_rounds : Hints := { loops := [(0, { items := [.slot 5 (.own (.sl (.int .i64)) true), .arr 6 .bool true], kill := [0, 2, 3, 4] ++ (sgN 7 55) }), (2, { items := [.slot 8 (.data (.int .i64) []), .slot 9 (.data (.int .i64) []), .slot 10 (.data (.int .i64) []), .slot 25 (.data (.int .i64) [])], kill := [0, 2, 3, 4] ++ (sgN 11 12 ++ (sgN 26 36)) })] }
noncomputable def M_I_rounds (x : (Int × (List (List Int)))) : (Option (List (List Int))) :=
  (bindO (guardO (((decide ((0 : Int) ≤ x.1)) && (decide (x.1 ≤ x.1))) && (decide (x.1 ≤ ((lim : Nat) : Int))))) (fun (a0 : Unit) => (loopO (fun (again1 : (((List (List Int)) × (List Bool)) → (Option (List (List Int))))) => (fun (s2 : ((List (List Int)) × (List Bool))) => (bindO (M_I_round (x.2, s2.2)) (fun (a3 : (List Int)) => (bindO (guardO (lenOk ((List.length s2.1) + (List.length (a3 :: ([] : List (List Int))))))) (fun (a4 : Unit) => (bindO (some (s2.1 ++ (a3 :: ([] : List (List Int))))) (fun (a5 : (List (List Int))) => (loopO (fun (again6 : ((Int × (Int × (Int × Int))) → (Option (List (List Int))))) => (fun (s7 : (Int × (Int × (Int × Int)))) => (cond (decide (s7.2.2.2 < (((List.length a3) : Nat) : Int))) (bindO (getI a3 s7.2.2.2) (fun (a8 : Int) => (cond (decide (a8 < (0 : Int))) (bindO (some (IntKind.wrap .i64 (s7.2.2.2 + (1 : Int)))) (fun (a9 : Int) => (again6 (s7.1, (s7.2.1, (s7.2.2.1, a9)))))) (bindO (some (IntKind.wrap .i64 (s7.1 + a8))) (fun (a10 : Int) => (bindO (some (IntKind.wrap .i64 (s7.2.1 + (1 : Int)))) (fun (a11 : Int) => (cond (decide (s7.2.2.1 < (0 : Int))) (bindO (some (IntKind.wrap .i64 (s7.2.2.2 + (1 : Int)))) (fun (a12 : Int) => (again6 (a10, (a11, (s7.2.2.2, a12)))))) (bindO (getI a3 s7.2.2.1) (fun (a13 : Int) => (cond (decide (a8 ≤ a13)) (bindO (some (IntKind.wrap .i64 (s7.2.2.2 + (1 : Int)))) (fun (a14 : Int) => (again6 (a10, (a11, (s7.2.2.2, a14)))))) (bindO (some (IntKind.wrap .i64 (s7.2.2.2 + (1 : Int)))) (fun (a15 : Int) => (again6 (a10, (a11, (s7.2.2.1, a15))))))))))))))))) (cond (decide (s7.2.1 ≤ (1 : Int))) (some a5) (bindO (M_slices_Max_sint_int a3) (fun (a16 : Int) => (bindO (some (IntKind.wrap .i64 ((2 : Int) * a16))) (fun (a17 : Int) => (cond (decide (a17 > s7.1)) (some a5) (bindO (getI s2.2 s7.2.2.1) (fun (a18 : Bool) => (bindO (some (List.set s2.2 (Int.toNat s7.2.2.1) true)) (fun (a19 : (List Bool)) => (again1 (a5, a19))))))))))))))) ((0 : Int), ((0 : Int), ((- (1 : Int)), (0 : Int))))))))))))) (([] : List (List Int)), (List.replicate (Int.toNat x.1) false)))))

noncomputable def c_I_rounds : Con0 := ⟨pk_I_rounds, rk_I_rounds, M_I_rounds⟩

set_option maxRecDepth 100000 in
theorem eq_I_rounds (x : In pk_I_rounds) : semF (mkE [(156, c_I_round), (104, c_slices_Max_sint_int)]) h_I_rounds (info Try.f100) pk_I_rounds rk_I_rounds x = M_I_rounds x := (semFF_eq _ _ _ _ _ _).symm.trans (by kernel_rfl)

set_option maxRecDepth 100000 in
theorem m_I_rounds : ConOK Try.prog 100 c_I_rounds := fn_ok (tyOK _) (E := mkE [(156, c_I_round), (104, c_slices_Max_sint_int)]) (consOK_cons m_I_round (consOK_cons m_slices_Max_sint_int (consOK_nil rfl))) Try.func100 (h := h_I_rounds) (by kernel_rfl) eq_I_rounds

/-- I_RunoffRounds -/
def pk_I_RunoffRounds : List PK := [.data (.int .i64), .data (.sl (.sl (.int .i64)))]
def rk_I_RunoffRounds : List (Ty × Bool) := [((.sl (.sl (.int .i64))), true), (.bool, false)]
def h_I_RunoffRounds : Hints := { loops := [] }
noncomputable def M_I_RunoffRounds (x : (Int × (List (List Int)))) : (Option ((List (List Int)) × Bool)) :=
  (bindO (M_I_areRankings (x.1, x.2)) (fun (a0 : Bool) => (cond (not a0) (some (([] : List (List Int)), false)) (bindO (M_I_rounds (x.1, x.2)) (fun (a1 : (List (List Int))) => (some (a1, true)))))))

noncomputable def c_I_RunoffRounds : Con0 := ⟨pk_I_RunoffRounds, rk_I_RunoffRounds, M_I_RunoffRounds⟩

set_option maxRecDepth 100000 in
theorem eq_I_RunoffRounds (x : In pk_I_RunoffRounds) : semF (mkE [(99, c_I_areRankings), (100, c_I_rounds)]) h_I_RunoffRounds (info Try.f45) pk_I_RunoffRounds rk_I_RunoffRounds x = M_I_RunoffRounds x := (semFF_eq _ _ _ _ _ _).symm.trans (by kernel_rfl)

set_option maxRecDepth 100000 in
theorem m_I_RunoffRounds : ConOK Try.prog 45 c_I_RunoffRounds := fn_ok (tyOK _) (E := mkE [(99, c_I_areRankings), (100, c_I_rounds)]) (consOK_cons m_I_areRankings (consOK_cons m_I_rounds (consOK_nil rfl))) Try.func45 (h := h_I_RunoffRounds) (by kernel_rfl) eq_I_RunoffRounds

/-- S_l1All -/
def pk_S_l1All : List PK := [.data (.sl (.int .i64)), .data (.int .i64), .data (.int .i64)]
def rk_S_l1All : List (Ty × Bool) := [(.bool, false)]
def h_S_l1All : Hints := { loops := [(0, { items := [.slot 11 (.data (.int .i64) [])], kill := [0] ++ (sgN 3 6 ++ (sgN 12 9)) })] }
noncomputable def M_S_l1All (x : ((List Int) × (Int × Int))) : (Option Bool) :=
  (loopO (fun (again0 : (Int → (Option Bool))) => (fun (s1 : Int) => (cond (decide (s1 < (((List.length x.1) : Nat) : Int))) (bindO (getI x.1 s1) (fun (a2 : Int) => (bindO (M_S_l1In (a2, (x.2.1, x.2.2))) (fun (a3 : Bool) => (cond (not a3) (some false) (bindO (some (IntKind.wrap .i64 (s1 + (1 : Int)))) (fun (a4 : Int) => (again0 a4)))))))) (some true)))) (0 : Int))

noncomputable def c_S_l1All : Con0 := ⟨pk_S_l1All, rk_S_l1All, M_S_l1All⟩

set_option maxRecDepth 100000 in
theorem eq_S_l1All (x : In pk_S_l1All) : semF (mkE [(61, c_S_l1In)]) h_S_l1All (info Try.f114) pk_S_l1All rk_S_l1All x = M_S_l1All x := (semFF_eq _ _ _ _ _ _).symm.trans (by kernel_rfl)

set_option maxRecDepth 100000 in
theorem m_S_l1All : ConOK Try.prog 114 c_S_l1All := fn_ok (tyOK _) (E := mkE [(61, c_S_l1In)]) (consOK_cons m_S_l1In (consOK_nil rfl)) Try.func114 (h := h_S_l1All) (by kernel_rfl) eq_S_l1All

/-- S_l1Has -/
def pk_S_l1Has : List PK := [.data (.sl (.int .i64)), .data (.int .i64)]
def rk_S_l1Has : List (Ty × Bool) := [(.bool, false)]
def h_S_l1Has : Hints := { loops := [(0, { items := [.slot 9 (.data (.int .i64) [])], kill := [0] ++ (sgN 2 5 ++ (sgN 10 7)) })] }
noncomputable def M_S_l1Has (x : ((List Int) × Int)) : (Option Bool) :=
  (loopO (fun (again0 : (Int → (Option Bool))) => (fun (s1 : Int) => (cond (decide (s1 < (((List.length x.1) : Nat) : Int))) (bindO (getI x.1 s1) (fun (a2 : Int) => (cond (a2 == x.2) (some true) (bindO (some (IntKind.wrap .i64 (s1 + (1 : Int)))) (fun (a3 : Int) => (again0 a3)))))) (some false)))) (0 : Int))

noncomputable def c_S_l1Has : Con0 := ⟨pk_S_l1Has, rk_S_l1Has, M_S_l1Has⟩

set_option maxRecDepth 100000 in
theorem eq_S_l1Has (x : In pk_S_l1Has) : semF (mkE []) h_S_l1Has (info Try.f115) pk_S_l1Has rk_S_l1Has x = M_S_l1Has x := (semFF_eq _ _ _ _ _ _).symm.trans (by kernel_rfl)

set_option maxRecDepth 100000 in
theorem m_S_l1Has : ConOK Try.prog 115 c_S_l1Has := fn_ok (tyOK _) (E := mkE []) (consOK_nil rfl) Try.func115 (h := h_S_l1Has) (by kernel_rfl) eq_S_l1Has

/-- S_vDifferent -/
def pk_S_vDifferent : List PK := [.data (.sl (.int .i64))]
def rk_S_vDifferent : List (Ty × Bool) := [(.bool, false)]
def h_S_vDifferent : Hints := { loops := [(0, { items := [.slot 7 (.data (.int .i64) [])], kill := sgN 1 4 ++ (sgN 8 10) })] }
noncomputable def M_S_vDifferent (x : (List Int)) : (Option Bool) :=
  (loopO (fun (again0 : (Int → (Option Bool))) => (fun (s1 : Int) => (cond (decide (s1 < (((List.length x) : Nat) : Int))) (bindO (getI x s1) (fun (a2 : Int) => (bindO (sliceNH s1 (List.length x)) (fun (a3 : (Nat × Nat)) => (bindO (M_S_l1Has ((List.drop a3.1 (List.take a3.2 x)), a2)) (fun (a4 : Bool) => (cond a4 (some false) (bindO (some (IntKind.wrap .i64 (s1 + (1 : Int)))) (fun (a5 : Int) => (again0 a5)))))))))) (some true)))) (0 : Int))

noncomputable def c_S_vDifferent : Con0 := ⟨pk_S_vDifferent, rk_S_vDifferent, M_S_vDifferent⟩

set_option maxRecDepth 100000 in
theorem eq_S_vDifferent (x : In pk_S_vDifferent) : semF (mkE [(115, c_S_l1Has)]) h_S_vDifferent (info Try.f157) pk_S_vDifferent rk_S_vDifferent x = M_S_vDifferent x := (semFF_eq _ _ _ _ _ _).symm.trans (by kernel_rfl)

set_option maxRecDepth 100000 in
theorem m_S_vDifferent : ConOK Try.prog 157 c_S_vDifferent := fn_ok (tyOK _) (E := mkE [(115, c_S_l1Has)]) (consOK_cons m_S_l1Has (consOK_nil rfl)) Try.func157 (h := h_S_vDifferent) (by kernel_rfl) eq_S_vDifferent

/-- S_tRanks -/
def pk_S_tRanks : List PK := [.data (.int .i64), .data (.sl (.sl (.int .i64)))]
def rk_S_tRanks : List (Ty × Bool) := [(.bool, false)]
def h_S_tRanks : Hints := { loops := [(0, { items := [.slot 17 (.data (.int .i64) [])], kill := sgN 1 14 ++ (sgN 18 14) })] }
noncomputable def M_S_tRanks (x : (Int × (List (List Int)))) : (Option Bool) :=
  (bindO (M_S_l1In (x.1, ((1 : Int), (8 : Int)))) (fun (a0 : Bool) => (cond (not a0) (some false) (cond (decide ((((List.length x.2) : Nat) : Int) > (24 : Int))) (some false) (loopO (fun (again1 : (Int → (Option Bool))) => (fun (s2 : Int) => (cond (decide (s2 < (((List.length x.2) : Nat) : Int))) (bindO (getI x.2 s2) (fun (a3 : (List Int)) => (bindO (some (IntKind.wrap .i64 (x.1 - (1 : Int)))) (fun (a4 : Int) => (bindO (M_S_l1All (a3, ((0 : Int), a4))) (fun (a5 : Bool) => (cond (not a5) (some false) (bindO (M_S_vDifferent a3) (fun (a6 : Bool) => (cond (not a6) (some false) (bindO (some (IntKind.wrap .i64 (s2 + (1 : Int)))) (fun (a7 : Int) => (again1 a7))))))))))))) (some true)))) (0 : Int))))))

noncomputable def c_S_tRanks : Con0 := ⟨pk_S_tRanks, rk_S_tRanks, M_S_tRanks⟩

set_option maxRecDepth 100000 in
theorem eq_S_tRanks (x : In pk_S_tRanks) : semF (mkE [(61, c_S_l1In), (114, c_S_l1All), (157, c_S_vDifferent)]) h_S_tRanks (info Try.f101) pk_S_tRanks rk_S_tRanks x = M_S_tRanks x := (semFF_eq _ _ _ _ _ _).symm.trans (by kernel_rfl)

set_option maxRecDepth 100000 in
theorem m_S_tRanks : ConOK Try.prog 101 c_S_tRanks := fn_ok (tyOK _) (E := mkE [(61, c_S_l1In), (114, c_S_l1All), (157, c_S_vDifferent)]) (consOK_cons m_S_l1In (consOK_cons m_S_l1All (consOK_cons m_S_vDifferent (consOK_nil rfl)))) Try.func101 (h := h_S_tRanks) (by kernel_rfl) eq_S_tRanks

/-- S_tFirst -/
def pk_S_tFirst : List PK := [.data (.int .i64), .data (.sl (.sl (.int .i64))), .data (.sl (.int .i64))]
def rk_S_tFirst : List (Ty × Bool) := [((.sl (.int .i64)), true)]
def h_S_tFirst : Hints := { loops := [(0, { items := [.slot 18 (.data (.int .i64) []), .arr 7 (.int .i64) true], kill := [0] ++ (sgN 2 5 ++ (sgN 8 8 ++ (sgN 19 33))) }), (2, { items := [.slot 28 (.data (.int .i64) []), .arr 7 (.int .i64) true], kill := sgN 0 7 ++ (sgN 8 18 ++ (sgN 29 23)) }), (4, { items := [.slot 34 (.data (.int .i64) []), .arr 7 (.int .i64) true], kill := sgN 0 7 ++ (sgN 8 18 ++ ([29, 30, 31] ++ (sgN 35 17))) })] }
noncomputable def M_S_tFirst (x : (Int × ((List (List Int)) × (List Int)))) : (Option (List Int)) :=
  (bindO (guardO (((decide ((0 : Int) ≤ x.1)) && (decide (x.1 ≤ x.1))) && (decide (x.1 ≤ ((lim : Nat) : Int))))) (fun (a0 : Unit) => (loopO (fun (again1 : ((Int × (List Int)) → (Option (List Int)))) => (fun (s2 : (Int × (List Int))) => (cond (decide (s2.1 < (((List.length x.2.2) : Nat) : Int))) (bindO (getI x.2.2 s2.1) (fun (a3 : Int) => (bindO (getI s2.2 a3) (fun (a4 : Int) => (bindO (some (List.set s2.2 (Int.toNat a3) (- (1 : Int)))) (fun (a5 : (List Int)) => (bindO (some (IntKind.wrap .i64 (s2.1 + (1 : Int)))) (fun (a6 : Int) => (again1 (a6, a5)))))))))) (loopO (fun (again7 : ((Int × (List Int)) → (Option (List Int)))) => (fun (s8 : (Int × (List Int))) => (cond (decide (s8.1 < (((List.length x.2.1) : Nat) : Int))) (bindO (getI x.2.1 s8.1) (fun (a9 : (List Int)) => (loopO (fun (again10 : ((Int × (List Int)) → (Option (List Int)))) => (fun (s11 : (Int × (List Int))) => (cond (decide (s11.1 < (((List.length a9) : Nat) : Int))) (bindO (getI a9 s11.1) (fun (a12 : Int) => (bindO (getI s11.2 a12) (fun (a13 : Int) => (cond (decide (a13 ≥ (0 : Int))) (bindO (getI s11.2 a12) (fun (a14 : Int) => (bindO (some (IntKind.wrap .i64 (a14 + (1 : Int)))) (fun (a15 : Int) => (bindO (getI s11.2 a12) (fun (a16 : Int) => (bindO (some (List.set s11.2 (Int.toNat a12) a15)) (fun (a17 : (List Int)) => (bindO (some (IntKind.wrap .i64 (s8.1 + (1 : Int)))) (fun (a18 : Int) => (again7 (a18, a17)))))))))))) (bindO (some (IntKind.wrap .i64 (s11.1 + (1 : Int)))) (fun (a19 : Int) => (again10 (a19, s11.2))))))))) (bindO (some (IntKind.wrap .i64 (s8.1 + (1 : Int)))) (fun (a20 : Int) => (again7 (a20, s11.2))))))) ((0 : Int), s8.2)))) (some s8.2)))) ((0 : Int), s2.2))))) ((0 : Int), (List.replicate (Int.toNat x.1) (0 : Int))))))

noncomputable def c_S_tFirst : Con0 := ⟨pk_S_tFirst, rk_S_tFirst, M_S_tFirst⟩

set_option maxRecDepth 100000 in
theorem eq_S_tFirst (x : In pk_S_tFirst) : semF (mkE []) h_S_tFirst (info Try.f158) pk_S_tFirst rk_S_tFirst x = M_S_tFirst x := (semFF_eq _ _ _ _ _ _).symm.trans (by kernel_rfl)

set_option maxRecDepth 100000 in
theorem m_S_tFirst : ConOK Try.prog 158 c_S_tFirst := fn_ok (tyOK _) (E := mkE []) (consOK_nil rfl) Try.func158 (h := h_S_tFirst) (by kernel_rfl) eq_S_tFirst

/-- S_l1Most -/
def pk_S_l1Most : List PK := [.data (.int .i64), .data (.int .i64)]
def rk_S_l1Most : List (Ty × Bool) := [((.int .i64), false)]
def h_S_l1Most : Hints := { loops := [] }
noncomputable def M_S_l1Most (x : (Int × Int)) : (Option Int) :=
  (cond (decide (x.1 > x.2)) (some x.1) (some x.2))

noncomputable def c_S_l1Most : Con0 := ⟨pk_S_l1Most, rk_S_l1Most, M_S_l1Most⟩

set_option maxRecDepth 100000 in
theorem eq_S_l1Most (x : In pk_S_l1Most) : semF (mkE []) h_S_l1Most (info Try.f132) pk_S_l1Most rk_S_l1Most x = M_S_l1Most x := (semFF_eq _ _ _ _ _ _).symm.trans (by kernel_rfl)

set_option maxRecDepth 100000 in
theorem m_S_l1Most : ConOK Try.prog 132 c_S_l1Most := fn_ok (tyOK _) (E := mkE []) (consOK_nil rfl) Try.func132 (h := h_S_l1Most) (by kernel_rfl) eq_S_l1Most

/-- S_tRounds -/
def pk_S_tRounds : List PK := [.data (.int .i64), .data (.sl (.sl (.int .i64)))]
def rk_S_tRounds : List (Ty × Bool) := [((.sl (.sl (.int .i64))), true)]
def h_S_tRounds : Hints := { loops := [(0, { items := [.slot 5 (.own (.sl (.int .i64)) true), .slot 6 (.own (.int .i64) true)], kill := [2, 3, 4] ++ (sgN 7 57) }), (2, { items := [.slot 8 (.data (.int .i64) []), .slot 9 (.data (.int .i64) []), .slot 10 (.data (.int .i64) []), .slot 23 (.data (.int .i64) [])], kill := [2, 3, 4] ++ (sgN 11 10 ++ (sgN 24 40)) })] }
noncomputable def M_S_tRounds (x : (Int × (List (List Int)))) : (Option (List (List Int))) :=
  (loopO (fun (again0 : (((List (List Int)) × (List Int)) → (Option (List (List Int))))) => (fun (s1 : ((List (List Int)) × (List Int))) => (bindO (M_S_tFirst (x.1, (x.2, s1.2))) (fun (a2 : (List Int)) => (bindO (guardO (lenOk ((List.length s1.1) + (List.length (a2 :: ([] : List (List Int))))))) (fun (a3 : Unit) => (bindO (some (s1.1 ++ (a2 :: ([] : List (List Int))))) (fun (a4 : (List (List Int))) => (loopO (fun (again5 : ((Int × (Int × (Int × Int))) → (Option (List (List Int))))) => (fun (s6 : (Int × (Int × (Int × Int)))) => (cond (decide (s6.2.2.2 < (((List.length a2) : Nat) : Int))) (bindO (getI a2 s6.2.2.2) (fun (a7 : Int) => (cond (decide (a7 < (0 : Int))) (bindO (some (IntKind.wrap .i64 (s6.2.2.2 + (1 : Int)))) (fun (a8 : Int) => (again5 (s6.1, (s6.2.1, (s6.2.2.1, a8)))))) (bindO (some (IntKind.wrap .i64 (s6.1 + a7))) (fun (a9 : Int) => (bindO (M_S_l1Most (s6.2.1, a7)) (fun (a10 : Int) => (cond (decide (s6.2.2.1 < (0 : Int))) (bindO (some (IntKind.wrap .i64 (s6.2.2.2 + (1 : Int)))) (fun (a11 : Int) => (again5 (a9, (a10, (s6.2.2.2, a11)))))) (bindO (getI a2 s6.2.2.1) (fun (a12 : Int) => (cond (decide (a7 ≤ a12)) (bindO (some (IntKind.wrap .i64 (s6.2.2.2 + (1 : Int)))) (fun (a13 : Int) => (again5 (a9, (a10, (s6.2.2.2, a13)))))) (bindO (some (IntKind.wrap .i64 (s6.2.2.2 + (1 : Int)))) (fun (a14 : Int) => (again5 (a9, (a10, (s6.2.2.1, a14))))))))))))))))) (bindO (some (IntKind.wrap .i64 ((2 : Int) * s6.2.1))) (fun (a15 : Int) => (cond (decide (a15 > s6.1)) (some a4) (bindO (some (IntKind.wrap .i64 (x.1 - (1 : Int)))) (fun (a16 : Int) => (cond (decide ((((List.length s1.2) : Nat) : Int) ≥ a16)) (some a4) (bindO (guardO (lenOk ((List.length s1.2) + (List.length (s6.2.2.1 :: ([] : List Int)))))) (fun (a17 : Unit) => (bindO (some (s1.2 ++ (s6.2.2.1 :: ([] : List Int)))) (fun (a18 : (List Int)) => (again0 (a4, a18))))))))))))))) ((0 : Int), ((0 : Int), ((- (1 : Int)), (0 : Int))))))))))))) (([] : List (List Int)), ([] : List Int)))

noncomputable def c_S_tRounds : Con0 := ⟨pk_S_tRounds, rk_S_tRounds, M_S_tRounds⟩

set_option maxRecDepth 100000 in
theorem eq_S_tRounds (x : In pk_S_tRounds) : semF (mkE [(158, c_S_tFirst), (132, c_S_l1Most)]) h_S_tRounds (info Try.f102) pk_S_tRounds rk_S_tRounds x = M_S_tRounds x := (semFF_eq _ _ _ _ _ _).symm.trans (by kernel_rfl)

set_option maxRecDepth 100000 in
theorem m_S_tRounds : ConOK Try.prog 102 c_S_tRounds := fn_ok (tyOK _) (E := mkE [(158, c_S_tFirst), (132, c_S_l1Most)]) (consOK_cons m_S_tFirst (consOK_cons m_S_l1Most (consOK_nil rfl))) Try.func102 (h := h_S_tRounds) (by kernel_rfl) eq_S_tRounds

/-- S_RunoffRounds -/
def pk_S_RunoffRounds : List PK := [.data (.int .i64), .data (.sl (.sl (.int .i64)))]
def rk_S_RunoffRounds : List (Ty × Bool) := [((.sl (.sl (.int .i64))), true), (.bool, false)]
def h_S_RunoffRounds : Hints := { loops := [] }
noncomputable def M_S_RunoffRounds (x : (Int × (List (List Int)))) : (Option ((List (List Int)) × Bool)) :=
  (bindO (M_S_tRanks (x.1, x.2)) (fun (a0 : Bool) => (cond (not a0) (some (([] : List (List Int)), false)) (bindO (M_S_tRounds (x.1, x.2)) (fun (a1 : (List (List Int))) => (some (a1, true)))))))

noncomputable def c_S_RunoffRounds : Con0 := ⟨pk_S_RunoffRounds, rk_S_RunoffRounds, M_S_RunoffRounds⟩

set_option maxRecDepth 100000 in
theorem eq_S_RunoffRounds (x : In pk_S_RunoffRounds) : semF (mkE [(101, c_S_tRanks), (102, c_S_tRounds)]) h_S_RunoffRounds (info Try.f46) pk_S_RunoffRounds rk_S_RunoffRounds x = M_S_RunoffRounds x := (semFF_eq _ _ _ _ _ _).symm.trans (by kernel_rfl)

set_option maxRecDepth 100000 in
theorem m_S_RunoffRounds : ConOK Try.prog 46 c_S_RunoffRounds := fn_ok (tyOK _) (E := mkE [(101, c_S_tRanks), (102, c_S_tRounds)]) (consOK_cons m_S_tRanks (consOK_cons m_S_tRounds (consOK_nil rfl))) Try.func46 (h := h_S_RunoffRounds) (by kernel_rfl) eq_S_RunoffRounds

/-- L_sameInts -/
def pk_L_sameInts : List PK := [.data (.sl (.int .i64)), .data (.sl (.int .i64))]
def rk_L_sameInts : List (Ty × Bool) := [(.bool, false)]
def h_L_sameInts : Hints := { loops := [(0, { items := [.slot 13 (.data (.int .i64) [])], kill := sgN 2 10 ++ (sgN 14 12) })] }
noncomputable def M_L_sameInts (x : ((List Int) × (List Int))) : (Option Bool) :=
  (cond ((((List.length x.1) : Nat) : Int) != (((List.length x.2) : Nat) : Int)) (some false) (loopO (fun (again0 : (Int → (Option Bool))) => (fun (s1 : Int) => (cond (decide (s1 < (((List.length x.1) : Nat) : Int))) (bindO (getI x.1 s1) (fun (a2 : Int) => (bindO (getI x.2 s1) (fun (a3 : Int) => (cond (a2 != a3) (some false) (bindO (some (IntKind.wrap .i64 (s1 + (1 : Int)))) (fun (a4 : Int) => (again0 a4)))))))) (some true)))) (0 : Int)))

noncomputable def c_L_sameInts : Con0 := ⟨pk_L_sameInts, rk_L_sameInts, M_L_sameInts⟩

set_option maxRecDepth 100000 in
theorem eq_L_sameInts (x : In pk_L_sameInts) : semF (mkE []) h_L_sameInts (info Try.f42) pk_L_sameInts rk_L_sameInts x = M_L_sameInts x := (semFF_eq _ _ _ _ _ _).symm.trans (by kernel_rfl)

set_option maxRecDepth 100000 in
theorem m_L_sameInts : ConOK Try.prog 42 c_L_sameInts := fn_ok (tyOK _) (E := mkE []) (consOK_nil rfl) Try.func42 (h := h_L_sameInts) (by kernel_rfl) eq_L_sameInts

/-- L_sameLists -/
def pk_L_sameLists : List PK := [.data (.sl (.sl (.int .i64))), .data (.sl (.sl (.int .i64)))]
def rk_L_sameLists : List (Ty × Bool) := [(.bool, false)]
def h_L_sameLists : Hints := { loops := [(0, { items := [.slot 13 (.data (.int .i64) [])], kill := sgN 2 10 ++ (sgN 14 13) })] }
noncomputable def M_L_sameLists (x : ((List (List Int)) × (List (List Int)))) : (Option Bool) :=
  (cond ((((List.length x.1) : Nat) : Int) != (((List.length x.2) : Nat) : Int)) (some false) (loopO (fun (again0 : (Int → (Option Bool))) => (fun (s1 : Int) => (cond (decide (s1 < (((List.length x.1) : Nat) : Int))) (bindO (getI x.1 s1) (fun (a2 : (List Int)) => (bindO (getI x.2 s1) (fun (a3 : (List Int)) => (bindO (M_L_sameInts (a2, a3)) (fun (a4 : Bool) => (cond (not a4) (some false) (bindO (some (IntKind.wrap .i64 (s1 + (1 : Int)))) (fun (a5 : Int) => (again0 a5)))))))))) (some true)))) (0 : Int)))

noncomputable def c_L_sameLists : Con0 := ⟨pk_L_sameLists, rk_L_sameLists, M_L_sameLists⟩

set_option maxRecDepth 100000 in
theorem eq_L_sameLists (x : In pk_L_sameLists) : semF (mkE [(42, c_L_sameInts)]) h_L_sameLists (info Try.f47) pk_L_sameLists rk_L_sameLists x = M_L_sameLists x := (semFF_eq _ _ _ _ _ _).symm.trans (by kernel_rfl)

set_option maxRecDepth 100000 in
theorem m_L_sameLists : ConOK Try.prog 47 c_L_sameLists := fn_ok (tyOK _) (E := mkE [(42, c_L_sameInts)]) (consOK_cons m_L_sameInts (consOK_nil rfl)) Try.func47 (h := h_L_sameLists) (by kernel_rfl) eq_L_sameLists

/-- I_RunoffWinner -/
def pk_I_RunoffWinner : List PK := [.data (.int .i64), .data (.sl (.sl (.int .i64)))]
def rk_I_RunoffWinner : List (Ty × Bool) := [((.int .i64), false), (.bool, false)]
def h_I_RunoffWinner : Hints := { loops := [] }
noncomputable def M_I_RunoffWinner (x : (Int × (List (List Int)))) : (Option (Int × Bool)) :=
  (bindO (M_I_areRankings (x.1, x.2)) (fun (a0 : Bool) => (cond (not a0) (some ((0 : Int), false)) (bindO (M_I_rounds (x.1, x.2)) (fun (a1 : (List (List Int))) => (bindO (some (IntKind.wrap .i64 ((((List.length a1) : Nat) : Int) - (1 : Int)))) (fun (a2 : Int) => (bindO (getI a1 a2) (fun (a3 : (List Int)) => (bindO (M_slices_Max_sint_int a3) (fun (a4 : Int) => (bindO (M_slices_Index_sint_int (a3, a4)) (fun (a5 : Int) => (some (a5, true)))))))))))))))

noncomputable def c_I_RunoffWinner : Con0 := ⟨pk_I_RunoffWinner, rk_I_RunoffWinner, M_I_RunoffWinner⟩

set_option maxRecDepth 100000 in
theorem eq_I_RunoffWinner (x : In pk_I_RunoffWinner) : semF (mkE [(99, c_I_areRankings), (100, c_I_rounds), (104, c_slices_Max_sint_int), (103, c_slices_Index_sint_int)]) h_I_RunoffWinner (info Try.f48) pk_I_RunoffWinner rk_I_RunoffWinner x = M_I_RunoffWinner x := (semFF_eq _ _ _ _ _ _).symm.trans (by kernel_rfl)

set_option maxRecDepth 100000 in
theorem m_I_RunoffWinner : ConOK Try.prog 48 c_I_RunoffWinner := fn_ok (tyOK _) (E := mkE [(99, c_I_areRankings), (100, c_I_rounds), (104, c_slices_Max_sint_int), (103, c_slices_Index_sint_int)]) (consOK_cons m_I_areRankings (consOK_cons m_I_rounds (consOK_cons m_slices_Max_sint_int (consOK_cons m_slices_Index_sint_int (consOK_nil rfl))))) Try.func48 (h := h_I_RunoffWinner) (by kernel_rfl) eq_I_RunoffWinner

/-- S_DrawBordaScores -/
def pk_S_DrawBordaScores : List PK := [.data (.sl (.int .u8))]
def rk_S_DrawBordaScores : List (Ty × Bool) := [((.int .i64), false), ((.sl (.sl (.int .i64))), true)]
def h_S_DrawBordaScores : Hints := { loops := [] }
noncomputable def M_S_DrawBordaScores (x : (List Int)) : (Option (Int × (List (List Int)))) :=
  (bindO (M_S_DrawRunoffRounds x) (fun (a0 : (Int × (List (List Int)))) => (some (a0.1, a0.2))))

noncomputable def c_S_DrawBordaScores : Con0 := ⟨pk_S_DrawBordaScores, rk_S_DrawBordaScores, M_S_DrawBordaScores⟩

set_option maxRecDepth 100000 in
theorem eq_S_DrawBordaScores (x : In pk_S_DrawBordaScores) : semF (mkE [(44, c_S_DrawRunoffRounds)]) h_S_DrawBordaScores (info Try.f49) pk_S_DrawBordaScores rk_S_DrawBordaScores x = M_S_DrawBordaScores x := (semFF_eq _ _ _ _ _ _).symm.trans (by kernel_rfl)

set_option maxRecDepth 100000 in
theorem m_S_DrawBordaScores : ConOK Try.prog 49 c_S_DrawBordaScores := fn_ok (tyOK _) (E := mkE [(44, c_S_DrawRunoffRounds)]) (consOK_cons m_S_DrawRunoffRounds (consOK_nil rfl)) Try.func49 (h := h_S_DrawBordaScores) (by kernel_rfl) eq_S_DrawBordaScores

/-- I_BordaScores -/
def pk_I_BordaScores : List PK := [.data (.int .i64), .data (.sl (.sl (.int .i64)))]
def rk_I_BordaScores : List (Ty × Bool) := [((.sl (.int .i64)), true), (.bool, false)]
def h_I_BordaScores : Hints := { loops := [(0, { items := [.slot 19 (.data (.int .i64) []), .arr 6 (.int .i64) true], kill := sgN 1 5 ++ (sgN 7 10 ++ (sgN 20 23)) }), (2, { items := [.slot 25 (.data (.int .i64) []), .arr 6 (.int .i64) true], kill := sgN 1 5 ++ (sgN 7 10 ++ ([20, 21, 22] ++ (sgN 26 17))) })] }
noncomputable def M_I_BordaScores (x : (Int × (List (List Int)))) : (Option ((List Int) × Bool)) :=
  (bindO (M_I_areRankings (x.1, x.2)) (fun (a0 : Bool) => (cond (not a0) (some (([] : List Int), false)) (bindO (guardO (((decide ((0 : Int) ≤ x.1)) && (decide (x.1 ≤ x.1))) && (decide (x.1 ≤ ((lim : Nat) : Int))))) (fun (a1 : Unit) => (loopO (fun (again2 : ((Int × (List Int)) → (Option ((List Int) × Bool)))) => (fun (s3 : (Int × (List Int))) => (cond (decide (s3.1 < (((List.length x.2) : Nat) : Int))) (bindO (getI x.2 s3.1) (fun (a4 : (List Int)) => (loopO (fun (again5 : ((Int × (List Int)) → (Option ((List Int) × Bool)))) => (fun (s6 : (Int × (List Int))) => (cond (decide (s6.1 < (((List.length a4) : Nat) : Int))) (bindO (getI a4 s6.1) (fun (a7 : Int) => (bindO (getI s6.2 a7) (fun (a8 : Int) => (bindO (some (IntKind.wrap .i64 (x.1 - (1 : Int)))) (fun (a9 : Int) => (bindO (some (IntKind.wrap .i64 (a9 - s6.1))) (fun (a10 : Int) => (bindO (some (IntKind.wrap .i64 (a8 + a10))) (fun (a11 : Int) => (bindO (getI s6.2 a7) (fun (a12 : Int) => (bindO (some (List.set s6.2 (Int.toNat a7) a11)) (fun (a13 : (List Int)) => (bindO (some (IntKind.wrap .i64 (s6.1 + (1 : Int)))) (fun (a14 : Int) => (again5 (a14, a13)))))))))))))))))) (bindO (some (IntKind.wrap .i64 (s3.1 + (1 : Int)))) (fun (a15 : Int) => (again2 (a15, s6.2))))))) ((0 : Int), s3.2)))) (some (s3.2, true))))) ((0 : Int), (List.replicate (Int.toNat x.1) (0 : Int)))))))))

noncomputable def c_I_BordaScores : Con0 := ⟨pk_I_BordaScores, rk_I_BordaScores, M_I_BordaScores⟩

set_option maxRecDepth 100000 in
theorem eq_I_BordaScores (x : In pk_I_BordaScores) : semF (mkE [(99, c_I_areRankings)]) h_I_BordaScores (info Try.f50) pk_I_BordaScores rk_I_BordaScores x = M_I_BordaScores x := (semFF_eq _ _ _ _ _ _).symm.trans (by kernel_rfl)

set_option maxRecDepth 100000 in
theorem m_I_BordaScores : ConOK Try.prog 50 c_I_BordaScores := fn_ok (tyOK _) (E := mkE [(99, c_I_areRankings)]) (consOK_cons m_I_areRankings (consOK_nil rfl)) Try.func50 (h := h_I_BordaScores) (by kernel_rfl) eq_I_BordaScores

/-- S_BordaScores -/
def pk_S_BordaScores : List PK := [.data (.int .i64), .data (.sl (.sl (.int .i64)))]
def rk_S_BordaScores : List (Ty × Bool) := [((.sl (.int .i64)), true), (.bool, false)]
def h_S_BordaScores : Hints := { loops := [(0, { items := [.slot 19 (.data (.int .i64) []), .arr 6 (.int .i64) true], kill := sgN 1 5 ++ (sgN 7 10 ++ (sgN 20 23)) }), (2, { items := [.slot 25 (.data (.int .i64) []), .arr 6 (.int .i64) true], kill := sgN 1 5 ++ (sgN 7 10 ++ ([20, 21, 22] ++ (sgN 26 17))) })] }
noncomputable def M_S_BordaScores (x : (Int × (List (List Int)))) : (Option ((List Int) × Bool)) :=
  (bindO (M_S_tRanks (x.1, x.2)) (fun (a0 : Bool) => (cond (not a0) (some (([] : List Int), false)) (bindO (guardO (((decide ((0 : Int) ≤ x.1)) && (decide (x.1 ≤ x.1))) && (decide (x.1 ≤ ((lim : Nat) : Int))))) (fun (a1 : Unit) => (loopO (fun (again2 : ((Int × (List Int)) → (Option ((List Int) × Bool)))) => (fun (s3 : (Int × (List Int))) => (cond (decide (s3.1 < (((List.length x.2) : Nat) : Int))) (bindO (getI x.2 s3.1) (fun (a4 : (List Int)) => (loopO (fun (again5 : ((Int × (List Int)) → (Option ((List Int) × Bool)))) => (fun (s6 : (Int × (List Int))) => (cond (decide (s6.1 < (((List.length a4) : Nat) : Int))) (bindO (getI a4 s6.1) (fun (a7 : Int) => (bindO (getI s6.2 a7) (fun (a8 : Int) => (bindO (some (IntKind.wrap .i64 (x.1 - (1 : Int)))) (fun (a9 : Int) => (bindO (some (IntKind.wrap .i64 (a9 - s6.1))) (fun (a10 : Int) => (bindO (some (IntKind.wrap .i64 (a8 + a10))) (fun (a11 : Int) => (bindO (getI s6.2 a7) (fun (a12 : Int) => (bindO (some (List.set s6.2 (Int.toNat a7) a11)) (fun (a13 : (List Int)) => (bindO (some (IntKind.wrap .i64 (s6.1 + (1 : Int)))) (fun (a14 : Int) => (again5 (a14, a13)))))))))))))))))) (bindO (some (IntKind.wrap .i64 (s3.1 + (1 : Int)))) (fun (a15 : Int) => (again2 (a15, s6.2))))))) ((0 : Int), s3.2)))) (some (s3.2, true))))) ((0 : Int), (List.replicate (Int.toNat x.1) (0 : Int)))))))))

noncomputable def c_S_BordaScores : Con0 := ⟨pk_S_BordaScores, rk_S_BordaScores, M_S_BordaScores⟩

set_option maxRecDepth 100000 in
theorem eq_S_BordaScores (x : In pk_S_BordaScores) : semF (mkE [(101, c_S_tRanks)]) h_S_BordaScores (info Try.f51) pk_S_BordaScores rk_S_BordaScores x = M_S_BordaScores x := (semFF_eq _ _ _ _ _ _).symm.trans (by kernel_rfl)

set_option maxRecDepth 100000 in
theorem m_S_BordaScores : ConOK Try.prog 51 c_S_BordaScores := fn_ok (tyOK _) (E := mkE [(101, c_S_tRanks)]) (consOK_cons m_S_tRanks (consOK_nil rfl)) Try.func51 (h := h_S_BordaScores) (by kernel_rfl) eq_S_BordaScores

/-- L_FnRunoff -/
def pk_L_FnRunoff : List PK := [.data (.sl (.int .u8)), .data (.sl (.int .u8))]
def rk_L_FnRunoff : List (Ty × Bool) := [(.bool, false)]
def h_L_FnRunoff : Hints := { loops := [(0, { items := [.slot 11 (.data (.int .i64) []), .slot 62 (.data (.int .i64) [])], kill := [0, 2, 3, 4, 7, 8, 10] ++ (sgN 12 48 ++ (sgN 63 82)) }), (2, { items := [.slot 14 (.data (.int .i64) []), .slot 68 (.data (.int .i64) [])], kill := [0, 2, 3, 4, 7, 8, 10, 12, 13] ++ (sgN 15 45 ++ ([63, 64, 65] ++ (sgN 69 76))) }), (4, { items := [.slot 104 (.data (.int .i64) [])], kill := [0] ++ (sgN 2 4 ++ (sgN 7 10 ++ (sgN 18 84 ++ (sgN 105 40)))) })] }
noncomputable def M_L_FnRunoff (x : ((List Int) × (List Int))) : (Option Bool) :=
  (bindO (M_L_big (x.1, x.2)) (fun (a0 : Bool) => (cond a0 (some true) (bindO (M_S_DrawRunoffRounds x.1) (fun (a1 : (Int × (List (List Int)))) => (bindO (M_I_RunoffRounds (a1.1, a1.2)) (fun (a2 : ((List (List Int)) × Bool)) => (bindO (M_S_RunoffRounds (a1.1, a1.2)) (fun (a3 : ((List (List Int)) × Bool)) => (cond (not (a2.2 == a3.2)) (some false) (bindO (M_L_sameLists (a2.1, a3.1)) (fun (a4 : Bool) => (cond (not a4) (some false) (cond a2.2 (bindO (some (IntKind.wrap .i64 ((((List.length a1.2) : Nat) : Int) + (1 : Int)))) (fun (a5 : Int) => (loopO (fun (again6 : ((Int × Int) → (Option Bool))) => (fun (s7 : (Int × Int)) => (cond (decide (s7.2 < (((List.length a3.1) : Nat) : Int))) (bindO (getI a3.1 s7.2) (fun (a8 : (List Int)) => (loopO (fun (again9 : ((Int × Int) → (Option Bool))) => (fun (s10 : (Int × Int)) => (cond (decide (s10.2 < (((List.length a8) : Nat) : Int))) (bindO (getI a8 s10.2) (fun (a11 : Int) => (cond (decide (a11 > (0 : Int))) (bindO (some (IntKind.wrap .i64 (s10.1 + a11))) (fun (a12 : Int) => (bindO (some (IntKind.wrap .i64 (s10.2 + (1 : Int)))) (fun (a13 : Int) => (again9 (a12, a13)))))) (bindO (some (IntKind.wrap .i64 (s10.2 + (1 : Int)))) (fun (a14 : Int) => (again9 (s10.1, a14))))))) (cond (decide (s10.1 > s7.1)) (some false) (bindO (some (IntKind.wrap .i64 (s7.2 + (1 : Int)))) (fun (a15 : Int) => (again6 (s10.1, a15)))))))) ((0 : Int), (0 : Int))))) (bindO (M_I_RunoffWinner (a1.1, a1.2)) (fun (a16 : (Int × Bool)) => (cond (not a16.2) (some false) (cond (decide (a16.1 < (0 : Int))) (some false) (cond (decide (a16.1 ≥ a1.1)) (some false) (bindO (getI a3.1 (0 : Int)) (fun (a17 : (List Int)) => (loopO (fun (again18 : (Int → (Option Bool))) => (fun (s19 : Int) => (cond (decide (s19 < (((List.length a17) : Nat) : Int))) (bindO (getI a17 s19) (fun (a20 : Int) => (bindO (some (IntKind.wrap .i64 ((2 : Int) * a20))) (fun (a21 : Int) => (cond (decide (a21 > (((List.length a1.2) : Nat) : Int))) (cond (a16.1 != s19) (some false) (bindO (some (IntKind.wrap .i64 (s19 + (1 : Int)))) (fun (a22 : Int) => (again18 a22)))) (bindO (some (IntKind.wrap .i64 (s19 + (1 : Int)))) (fun (a23 : Int) => (again18 a23)))))))) (bindO (M_S_DrawBordaScores x.2) (fun (a24 : (Int × (List (List Int)))) => (bindO (M_I_BordaScores (a24.1, a24.2)) (fun (a25 : ((List Int) × Bool)) => (bindO (M_S_BordaScores (a24.1, a24.2)) (fun (a26 : ((List Int) × Bool)) => (cond (a25.2 == a26.2) (bindO (M_L_sameInts (a25.1, a26.1)) (fun (a27 : Bool) => (some a27))) (some false))))))))))) (0 : Int)))))))))))) (a5, (0 : Int))))) (bindO (M_S_DrawBordaScores x.2) (fun (a28 : (Int × (List (List Int)))) => (bindO (M_I_BordaScores (a28.1, a28.2)) (fun (a29 : ((List Int) × Bool)) => (bindO (M_S_BordaScores (a28.1, a28.2)) (fun (a30 : ((List Int) × Bool)) => (cond (a29.2 == a30.2) (bindO (M_L_sameInts (a29.1, a30.1)) (fun (a31 : Bool) => (some a31))) (some false))))))))))))))))))))))

noncomputable def c_L_FnRunoff : Con0 := ⟨pk_L_FnRunoff, rk_L_FnRunoff, M_L_FnRunoff⟩

set_option maxRecDepth 100000 in
theorem eq_L_FnRunoff (x : In pk_L_FnRunoff) : semF (mkE [(38, c_L_big), (44, c_S_DrawRunoffRounds), (45, c_I_RunoffRounds), (46, c_S_RunoffRounds), (47, c_L_sameLists), (48, c_I_RunoffWinner), (49, c_S_DrawBordaScores), (50, c_I_BordaScores), (51, c_S_BordaScores), (42, c_L_sameInts)]) h_L_FnRunoff (info Try.f7) pk_L_FnRunoff rk_L_FnRunoff x = M_L_FnRunoff x := (semFF_eq _ _ _ _ _ _).symm.trans (by kernel_rfl)

set_option maxRecDepth 100000 in
theorem m_L_FnRunoff : ConOK Try.prog 7 c_L_FnRunoff := fn_ok (tyOK _) (E := mkE [(38, c_L_big), (44, c_S_DrawRunoffRounds), (45, c_I_RunoffRounds), (46, c_S_RunoffRounds), (47, c_L_sameLists), (48, c_I_RunoffWinner), (49, c_S_DrawBordaScores), (50, c_I_BordaScores), (51, c_S_BordaScores), (42, c_L_sameInts)]) (consOK_cons m_L_big (consOK_cons m_S_DrawRunoffRounds (consOK_cons m_I_RunoffRounds (consOK_cons m_S_RunoffRounds (consOK_cons m_L_sameLists (consOK_cons m_I_RunoffWinner (consOK_cons m_S_DrawBordaScores (consOK_cons m_I_BordaScores (consOK_cons m_S_BordaScores (consOK_cons m_L_sameInts (consOK_nil rfl))))))))))) Try.func7 (h := h_L_FnRunoff) (by kernel_rfl) eq_L_FnRunoff

/-- L_qInts -/
noncomputable def M_L_qInts (x : ((List Int) × (List Int))) : (Option Bool) :=
  (cond ((((List.length x.1) : Nat) : Int) != (((List.length x.2) : Nat) : Int)) (some false) (loopO (fun (again0 : (Int → (Option Bool))) => (fun (s1 : Int) => (cond (decide (s1 < (((List.length x.1) : Nat) : Int))) (bindO (getI x.1 s1) (fun (a2 : Int) => (bindO (getI x.2 s1) (fun (a3 : Int) => (cond (a2 != a3) (some false) (bindO (some (IntKind.wrap .i64 (s1 + (1 : Int)))) (fun (a4 : Int) => (again0 a4)))))))) (some true)))) (0 : Int)))

end Go.Proofs.Ytgjneigkkgaaiaa.Vd
