/- The functions of the law as plain functions on data: part 2. No conditions. -/
import Derived.Test.YtjmpdejigkjaoaaGreatVstMod
set_option linter.unusedVariables false
namespace Go.Proofs.YtjmpdejigkjaoaaGreat.Vd
/-- I_Group_verifyPoly -/
def pk_I_Group_verifyPoly : List PK := [.data (.cons (.int .i64) (.cons (.int .i64) (.one (.int .i64)))), .data (.cons (.int .i64) (.one (.sl (.int .i64)))), .data (.int .i64), .data (.sl (.cons (.int .i64) (.one (.int .i64)))), .data (.sl (.cons (.int .i64) (.one (.int .i64)))), .data (.cons (.sl (.int .i64)) (.cons (.sl (.int .i64)) (.cons (.sl (.int .i64)) (.one (.cons (.sl (.int .i64)) (.cons (.sl (.int .i64)) (.one (.sl (.int .i64)))))))))]
def rk_I_Group_verifyPoly : List (Ty × Bool) := [(.bool, false)]
def h_I_Group_verifyPoly : Hints := { loops := [(0, { items := [.slot 32 (.own (.int .i64) true), .slot 149 (.data (.int .i64) []), .cell 33 0 (.data .bool [])], kill := [0, 1, 5, 8, 9, 10, 12, 15, 16, 19, 20, 21, 23, 35, 36, 37, 38, 39, 40, 41, 42, 43, 44, 45, 46, 47, 48, 49, 50, 51, 52, 53, 54, 55, 56, 57, 58, 59, 60, 61, 62, 63, 64, 65, 66, 67, 68, 69, 70, 71, 72, 73, 74, 75, 76, 77, 78, 79, 80, 81, 82, 83, 84, 85, 86, 87, 88, 89, 90, 91, 92, 93, 94, 95, 96, 97, 98, 99, 100, 101, 102, 103, 104, 105, 106, 107, 108, 109, 110, 111, 112, 113, 114, 115, 116, 117, 118, 119, 120, 121, 122, 123, 124, 125, 126, 127, 128, 129, 130, 131, 132, 133, 134, 135, 136, 137, 138, 139, 140, 141, 142, 143, 144, 145, 146, 147, 150, 151, 152, 153, 154, 155, 156, 157, 158, 159, 160, 161, 162, 163, 164, 165, 166, 167, 168, 169, 170, 171, 172, 173, 174, 175, 176, 177, 178, 179, 180, 181, 182, 183, 184, 185, 186, 187, 188, 189, 190, 191, 192, 193, 194, 195, 196, 197, 198, 199, 200, 201, 202, 203, 204, 205, 206, 207, 208, 209, 210, 211, 212, 213, 214, 215, 216, 217, 218, 219, 220, 221, 222, 223, 224, 225, 226, 227, 228, 229, 230, 231, 232, 233, 234, 235, 236, 237, 238, 239, 240, 241, 242, 243, 244, 245, 246, 247, 248, 249, 250, 251, 252, 253, 254, 255, 256, 257, 258, 259, 260, 261, 262, 263, 264, 265, 266, 267, 268, 269, 270, 271, 272, 273, 274, 275, 276, 277, 278, 279, 280, 281, 282, 283, 284, 285, 286, 287, 288, 289, 290, 291, 292, 293, 294, 295, 296, 297, 298, 299, 300, 301, 302, 303, 304, 305, 306, 307, 308, 309, 310, 311, 312, 313, 314, 315, 316, 317, 318, 319, 320, 321, 322, 323, 324, 325, 326, 327, 328, 329, 330, 331, 332, 333, 334, 335, 336, 337, 338, 339, 340, 341, 342, 343, 344, 345, 346, 347, 348, 349, 350, 351] })] }
noncomputable def M_I_Group_verifyPoly (x : ((Int × (Int × Int)) × ((Int × (List Int)) × (Int × ((List (Int × Int)) × ((List (Int × Int)) × ((List Int) × ((List Int) × ((List Int) × ((List Int) × ((List Int) × (List Int)))))))))))) : (Option Bool) :=
  (cond ((((List.length x.2.2.2.2.1) : Nat) : Int) != (((List.length x.2.2.2.1) : Nat) : Int)) (some false) (bindO (M_I_Group_isPolyForm ((x.1.1, (x.1.2.1, x.1.2.2)), ((x.2.2.2.2.2.1, (x.2.2.2.2.2.2.1, (x.2.2.2.2.2.2.2.1, (x.2.2.2.2.2.2.2.2.1, (x.2.2.2.2.2.2.2.2.2.1, x.2.2.2.2.2.2.2.2.2.2))))), (((List.length x.2.2.2.1) : Nat) : Int)))) (fun (a0 : Bool) => (cond (not a0) (some false) (bindO (M_I_mixList (x.2.2.1, (x.2.2.2.1, (x.2.2.2.2.1, x.2.2.2.2.2.1)))) (fun (a1 : (List Int)) => (bindO (M_I_Group_challenge ((x.1.1, (x.1.2.1, x.1.2.2)), ((bytesOf [109, 105, 120, 32, 120]), a1))) (fun (a2 : (Int × Bool)) => (bindO (M_slices_Clone_sint_int x.2.2.2.2.2.1) (fun (a3 : (List Int)) => (bindO (guardO (lenOk ((List.length a3) + (List.length x.2.2.2.2.2.2.1)))) (fun (a4 : Unit) => (bindO (some (a3 ++ x.2.2.2.2.2.2.1)) (fun (a5 : (List Int)) => (bindO (M_I_mixList (x.2.2.1, (x.2.2.2.1, (x.2.2.2.2.1, a5)))) (fun (a6 : (List Int)) => (bindO (M_I_Group_points ((x.1.1, (x.1.2.1, x.1.2.2)), a6)) (fun (a7 : (Int × (Int × Bool))) => (bindO (M_slices_Concat_sint_int (a6 :: (x.2.2.2.2.2.2.2.1 :: (x.2.2.2.2.2.2.2.2.1 :: ([] : List (List Int)))))) (fun (a8 : (List Int)) => (bindO (M_I_Group_challenge ((x.1.1, (x.1.2.1, x.1.2.2)), ((bytesOf [109, 105, 120, 32, 101, 110, 100]), a8))) (fun (a9 : (Int × Bool)) => (cond (not a2.2) (some false) (cond (not a7.2.2) (some false) (cond (not a9.2) (some false) (bindO (getI x.2.2.2.2.2.2.2.2.2.1 (0 : Int)) (fun (a10 : Int) => (cond (a10 != a9.1) (some false) (bindO (M_I_taker_take (x.2.2.2.2.2.2.2.2.2.2, (((List.length x.2.2.2.1) : Nat) : Int))) (fun (a11 : ((List Int) × (List Int))) => (bindO (M_I_taker_take (a11.2, (((List.length x.2.2.2.1) : Nat) : Int))) (fun (a12 : ((List Int) × (List Int))) => (bindO (M_I_taker_take (a12.2, (((List.length x.2.2.2.1) : Nat) : Int))) (fun (a13 : ((List Int) × (List Int))) => (bindO (M_I_taker_one a13.2) (fun (a14 : (Int × (List Int))) => (bindO (M_I_taker_take (a14.2, (((List.length x.2.2.2.1) : Nat) : Int))) (fun (a15 : ((List Int) × (List Int))) => (bindO (M_I_taker_take (a15.2, (((List.length x.2.2.2.1) : Nat) : Int))) (fun (a16 : ((List Int) × (List Int))) => (bindO (M_I_taker_one a16.2) (fun (a17 : (Int × (List Int))) => (bindO (guardO (lenOk ((List.length (x.1.2.2 :: ([] : List Int))) + (List.length x.2.2.2.2.2.2.2.1)))) (fun (a18 : Unit) => (bindO (some ((x.1.2.2 :: ([] : List Int)) ++ x.2.2.2.2.2.2.2.1)) (fun (a19 : (List Int)) => (loopO (fun (again20 : (((List Int) × (Int × Bool)) → (Option Bool))) => (fun (s21 : ((List Int) × (Int × Bool))) => (cond (decide (s21.2.1 < (((List.length x.2.2.2.1) : Nat) : Int))) (bindO (some (IntKind.wrap .i64 (s21.2.1 + (1 : Int)))) (fun (a22 : Int) => (bindO (M_I_power (a2.1, (a22, x.1.2.1))) (fun (a23 : Int) => (bindO (guardO (lenOk ((List.length s21.1) + (List.length (a23 :: ([] : List Int)))))) (fun (a24 : Unit) => (bindO (some (s21.1 ++ (a23 :: ([] : List Int)))) (fun (a25 : (List Int)) => (bindO (getI x.2.2.2.2.2.2.2.2.1 s21.2.1) (fun (a26 : Int) => (bindO (getI x.2.2.2.2.2.1 s21.2.1) (fun (a27 : Int) => (bindO (M_I_Group_pow ((x.1.1, (x.1.2.1, x.1.2.2)), (a27, a7.1))) (fun (a28 : Int) => (bindO (getI x.2.2.2.2.2.2.1 s21.2.1) (fun (a29 : Int) => (bindO (some (IntKind.wrap .i64 ((0 : Int) - a7.2.1))) (fun (a30 : Int) => (bindO (M_I_Group_pow ((x.1.1, (x.1.2.1, x.1.2.2)), (x.1.2.2, a30))) (fun (a31 : Int) => (bindO (M_I_Group_mul ((x.1.1, (x.1.2.1, x.1.2.2)), (a28 :: (a29 :: (a31 :: ([] : List Int)))))) (fun (a32 : Int) => (bindO (getI a11.1 s21.2.1) (fun (a33 : Int) => (bindO (getI a12.1 s21.2.1) (fun (a34 : Int) => (bindO (M_I_Group_commit ((x.1.1, (x.1.2.1, x.1.2.2)), ((x.2.1.1, x.2.1.2), (a33, a34)))) (fun (a35 : Int) => (bindO (M_I_Group_verifyPoly_1 (a26, (a32, (a35, (s21.2.2, ((x.1.1, (x.1.2.1, x.1.2.2)), a9.1)))))) (fun (a36 : Bool) => (bindO (some (IntKind.wrap .i64 ((((List.length x.2.2.2.1) : Nat) : Int) + s21.2.1))) (fun (a37 : Int) => (bindO (getI x.2.2.2.2.2.2.2.2.1 a37) (fun (a38 : Int) => (bindO (getI x.2.2.2.2.2.2.2.1 s21.2.1) (fun (a39 : Int) => (bindO (getI a19 s21.2.1) (fun (a40 : Int) => (bindO (getI a11.1 s21.2.1) (fun (a41 : Int) => (bindO (M_I_Group_pow ((x.1.1, (x.1.2.1, x.1.2.2)), (a40, a41))) (fun (a42 : Int) => (bindO (getI a13.1 s21.2.1) (fun (a43 : Int) => (bindO (M_I_Group_pow ((x.1.1, (x.1.2.1, x.1.2.2)), (x.2.1.1, a43))) (fun (a44 : Int) => (bindO (M_I_Group_mul ((x.1.1, (x.1.2.1, x.1.2.2)), (a42 :: (a44 :: ([] : List Int))))) (fun (a45 : Int) => (bindO (M_I_Group_verifyPoly_1 (a38, (a39, (a45, (a36, ((x.1.1, (x.1.2.1, x.1.2.2)), a9.1)))))) (fun (a46 : Bool) => (bindO (some (IntKind.wrap .i64 ((2 : Int) * (((List.length x.2.2.2.1) : Nat) : Int)))) (fun (a47 : Int) => (bindO (some (IntKind.wrap .i64 (a47 + (1 : Int)))) (fun (a48 : Int) => (bindO (some (IntKind.wrap .i64 (a48 + s21.2.1))) (fun (a49 : Int) => (bindO (getI x.2.2.2.2.2.2.2.2.1 a49) (fun (a50 : Int) => (bindO (getI x.2.2.2.2.2.2.1 s21.2.1) (fun (a51 : Int) => (bindO (getI a15.1 s21.2.1) (fun (a52 : Int) => (bindO (getI a16.1 s21.2.1) (fun (a53 : Int) => (bindO (M_I_Group_commit ((x.1.1, (x.1.2.1, x.1.2.2)), ((x.2.1.1, x.2.1.2), (a52, a53)))) (fun (a54 : Int) => (bindO (M_I_Group_verifyPoly_1 (a50, (a51, (a54, (a46, ((x.1.1, (x.1.2.1, x.1.2.2)), a9.1)))))) (fun (a55 : Bool) => (bindO (some (IntKind.wrap .i64 (s21.2.1 + (1 : Int)))) (fun (a56 : Int) => (again20 (a25, (a56, a55))))))))))))))))))))))))))))))))))))))))))))))))))))))))))))))))))))))))) (bindO (some (IntKind.wrap .i64 ((2 : Int) * (((List.length x.2.2.2.1) : Nat) : Int)))) (fun (a57 : Int) => (bindO (getI x.2.2.2.2.2.2.2.2.1 a57) (fun (a58 : Int) => (bindO (some (IntKind.wrap .i64 ((((List.length x.2.2.2.1) : Nat) : Int) - (1 : Int)))) (fun (a59 : Int) => (bindO (getI x.2.2.2.2.2.2.2.1 a59) (fun (a60 : Int) => (bindO (M_I_targetProduct (x.1.2.1, ((((List.length x.2.2.2.1) : Nat) : Int), (a2.1, (a7.1, a7.2.1))))) (fun (a61 : Int) => (bindO (M_I_Group_pow ((x.1.1, (x.1.2.1, x.1.2.2)), (x.1.2.2, a61))) (fun (a62 : Int) => (bindO (M_I_Group_over ((x.1.1, (x.1.2.1, x.1.2.2)), (a60, a62))) (fun (a63 : Int) => (bindO (M_I_Group_pow ((x.1.1, (x.1.2.1, x.1.2.2)), (x.2.1.1, a14.1))) (fun (a64 : Int) => (bindO (M_I_Group_verifyPoly_1 (a58, (a63, (a64, (s21.2.2, ((x.1.1, (x.1.2.1, x.1.2.2)), a9.1)))))) (fun (a65 : Bool) => (bindO (M_I_sides x.2.2.2.1) (fun (a66 : ((List Int) × (List Int))) => (bindO (M_I_sides x.2.2.2.2.1) (fun (a67 : ((List Int) × (List Int))) => (bindO (some (IntKind.wrap .i64 ((3 : Int) * (((List.length x.2.2.2.1) : Nat) : Int)))) (fun (a68 : Int) => (bindO (some (IntKind.wrap .i64 (a68 + (1 : Int)))) (fun (a69 : Int) => (bindO (getI x.2.2.2.2.2.2.2.2.1 a69) (fun (a70 : Int) => (bindO (M_I_Group_powers ((x.1.1, (x.1.2.1, x.1.2.2)), (a66.1, s21.1))) (fun (a71 : Int) => (bindO (some (IntKind.wrap .i64 ((0 : Int) - a17.1))) (fun (a72 : Int) => (bindO (M_I_Group_pow ((x.1.1, (x.1.2.1, x.1.2.2)), (x.1.2.2, a72))) (fun (a73 : Int) => (bindO (M_I_Group_powers ((x.1.1, (x.1.2.1, x.1.2.2)), (a67.1, a15.1))) (fun (a74 : Int) => (bindO (M_I_Group_mul ((x.1.1, (x.1.2.1, x.1.2.2)), (a73 :: (a74 :: ([] : List Int))))) (fun (a75 : Int) => (bindO (M_I_Group_verifyPoly_1 (a70, (a71, (a75, (a65, ((x.1.1, (x.1.2.1, x.1.2.2)), a9.1)))))) (fun (a76 : Bool) => (bindO (some (IntKind.wrap .i64 ((3 : Int) * (((List.length x.2.2.2.1) : Nat) : Int)))) (fun (a77 : Int) => (bindO (some (IntKind.wrap .i64 (a77 + (2 : Int)))) (fun (a78 : Int) => (bindO (getI x.2.2.2.2.2.2.2.2.1 a78) (fun (a79 : Int) => (bindO (M_I_Group_powers ((x.1.1, (x.1.2.1, x.1.2.2)), (a66.2, s21.1))) (fun (a80 : Int) => (bindO (some (IntKind.wrap .i64 ((0 : Int) - a17.1))) (fun (a81 : Int) => (bindO (M_I_Group_pow ((x.1.1, (x.1.2.1, x.1.2.2)), (x.2.2.1, a81))) (fun (a82 : Int) => (bindO (M_I_Group_powers ((x.1.1, (x.1.2.1, x.1.2.2)), (a67.2, a15.1))) (fun (a83 : Int) => (bindO (M_I_Group_mul ((x.1.1, (x.1.2.1, x.1.2.2)), (a82 :: (a83 :: ([] : List Int))))) (fun (a84 : Int) => (bindO (M_I_Group_verifyPoly_1 (a79, (a80, (a84, (a76, ((x.1.1, (x.1.2.1, x.1.2.2)), a9.1)))))) (fun (a85 : Bool) => (some a85)))))))))))))))))))))))))))))))))))))))))))))))))))))))))))))) (([] : List Int), ((0 : Int), true)))))))))))))))))))))))))))))))))))))))))))))))))

noncomputable def c_I_Group_verifyPoly : Con0 := ⟨pk_I_Group_verifyPoly, rk_I_Group_verifyPoly, M_I_Group_verifyPoly⟩

set_option maxRecDepth 100000 in
theorem eq_I_Group_verifyPoly (x : In pk_I_Group_verifyPoly) : semF (mkE [(131, c_I_Group_isPolyForm), (120, c_I_mixList), (122, c_I_Group_challenge), (132, c_slices_Clone_sint_int), (133, c_I_Group_points), (123, c_slices_Concat_sint_int), (134, c_I_taker_take), (135, c_I_taker_one), (137, c_I_power), (128, c_I_Group_pow), (127, c_I_Group_mul), (138, c_I_Group_commit), (139, c_I_targetProduct), (129, c_I_Group_over), (125, c_I_sides), (130, c_I_Group_powers), (136, c_I_Group_verifyPoly_1)]) h_I_Group_verifyPoly (info Tryz.f89) pk_I_Group_verifyPoly rk_I_Group_verifyPoly x = M_I_Group_verifyPoly x := (semFF_eq _ _ _ _ _ _).symm.trans (by kernel_rfl)

set_option maxRecDepth 100000 in
theorem m_I_Group_verifyPoly : ConOK Tryz.prog 89 c_I_Group_verifyPoly := fn_ok (tyOK _) (E := mkE [(131, c_I_Group_isPolyForm), (120, c_I_mixList), (122, c_I_Group_challenge), (132, c_slices_Clone_sint_int), (133, c_I_Group_points), (123, c_slices_Concat_sint_int), (134, c_I_taker_take), (135, c_I_taker_one), (137, c_I_power), (128, c_I_Group_pow), (127, c_I_Group_mul), (138, c_I_Group_commit), (139, c_I_targetProduct), (129, c_I_Group_over), (125, c_I_sides), (130, c_I_Group_powers), (136, c_I_Group_verifyPoly_1)]) (consOK_cons m_I_Group_isPolyForm (consOK_cons m_I_mixList (consOK_cons m_I_Group_challenge (consOK_cons m_slices_Clone_sint_int (consOK_cons m_I_Group_points (consOK_cons m_slices_Concat_sint_int (consOK_cons m_I_taker_take (consOK_cons m_I_taker_one (consOK_cons m_I_power (consOK_cons m_I_Group_pow (consOK_cons m_I_Group_mul (consOK_cons m_I_Group_commit (consOK_cons m_I_targetProduct (consOK_cons m_I_Group_over (consOK_cons m_I_sides (consOK_cons m_I_Group_powers (consOK_cons m_I_Group_verifyPoly_1 (consOK_nil rfl)))))))))))))))))) Tryz.func89 (h := h_I_Group_verifyPoly) (by kernel_rfl) eq_I_Group_verifyPoly

/-- I_VerifyPoly -/
def pk_I_VerifyPoly : List PK := [.data (.cons (.int .i64) (.cons (.int .i64) (.one (.int .i64)))), .data (.int .i64), .data (.sl (.cons (.int .i64) (.one (.int .i64)))), .data (.sl (.cons (.int .i64) (.one (.int .i64)))), .data (.cons (.sl (.int .i64)) (.cons (.sl (.int .i64)) (.cons (.sl (.int .i64)) (.one (.cons (.sl (.int .i64)) (.cons (.sl (.int .i64)) (.one (.sl (.int .i64)))))))))]
def rk_I_VerifyPoly : List (Ty × Bool) := [(.bool, false), (.bool, false)]
def h_I_VerifyPoly : Hints := { loops := [] }
noncomputable def M_I_VerifyPoly (x : ((Int × (Int × Int)) × (Int × ((List (Int × Int)) × ((List (Int × Int)) × ((List Int) × ((List Int) × ((List Int) × ((List Int) × ((List Int) × (List Int))))))))))) : (Option (Bool × Bool)) :=
  (bindO (M_I_polyBases ((x.1.1, (x.1.2.1, x.1.2.2)), (x.2.1, x.2.2.1))) (fun (a0 : ((Int × (List Int)) × Bool)) => (cond (not a0.2) (some (false, false)) (bindO (M_I_Group_areMixed ((x.1.1, (x.1.2.1, x.1.2.2)), x.2.2.2.1)) (fun (a1 : Bool) => (cond (not a1) (some (false, false)) (bindO (M_I_Group_verifyPoly ((x.1.1, (x.1.2.1, x.1.2.2)), ((a0.1.1, a0.1.2), (x.2.1, (x.2.2.1, (x.2.2.2.1, (x.2.2.2.2.1, (x.2.2.2.2.2.1, (x.2.2.2.2.2.2.1, (x.2.2.2.2.2.2.2.1, (x.2.2.2.2.2.2.2.2.1, x.2.2.2.2.2.2.2.2.2))))))))))) (fun (a2 : Bool) => (some (a2, true))))))))))

noncomputable def c_I_VerifyPoly : Con0 := ⟨pk_I_VerifyPoly, rk_I_VerifyPoly, M_I_VerifyPoly⟩

set_option maxRecDepth 100000 in
theorem eq_I_VerifyPoly (x : In pk_I_VerifyPoly) : semF (mkE [(45, c_I_polyBases), (52, c_I_Group_areMixed), (89, c_I_Group_verifyPoly)]) h_I_VerifyPoly (info Tryz.f55) pk_I_VerifyPoly rk_I_VerifyPoly x = M_I_VerifyPoly x := (semFF_eq _ _ _ _ _ _).symm.trans (by kernel_rfl)

set_option maxRecDepth 100000 in
theorem m_I_VerifyPoly : ConOK Tryz.prog 55 c_I_VerifyPoly := fn_ok (tyOK _) (E := mkE [(45, c_I_polyBases), (52, c_I_Group_areMixed), (89, c_I_Group_verifyPoly)]) (consOK_cons m_I_polyBases (consOK_cons m_I_Group_areMixed (consOK_cons m_I_Group_verifyPoly (consOK_nil rfl)))) Tryz.func55 (h := h_I_VerifyPoly) (by kernel_rfl) eq_I_VerifyPoly

/-- I_MatrixProof_isEmpty -/
def pk_I_MatrixProof_isEmpty : List PK := [.data (.cons (.sl (.int .i64)) (.cons (.sl (.int .i64)) (.one (.cons (.sl (.int .i64)) (.cons (.sl (.int .i64)) (.one (.sl (.int .i64))))))))]
def rk_I_MatrixProof_isEmpty : List (Ty × Bool) := [(.bool, false)]
def h_I_MatrixProof_isEmpty : Hints := { loops := [] }
noncomputable def M_I_MatrixProof_isEmpty (x : ((List Int) × ((List Int) × ((List Int) × ((List Int) × (List Int)))))) : (Option Bool) :=
  (cond ((((List.length x.1) : Nat) : Int) == (0 : Int)) (cond ((((List.length x.2.1) : Nat) : Int) == (0 : Int)) (bindO (M_I_Proof_isEmpty (x.2.2.1, (x.2.2.2.1, x.2.2.2.2))) (fun (a0 : Bool) => (some a0))) (some false)) (some false))

noncomputable def c_I_MatrixProof_isEmpty : Con0 := ⟨pk_I_MatrixProof_isEmpty, rk_I_MatrixProof_isEmpty, M_I_MatrixProof_isEmpty⟩

set_option maxRecDepth 100000 in
theorem eq_I_MatrixProof_isEmpty (x : In pk_I_MatrixProof_isEmpty) : semF (mkE [(88, c_I_Proof_isEmpty)]) h_I_MatrixProof_isEmpty (info Tryz.f56) pk_I_MatrixProof_isEmpty rk_I_MatrixProof_isEmpty x = M_I_MatrixProof_isEmpty x := (semFF_eq _ _ _ _ _ _).symm.trans (by kernel_rfl)

set_option maxRecDepth 100000 in
theorem m_I_MatrixProof_isEmpty : ConOK Tryz.prog 56 c_I_MatrixProof_isEmpty := fn_ok (tyOK _) (E := mkE [(88, c_I_Proof_isEmpty)]) (consOK_cons m_I_Proof_isEmpty (consOK_nil rfl)) Tryz.func56 (h := h_I_MatrixProof_isEmpty) (by kernel_rfl) eq_I_MatrixProof_isEmpty

/-- I_VerifyStage -/
def pk_I_VerifyStage : List PK := [.data (.cons (.int .i64) (.cons (.int .i64) (.one (.int .i64)))), .data (.int .i64), .data (.sl (.cons (.int .i64) (.one (.int .i64)))), .data (.cons (.int .i64) (.cons (.sl (.cons (.int .i64) (.one (.int .i64)))) (.cons (.cons (.sl (.int .i64)) (.cons (.sl (.int .i64)) (.one (.cons (.sl (.int .i64)) (.cons (.sl (.int .i64)) (.one (.sl (.int .i64)))))))) (.one (.cons (.sl (.int .i64)) (.cons (.sl (.int .i64)) (.cons (.sl (.int .i64)) (.one (.cons (.sl (.int .i64)) (.cons (.sl (.int .i64)) (.one (.sl (.int .i64)))))))))))))]
def rk_I_VerifyStage : List (Ty × Bool) := [(.bool, false), (.bool, false)]
def h_I_VerifyStage : Hints := { loops := [] }
noncomputable def M_I_VerifyStage (x : ((Int × (Int × Int)) × (Int × ((List (Int × Int)) × (Int × ((List (Int × Int)) × (((List Int) × ((List Int) × ((List Int) × ((List Int) × (List Int))))) × ((List Int) × ((List Int) × ((List Int) × ((List Int) × ((List Int) × (List Int))))))))))))) : (Option (Bool × Bool)) :=
  (bindO (M_I_polyBases ((x.1.1, (x.1.2.1, x.1.2.2)), (x.2.1, x.2.2.1))) (fun (a0 : ((Int × (List Int)) × Bool)) => (cond (not a0.2) (some (false, false)) (bindO (M_I_Group_areMixed ((x.1.1, (x.1.2.1, x.1.2.2)), x.2.2.2.2.1)) (fun (a1 : Bool) => (cond (not a1) (some (false, true)) (cond (x.2.2.2.1 == (1 : Int)) (bindO (M_I_VerifyMatrix ((x.1.1, (x.1.2.1, x.1.2.2)), (x.2.1, (x.2.2.1, (x.2.2.2.2.1, (x.2.2.2.2.2.1.1, (x.2.2.2.2.2.1.2.1, (x.2.2.2.2.2.1.2.2.1, (x.2.2.2.2.2.1.2.2.2.1, x.2.2.2.2.2.1.2.2.2.2))))))))) (fun (a2 : (Bool × Bool)) => (cond a2.2 (cond a2.1 (bindO (M_I_PolyProof_isEmpty (x.2.2.2.2.2.2.1, (x.2.2.2.2.2.2.2.1, (x.2.2.2.2.2.2.2.2.1, (x.2.2.2.2.2.2.2.2.2.1, (x.2.2.2.2.2.2.2.2.2.2.1, x.2.2.2.2.2.2.2.2.2.2.2)))))) (fun (a3 : Bool) => (some (a3, true)))) (some (false, true))) (some (false, true))))) (cond (x.2.2.2.1 == (2 : Int)) (bindO (M_I_VerifyPoly ((x.1.1, (x.1.2.1, x.1.2.2)), (x.2.1, (x.2.2.1, (x.2.2.2.2.1, (x.2.2.2.2.2.2.1, (x.2.2.2.2.2.2.2.1, (x.2.2.2.2.2.2.2.2.1, (x.2.2.2.2.2.2.2.2.2.1, (x.2.2.2.2.2.2.2.2.2.2.1, x.2.2.2.2.2.2.2.2.2.2.2)))))))))) (fun (a4 : (Bool × Bool)) => (cond a4.2 (cond a4.1 (bindO (M_I_MatrixProof_isEmpty (x.2.2.2.2.2.1.1, (x.2.2.2.2.2.1.2.1, (x.2.2.2.2.2.1.2.2.1, (x.2.2.2.2.2.1.2.2.2.1, x.2.2.2.2.2.1.2.2.2.2))))) (fun (a5 : Bool) => (some (a5, true)))) (some (false, true))) (some (false, true))))) (some (false, true))))))))))

noncomputable def c_I_VerifyStage : Con0 := ⟨pk_I_VerifyStage, rk_I_VerifyStage, M_I_VerifyStage⟩

set_option maxRecDepth 100000 in
theorem eq_I_VerifyStage (x : In pk_I_VerifyStage) : semF (mkE [(45, c_I_polyBases), (52, c_I_Group_areMixed), (53, c_I_VerifyMatrix), (54, c_I_PolyProof_isEmpty), (55, c_I_VerifyPoly), (56, c_I_MatrixProof_isEmpty)]) h_I_VerifyStage (info Tryz.f26) pk_I_VerifyStage rk_I_VerifyStage x = M_I_VerifyStage x := (semFF_eq _ _ _ _ _ _).symm.trans (by kernel_rfl)

set_option maxRecDepth 100000 in
theorem m_I_VerifyStage : ConOK Tryz.prog 26 c_I_VerifyStage := fn_ok (tyOK _) (E := mkE [(45, c_I_polyBases), (52, c_I_Group_areMixed), (53, c_I_VerifyMatrix), (54, c_I_PolyProof_isEmpty), (55, c_I_VerifyPoly), (56, c_I_MatrixProof_isEmpty)]) (consOK_cons m_I_polyBases (consOK_cons m_I_Group_areMixed (consOK_cons m_I_VerifyMatrix (consOK_cons m_I_PolyProof_isEmpty (consOK_cons m_I_VerifyPoly (consOK_cons m_I_MatrixProof_isEmpty (consOK_nil rfl))))))) Tryz.func26 (h := h_I_VerifyStage) (by kernel_rfl) eq_I_VerifyStage

/-- L_eqCipher -/
def pk_L_eqCipher : List PK := [.data (.cons (.int .i64) (.one (.int .i64))), .data (.cons (.int .i64) (.one (.int .i64)))]
def rk_L_eqCipher : List (Ty × Bool) := [(.bool, false)]
def h_L_eqCipher : Hints := { loops := [] }
noncomputable def M_L_eqCipher (x : ((Int × Int) × (Int × Int))) : (Option Bool) :=
  (cond (x.1.1 != x.2.1) (some false) (cond (x.1.2 != x.2.2) (some false) (some true)))

noncomputable def c_L_eqCipher : Con0 := ⟨pk_L_eqCipher, rk_L_eqCipher, M_L_eqCipher⟩

set_option maxRecDepth 100000 in
theorem eq_L_eqCipher (x : In pk_L_eqCipher) : semF (mkE []) h_L_eqCipher (info Tryz.f47) pk_L_eqCipher rk_L_eqCipher x = M_L_eqCipher x := (semFF_eq _ _ _ _ _ _).symm.trans (by kernel_rfl)

set_option maxRecDepth 100000 in
theorem m_L_eqCipher : ConOK Tryz.prog 47 c_L_eqCipher := fn_ok (tyOK _) (E := mkE []) (consOK_nil rfl) Tryz.func47 (h := h_L_eqCipher) (by kernel_rfl) eq_L_eqCipher

/-- L_eqCipherS -/
def pk_L_eqCipherS : List PK := [.data (.sl (.cons (.int .i64) (.one (.int .i64)))), .data (.sl (.cons (.int .i64) (.one (.int .i64))))]
def rk_L_eqCipherS : List (Ty × Bool) := [(.bool, false)]
def h_L_eqCipherS : Hints := { loops := [(0, { items := [.slot 5 (.data (.int .i64) [])], kill := [2, 3, 4, 6, 7, 8, 9, 10, 11, 12, 13, 14, 15, 16, 17, 18, 19, 20, 21, 22, 23, 24, 25, 26] })] }
noncomputable def M_L_eqCipherS (x : ((List (Int × Int)) × (List (Int × Int)))) : (Option Bool) :=
  (cond ((((List.length x.1) : Nat) : Int) != (((List.length x.2) : Nat) : Int)) (some false) (loopO (fun (again0 : (Int → (Option Bool))) => (fun (s1 : Int) => (cond (decide (s1 < (((List.length x.1) : Nat) : Int))) (bindO (getI x.1 s1) (fun (a2 : (Int × Int)) => (bindO (getI x.2 s1) (fun (a3 : (Int × Int)) => (bindO (M_L_eqCipher ((a2.1, a2.2), (a3.1, a3.2))) (fun (a4 : Bool) => (cond (not a4) (some false) (bindO (some (IntKind.wrap .i64 (s1 + (1 : Int)))) (fun (a5 : Int) => (again0 a5)))))))))) (some true)))) (0 : Int)))

noncomputable def c_L_eqCipherS : Con0 := ⟨pk_L_eqCipherS, rk_L_eqCipherS, M_L_eqCipherS⟩

set_option maxRecDepth 100000 in
theorem eq_L_eqCipherS (x : In pk_L_eqCipherS) : semF (mkE [(47, c_L_eqCipher)]) h_L_eqCipherS (info Tryz.f16) pk_L_eqCipherS rk_L_eqCipherS x = M_L_eqCipherS x := (semFF_eq _ _ _ _ _ _).symm.trans (by kernel_rfl)

set_option maxRecDepth 100000 in
theorem m_L_eqCipherS : ConOK Tryz.prog 16 c_L_eqCipherS := fn_ok (tyOK _) (E := mkE [(47, c_L_eqCipher)]) (consOK_cons m_L_eqCipher (consOK_nil rfl)) Tryz.func16 (h := h_L_eqCipherS) (by kernel_rfl) eq_L_eqCipherS

/-- L_eqIntS -/
def pk_L_eqIntS : List PK := [.data (.sl (.int .i64)), .data (.sl (.int .i64))]
def rk_L_eqIntS : List (Ty × Bool) := [(.bool, false)]
def h_L_eqIntS : Hints := { loops := [(0, { items := [.slot 5 (.data (.int .i64) [])], kill := [2, 3, 4, 6, 7, 8, 9, 10, 11, 12, 13, 14, 15, 16, 17, 18, 19, 20, 21, 22, 23, 24, 25] })] }
noncomputable def M_L_eqIntS (x : ((List Int) × (List Int))) : (Option Bool) :=
  (cond ((((List.length x.1) : Nat) : Int) != (((List.length x.2) : Nat) : Int)) (some false) (loopO (fun (again0 : (Int → (Option Bool))) => (fun (s1 : Int) => (cond (decide (s1 < (((List.length x.1) : Nat) : Int))) (bindO (getI x.1 s1) (fun (a2 : Int) => (bindO (getI x.2 s1) (fun (a3 : Int) => (cond (a2 != a3) (some false) (bindO (some (IntKind.wrap .i64 (s1 + (1 : Int)))) (fun (a4 : Int) => (again0 a4)))))))) (some true)))) (0 : Int)))

noncomputable def c_L_eqIntS : Con0 := ⟨pk_L_eqIntS, rk_L_eqIntS, M_L_eqIntS⟩

set_option maxRecDepth 100000 in
theorem eq_L_eqIntS (x : In pk_L_eqIntS) : semF (mkE []) h_L_eqIntS (info Tryz.f15) pk_L_eqIntS rk_L_eqIntS x = M_L_eqIntS x := (semFF_eq _ _ _ _ _ _).symm.trans (by kernel_rfl)

set_option maxRecDepth 100000 in
theorem m_L_eqIntS : ConOK Tryz.prog 15 c_L_eqIntS := fn_ok (tyOK _) (E := mkE []) (consOK_nil rfl) Tryz.func15 (h := h_L_eqIntS) (by kernel_rfl) eq_L_eqIntS

/-- L_eqProof -/
def pk_L_eqProof : List PK := [.data (.cons (.sl (.int .i64)) (.cons (.sl (.int .i64)) (.one (.sl (.int .i64))))), .data (.cons (.sl (.int .i64)) (.cons (.sl (.int .i64)) (.one (.sl (.int .i64)))))]
def rk_L_eqProof : List (Ty × Bool) := [(.bool, false)]
def h_L_eqProof : Hints := { loops := [] }
noncomputable def M_L_eqProof (x : (((List Int) × ((List Int) × (List Int))) × ((List Int) × ((List Int) × (List Int))))) : (Option Bool) :=
  (bindO (M_L_eqIntS (x.1.1, x.2.1)) (fun (a0 : Bool) => (cond (not a0) (some false) (bindO (M_L_eqIntS (x.1.2.1, x.2.2.1)) (fun (a1 : Bool) => (cond (not a1) (some false) (bindO (M_L_eqIntS (x.1.2.2, x.2.2.2)) (fun (a2 : Bool) => (cond (not a2) (some false) (some true))))))))))

noncomputable def c_L_eqProof : Con0 := ⟨pk_L_eqProof, rk_L_eqProof, M_L_eqProof⟩

set_option maxRecDepth 100000 in
theorem eq_L_eqProof (x : In pk_L_eqProof) : semF (mkE [(15, c_L_eqIntS)]) h_L_eqProof (info Tryz.f90) pk_L_eqProof rk_L_eqProof x = M_L_eqProof x := (semFF_eq _ _ _ _ _ _).symm.trans (by kernel_rfl)

set_option maxRecDepth 100000 in
theorem m_L_eqProof : ConOK Tryz.prog 90 c_L_eqProof := fn_ok (tyOK _) (E := mkE [(15, c_L_eqIntS)]) (consOK_cons m_L_eqIntS (consOK_nil rfl)) Tryz.func90 (h := h_L_eqProof) (by kernel_rfl) eq_L_eqProof

/-- L_eqMatrixProof -/
def pk_L_eqMatrixProof : List PK := [.data (.cons (.sl (.int .i64)) (.cons (.sl (.int .i64)) (.one (.cons (.sl (.int .i64)) (.cons (.sl (.int .i64)) (.one (.sl (.int .i64)))))))), .data (.cons (.sl (.int .i64)) (.cons (.sl (.int .i64)) (.one (.cons (.sl (.int .i64)) (.cons (.sl (.int .i64)) (.one (.sl (.int .i64))))))))]
def rk_L_eqMatrixProof : List (Ty × Bool) := [(.bool, false)]
def h_L_eqMatrixProof : Hints := { loops := [] }
noncomputable def M_L_eqMatrixProof (x : (((List Int) × ((List Int) × ((List Int) × ((List Int) × (List Int))))) × ((List Int) × ((List Int) × ((List Int) × ((List Int) × (List Int))))))) : (Option Bool) :=
  (bindO (M_L_eqIntS (x.1.1, x.2.1)) (fun (a0 : Bool) => (cond (not a0) (some false) (bindO (M_L_eqIntS (x.1.2.1, x.2.2.1)) (fun (a1 : Bool) => (cond (not a1) (some false) (bindO (M_L_eqProof ((x.1.2.2.1, (x.1.2.2.2.1, x.1.2.2.2.2)), (x.2.2.2.1, (x.2.2.2.2.1, x.2.2.2.2.2)))) (fun (a2 : Bool) => (cond (not a2) (some false) (some true))))))))))

noncomputable def c_L_eqMatrixProof : Con0 := ⟨pk_L_eqMatrixProof, rk_L_eqMatrixProof, M_L_eqMatrixProof⟩

set_option maxRecDepth 100000 in
theorem eq_L_eqMatrixProof (x : In pk_L_eqMatrixProof) : semF (mkE [(15, c_L_eqIntS), (90, c_L_eqProof)]) h_L_eqMatrixProof (info Tryz.f57) pk_L_eqMatrixProof rk_L_eqMatrixProof x = M_L_eqMatrixProof x := (semFF_eq _ _ _ _ _ _).symm.trans (by kernel_rfl)

set_option maxRecDepth 100000 in
theorem m_L_eqMatrixProof : ConOK Tryz.prog 57 c_L_eqMatrixProof := fn_ok (tyOK _) (E := mkE [(15, c_L_eqIntS), (90, c_L_eqProof)]) (consOK_cons m_L_eqIntS (consOK_cons m_L_eqProof (consOK_nil rfl))) Tryz.func57 (h := h_L_eqMatrixProof) (by kernel_rfl) eq_L_eqMatrixProof

/-- L_eqPolyProof -/
def pk_L_eqPolyProof : List PK := [.data (.cons (.sl (.int .i64)) (.cons (.sl (.int .i64)) (.cons (.sl (.int .i64)) (.one (.cons (.sl (.int .i64)) (.cons (.sl (.int .i64)) (.one (.sl (.int .i64))))))))), .data (.cons (.sl (.int .i64)) (.cons (.sl (.int .i64)) (.cons (.sl (.int .i64)) (.one (.cons (.sl (.int .i64)) (.cons (.sl (.int .i64)) (.one (.sl (.int .i64)))))))))]
def rk_L_eqPolyProof : List (Ty × Bool) := [(.bool, false)]
def h_L_eqPolyProof : Hints := { loops := [] }
noncomputable def M_L_eqPolyProof (x : (((List Int) × ((List Int) × ((List Int) × ((List Int) × ((List Int) × (List Int)))))) × ((List Int) × ((List Int) × ((List Int) × ((List Int) × ((List Int) × (List Int)))))))) : (Option Bool) :=
  (bindO (M_L_eqIntS (x.1.1, x.2.1)) (fun (a0 : Bool) => (cond (not a0) (some false) (bindO (M_L_eqIntS (x.1.2.1, x.2.2.1)) (fun (a1 : Bool) => (cond (not a1) (some false) (bindO (M_L_eqIntS (x.1.2.2.1, x.2.2.2.1)) (fun (a2 : Bool) => (cond (not a2) (some false) (bindO (M_L_eqProof ((x.1.2.2.2.1, (x.1.2.2.2.2.1, x.1.2.2.2.2.2)), (x.2.2.2.2.1, (x.2.2.2.2.2.1, x.2.2.2.2.2.2)))) (fun (a3 : Bool) => (cond (not a3) (some false) (some true)))))))))))))

noncomputable def c_L_eqPolyProof : Con0 := ⟨pk_L_eqPolyProof, rk_L_eqPolyProof, M_L_eqPolyProof⟩

set_option maxRecDepth 100000 in
theorem eq_L_eqPolyProof (x : In pk_L_eqPolyProof) : semF (mkE [(15, c_L_eqIntS), (90, c_L_eqProof)]) h_L_eqPolyProof (info Tryz.f58) pk_L_eqPolyProof rk_L_eqPolyProof x = M_L_eqPolyProof x := (semFF_eq _ _ _ _ _ _).symm.trans (by kernel_rfl)

set_option maxRecDepth 100000 in
theorem m_L_eqPolyProof : ConOK Tryz.prog 58 c_L_eqPolyProof := fn_ok (tyOK _) (E := mkE [(15, c_L_eqIntS), (90, c_L_eqProof)]) (consOK_cons m_L_eqIntS (consOK_cons m_L_eqProof (consOK_nil rfl))) Tryz.func58 (h := h_L_eqPolyProof) (by kernel_rfl) eq_L_eqPolyProof

/-- L_eqStage -/
def pk_L_eqStage : List PK := [.data (.cons (.int .i64) (.cons (.sl (.cons (.int .i64) (.one (.int .i64)))) (.cons (.cons (.sl (.int .i64)) (.cons (.sl (.int .i64)) (.one (.cons (.sl (.int .i64)) (.cons (.sl (.int .i64)) (.one (.sl (.int .i64)))))))) (.one (.cons (.sl (.int .i64)) (.cons (.sl (.int .i64)) (.cons (.sl (.int .i64)) (.one (.cons (.sl (.int .i64)) (.cons (.sl (.int .i64)) (.one (.sl (.int .i64))))))))))))), .data (.cons (.int .i64) (.cons (.sl (.cons (.int .i64) (.one (.int .i64)))) (.cons (.cons (.sl (.int .i64)) (.cons (.sl (.int .i64)) (.one (.cons (.sl (.int .i64)) (.cons (.sl (.int .i64)) (.one (.sl (.int .i64)))))))) (.one (.cons (.sl (.int .i64)) (.cons (.sl (.int .i64)) (.cons (.sl (.int .i64)) (.one (.cons (.sl (.int .i64)) (.cons (.sl (.int .i64)) (.one (.sl (.int .i64)))))))))))))]
def rk_L_eqStage : List (Ty × Bool) := [(.bool, false)]
def h_L_eqStage : Hints := { loops := [] }
noncomputable def M_L_eqStage (x : ((Int × ((List (Int × Int)) × (((List Int) × ((List Int) × ((List Int) × ((List Int) × (List Int))))) × ((List Int) × ((List Int) × ((List Int) × ((List Int) × ((List Int) × (List Int))))))))) × (Int × ((List (Int × Int)) × (((List Int) × ((List Int) × ((List Int) × ((List Int) × (List Int))))) × ((List Int) × ((List Int) × ((List Int) × ((List Int) × ((List Int) × (List Int))))))))))) : (Option Bool) :=
  (cond (x.1.1 != x.2.1) (some false) (bindO (M_L_eqCipherS (x.1.2.1, x.2.2.1)) (fun (a0 : Bool) => (cond (not a0) (some false) (bindO (M_L_eqMatrixProof ((x.1.2.2.1.1, (x.1.2.2.1.2.1, (x.1.2.2.1.2.2.1, (x.1.2.2.1.2.2.2.1, x.1.2.2.1.2.2.2.2)))), (x.2.2.2.1.1, (x.2.2.2.1.2.1, (x.2.2.2.1.2.2.1, (x.2.2.2.1.2.2.2.1, x.2.2.2.1.2.2.2.2)))))) (fun (a1 : Bool) => (cond (not a1) (some false) (bindO (M_L_eqPolyProof ((x.1.2.2.2.1, (x.1.2.2.2.2.1, (x.1.2.2.2.2.2.1, (x.1.2.2.2.2.2.2.1, (x.1.2.2.2.2.2.2.2.1, x.1.2.2.2.2.2.2.2.2))))), (x.2.2.2.2.1, (x.2.2.2.2.2.1, (x.2.2.2.2.2.2.1, (x.2.2.2.2.2.2.2.1, (x.2.2.2.2.2.2.2.2.1, x.2.2.2.2.2.2.2.2.2))))))) (fun (a2 : Bool) => (cond (not a2) (some false) (some true)))))))))))

noncomputable def c_L_eqStage : Con0 := ⟨pk_L_eqStage, rk_L_eqStage, M_L_eqStage⟩

set_option maxRecDepth 100000 in
theorem eq_L_eqStage (x : In pk_L_eqStage) : semF (mkE [(16, c_L_eqCipherS), (57, c_L_eqMatrixProof), (58, c_L_eqPolyProof)]) h_L_eqStage (info Tryz.f27) pk_L_eqStage rk_L_eqStage x = M_L_eqStage x := (semFF_eq _ _ _ _ _ _).symm.trans (by kernel_rfl)

set_option maxRecDepth 100000 in
theorem m_L_eqStage : ConOK Tryz.prog 27 c_L_eqStage := fn_ok (tyOK _) (E := mkE [(16, c_L_eqCipherS), (57, c_L_eqMatrixProof), (58, c_L_eqPolyProof)]) (consOK_cons m_L_eqCipherS (consOK_cons m_L_eqMatrixProof (consOK_cons m_L_eqPolyProof (consOK_nil rfl)))) Tryz.func27 (h := h_L_eqStage) (by kernel_rfl) eq_L_eqStage

/-- L_FnExactVerifyStage -/
def pk_L_FnExactVerifyStage : List PK := [.data (.cons (.int .i64) (.cons (.int .i64) (.one (.int .i64)))), .data (.int .i64), .data (.sl (.cons (.int .i64) (.one (.int .i64)))), .data (.cons (.int .i64) (.cons (.sl (.cons (.int .i64) (.one (.int .i64)))) (.cons (.cons (.sl (.int .i64)) (.cons (.sl (.int .i64)) (.one (.cons (.sl (.int .i64)) (.cons (.sl (.int .i64)) (.one (.sl (.int .i64)))))))) (.one (.cons (.sl (.int .i64)) (.cons (.sl (.int .i64)) (.cons (.sl (.int .i64)) (.one (.cons (.sl (.int .i64)) (.cons (.sl (.int .i64)) (.one (.sl (.int .i64)))))))))))))]
def rk_L_FnExactVerifyStage : List (Ty × Bool) := [(.bool, false)]
def h_L_FnExactVerifyStage : Hints := { loops := [] }
noncomputable def M_L_FnExactVerifyStage (x : ((Int × (Int × Int)) × (Int × ((List (Int × Int)) × (Int × ((List (Int × Int)) × (((List Int) × ((List Int) × ((List Int) × ((List Int) × (List Int))))) × ((List Int) × ((List Int) × ((List Int) × ((List Int) × ((List Int) × (List Int))))))))))))) : (Option Bool) :=
  (bindO (M_L_szCipherS (x.2.2.1, (1048576 : Int))) (fun (a0 : Int) => (cond (decide (a0 < (0 : Int))) (some true) (bindO (M_L_szStage (x.2.2.2, a0)) (fun (a1 : Int) => (cond (decide (a1 < (0 : Int))) (some true) (bindO (M_L_toGroup x.1) (fun (a2 : (Int × (Int × Int))) => (bindO (M_L_toCipherS x.2.2.1) (fun (a3 : (List (Int × Int))) => (bindO (M_L_toStage x.2.2.2) (fun (a4 : (Int × ((List (Int × Int)) × (((List Int) × ((List Int) × ((List Int) × ((List Int) × (List Int))))) × ((List Int) × ((List Int) × ((List Int) × ((List Int) × ((List Int) × (List Int)))))))))) => (bindO (M_S_VerifyStage (a2, (x.2.1, (a3, a4)))) (fun (a5 : (Bool × Bool)) => (bindO (M_L_toCipherS x.2.2.1) (fun (a6 : (List (Int × Int))) => (bindO (M_L_toStage x.2.2.2) (fun (a7 : (Int × ((List (Int × Int)) × (((List Int) × ((List Int) × ((List Int) × ((List Int) × (List Int))))) × ((List Int) × ((List Int) × ((List Int) × ((List Int) × ((List Int) × (List Int)))))))))) => (bindO (M_L_toGroup x.1) (fun (a8 : (Int × (Int × Int))) => (bindO (M_I_VerifyStage (a8, (x.2.1, (a6, a7)))) (fun (a9 : (Bool × Bool)) => (cond (not (a9.1 == a5.1)) (some false) (cond (not (a9.2 == a5.2)) (some false) (bindO (M_L_toCipherS x.2.2.1) (fun (a10 : (List (Int × Int))) => (bindO (M_L_eqCipherS (a6, a10)) (fun (a11 : Bool) => (cond (not a11) (some false) (bindO (M_L_toStage x.2.2.2) (fun (a12 : (Int × ((List (Int × Int)) × (((List Int) × ((List Int) × ((List Int) × ((List Int) × (List Int))))) × ((List Int) × ((List Int) × ((List Int) × ((List Int) × ((List Int) × (List Int)))))))))) => (bindO (M_L_eqStage (a7, a12)) (fun (a13 : Bool) => (cond (not a13) (some false) (some true)))))))))))))))))))))))))))))))))))

noncomputable def c_L_FnExactVerifyStage : Con0 := ⟨pk_L_FnExactVerifyStage, rk_L_FnExactVerifyStage, M_L_FnExactVerifyStage⟩

set_option maxRecDepth 100000 in
theorem eq_L_FnExactVerifyStage (x : In pk_L_FnExactVerifyStage) : semF (mkE [(8, c_L_szCipherS), (23, c_L_szStage), (11, c_L_toGroup), (12, c_L_toCipherS), (25, c_L_toStage), (24, c_S_VerifyStage), (26, c_I_VerifyStage), (16, c_L_eqCipherS), (27, c_L_eqStage)]) h_L_FnExactVerifyStage (info Tryz.f4) pk_L_FnExactVerifyStage rk_L_FnExactVerifyStage x = M_L_FnExactVerifyStage x := (semFF_eq _ _ _ _ _ _).symm.trans (by kernel_rfl)

set_option maxRecDepth 100000 in
theorem m_L_FnExactVerifyStage : ConOK Tryz.prog 4 c_L_FnExactVerifyStage := fn_ok (tyOK _) (E := mkE [(8, c_L_szCipherS), (23, c_L_szStage), (11, c_L_toGroup), (12, c_L_toCipherS), (25, c_L_toStage), (24, c_S_VerifyStage), (26, c_I_VerifyStage), (16, c_L_eqCipherS), (27, c_L_eqStage)]) (consOK_cons m_L_szCipherS (consOK_cons m_L_szStage (consOK_cons m_L_toGroup (consOK_cons m_L_toCipherS (consOK_cons m_L_toStage (consOK_cons m_S_VerifyStage (consOK_cons m_I_VerifyStage (consOK_cons m_L_eqCipherS (consOK_cons m_L_eqStage (consOK_nil rfl)))))))))) Tryz.func4 (h := h_L_FnExactVerifyStage) (by kernel_rfl) eq_L_FnExactVerifyStage

/-- I_inverse -/
noncomputable def M_I_inverse (x : (Int × Int)) : (Option Int) :=
  (loopO (fun (again0 : ((Int × (Int × (Int × Int))) → (Option Int))) => (fun (s1 : (Int × (Int × (Int × Int)))) => (cond (s1.2.1 != (0 : Int)) (bindO (guardO (s1.2.1 != (0 : Int))) (fun (a2 : Unit) => (bindO (some (IntKind.wrap .i64 (Int.tdiv s1.1 s1.2.1))) (fun (a3 : Int) => (bindO (some (IntKind.wrap .i64 (a3 * s1.2.1))) (fun (a4 : Int) => (bindO (some (IntKind.wrap .i64 (s1.1 - a4))) (fun (a5 : Int) => (bindO (some (IntKind.wrap .i64 (a3 * s1.2.2.2))) (fun (a6 : Int) => (bindO (some (IntKind.wrap .i64 (s1.2.2.1 - a6))) (fun (a7 : Int) => (again0 (s1.2.1, (a5, (s1.2.2.2, a7)))))))))))))))) (cond (s1.1 != (1 : Int)) (some (0 : Int)) (bindO (M_I_mod (s1.2.2.1, x.2)) (fun (a8 : Int) => (some a8))))))) (x.2, (x.1, ((0 : Int), (1 : Int)))))

/-- S_nInverse -/
noncomputable def M_S_nInverse (x : (Int × Int)) : (Option (Int × Bool)) :=
  (bindO (M_S_nMod (x.1, x.2)) (fun (a0 : Int) => (loopO (fun (again1 : ((Int × (Int × (Int × Int))) → (Option (Int × Bool)))) => (fun (s2 : (Int × (Int × (Int × Int)))) => (cond (s2.2.1 != (0 : Int)) (bindO (guardO (s2.2.1 != (0 : Int))) (fun (a3 : Unit) => (bindO (some (IntKind.wrap .i64 (Int.tdiv s2.1 s2.2.1))) (fun (a4 : Int) => (bindO (some (IntKind.wrap .i64 (a4 * s2.2.1))) (fun (a5 : Int) => (bindO (some (IntKind.wrap .i64 (s2.1 - a5))) (fun (a6 : Int) => (bindO (some (IntKind.wrap .i64 (a4 * s2.2.2.2))) (fun (a7 : Int) => (bindO (some (IntKind.wrap .i64 (s2.2.2.1 - a7))) (fun (a8 : Int) => (again1 (s2.2.1, (a6, (s2.2.2.2, a8)))))))))))))))) (bindO (M_S_nMod (s2.2.2.1, x.2)) (fun (a9 : Int) => (some (a9, (s2.1 == (1 : Int))))))))) (a0, (x.2, ((1 : Int), (0 : Int)))))))

end Go.Proofs.YtjmpdejigkjaoaaGreat.Vd
