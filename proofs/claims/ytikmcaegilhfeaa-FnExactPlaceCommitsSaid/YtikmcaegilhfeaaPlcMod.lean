/- The functions of the law as plain functions on data, and that the program's functions are these. No conditions. -/
import Derived.Test.YtikmcaegilhfeaaVd3
import Derived.Test.YtikmcaegilhfeaaChecked
import Derived.KernelRfl
set_option linter.unusedVariables false
namespace Go.Proofs.Ytikmcaegilhfeaa.Vd
def tys : List (Option Ty) := [none, none, some (.int .i64), some (.int .i64), some .bool, some (.int .u8), some (.int .u8), some (.cons (.int .i64) (.cons (.int .i64) (.cons .bool (.one (.int .u8))))), some (.cons (.int .i64) (.cons (.int .i64) (.cons .bool (.one (.int .u8))))), some .str, some .str, some .str, some (.int .u64), some (.cons .str (.one (.int .u64))), some (.cons .str (.one (.int .u64))), none, none, none, none, none, none, some (.int .i32), some (.sl (.sl (.int .i64))), none, none, none, none, none, none, none, none, some (.sl (.int .i64)), none, none, none, none, none, none, some (.cons (.int .i64) (.cons (.int .i64) (.one (.int .i64)))), some (.cons (.int .i64) (.cons (.int .i64) (.one (.int .i64)))), some (.sl (.sl (.cons (.int .i64) (.one (.int .i64))))), none, some (.sl (.cons (.int .i64) (.one (.int .i64)))), none, none, some (.cons (.int .i64) (.cons (.int .i64) (.one (.int .i64)))), none, some (.sl (.sl (.cons (.int .i64) (.one (.int .i64))))), none, none, none, none, none, none, some (.sl (.int .u8)), none, none, none, none, some (.sl (.cons (.int .i64) (.one (.int .i64)))), none, none, none, none, none, none, none, some (.cons (.int .i64) (.one (.int .i64))), some (.cons (.int .i64) (.one (.int .i64))), some (.cons (.sl (.int .i64)) (.cons (.sl (.int .i64)) (.one (.sl (.int .i64))))), some (.cons (.sl (.int .i64)) (.cons (.sl (.int .i64)) (.one (.sl (.int .i64))))), some (.cons (.cons (.int .i64) (.one (.int .i64))) (.cons (.cons (.int .i64) (.one (.int .i64))) (.one (.cons (.sl (.int .i64)) (.cons (.sl (.int .i64)) (.one (.sl (.int .i64)))))))), some (.cons (.cons (.int .i64) (.one (.int .i64))) (.cons (.cons (.int .i64) (.one (.int .i64))) (.one (.cons (.sl (.int .i64)) (.cons (.sl (.int .i64)) (.one (.sl (.int .i64)))))))), none, none, none, none, none, none, none, none, none, none, some (.cons (.int .i64) (.one (.int .i64))), some (.cons (.sl (.int .i64)) (.cons (.sl (.int .i64)) (.one (.sl (.int .i64))))), some (.cons (.cons (.int .i64) (.one (.int .i64))) (.cons (.cons (.int .i64) (.one (.int .i64))) (.one (.cons (.sl (.int .i64)) (.cons (.sl (.int .i64)) (.one (.sl (.int .i64)))))))), some (.cons (.cons (.int .i64) (.one (.int .i64))) (.cons (.cons (.int .i64) (.one (.int .i64))) (.one (.cons (.sl (.int .i64)) (.cons (.sl (.int .i64)) (.one (.sl (.int .i64)))))))), none, none, none, none, none, none, none, none, none, none, none, none, none, none, none, none, none, none, none, none, none, none, some (.int .u64), some (.cons (.sl (.int .u8)) (.cons (.int .i64) (.one (.int .u64)))), some (.cons (.sl (.int .u8)) (.cons (.int .i64) (.one (.int .u64)))), none, none, none, none, none, none, none, none, none, none, none, none, none, none, none, none, none, none, none, none, none, none, none, none, none, none, none, none, none, none, none, none, none, none, none, none, some (.cons (.int .i64) (.one (.sl (.int .i64)))), some (.cons (.int .i64) (.one (.sl (.int .i64)))), none, none, none, none, none, some (.sl .bool), none, none, none, none, none, none, some (.int .u64), none, none, none, none, none, none, none, none, none, none, none, none, none, none, none, none, none, none, none, none, some (.int .u32), none, none, none, none, none, none, none, none, none, none, none, some (.cons (.int .i64) (.one (.int .i64))), some (.cons (.int .i64) (.one (.int .i64))), none, none, none, none, none, none, none, none, some (.int .u8), some (.int .u8), none, none, some (.int .i32), some (.int .i32), none, none, none, none]
def others : List Nat := [1, 15, 16, 17, 23, 25, 26, 27, 28, 30, 33, 34, 35, 36, 37, 41, 44, 46, 48, 49, 50, 51, 52, 53, 55, 57, 58, 60, 61, 62, 63, 65, 66, 74, 75, 76, 77, 79, 80, 82, 87, 88, 89, 90, 91, 92, 93, 94, 95, 96, 97, 98, 99, 100, 101, 102, 103, 104, 105, 106, 107, 108, 112, 113, 114, 115, 116, 117, 118, 119, 120, 121, 122, 123, 124, 125, 126, 127, 128, 129, 130, 131, 132, 133, 134, 135, 136, 138, 139, 140, 141, 142, 143, 144, 145, 146, 147, 151, 152, 153, 154, 156, 157, 158, 159, 160, 161, 164, 165, 166, 167, 168, 169, 170, 171, 172, 173, 174, 175, 176, 177, 178, 179, 180, 181, 182, 185, 187, 188, 189, 190, 191, 192, 193, 194, 197, 198, 199, 207, 208, 213]
def pairs : List Nat := [67, 68, 83, 195, 196]
noncomputable def mkE (con : List (Nat × Con0)) : Env := ⟨[], tys, others, pairs, con⟩

set_option maxRecDepth 100000 in
theorem tyOK (con : List (Nat × Con0)) : TyOK Try.prog (mkE con) := tyOK_of (E := mkE con) (by kernel_rfl) (by kernel_rfl) (by kernel_rfl)

/-- L_toGroup -/
def pk_L_toGroup : List PK := [.data (.cons (.int .i64) (.cons (.int .i64) (.one (.int .i64))))]
def rk_L_toGroup : List (Ty × Bool) := [((.cons (.int .i64) (.cons (.int .i64) (.one (.int .i64)))), false)]
def h_L_toGroup : Hints := { loops := [] }
noncomputable def M_L_toGroup (x : (Int × (Int × Int))) : (Option (Int × (Int × Int))) :=
  (some (x.1, (x.2.1, x.2.2)))

noncomputable def c_L_toGroup : Con0 := ⟨pk_L_toGroup, rk_L_toGroup, M_L_toGroup⟩

set_option maxRecDepth 100000 in
theorem eq_L_toGroup (x : In pk_L_toGroup) : semF (mkE []) h_L_toGroup (info Try.f32) pk_L_toGroup rk_L_toGroup x = M_L_toGroup x := by kernel_rfl

set_option maxRecDepth 100000 in
theorem m_L_toGroup : ConOK Try.prog 32 c_L_toGroup := fn_ok (tyOK _) (E := mkE []) (consOK_nil rfl) Try.func32 (h := h_L_toGroup) (by kernel_rfl) eq_L_toGroup

/-- L_toIntS -/
def pk_L_toIntS : List PK := [.data (.sl (.int .i64))]
def rk_L_toIntS : List (Ty × Bool) := [((.sl (.int .i64)), true)]
def h_L_toIntS : Hints := { loops := [(0, { items := [.slot 4 (.data (.int .i64) []), .arr 3 (.int .i64) true], kill := [1, 2, 5, 6, 7, 8, 9, 10, 11, 12, 13, 14, 15, 16, 17, 18, 19, 20, 21] })] }
noncomputable def M_L_toIntS (x : (List Int)) : (Option (List Int)) :=
  (bindO (guardO (((decide ((0 : Int) ≤ (((List.length x) : Nat) : Int))) && (decide ((((List.length x) : Nat) : Int) ≤ (((List.length x) : Nat) : Int)))) && (decide ((((List.length x) : Nat) : Int) ≤ ((lim : Nat) : Int))))) (fun (a0 : Unit) => (loopO (fun (again1 : ((Int × (List Int)) → (Option (List Int)))) => (fun (s2 : (Int × (List Int))) => (cond (decide (s2.1 < (((List.length x) : Nat) : Int))) (bindO (getI x s2.1) (fun (a3 : Int) => (bindO (getI s2.2 s2.1) (fun (a4 : Int) => (bindO (some (List.set s2.2 (Int.toNat s2.1) a3)) (fun (a5 : (List Int)) => (bindO (some (IntKind.wrap .i64 (s2.1 + (1 : Int)))) (fun (a6 : Int) => (again1 (a6, a5)))))))))) (some s2.2)))) ((0 : Int), (List.replicate (Int.toNat (((List.length x) : Nat) : Int)) (0 : Int))))))

noncomputable def c_L_toIntS : Con0 := ⟨pk_L_toIntS, rk_L_toIntS, M_L_toIntS⟩

set_option maxRecDepth 100000 in
theorem eq_L_toIntS (x : In pk_L_toIntS) : semF (mkE []) h_L_toIntS (info Try.f25) pk_L_toIntS rk_L_toIntS x = M_L_toIntS x := by kernel_rfl

set_option maxRecDepth 100000 in
theorem m_L_toIntS : ConOK Try.prog 25 c_L_toIntS := fn_ok (tyOK _) (E := mkE []) (consOK_nil rfl) Try.func25 (h := h_L_toIntS) (by kernel_rfl) eq_L_toIntS

/-- S_l1In -/
def pk_S_l1In : List PK := [.data (.int .i64), .data (.int .i64), .data (.int .i64)]
def rk_S_l1In : List (Ty × Bool) := [(.bool, false)]
def h_S_l1In : Hints := { loops := [] }
noncomputable def M_S_l1In (x : (Int × (Int × Int))) : (Option Bool) :=
  (cond (decide (x.1 ≥ x.2.1)) (some (decide (x.1 ≤ x.2.2))) (some false))

noncomputable def c_S_l1In : Con0 := ⟨pk_S_l1In, rk_S_l1In, M_S_l1In⟩

set_option maxRecDepth 100000 in
theorem eq_S_l1In (x : In pk_S_l1In) : semF (mkE []) h_S_l1In (info Try.f79) pk_S_l1In rk_S_l1In x = M_S_l1In x := by kernel_rfl

set_option maxRecDepth 100000 in
theorem m_S_l1In : ConOK Try.prog 79 c_S_l1In := fn_ok (tyOK _) (E := mkE []) (consOK_nil rfl) Try.func79 (h := h_S_l1In) (by kernel_rfl) eq_S_l1In

/-- S_nPower -/
def pk_S_nPower : List PK := [.data (.int .i64), .data (.int .i64), .data (.int .i64)]
def rk_S_nPower : List (Ty × Bool) := [((.int .i64), false)]
def h_S_nPower : Hints := { loops := [(0, { items := [.slot 0 (.data (.int .i64) []), .slot 1 (.data (.int .i64) []), .slot 7 (.data (.int .i64) [])], kill := [3, 4, 5, 6, 8, 9, 10, 11, 12, 13, 14, 15, 16, 17, 18, 19, 20, 21, 22, 23, 24, 25, 26, 27] })] }
noncomputable def M_S_nPower (x : (Int × (Int × Int))) : (Option Int) :=
  (bindO (guardO (x.2.2 != (0 : Int))) (fun (a0 : Unit) => (bindO (some (Int.tmod (1 : Int) x.2.2)) (fun (a1 : Int) => (loopO (fun (again2 : ((Int × (Int × Int)) → (Option Int))) => (fun (s3 : (Int × (Int × Int))) => (cond (decide (s3.2.1 > (0 : Int))) (bindO (guardO ((2 : Int) != (0 : Int))) (fun (a4 : Unit) => (bindO (some (Int.tmod s3.2.1 (2 : Int))) (fun (a5 : Int) => (cond (a5 == (1 : Int)) (bindO (some (IntKind.wrap .i64 (s3.2.2 * s3.1))) (fun (a6 : Int) => (bindO (guardO (x.2.2 != (0 : Int))) (fun (a7 : Unit) => (bindO (some (Int.tmod a6 x.2.2)) (fun (a8 : Int) => (bindO (some (IntKind.wrap .i64 (s3.1 * s3.1))) (fun (a9 : Int) => (bindO (guardO (x.2.2 != (0 : Int))) (fun (a10 : Unit) => (bindO (some (Int.tmod a9 x.2.2)) (fun (a11 : Int) => (bindO (guardO ((2 : Int) != (0 : Int))) (fun (a12 : Unit) => (bindO (some (IntKind.wrap .i64 (Int.tdiv s3.2.1 (2 : Int)))) (fun (a13 : Int) => (again2 (a11, (a13, a8))))))))))))))))))) (bindO (some (IntKind.wrap .i64 (s3.1 * s3.1))) (fun (a14 : Int) => (bindO (guardO (x.2.2 != (0 : Int))) (fun (a15 : Unit) => (bindO (some (Int.tmod a14 x.2.2)) (fun (a16 : Int) => (bindO (guardO ((2 : Int) != (0 : Int))) (fun (a17 : Unit) => (bindO (some (IntKind.wrap .i64 (Int.tdiv s3.2.1 (2 : Int)))) (fun (a18 : Int) => (again2 (a16, (a18, s3.2.2)))))))))))))))))) (some s3.2.2)))) (x.1, (x.2.1, a1)))))))

noncomputable def c_S_nPower : Con0 := ⟨pk_S_nPower, rk_S_nPower, M_S_nPower⟩

set_option maxRecDepth 100000 in
theorem eq_S_nPower (x : In pk_S_nPower) : semF (mkE []) h_S_nPower (info Try.f159) pk_S_nPower rk_S_nPower x = M_S_nPower x := by kernel_rfl

set_option maxRecDepth 100000 in
theorem m_S_nPower : ConOK Try.prog 159 c_S_nPower := fn_ok (tyOK _) (E := mkE []) (consOK_nil rfl) Try.func159 (h := h_S_nPower) (by kernel_rfl) eq_S_nPower

/-- S_nPrime -/
def pk_S_nPrime : List PK := [.data (.int .i64)]
def rk_S_nPrime : List (Ty × Bool) := [(.bool, false)]
def h_S_nPrime : Hints := { loops := [(0, { items := [.slot 3 (.data (.int .i64) [])], kill := [1, 2, 4, 5, 6, 7, 8, 9, 10, 11, 12, 13, 14, 15, 16] })] }
noncomputable def M_S_nPrime (x : Int) : (Option Bool) :=
  (cond (decide (x < (2 : Int))) (some false) (loopO (fun (again0 : (Int → (Option Bool))) => (fun (s1 : Int) => (bindO (some (IntKind.wrap .i64 (s1 * s1))) (fun (a2 : Int) => (cond (decide (a2 ≤ x)) (bindO (guardO (s1 != (0 : Int))) (fun (a3 : Unit) => (bindO (some (Int.tmod x s1)) (fun (a4 : Int) => (cond (a4 == (0 : Int)) (some false) (bindO (some (IntKind.wrap .i64 (s1 + (1 : Int)))) (fun (a5 : Int) => (again0 a5)))))))) (some true)))))) (2 : Int)))

noncomputable def c_S_nPrime : Con0 := ⟨pk_S_nPrime, rk_S_nPrime, M_S_nPrime⟩

set_option maxRecDepth 100000 in
theorem eq_S_nPrime (x : In pk_S_nPrime) : semF (mkE []) h_S_nPrime (info Try.f160) pk_S_nPrime rk_S_nPrime x = M_S_nPrime x := by kernel_rfl

set_option maxRecDepth 100000 in
theorem m_S_nPrime : ConOK Try.prog 160 c_S_nPrime := fn_ok (tyOK _) (E := mkE []) (consOK_nil rfl) Try.func160 (h := h_S_nPrime) (by kernel_rfl) eq_S_nPrime

/-- S_l2Good -/
def pk_S_l2Good : List PK := [.data (.cons (.int .i64) (.cons (.int .i64) (.one (.int .i64))))]
def rk_S_l2Good : List (Ty × Bool) := [(.bool, false)]
def h_S_l2Good : Hints := { loops := [] }
noncomputable def M_S_l2Good (x : (Int × (Int × Int))) : (Option Bool) :=
  (bindO (M_S_l1In (x.1, ((3 : Int), (2000000000 : Int)))) (fun (a0 : Bool) => (cond a0 (bindO (some (IntKind.wrap .i64 (x.1 - (1 : Int)))) (fun (a1 : Int) => (bindO (M_S_l1In (x.2.1, ((2 : Int), a1))) (fun (a2 : Bool) => (cond a2 (bindO (some (IntKind.wrap .i64 (x.1 - (1 : Int)))) (fun (a3 : Int) => (bindO (guardO (x.2.1 != (0 : Int))) (fun (a4 : Unit) => (bindO (some (Int.tmod a3 x.2.1)) (fun (a5 : Int) => (cond (a5 == (0 : Int)) (bindO (some (IntKind.wrap .i64 (x.1 - (1 : Int)))) (fun (a6 : Int) => (bindO (M_S_l1In (x.2.2, ((2 : Int), a6))) (fun (a7 : Bool) => (cond a7 (bindO (M_S_nPower (x.2.2, (x.2.1, x.1))) (fun (a8 : Int) => (cond (a8 == (1 : Int)) (bindO (M_S_nPrime x.2.1) (fun (a9 : Bool) => (cond a9 (bindO (M_S_nPrime x.1) (fun (a10 : Bool) => (some a10))) (some false)))) (some false)))) (some false)))))) (some false)))))))) (some false)))))) (some false))))

noncomputable def c_S_l2Good : Con0 := ⟨pk_S_l2Good, rk_S_l2Good, M_S_l2Good⟩

set_option maxRecDepth 100000 in
theorem eq_S_l2Good (x : In pk_S_l2Good) : semF (mkE [(79, c_S_l1In), (159, c_S_nPower), (160, c_S_nPrime)]) h_S_l2Good (info Try.f87) pk_S_l2Good rk_S_l2Good x = M_S_l2Good x := by kernel_rfl

set_option maxRecDepth 100000 in
theorem m_S_l2Good : ConOK Try.prog 87 c_S_l2Good := fn_ok (tyOK _) (E := mkE [(79, c_S_l1In), (159, c_S_nPower), (160, c_S_nPrime)]) (consOK_cons m_S_l1In (consOK_cons m_S_nPower (consOK_cons m_S_nPrime (consOK_nil rfl)))) Try.func87 (h := h_S_l2Good) (by kernel_rfl) eq_S_l2Good

/-- S_l3Digest -/
def pk_S_l3Digest : List PK := [.data (.int .i64)]
def rk_S_l3Digest : List (Ty × Bool) := [(.bool, false)]
def h_S_l3Digest : Hints := { loops := [] }
noncomputable def M_S_l3Digest (x : Int) : (Option Bool) :=
  (bindO (M_S_l1In (x, ((0 : Int), (4611686018427387903 : Int)))) (fun (a0 : Bool) => (some a0)))

noncomputable def c_S_l3Digest : Con0 := ⟨pk_S_l3Digest, rk_S_l3Digest, M_S_l3Digest⟩

set_option maxRecDepth 100000 in
theorem eq_S_l3Digest (x : In pk_S_l3Digest) : semF (mkE [(79, c_S_l1In)]) h_S_l3Digest (info Try.f215) pk_S_l3Digest rk_S_l3Digest x = M_S_l3Digest x := by kernel_rfl

set_option maxRecDepth 100000 in
theorem m_S_l3Digest : ConOK Try.prog 215 c_S_l3Digest := fn_ok (tyOK _) (E := mkE [(79, c_S_l1In)]) (consOK_cons m_S_l1In (consOK_nil rfl)) Try.func215 (h := h_S_l3Digest) (by kernel_rfl) eq_S_l3Digest

/-- S_l3With -/
def pk_S_l3With : List PK := [.data .str, .data (.sl (.int .i64))]
def rk_S_l3With : List (Ty × Bool) := [((.sl (.int .i64)), true)]
def h_S_l3With : Hints := { loops := [(0, { items := [.slot 5 (.own (.int .i64) true), .slot 6 (.data (.int .i64) [])], kill := [2, 3, 4, 7, 8, 9, 10, 11, 12, 13, 14, 15, 16, 17, 18, 19, 20, 21, 22, 23, 24, 25] })] }
noncomputable def M_S_l3With (x : (ByteArray × (List Int))) : (Option (List Int)) :=
  (loopO (fun (again0 : (((List Int) × Int) → (Option (List Int)))) => (fun (s1 : ((List Int) × Int)) => (cond (decide (s1.2 < (((ByteArray.size x.1) : Nat) : Int))) (bindO (if ((0 : Int) ≤ s1.2) then (x.1[(Int.toNat s1.2)]?) else (none : Option (UInt8))) (fun (a2 : (UInt8)) => (bindO (guardO (lenOk ((List.length s1.1) + (List.length ((IntKind.wrap .i64 (((UInt8.toNat a2) : Nat) : Int)) :: ([] : List Int)))))) (fun (a3 : Unit) => (bindO (some (s1.1 ++ ((IntKind.wrap .i64 (((UInt8.toNat a2) : Nat) : Int)) :: ([] : List Int)))) (fun (a4 : (List Int)) => (bindO (some (IntKind.wrap .i64 (s1.2 + (1 : Int)))) (fun (a5 : Int) => (again0 (a4, a5)))))))))) (bindO (guardO (lenOk ((List.length s1.1) + (List.length x.2)))) (fun (a6 : Unit) => (bindO (some (s1.1 ++ x.2)) (fun (a7 : (List Int)) => (some a7)))))))) (((((ByteArray.size x.1) : Nat) : Int) :: ([] : List Int)), (0 : Int)))

noncomputable def c_S_l3With : Con0 := ⟨pk_S_l3With, rk_S_l3With, M_S_l3With⟩

set_option maxRecDepth 100000 in
theorem eq_S_l3With (x : In pk_S_l3With) : semF (mkE []) h_S_l3With (info Try.f205) pk_S_l3With rk_S_l3With x = M_S_l3With x := by kernel_rfl

set_option maxRecDepth 100000 in
theorem m_S_l3With : ConOK Try.prog 205 c_S_l3With := fn_ok (tyOK _) (E := mkE []) (consOK_nil rfl) Try.func205 (h := h_S_l3With) (by kernel_rfl) eq_S_l3With

/-- S_l3State_absorb -/
def pk_S_l3State_absorb : List PK := [.mp (.cons (.int .i64) (.one (.int .i64))) false, .data (.int .i64)]
def rk_S_l3State_absorb : List (Ty × Bool) := []
def h_S_l3State_absorb : Hints := { loops := [(0, { items := [.slot 12 (.data (.int .i64) []), .cell 0 0 (.data (.int .i64) []), .cell 0 1 (.data (.int .i64) [])], kill := [1, 2, 3, 4, 5, 6, 7, 8, 9, 13, 14, 15, 16, 17, 18, 19, 20, 21, 22, 23, 24, 25, 26, 27, 28, 29, 30, 31, 32, 33, 34, 35, 36, 37, 38, 39, 40] })] }
noncomputable def M_S_l3State_absorb (x : ((Int × Int) × Int)) : (Option (Int × Int)) :=
  (bindO (guardO ((2147483648 : Int) != (0 : Int))) (fun (a0 : Unit) => (bindO (some (Int.tmod x.2 (2147483648 : Int))) (fun (a1 : Int) => (bindO (guardO ((2147483648 : Int) != (0 : Int))) (fun (a2 : Unit) => (bindO (some (IntKind.wrap .i64 (Int.tdiv x.2 (2147483648 : Int)))) (fun (a3 : Int) => (loopO (fun (again4 : ((Int × (Int × Int)) → (Option (Int × Int)))) => (fun (s5 : (Int × (Int × Int))) => (cond (decide (s5.1 < (((List.length (a1 :: (a3 :: ([] : List Int)))) : Nat) : Int))) (bindO (getI (a1 :: (a3 :: ([] : List Int))) s5.1) (fun (a6 : Int) => (bindO (some (IntKind.wrap .i64 ((48271 : Int) * s5.2.1))) (fun (a7 : Int) => (bindO (some (IntKind.wrap .i64 (a7 + a6))) (fun (a8 : Int) => (bindO (some (IntKind.wrap .i64 (a8 + (1 : Int)))) (fun (a9 : Int) => (bindO (guardO ((2147483647 : Int) != (0 : Int))) (fun (a10 : Unit) => (bindO (some (Int.tmod a9 (2147483647 : Int))) (fun (a11 : Int) => (bindO (some (IntKind.wrap .i64 ((69621 : Int) * s5.2.2))) (fun (a12 : Int) => (bindO (some (IntKind.wrap .i64 (a12 + a6))) (fun (a13 : Int) => (bindO (some (IntKind.wrap .i64 (a13 + (1 : Int)))) (fun (a14 : Int) => (bindO (guardO ((2147483647 : Int) != (0 : Int))) (fun (a15 : Unit) => (bindO (some (Int.tmod a14 (2147483647 : Int))) (fun (a16 : Int) => (bindO (some (IntKind.wrap .i64 (s5.1 + (1 : Int)))) (fun (a17 : Int) => (again4 (a17, (a11, a16))))))))))))))))))))))))))) (some (s5.2.1, s5.2.2))))) ((0 : Int), (x.1.1, x.1.2)))))))))))

noncomputable def c_S_l3State_absorb : Con0 := ⟨pk_S_l3State_absorb, rk_S_l3State_absorb, M_S_l3State_absorb⟩

set_option maxRecDepth 100000 in
theorem eq_S_l3State_absorb (x : In pk_S_l3State_absorb) : semF (mkE []) h_S_l3State_absorb (info Try.f212) pk_S_l3State_absorb rk_S_l3State_absorb x = M_S_l3State_absorb x := by kernel_rfl

set_option maxRecDepth 100000 in
theorem m_S_l3State_absorb : ConOK Try.prog 212 c_S_l3State_absorb := fn_ok (tyOK _) (E := mkE []) (consOK_nil rfl) Try.func212 (h := h_S_l3State_absorb) (by kernel_rfl) eq_S_l3State_absorb

/-- S_hInts -/
def pk_S_hInts : List PK := [.data (.sl (.int .i64))]
def rk_S_hInts : List (Ty × Bool) := [((.int .i64), false)]
def h_S_hInts : Hints := { loops := [(0, { items := [.slot 14 (.data (.int .i64) []), .cell 7 0 (.data (.int .i64) []), .cell 7 1 (.data (.int .i64) [])], kill := [0, 1, 2, 4, 5, 6, 8, 9, 10, 11, 15, 16, 17, 18, 19, 20, 21, 22, 23, 24, 25, 26, 27, 28, 29, 30, 31] })] }
noncomputable def M_S_hInts (x : (List Int)) : (Option Int) :=
  (bindO (M_S_l3State_absorb (((1 : Int), (2 : Int)), (((List.length x) : Nat) : Int))) (fun (a0 : (Int × Int)) => (loopO (fun (again1 : ((Int × (Int × Int)) → (Option Int))) => (fun (s2 : (Int × (Int × Int))) => (cond (decide (s2.1 < (((List.length x) : Nat) : Int))) (bindO (getI x s2.1) (fun (a3 : Int) => (bindO (M_S_l3State_absorb ((s2.2.1, s2.2.2), a3)) (fun (a4 : (Int × Int)) => (bindO (some (IntKind.wrap .i64 (s2.1 + (1 : Int)))) (fun (a5 : Int) => (again1 (a5, (a4.1, a4.2))))))))) (bindO (some (IntKind.wrap .i64 (s2.2.1 * (2147483648 : Int)))) (fun (a6 : Int) => (bindO (some (IntKind.wrap .i64 (a6 + s2.2.2))) (fun (a7 : Int) => (some a7)))))))) ((0 : Int), (a0.1, a0.2)))))

noncomputable def c_S_hInts : Con0 := ⟨pk_S_hInts, rk_S_hInts, M_S_hInts⟩

set_option maxRecDepth 100000 in
theorem eq_S_hInts (x : In pk_S_hInts) : semF (mkE [(212, c_S_l3State_absorb)]) h_S_hInts (info Try.f204) pk_S_hInts rk_S_hInts x = M_S_hInts x := by kernel_rfl

set_option maxRecDepth 100000 in
theorem m_S_hInts : ConOK Try.prog 204 c_S_hInts := fn_ok (tyOK _) (E := mkE [(212, c_S_l3State_absorb)]) (consOK_cons m_S_l3State_absorb (consOK_nil rfl)) Try.func204 (h := h_S_hInts) (by kernel_rfl) eq_S_hInts

/-- S_hLabelled -/
def pk_S_hLabelled : List PK := [.data .str, .data (.sl (.int .i64))]
def rk_S_hLabelled : List (Ty × Bool) := [((.int .i64), false)]
def h_S_hLabelled : Hints := { loops := [] }
noncomputable def M_S_hLabelled (x : (ByteArray × (List Int))) : (Option Int) :=
  (bindO (M_S_l3With (x.1, x.2)) (fun (a0 : (List Int)) => (bindO (M_S_hInts a0) (fun (a1 : Int) => (some a1)))))

noncomputable def c_S_hLabelled : Con0 := ⟨pk_S_hLabelled, rk_S_hLabelled, M_S_hLabelled⟩

set_option maxRecDepth 100000 in
theorem eq_S_hLabelled (x : In pk_S_hLabelled) : semF (mkE [(205, c_S_l3With), (204, c_S_hInts)]) h_S_hLabelled (info Try.f171) pk_S_hLabelled rk_S_hLabelled x = M_S_hLabelled x := by kernel_rfl

set_option maxRecDepth 100000 in
theorem m_S_hLabelled : ConOK Try.prog 171 c_S_hLabelled := fn_ok (tyOK _) (E := mkE [(205, c_S_l3With), (204, c_S_hInts)]) (consOK_cons m_S_l3With (consOK_cons m_S_hInts (consOK_nil rfl))) Try.func171 (h := h_S_hLabelled) (by kernel_rfl) eq_S_hLabelled

/-- S_hDerived -/
def pk_S_hDerived : List PK := [.data (.cons (.int .i64) (.cons (.int .i64) (.one (.int .i64)))), .data .str, .data (.int .i64)]
def rk_S_hDerived : List (Ty × Bool) := [((.int .i64), false)]
def h_S_hDerived : Hints := { loops := [(0, { items := [.slot 7 (.data (.int .i64) [])], kill := [0, 4, 5, 6, 8, 9, 10, 11, 12, 13, 14, 15, 16, 17, 18, 19, 20, 21, 22, 23, 24, 25, 26, 27, 28, 29, 30, 31, 32, 33, 34, 35, 36, 37, 38, 39, 40, 41, 42] })] }
noncomputable def M_S_hDerived (x : ((Int × (Int × Int)) × (ByteArray × Int))) : (Option Int) :=
  (loopO (fun (again0 : (Int → (Option Int))) => (fun (s1 : Int) => (cond (decide (s1 < (1000 : Int))) (bindO (M_S_hLabelled (x.2.1, (x.1.1 :: (x.1.2.1 :: (x.1.2.2 :: (x.2.2 :: (s1 :: ([] : List Int)))))))) (fun (a2 : Int) => (bindO (some (IntKind.wrap .i64 (x.1.1 - (1 : Int)))) (fun (a3 : Int) => (bindO (guardO (a3 != (0 : Int))) (fun (a4 : Unit) => (bindO (some (Int.tmod a2 a3)) (fun (a5 : Int) => (bindO (some (IntKind.wrap .i64 ((1 : Int) + a5))) (fun (a6 : Int) => (bindO (some (IntKind.wrap .i64 (x.1.1 - (1 : Int)))) (fun (a7 : Int) => (bindO (guardO (x.1.2.1 != (0 : Int))) (fun (a8 : Unit) => (bindO (some (IntKind.wrap .i64 (Int.tdiv a7 x.1.2.1))) (fun (a9 : Int) => (bindO (M_S_nPower (a6, (a9, x.1.1))) (fun (a10 : Int) => (cond (a10 != (1 : Int)) (some a10) (bindO (some (IntKind.wrap .i64 (s1 + (1 : Int)))) (fun (a11 : Int) => (again0 a11)))))))))))))))))))))) (some (0 : Int))))) (0 : Int))

noncomputable def c_S_hDerived : Con0 := ⟨pk_S_hDerived, rk_S_hDerived, M_S_hDerived⟩

set_option maxRecDepth 100000 in
theorem eq_S_hDerived (x : In pk_S_hDerived) : semF (mkE [(171, c_S_hLabelled), (159, c_S_nPower)]) h_S_hDerived (info Try.f216) pk_S_hDerived rk_S_hDerived x = M_S_hDerived x := by kernel_rfl

set_option maxRecDepth 100000 in
theorem m_S_hDerived : ConOK Try.prog 216 c_S_hDerived := fn_ok (tyOK _) (E := mkE [(171, c_S_hLabelled), (159, c_S_nPower)]) (consOK_cons m_S_hLabelled (consOK_cons m_S_nPower (consOK_nil rfl))) Try.func216 (h := h_S_hDerived) (by kernel_rfl) eq_S_hDerived

/-- S_DeriveElement -/
def pk_S_DeriveElement : List PK := [.data (.cons (.int .i64) (.cons (.int .i64) (.one (.int .i64)))), .data .str, .data (.int .i64)]
def rk_S_DeriveElement : List (Ty × Bool) := [((.int .i64), false), (.bool, false)]
def h_S_DeriveElement : Hints := { loops := [] }
noncomputable def M_S_DeriveElement (x : ((Int × (Int × Int)) × (ByteArray × Int))) : (Option (Int × Bool)) :=
  (bindO (M_S_l2Good (x.1.1, (x.1.2.1, x.1.2.2))) (fun (a0 : Bool) => (cond (not a0) (some ((0 : Int), false)) (cond (decide ((((ByteArray.size x.2.1) : Nat) : Int) > (40 : Int))) (some ((0 : Int), false)) (bindO (M_S_l3Digest x.2.2) (fun (a1 : Bool) => (cond (not a1) (some ((0 : Int), false)) (bindO (M_S_hDerived ((x.1.1, (x.1.2.1, x.1.2.2)), (x.2.1, x.2.2))) (fun (a2 : Int) => (some (a2, (decide (a2 > (0 : Int))))))))))))))

noncomputable def c_S_DeriveElement : Con0 := ⟨pk_S_DeriveElement, rk_S_DeriveElement, M_S_DeriveElement⟩

set_option maxRecDepth 100000 in
theorem eq_S_DeriveElement (x : In pk_S_DeriveElement) : semF (mkE [(87, c_S_l2Good), (215, c_S_l3Digest), (216, c_S_hDerived)]) h_S_DeriveElement (info Try.f208) pk_S_DeriveElement rk_S_DeriveElement x = M_S_DeriveElement x := by kernel_rfl

set_option maxRecDepth 100000 in
theorem m_S_DeriveElement : ConOK Try.prog 208 c_S_DeriveElement := fn_ok (tyOK _) (E := mkE [(87, c_S_l2Good), (215, c_S_l3Digest), (216, c_S_hDerived)]) (consOK_cons m_S_l2Good (consOK_cons m_S_l3Digest (consOK_cons m_S_hDerived (consOK_nil rfl)))) Try.func208 (h := h_S_DeriveElement) (by kernel_rfl) eq_S_DeriveElement

/-- S_DeriveElements -/
def pk_S_DeriveElements : List PK := [.data (.cons (.int .i64) (.cons (.int .i64) (.one (.int .i64)))), .data .str, .data (.int .i64)]
def rk_S_DeriveElements : List (Ty × Bool) := [((.sl (.int .i64)), true), (.bool, false)]
def h_S_DeriveElements : Hints := { loops := [(0, { items := [.slot 8 (.own (.int .i64) true), .slot 9 (.data (.int .i64) [])], kill := [0, 4, 5, 6, 7, 10, 11, 12, 13, 14, 15, 16, 17, 18, 19, 20, 21, 22, 23, 24, 25, 26, 27, 28, 29, 30, 31, 32, 33, 34, 35, 36, 37, 38, 39] })] }
noncomputable def M_S_DeriveElements (x : ((Int × (Int × Int)) × (ByteArray × Int))) : (Option ((List Int) × Bool)) :=
  (bindO (M_S_l2Good (x.1.1, (x.1.2.1, x.1.2.2))) (fun (a0 : Bool) => (cond (not a0) (some (([] : List Int), false)) (cond (decide ((((ByteArray.size x.2.1) : Nat) : Int) > (40 : Int))) (some (([] : List Int), false)) (bindO (M_S_l1In (x.2.2, ((0 : Int), (100 : Int)))) (fun (a1 : Bool) => (cond (not a1) (some (([] : List Int), false)) (loopO (fun (again2 : (((List Int) × Int) → (Option ((List Int) × Bool)))) => (fun (s3 : ((List Int) × Int)) => (cond (decide (s3.2 < x.2.2)) (bindO (M_S_hDerived ((x.1.1, (x.1.2.1, x.1.2.2)), (x.2.1, s3.2))) (fun (a4 : Int) => (cond (a4 == (0 : Int)) (some (([] : List Int), false)) (bindO (guardO (lenOk ((List.length s3.1) + (List.length (a4 :: ([] : List Int)))))) (fun (a5 : Unit) => (bindO (some (s3.1 ++ (a4 :: ([] : List Int)))) (fun (a6 : (List Int)) => (bindO (some (IntKind.wrap .i64 (s3.2 + (1 : Int)))) (fun (a7 : Int) => (again2 (a6, a7))))))))))) (some (s3.1, true))))) (([] : List Int), (0 : Int))))))))))

noncomputable def c_S_DeriveElements : Con0 := ⟨pk_S_DeriveElements, rk_S_DeriveElements, M_S_DeriveElements⟩

set_option maxRecDepth 100000 in
theorem eq_S_DeriveElements (x : In pk_S_DeriveElements) : semF (mkE [(87, c_S_l2Good), (79, c_S_l1In), (216, c_S_hDerived)]) h_S_DeriveElements (info Try.f209) pk_S_DeriveElements rk_S_DeriveElements x = M_S_DeriveElements x := by kernel_rfl

set_option maxRecDepth 100000 in
theorem m_S_DeriveElements : ConOK Try.prog 209 c_S_DeriveElements := fn_ok (tyOK _) (E := mkE [(87, c_S_l2Good), (79, c_S_l1In), (216, c_S_hDerived)]) (consOK_cons m_S_l2Good (consOK_cons m_S_l1In (consOK_cons m_S_hDerived (consOK_nil rfl)))) Try.func209 (h := h_S_DeriveElements) (by kernel_rfl) eq_S_DeriveElements

/-- S_BasesOf -/
def pk_S_BasesOf : List PK := [.data (.cons (.int .i64) (.cons (.int .i64) (.one (.int .i64)))), .data (.int .i64)]
def rk_S_BasesOf : List (Ty × Bool) := [((.cons (.int .i64) (.one (.sl (.int .i64)))), true), (.bool, false)]
def h_S_BasesOf : Hints := { loops := [] }
noncomputable def M_S_BasesOf (x : ((Int × (Int × Int)) × Int)) : (Option ((Int × (List Int)) × Bool)) :=
  (bindO (M_S_l2Good (x.1.1, (x.1.2.1, x.1.2.2))) (fun (a0 : Bool) => (cond (not a0) (some (((0 : Int), ([] : List Int)), false)) (bindO (M_S_l1In (x.2, ((0 : Int), (24 : Int)))) (fun (a1 : Bool) => (cond (not a1) (some (((0 : Int), ([] : List Int)), false)) (bindO (M_S_DeriveElement ((x.1.1, (x.1.2.1, x.1.2.2)), ((bytesOf [104]), (0 : Int)))) (fun (a2 : (Int × Bool)) => (bindO (M_S_DeriveElements ((x.1.1, (x.1.2.1, x.1.2.2)), ((bytesOf [104, 115]), x.2))) (fun (a3 : ((List Int) × Bool)) => (cond (not a2.2) (some (((0 : Int), ([] : List Int)), false)) (cond (not a3.2) (some (((0 : Int), ([] : List Int)), false)) (some ((a2.1, a3.1), true))))))))))))))

noncomputable def c_S_BasesOf : Con0 := ⟨pk_S_BasesOf, rk_S_BasesOf, M_S_BasesOf⟩

set_option maxRecDepth 100000 in
theorem eq_S_BasesOf (x : In pk_S_BasesOf) : semF (mkE [(87, c_S_l2Good), (79, c_S_l1In), (208, c_S_DeriveElement), (209, c_S_DeriveElements)]) h_S_BasesOf (info Try.f184) pk_S_BasesOf rk_S_BasesOf x = M_S_BasesOf x := by kernel_rfl

set_option maxRecDepth 100000 in
theorem m_S_BasesOf : ConOK Try.prog 184 c_S_BasesOf := fn_ok (tyOK _) (E := mkE [(87, c_S_l2Good), (79, c_S_l1In), (208, c_S_DeriveElement), (209, c_S_DeriveElements)]) (consOK_cons m_S_l2Good (consOK_cons m_S_l1In (consOK_cons m_S_DeriveElement (consOK_cons m_S_DeriveElements (consOK_nil rfl))))) Try.func184 (h := h_S_BasesOf) (by kernel_rfl) eq_S_BasesOf

/-- S_vBase -/
def pk_S_vBase : List PK := [.data (.cons (.int .i64) (.cons (.int .i64) (.one (.int .i64))))]
def rk_S_vBase : List (Ty × Bool) := [((.int .i64), false), (.bool, false)]
def h_S_vBase : Hints := { loops := [] }
noncomputable def M_S_vBase (x : (Int × (Int × Int))) : (Option (Int × Bool)) :=
  (bindO (M_S_BasesOf ((x.1, (x.2.1, x.2.2)), (0 : Int))) (fun (a0 : ((Int × (List Int)) × Bool)) => (some (a0.1.1, a0.2))))

noncomputable def c_S_vBase : Con0 := ⟨pk_S_vBase, rk_S_vBase, M_S_vBase⟩

set_option maxRecDepth 100000 in
theorem eq_S_vBase (x : In pk_S_vBase) : semF (mkE [(184, c_S_BasesOf)]) h_S_vBase (info Try.f139) pk_S_vBase rk_S_vBase x = M_S_vBase x := by kernel_rfl

set_option maxRecDepth 100000 in
theorem m_S_vBase : ConOK Try.prog 139 c_S_vBase := fn_ok (tyOK _) (E := mkE [(184, c_S_BasesOf)]) (consOK_cons m_S_BasesOf (consOK_nil rfl)) Try.func139 (h := h_S_vBase) (by kernel_rfl) eq_S_vBase

/-- S_l1All -/
def pk_S_l1All : List PK := [.data (.sl (.int .i64)), .data (.int .i64), .data (.int .i64)]
def rk_S_l1All : List (Ty × Bool) := [(.bool, false)]
def h_S_l1All : Hints := { loops := [(0, { items := [.slot 11 (.data (.int .i64) [])], kill := [0, 3, 4, 5, 6, 7, 8, 12, 13, 14, 15, 16, 17, 18, 19, 20] })] }
noncomputable def M_S_l1All (x : ((List Int) × (Int × Int))) : (Option Bool) :=
  (loopO (fun (again0 : (Int → (Option Bool))) => (fun (s1 : Int) => (cond (decide (s1 < (((List.length x.1) : Nat) : Int))) (bindO (getI x.1 s1) (fun (a2 : Int) => (bindO (M_S_l1In (a2, (x.2.1, x.2.2))) (fun (a3 : Bool) => (cond (not a3) (some false) (bindO (some (IntKind.wrap .i64 (s1 + (1 : Int)))) (fun (a4 : Int) => (again0 a4)))))))) (some true)))) (0 : Int))

noncomputable def c_S_l1All : Con0 := ⟨pk_S_l1All, rk_S_l1All, M_S_l1All⟩

set_option maxRecDepth 100000 in
theorem eq_S_l1All (x : In pk_S_l1All) : semF (mkE [(79, c_S_l1In)]) h_S_l1All (info Try.f145) pk_S_l1All rk_S_l1All x = M_S_l1All x := by kernel_rfl

set_option maxRecDepth 100000 in
theorem m_S_l1All : ConOK Try.prog 145 c_S_l1All := fn_ok (tyOK _) (E := mkE [(79, c_S_l1In)]) (consOK_cons m_S_l1In (consOK_nil rfl)) Try.func145 (h := h_S_l1All) (by kernel_rfl) eq_S_l1All

/-- S_l1Has -/
def pk_S_l1Has : List PK := [.data (.sl (.int .i64)), .data (.int .i64)]
def rk_S_l1Has : List (Ty × Bool) := [(.bool, false)]
def h_S_l1Has : Hints := { loops := [(0, { items := [.slot 9 (.data (.int .i64) [])], kill := [0, 2, 3, 4, 5, 6, 10, 11, 12, 13, 14, 15, 16] })] }
noncomputable def M_S_l1Has (x : ((List Int) × Int)) : (Option Bool) :=
  (loopO (fun (again0 : (Int → (Option Bool))) => (fun (s1 : Int) => (cond (decide (s1 < (((List.length x.1) : Nat) : Int))) (bindO (getI x.1 s1) (fun (a2 : Int) => (cond (a2 == x.2) (some true) (bindO (some (IntKind.wrap .i64 (s1 + (1 : Int)))) (fun (a3 : Int) => (again0 a3)))))) (some false)))) (0 : Int))

noncomputable def c_S_l1Has : Con0 := ⟨pk_S_l1Has, rk_S_l1Has, M_S_l1Has⟩

set_option maxRecDepth 100000 in
theorem eq_S_l1Has (x : In pk_S_l1Has) : semF (mkE []) h_S_l1Has (info Try.f154) pk_S_l1Has rk_S_l1Has x = M_S_l1Has x := by kernel_rfl

set_option maxRecDepth 100000 in
theorem m_S_l1Has : ConOK Try.prog 154 c_S_l1Has := fn_ok (tyOK _) (E := mkE []) (consOK_nil rfl) Try.func154 (h := h_S_l1Has) (by kernel_rfl) eq_S_l1Has

/-- S_yPoints -/
def pk_S_yPoints : List PK := [.data (.sl (.int .i64))]
def rk_S_yPoints : List (Ty × Bool) := [(.bool, false)]
def h_S_yPoints : Hints := { loops := [(0, { items := [.slot 7 (.data (.int .i64) [])], kill := [1, 2, 3, 4, 8, 9, 10, 11, 12, 13, 14, 15, 16, 17] })] }
noncomputable def M_S_yPoints (x : (List Int)) : (Option Bool) :=
  (loopO (fun (again0 : (Int → (Option Bool))) => (fun (s1 : Int) => (cond (decide (s1 < (((List.length x) : Nat) : Int))) (bindO (getI x s1) (fun (a2 : Int) => (bindO (sliceNH s1 (List.length x)) (fun (a3 : (Nat × Nat)) => (bindO (M_S_l1Has ((List.drop a3.1 (List.take a3.2 x)), a2)) (fun (a4 : Bool) => (cond a4 (some false) (bindO (some (IntKind.wrap .i64 (s1 + (1 : Int)))) (fun (a5 : Int) => (again0 a5)))))))))) (some true)))) (0 : Int))

noncomputable def c_S_yPoints : Con0 := ⟨pk_S_yPoints, rk_S_yPoints, M_S_yPoints⟩

set_option maxRecDepth 100000 in
theorem eq_S_yPoints (x : In pk_S_yPoints) : semF (mkE [(154, c_S_l1Has)]) h_S_yPoints (info Try.f185) pk_S_yPoints rk_S_yPoints x = M_S_yPoints x := by kernel_rfl

set_option maxRecDepth 100000 in
theorem m_S_yPoints : ConOK Try.prog 185 c_S_yPoints := fn_ok (tyOK _) (E := mkE [(154, c_S_l1Has)]) (consOK_cons m_S_l1Has (consOK_nil rfl)) Try.func185 (h := h_S_yPoints) (by kernel_rfl) eq_S_yPoints

/-- S_mPerm -/
def pk_S_mPerm : List PK := [.data (.sl (.int .i64)), .data (.int .i64)]
def rk_S_mPerm : List (Ty × Bool) := [(.bool, false)]
def h_S_mPerm : Hints := { loops := [] }
noncomputable def M_S_mPerm (x : ((List Int) × Int)) : (Option Bool) :=
  (cond ((((List.length x.1) : Nat) : Int) == x.2) (bindO (some (IntKind.wrap .i64 (x.2 - (1 : Int)))) (fun (a0 : Int) => (bindO (M_S_l1All (x.1, ((0 : Int), a0))) (fun (a1 : Bool) => (cond a1 (bindO (M_S_yPoints x.1) (fun (a2 : Bool) => (some a2))) (some false)))))) (some false))

noncomputable def c_S_mPerm : Con0 := ⟨pk_S_mPerm, rk_S_mPerm, M_S_mPerm⟩

set_option maxRecDepth 100000 in
theorem eq_S_mPerm (x : In pk_S_mPerm) : semF (mkE [(145, c_S_l1All), (185, c_S_yPoints)]) h_S_mPerm (info Try.f140) pk_S_mPerm rk_S_mPerm x = M_S_mPerm x := by kernel_rfl

set_option maxRecDepth 100000 in
theorem m_S_mPerm : ConOK Try.prog 140 c_S_mPerm := fn_ok (tyOK _) (E := mkE [(145, c_S_l1All), (185, c_S_yPoints)]) (consOK_cons m_S_l1All (consOK_cons m_S_yPoints (consOK_nil rfl))) Try.func140 (h := h_S_mPerm) (by kernel_rfl) eq_S_mPerm

/-- S_gExps -/
def pk_S_gExps : List PK := [.data (.cons (.int .i64) (.cons (.int .i64) (.one (.int .i64)))), .data (.sl (.int .i64))]
def rk_S_gExps : List (Ty × Bool) := [(.bool, false)]
def h_S_gExps : Hints := { loops := [] }
noncomputable def M_S_gExps (x : ((Int × (Int × Int)) × (List Int))) : (Option Bool) :=
  (bindO (some (IntKind.wrap .i64 (x.1.2.1 - (1 : Int)))) (fun (a0 : Int) => (bindO (M_S_l1All (x.2, ((0 : Int), a0))) (fun (a1 : Bool) => (some a1)))))

noncomputable def c_S_gExps : Con0 := ⟨pk_S_gExps, rk_S_gExps, M_S_gExps⟩

set_option maxRecDepth 100000 in
theorem eq_S_gExps (x : In pk_S_gExps) : semF (mkE [(145, c_S_l1All)]) h_S_gExps (info Try.f104) pk_S_gExps rk_S_gExps x = M_S_gExps x := by kernel_rfl

set_option maxRecDepth 100000 in
theorem m_S_gExps : ConOK Try.prog 104 c_S_gExps := fn_ok (tyOK _) (E := mkE [(145, c_S_l1All)]) (consOK_cons m_S_l1All (consOK_nil rfl)) Try.func104 (h := h_S_gExps) (by kernel_rfl) eq_S_gExps

/-- S_nMod -/
def pk_S_nMod : List PK := [.data (.int .i64), .data (.int .i64)]
def rk_S_nMod : List (Ty × Bool) := [((.int .i64), false)]
def h_S_nMod : Hints := { loops := [] }
noncomputable def M_S_nMod (x : (Int × Int)) : (Option Int) :=
  (bindO (guardO (x.2 != (0 : Int))) (fun (a0 : Unit) => (bindO (some (Int.tmod x.1 x.2)) (fun (a1 : Int) => (bindO (some (IntKind.wrap .i64 (a1 + x.2))) (fun (a2 : Int) => (bindO (guardO (x.2 != (0 : Int))) (fun (a3 : Unit) => (bindO (some (Int.tmod a2 x.2)) (fun (a4 : Int) => (some a4)))))))))))

noncomputable def c_S_nMod : Con0 := ⟨pk_S_nMod, rk_S_nMod, M_S_nMod⟩

set_option maxRecDepth 100000 in
theorem eq_S_nMod (x : In pk_S_nMod) : semF (mkE []) h_S_nMod (info Try.f178) pk_S_nMod rk_S_nMod x = M_S_nMod x := by kernel_rfl

set_option maxRecDepth 100000 in
theorem m_S_nMod : ConOK Try.prog 178 c_S_nMod := fn_ok (tyOK _) (E := mkE []) (consOK_nil rfl) Try.func178 (h := h_S_nMod) (by kernel_rfl) eq_S_nMod

/-- S_gExp -/
def pk_S_gExp : List PK := [.data (.cons (.int .i64) (.cons (.int .i64) (.one (.int .i64)))), .data (.int .i64), .data (.int .i64)]
def rk_S_gExp : List (Ty × Bool) := [((.int .i64), false)]
def h_S_gExp : Hints := { loops := [] }
noncomputable def M_S_gExp (x : ((Int × (Int × Int)) × (Int × Int))) : (Option Int) :=
  (bindO (M_S_nMod (x.2.2, x.1.2.1)) (fun (a0 : Int) => (bindO (M_S_nPower (x.2.1, (a0, x.1.1))) (fun (a1 : Int) => (some a1)))))

noncomputable def c_S_gExp : Con0 := ⟨pk_S_gExp, rk_S_gExp, M_S_gExp⟩

set_option maxRecDepth 100000 in
theorem eq_S_gExp (x : In pk_S_gExp) : semF (mkE [(178, c_S_nMod), (159, c_S_nPower)]) h_S_gExp (info Try.f107) pk_S_gExp rk_S_gExp x = M_S_gExp x := by kernel_rfl

set_option maxRecDepth 100000 in
theorem m_S_gExp : ConOK Try.prog 107 c_S_gExp := fn_ok (tyOK _) (E := mkE [(178, c_S_nMod), (159, c_S_nPower)]) (consOK_cons m_S_nMod (consOK_cons m_S_nPower (consOK_nil rfl))) Try.func107 (h := h_S_gExp) (by kernel_rfl) eq_S_gExp

/-- S_gMul -/
def pk_S_gMul : List PK := [.data (.cons (.int .i64) (.cons (.int .i64) (.one (.int .i64)))), .data (.sl (.int .i64))]
def rk_S_gMul : List (Ty × Bool) := [((.int .i64), false)]
def h_S_gMul : Hints := { loops := [(0, { items := [.slot 5 (.data (.int .i64) []), .slot 10 (.data (.int .i64) [])], kill := [0, 1, 3, 4, 6, 7, 11, 12, 13, 14, 15, 16, 17, 18, 19, 20, 21] })] }
noncomputable def M_S_gMul (x : ((Int × (Int × Int)) × (List Int))) : (Option Int) :=
  (loopO (fun (again0 : ((Int × Int) → (Option Int))) => (fun (s1 : (Int × Int)) => (cond (decide (s1.2 < (((List.length x.2) : Nat) : Int))) (bindO (getI x.2 s1.2) (fun (a2 : Int) => (bindO (some (IntKind.wrap .i64 (s1.1 * a2))) (fun (a3 : Int) => (bindO (guardO (x.1.1 != (0 : Int))) (fun (a4 : Unit) => (bindO (some (Int.tmod a3 x.1.1)) (fun (a5 : Int) => (bindO (some (IntKind.wrap .i64 (s1.2 + (1 : Int)))) (fun (a6 : Int) => (again0 (a5, a6)))))))))))) (some s1.1)))) ((1 : Int), (0 : Int)))

noncomputable def c_S_gMul : Con0 := ⟨pk_S_gMul, rk_S_gMul, M_S_gMul⟩

set_option maxRecDepth 100000 in
theorem eq_S_gMul (x : In pk_S_gMul) : semF (mkE []) h_S_gMul (info Try.f106) pk_S_gMul rk_S_gMul x = M_S_gMul x := by kernel_rfl

set_option maxRecDepth 100000 in
theorem m_S_gMul : ConOK Try.prog 106 c_S_gMul := fn_ok (tyOK _) (E := mkE []) (consOK_nil rfl) Try.func106 (h := h_S_gMul) (by kernel_rfl) eq_S_gMul

/-- S_vC -/
def pk_S_vC : List PK := [.data (.cons (.int .i64) (.cons (.int .i64) (.one (.int .i64)))), .data (.int .i64), .data (.int .i64), .data (.int .i64)]
def rk_S_vC : List (Ty × Bool) := [((.int .i64), false)]
def h_S_vC : Hints := { loops := [] }
noncomputable def M_S_vC (x : ((Int × (Int × Int)) × (Int × (Int × Int)))) : (Option Int) :=
  (bindO (M_S_gExp ((x.1.1, (x.1.2.1, x.1.2.2)), (x.1.2.2, x.2.2.1))) (fun (a0 : Int) => (bindO (M_S_gExp ((x.1.1, (x.1.2.1, x.1.2.2)), (x.2.1, x.2.2.2))) (fun (a1 : Int) => (bindO (M_S_gMul ((x.1.1, (x.1.2.1, x.1.2.2)), (a0 :: (a1 :: ([] : List Int))))) (fun (a2 : Int) => (some a2)))))))

noncomputable def c_S_vC : Con0 := ⟨pk_S_vC, rk_S_vC, M_S_vC⟩

set_option maxRecDepth 100000 in
theorem eq_S_vC (x : In pk_S_vC) : semF (mkE [(107, c_S_gExp), (106, c_S_gMul)]) h_S_vC (info Try.f186) pk_S_vC rk_S_vC x = M_S_vC x := by kernel_rfl

set_option maxRecDepth 100000 in
theorem m_S_vC : ConOK Try.prog 186 c_S_vC := fn_ok (tyOK _) (E := mkE [(107, c_S_gExp), (106, c_S_gMul)]) (consOK_cons m_S_gExp (consOK_cons m_S_gMul (consOK_nil rfl))) Try.func186 (h := h_S_vC) (by kernel_rfl) eq_S_vC

/-- S_vPlaces -/
def pk_S_vPlaces : List PK := [.data (.cons (.int .i64) (.cons (.int .i64) (.one (.int .i64)))), .data (.int .i64), .data (.sl (.int .i64)), .data (.sl (.int .i64))]
def rk_S_vPlaces : List (Ty × Bool) := [((.sl (.int .i64)), true)]
def h_S_vPlaces : Hints := { loops := [(0, { items := [.slot 9 (.own (.int .i64) true), .slot 14 (.data (.int .i64) [])], kill := [0, 2, 5, 6, 7, 8, 10, 11, 15, 16, 17, 18, 19, 20, 21, 22, 23, 24, 25, 26, 27, 28, 29, 30, 31, 32] })] }
noncomputable def M_S_vPlaces (x : ((Int × (Int × Int)) × (Int × ((List Int) × (List Int))))) : (Option (List Int)) :=
  (loopO (fun (again0 : (((List Int) × Int) → (Option (List Int)))) => (fun (s1 : ((List Int) × Int)) => (cond (decide (s1.2 < (((List.length x.2.2.1) : Nat) : Int))) (bindO (getI x.2.2.1 s1.2) (fun (a2 : Int) => (bindO (some (IntKind.wrap .i64 (a2 + (1 : Int)))) (fun (a3 : Int) => (bindO (getI x.2.2.2 s1.2) (fun (a4 : Int) => (bindO (M_S_vC ((x.1.1, (x.1.2.1, x.1.2.2)), (x.2.1, (a3, a4)))) (fun (a5 : Int) => (bindO (guardO (lenOk ((List.length s1.1) + (List.length (a5 :: ([] : List Int)))))) (fun (a6 : Unit) => (bindO (some (s1.1 ++ (a5 :: ([] : List Int)))) (fun (a7 : (List Int)) => (bindO (some (IntKind.wrap .i64 (s1.2 + (1 : Int)))) (fun (a8 : Int) => (again0 (a7, a8)))))))))))))))) (some s1.1)))) (([] : List Int), (0 : Int)))

noncomputable def c_S_vPlaces : Con0 := ⟨pk_S_vPlaces, rk_S_vPlaces, M_S_vPlaces⟩

set_option maxRecDepth 100000 in
theorem eq_S_vPlaces (x : In pk_S_vPlaces) : semF (mkE [(186, c_S_vC)]) h_S_vPlaces (info Try.f141) pk_S_vPlaces rk_S_vPlaces x = M_S_vPlaces x := by kernel_rfl

set_option maxRecDepth 100000 in
theorem m_S_vPlaces : ConOK Try.prog 141 c_S_vPlaces := fn_ok (tyOK _) (E := mkE [(186, c_S_vC)]) (consOK_cons m_S_vC (consOK_nil rfl)) Try.func141 (h := h_S_vPlaces) (by kernel_rfl) eq_S_vPlaces

/-- S_PlaceCommits -/
def pk_S_PlaceCommits : List PK := [.data (.cons (.int .i64) (.cons (.int .i64) (.one (.int .i64)))), .data (.sl (.int .i64)), .data (.sl (.int .i64))]
def rk_S_PlaceCommits : List (Ty × Bool) := [((.sl (.int .i64)), true), (.bool, false)]
def h_S_PlaceCommits : Hints := { loops := [] }
noncomputable def M_S_PlaceCommits (x : ((Int × (Int × Int)) × ((List Int) × (List Int)))) : (Option ((List Int) × Bool)) :=
  (bindO (M_S_vBase (x.1.1, (x.1.2.1, x.1.2.2))) (fun (a0 : (Int × Bool)) => (cond (not a0.2) (some (([] : List Int), false)) (bindO (M_S_l1In ((((List.length x.2.1) : Nat) : Int), ((1 : Int), (12 : Int)))) (fun (a1 : Bool) => (cond (not a1) (some (([] : List Int), false)) (bindO (M_S_mPerm (x.2.1, (((List.length x.2.1) : Nat) : Int))) (fun (a2 : Bool) => (cond (not a2) (some (([] : List Int), false)) (cond ((((List.length x.2.2) : Nat) : Int) != (((List.length x.2.1) : Nat) : Int)) (some (([] : List Int), false)) (bindO (M_S_gExps ((x.1.1, (x.1.2.1, x.1.2.2)), x.2.2)) (fun (a3 : Bool) => (cond (not a3) (some (([] : List Int), false)) (bindO (M_S_vPlaces ((x.1.1, (x.1.2.1, x.1.2.2)), (a0.1, (x.2.1, x.2.2)))) (fun (a4 : (List Int)) => (some (a4, true)))))))))))))))))

noncomputable def c_S_PlaceCommits : Con0 := ⟨pk_S_PlaceCommits, rk_S_PlaceCommits, M_S_PlaceCommits⟩

set_option maxRecDepth 100000 in
theorem eq_S_PlaceCommits (x : In pk_S_PlaceCommits) : semF (mkE [(139, c_S_vBase), (79, c_S_l1In), (140, c_S_mPerm), (104, c_S_gExps), (141, c_S_vPlaces)]) h_S_PlaceCommits (info Try.f68) pk_S_PlaceCommits rk_S_PlaceCommits x = M_S_PlaceCommits x := by kernel_rfl

set_option maxRecDepth 100000 in
theorem m_S_PlaceCommits : ConOK Try.prog 68 c_S_PlaceCommits := fn_ok (tyOK _) (E := mkE [(139, c_S_vBase), (79, c_S_l1In), (140, c_S_mPerm), (104, c_S_gExps), (141, c_S_vPlaces)]) (consOK_cons m_S_vBase (consOK_cons m_S_l1In (consOK_cons m_S_mPerm (consOK_cons m_S_gExps (consOK_cons m_S_vPlaces (consOK_nil rfl)))))) Try.func68 (h := h_S_PlaceCommits) (by kernel_rfl) eq_S_PlaceCommits

/-- I_within -/
def pk_I_within : List PK := [.data (.int .i64), .data (.int .i64), .data (.int .i64)]
def rk_I_within : List (Ty × Bool) := [(.bool, false)]
def h_I_within : Hints := { loops := [] }
noncomputable def M_I_within (x : (Int × (Int × Int))) : (Option Bool) :=
  (cond (decide (x.1 ≥ x.2.1)) (some (decide (x.1 ≤ x.2.2))) (some false))

noncomputable def c_I_within : Con0 := ⟨pk_I_within, rk_I_within, M_I_within⟩

set_option maxRecDepth 100000 in
theorem eq_I_within (x : In pk_I_within) : semF (mkE []) h_I_within (info Try.f82) pk_I_within rk_I_within x = M_I_within x := by kernel_rfl

set_option maxRecDepth 100000 in
theorem m_I_within : ConOK Try.prog 82 c_I_within := fn_ok (tyOK _) (E := mkE []) (consOK_nil rfl) Try.func82 (h := h_I_within) (by kernel_rfl) eq_I_within

/-- I_isModulus -/
def pk_I_isModulus : List PK := [.data (.int .i64)]
def rk_I_isModulus : List (Ty × Bool) := [(.bool, false)]
def h_I_isModulus : Hints := { loops := [] }
noncomputable def M_I_isModulus (x : Int) : (Option Bool) :=
  (bindO (M_I_within (x, ((2 : Int), (2000000000 : Int)))) (fun (a0 : Bool) => (some a0)))

noncomputable def c_I_isModulus : Con0 := ⟨pk_I_isModulus, rk_I_isModulus, M_I_isModulus⟩

set_option maxRecDepth 100000 in
theorem eq_I_isModulus (x : In pk_I_isModulus) : semF (mkE [(82, c_I_within)]) h_I_isModulus (info Try.f199) pk_I_isModulus rk_I_isModulus x = M_I_isModulus x := by kernel_rfl

set_option maxRecDepth 100000 in
theorem m_I_isModulus : ConOK Try.prog 199 c_I_isModulus := fn_ok (tyOK _) (E := mkE [(82, c_I_within)]) (consOK_cons m_I_within (consOK_nil rfl)) Try.func199 (h := h_I_isModulus) (by kernel_rfl) eq_I_isModulus

/-- I_isPrime -/
def pk_I_isPrime : List PK := [.data (.int .i64)]
def rk_I_isPrime : List (Ty × Bool) := [(.bool, false)]
def h_I_isPrime : Hints := { loops := [(0, { items := [.slot 3 (.data (.int .i64) [])], kill := [1, 2, 4, 5, 6, 7, 8, 9, 10, 11, 12, 13, 14, 15, 16, 17, 18, 19, 20, 21, 22, 23, 24, 25, 26] })] }
noncomputable def M_I_isPrime (x : Int) : (Option Bool) :=
  (bindO (M_I_isModulus x) (fun (a0 : Bool) => (cond (not a0) (some false) (bindO (guardO ((2 : Int) != (0 : Int))) (fun (a1 : Unit) => (bindO (some (Int.tmod x (2 : Int))) (fun (a2 : Int) => (cond (a2 == (0 : Int)) (cond (x != (2 : Int)) (some false) (loopO (fun (again3 : (Int → (Option Bool))) => (fun (s4 : Int) => (bindO (some (IntKind.wrap .i64 (s4 * s4))) (fun (a5 : Int) => (cond (decide (a5 ≤ x)) (bindO (guardO (s4 != (0 : Int))) (fun (a6 : Unit) => (bindO (some (Int.tmod x s4)) (fun (a7 : Int) => (cond (a7 == (0 : Int)) (some false) (bindO (some (IntKind.wrap .i64 (s4 + (2 : Int)))) (fun (a8 : Int) => (again3 a8)))))))) (some true)))))) (3 : Int))) (loopO (fun (again9 : (Int → (Option Bool))) => (fun (s10 : Int) => (bindO (some (IntKind.wrap .i64 (s10 * s10))) (fun (a11 : Int) => (cond (decide (a11 ≤ x)) (bindO (guardO (s10 != (0 : Int))) (fun (a12 : Unit) => (bindO (some (Int.tmod x s10)) (fun (a13 : Int) => (cond (a13 == (0 : Int)) (some false) (bindO (some (IntKind.wrap .i64 (s10 + (2 : Int)))) (fun (a14 : Int) => (again9 a14)))))))) (some true)))))) (3 : Int))))))))))

noncomputable def c_I_isPrime : Con0 := ⟨pk_I_isPrime, rk_I_isPrime, M_I_isPrime⟩

set_option maxRecDepth 100000 in
theorem eq_I_isPrime (x : In pk_I_isPrime) : semF (mkE [(199, c_I_isModulus)]) h_I_isPrime (info Try.f162) pk_I_isPrime rk_I_isPrime x = M_I_isPrime x := by kernel_rfl

set_option maxRecDepth 100000 in
theorem m_I_isPrime : ConOK Try.prog 162 c_I_isPrime := fn_ok (tyOK _) (E := mkE [(199, c_I_isModulus)]) (consOK_cons m_I_isModulus (consOK_nil rfl)) Try.func162 (h := h_I_isPrime) (by kernel_rfl) eq_I_isPrime

/-- I_power -/
def pk_I_power : List PK := [.data (.int .i64), .data (.int .i64), .data (.int .i64)]
def rk_I_power : List (Ty × Bool) := [((.int .i64), false)]
def h_I_power : Hints := { loops := [(0, { items := [.slot 0 (.data (.int .i64) []), .slot 1 (.data (.int .i64) []), .slot 7 (.data (.int .i64) [])], kill := [3, 4, 5, 6, 8, 9, 10, 11, 12, 13, 14, 15, 16, 17, 18, 19, 20, 21, 22, 23, 24, 25, 26, 27] })] }
noncomputable def M_I_power (x : (Int × (Int × Int))) : (Option Int) :=
  (bindO (guardO (x.2.2 != (0 : Int))) (fun (a0 : Unit) => (bindO (some (Int.tmod (1 : Int) x.2.2)) (fun (a1 : Int) => (loopO (fun (again2 : ((Int × (Int × Int)) → (Option Int))) => (fun (s3 : (Int × (Int × Int))) => (cond (decide (s3.2.1 > (0 : Int))) (bindO (some (bits .and .i64 s3.2.1 (1 : Int))) (fun (a4 : Int) => (cond (a4 == (1 : Int)) (bindO (some (IntKind.wrap .i64 (s3.2.2 * s3.1))) (fun (a5 : Int) => (bindO (guardO (x.2.2 != (0 : Int))) (fun (a6 : Unit) => (bindO (some (Int.tmod a5 x.2.2)) (fun (a7 : Int) => (bindO (some (IntKind.wrap .i64 (s3.1 * s3.1))) (fun (a8 : Int) => (bindO (guardO (x.2.2 != (0 : Int))) (fun (a9 : Unit) => (bindO (some (Int.tmod a8 x.2.2)) (fun (a10 : Int) => (bindO (guardO (decide ((0 : Int) ≤ (1 : Int)))) (fun (a11 : Unit) => (bindO (some (shr .i64 s3.2.1 (1 : Int))) (fun (a12 : Int) => (again2 (a10, (a12, a7))))))))))))))))))) (bindO (some (IntKind.wrap .i64 (s3.1 * s3.1))) (fun (a13 : Int) => (bindO (guardO (x.2.2 != (0 : Int))) (fun (a14 : Unit) => (bindO (some (Int.tmod a13 x.2.2)) (fun (a15 : Int) => (bindO (guardO (decide ((0 : Int) ≤ (1 : Int)))) (fun (a16 : Unit) => (bindO (some (shr .i64 s3.2.1 (1 : Int))) (fun (a17 : Int) => (again2 (a15, (a17, s3.2.2)))))))))))))))) (some s3.2.2)))) (x.1, (x.2.1, a1)))))))

noncomputable def c_I_power : Con0 := ⟨pk_I_power, rk_I_power, M_I_power⟩

set_option maxRecDepth 100000 in
theorem eq_I_power (x : In pk_I_power) : semF (mkE []) h_I_power (info Try.f163) pk_I_power rk_I_power x = M_I_power x := by kernel_rfl

set_option maxRecDepth 100000 in
theorem m_I_power : ConOK Try.prog 163 c_I_power := fn_ok (tyOK _) (E := mkE []) (consOK_nil rfl) Try.func163 (h := h_I_power) (by kernel_rfl) eq_I_power

/-- I_IsValidGroup -/
def pk_I_IsValidGroup : List PK := [.data (.cons (.int .i64) (.cons (.int .i64) (.one (.int .i64))))]
def rk_I_IsValidGroup : List (Ty × Bool) := [(.bool, false)]
def h_I_IsValidGroup : Hints := { loops := [] }
noncomputable def M_I_IsValidGroup (x : (Int × (Int × Int))) : (Option Bool) :=
  (bindO (M_I_within (x.1, ((3 : Int), (2000000000 : Int)))) (fun (a0 : Bool) => (cond a0 (bindO (some (IntKind.wrap .i64 (x.1 - (1 : Int)))) (fun (a1 : Int) => (bindO (M_I_within (x.2.1, ((2 : Int), a1))) (fun (a2 : Bool) => (cond a2 (bindO (some (IntKind.wrap .i64 (x.1 - (1 : Int)))) (fun (a3 : Int) => (bindO (guardO (x.2.1 != (0 : Int))) (fun (a4 : Unit) => (bindO (some (Int.tmod a3 x.2.1)) (fun (a5 : Int) => (cond (a5 == (0 : Int)) (bindO (some (IntKind.wrap .i64 (x.1 - (1 : Int)))) (fun (a6 : Int) => (bindO (M_I_within (x.2.2, ((2 : Int), a6))) (fun (a7 : Bool) => (cond a7 (bindO (M_I_isPrime x.1) (fun (a8 : Bool) => (cond a8 (bindO (M_I_isPrime x.2.1) (fun (a9 : Bool) => (cond a9 (bindO (M_I_power (x.2.2, (x.2.1, x.1))) (fun (a10 : Int) => (some (a10 == (1 : Int))))) (some false)))) (some false)))) (some false)))))) (some false)))))))) (some false)))))) (some false))))

noncomputable def c_I_IsValidGroup : Con0 := ⟨pk_I_IsValidGroup, rk_I_IsValidGroup, M_I_IsValidGroup⟩

set_option maxRecDepth 100000 in
theorem eq_I_IsValidGroup (x : In pk_I_IsValidGroup) : semF (mkE [(82, c_I_within), (162, c_I_isPrime), (163, c_I_power)]) h_I_IsValidGroup (info Try.f90) pk_I_IsValidGroup rk_I_IsValidGroup x = M_I_IsValidGroup x := by kernel_rfl

set_option maxRecDepth 100000 in
theorem m_I_IsValidGroup : ConOK Try.prog 90 c_I_IsValidGroup := fn_ok (tyOK _) (E := mkE [(82, c_I_within), (162, c_I_isPrime), (163, c_I_power)]) (consOK_cons m_I_within (consOK_cons m_I_isPrime (consOK_cons m_I_power (consOK_nil rfl)))) Try.func90 (h := h_I_IsValidGroup) (by kernel_rfl) eq_I_IsValidGroup

/-- slices_IndexFunc_sint_int -/
def pk_slices_IndexFunc_sint_int : List PK := [.data (.sl (.int .i64)), .fn [(.int .i64)] .bool]
def rk_slices_IndexFunc_sint_int : List (Ty × Bool) := [((.int .i64), false)]
def h_slices_IndexFunc_sint_int : Hints := { loops := [(0, { items := [.slot 8 (.data (.int .i64) [])], kill := [2, 3, 4, 5, 6, 9, 10, 11, 12, 13, 14, 15, 16, 17, 18] })] }
noncomputable def M_slices_IndexFunc_sint_int (x : ((List Int) × (Int → (Option Bool)))) : (Option Int) :=
  (loopO (fun (again0 : (Int → (Option Int))) => (fun (s1 : Int) => (cond (decide (s1 < (((List.length x.1) : Nat) : Int))) (bindO (getI x.1 s1) (fun (a2 : Int) => (bindO (x.2 a2) (fun (a3 : Bool) => (cond a3 (some s1) (bindO (some (IntKind.wrap .i64 (s1 + (1 : Int)))) (fun (a4 : Int) => (again0 a4)))))))) (some (- (1 : Int)))))) (0 : Int))

noncomputable def c_slices_IndexFunc_sint_int : Con0 := ⟨pk_slices_IndexFunc_sint_int, rk_slices_IndexFunc_sint_int, M_slices_IndexFunc_sint_int⟩

set_option maxRecDepth 100000 in
theorem eq_slices_IndexFunc_sint_int (x : In pk_slices_IndexFunc_sint_int) : semF (mkE []) h_slices_IndexFunc_sint_int (info Try.f193) pk_slices_IndexFunc_sint_int rk_slices_IndexFunc_sint_int x = M_slices_IndexFunc_sint_int x := by kernel_rfl

set_option maxRecDepth 100000 in
theorem m_slices_IndexFunc_sint_int : ConOK Try.prog 193 c_slices_IndexFunc_sint_int := fn_ok (tyOK _) (E := mkE []) (consOK_nil rfl) Try.func193 (h := h_slices_IndexFunc_sint_int) (by kernel_rfl) eq_slices_IndexFunc_sint_int

/-- slices_ContainsFunc_sint_int -/
def pk_slices_ContainsFunc_sint_int : List PK := [.data (.sl (.int .i64)), .fn [(.int .i64)] .bool]
def rk_slices_ContainsFunc_sint_int : List (Ty × Bool) := [(.bool, false)]
def h_slices_ContainsFunc_sint_int : Hints := { loops := [] }
noncomputable def M_slices_ContainsFunc_sint_int (x : ((List Int) × (Int → (Option Bool)))) : (Option Bool) :=
  (bindO (M_slices_IndexFunc_sint_int (x.1, x.2)) (fun (a0 : Int) => (some (decide (a0 ≥ (0 : Int))))))

noncomputable def c_slices_ContainsFunc_sint_int : Con0 := ⟨pk_slices_ContainsFunc_sint_int, rk_slices_ContainsFunc_sint_int, M_slices_ContainsFunc_sint_int⟩

set_option maxRecDepth 100000 in
theorem eq_slices_ContainsFunc_sint_int (x : In pk_slices_ContainsFunc_sint_int) : semF (mkE [(193, c_slices_IndexFunc_sint_int)]) h_slices_ContainsFunc_sint_int (info Try.f195) pk_slices_ContainsFunc_sint_int rk_slices_ContainsFunc_sint_int x = M_slices_ContainsFunc_sint_int x := by kernel_rfl

set_option maxRecDepth 100000 in
theorem m_slices_ContainsFunc_sint_int : ConOK Try.prog 195 c_slices_ContainsFunc_sint_int := fn_ok (tyOK _) (E := mkE [(193, c_slices_IndexFunc_sint_int)]) (consOK_cons m_slices_IndexFunc_sint_int (consOK_nil rfl)) Try.func195 (h := h_slices_ContainsFunc_sint_int) (by kernel_rfl) eq_slices_ContainsFunc_sint_int

/-- I_areAll_1 -/
def pk_I_areAll_1 : List PK := [.data (.int .i64), .rfn [(.int .i64)] .bool]
def rk_I_areAll_1 : List (Ty × Bool) := [(.bool, false)]
def h_I_areAll_1 : Hints := { loops := [] }
noncomputable def M_I_areAll_1 (x : (Int × (Int → (Option Bool)))) : (Option Bool) :=
  (bindO (x.2 x.1) (fun (a0 : Bool) => (some (not a0))))

noncomputable def c_I_areAll_1 : Con0 := ⟨pk_I_areAll_1, rk_I_areAll_1, M_I_areAll_1⟩

set_option maxRecDepth 100000 in
theorem eq_I_areAll_1 (x : In pk_I_areAll_1) : semF (mkE []) h_I_areAll_1 (info Try.f196) pk_I_areAll_1 rk_I_areAll_1 x = M_I_areAll_1 x := by kernel_rfl

set_option maxRecDepth 100000 in
theorem m_I_areAll_1 : ConOK Try.prog 196 c_I_areAll_1 := fn_ok (tyOK _) (E := mkE []) (consOK_nil rfl) Try.func196 (h := h_I_areAll_1) (by kernel_rfl) eq_I_areAll_1

/-- I_areAll -/
def pk_I_areAll : List PK := [.data (.sl (.int .i64)), .fn [(.int .i64)] .bool]
def rk_I_areAll : List (Ty × Bool) := [(.bool, false)]
def h_I_areAll : Hints := { loops := [] }
noncomputable def M_I_areAll (x : ((List Int) × (Int → (Option Bool)))) : (Option Bool) :=
  (bindO (M_slices_ContainsFunc_sint_int (x.1, (fun (a0 : Int) => (bindO (M_I_areAll_1 (a0, x.2)) (fun (a1 : Bool) => (some a1)))))) (fun (a2 : Bool) => (some (not a2))))

noncomputable def c_I_areAll : Con0 := ⟨pk_I_areAll, rk_I_areAll, M_I_areAll⟩

set_option maxRecDepth 100000 in
theorem eq_I_areAll (x : In pk_I_areAll) : semF (mkE [(195, c_slices_ContainsFunc_sint_int), (196, c_I_areAll_1)]) h_I_areAll (info Try.f155) pk_I_areAll rk_I_areAll x = M_I_areAll x := by kernel_rfl

set_option maxRecDepth 100000 in
theorem m_I_areAll : ConOK Try.prog 155 c_I_areAll := fn_ok (tyOK _) (E := mkE [(195, c_slices_ContainsFunc_sint_int), (196, c_I_areAll_1)]) (consOK_cons m_slices_ContainsFunc_sint_int (consOK_cons m_I_areAll_1 (consOK_nil rfl))) Try.func155 (h := h_I_areAll) (by kernel_rfl) eq_I_areAll

/-- slices_Index_sint_int -/
def pk_slices_Index_sint_int : List PK := [.data (.sl (.int .i64)), .data (.int .i64)]
def rk_slices_Index_sint_int : List (Ty × Bool) := [((.int .i64), false)]
def h_slices_Index_sint_int : Hints := { loops := [(0, { items := [.slot 8 (.data (.int .i64) [])], kill := [2, 3, 4, 5, 6, 9, 10, 11, 12, 13, 14, 15, 16, 17, 18] })] }
noncomputable def M_slices_Index_sint_int (x : ((List Int) × Int)) : (Option Int) :=
  (loopO (fun (again0 : (Int → (Option Int))) => (fun (s1 : Int) => (cond (decide (s1 < (((List.length x.1) : Nat) : Int))) (bindO (getI x.1 s1) (fun (a2 : Int) => (cond (x.2 == a2) (some s1) (bindO (some (IntKind.wrap .i64 (s1 + (1 : Int)))) (fun (a3 : Int) => (again0 a3)))))) (some (- (1 : Int)))))) (0 : Int))

noncomputable def c_slices_Index_sint_int : Con0 := ⟨pk_slices_Index_sint_int, rk_slices_Index_sint_int, M_slices_Index_sint_int⟩

set_option maxRecDepth 100000 in
theorem eq_slices_Index_sint_int (x : In pk_slices_Index_sint_int) : semF (mkE []) h_slices_Index_sint_int (info Try.f75) pk_slices_Index_sint_int rk_slices_Index_sint_int x = M_slices_Index_sint_int x := by kernel_rfl

set_option maxRecDepth 100000 in
theorem m_slices_Index_sint_int : ConOK Try.prog 75 c_slices_Index_sint_int := fn_ok (tyOK _) (E := mkE []) (consOK_nil rfl) Try.func75 (h := h_slices_Index_sint_int) (by kernel_rfl) eq_slices_Index_sint_int

/-- slices_Contains_sint_int -/
def pk_slices_Contains_sint_int : List PK := [.data (.sl (.int .i64)), .data (.int .i64)]
def rk_slices_Contains_sint_int : List (Ty × Bool) := [(.bool, false)]
def h_slices_Contains_sint_int : Hints := { loops := [] }
noncomputable def M_slices_Contains_sint_int (x : ((List Int) × Int)) : (Option Bool) :=
  (bindO (M_slices_Index_sint_int (x.1, x.2)) (fun (a0 : Int) => (some (decide (a0 ≥ (0 : Int))))))

noncomputable def c_slices_Contains_sint_int : Con0 := ⟨pk_slices_Contains_sint_int, rk_slices_Contains_sint_int, M_slices_Contains_sint_int⟩

set_option maxRecDepth 100000 in
theorem eq_slices_Contains_sint_int (x : In pk_slices_Contains_sint_int) : semF (mkE [(75, c_slices_Index_sint_int)]) h_slices_Contains_sint_int (info Try.f192) pk_slices_Contains_sint_int rk_slices_Contains_sint_int x = M_slices_Contains_sint_int x := by kernel_rfl

set_option maxRecDepth 100000 in
theorem m_slices_Contains_sint_int : ConOK Try.prog 192 c_slices_Contains_sint_int := fn_ok (tyOK _) (E := mkE [(75, c_slices_Index_sint_int)]) (consOK_cons m_slices_Index_sint_int (consOK_nil rfl)) Try.func192 (h := h_slices_Contains_sint_int) (by kernel_rfl) eq_slices_Contains_sint_int

/-- I_areDifferent -/
def pk_I_areDifferent : List PK := [.data (.sl (.int .i64))]
def rk_I_areDifferent : List (Ty × Bool) := [(.bool, false)]
def h_I_areDifferent : Hints := { loops := [(0, { items := [.slot 7 (.data (.int .i64) [])], kill := [1, 2, 3, 4, 8, 9, 10, 11, 12, 13, 14, 15, 16, 17] })] }
noncomputable def M_I_areDifferent (x : (List Int)) : (Option Bool) :=
  (loopO (fun (again0 : (Int → (Option Bool))) => (fun (s1 : Int) => (cond (decide (s1 < (((List.length x) : Nat) : Int))) (bindO (getI x s1) (fun (a2 : Int) => (bindO (sliceNH s1 (List.length x)) (fun (a3 : (Nat × Nat)) => (bindO (M_slices_Contains_sint_int ((List.drop a3.1 (List.take a3.2 x)), a2)) (fun (a4 : Bool) => (cond a4 (some false) (bindO (some (IntKind.wrap .i64 (s1 + (1 : Int)))) (fun (a5 : Int) => (again0 a5)))))))))) (some true)))) (0 : Int))

noncomputable def c_I_areDifferent : Con0 := ⟨pk_I_areDifferent, rk_I_areDifferent, M_I_areDifferent⟩

set_option maxRecDepth 100000 in
theorem eq_I_areDifferent (x : In pk_I_areDifferent) : semF (mkE [(192, c_slices_Contains_sint_int)]) h_I_areDifferent (info Try.f150) pk_I_areDifferent rk_I_areDifferent x = M_I_areDifferent x := by kernel_rfl

set_option maxRecDepth 100000 in
theorem m_I_areDifferent : ConOK Try.prog 150 c_I_areDifferent := fn_ok (tyOK _) (E := mkE [(192, c_slices_Contains_sint_int)]) (consOK_cons m_slices_Contains_sint_int (consOK_nil rfl)) Try.func150 (h := h_I_areDifferent) (by kernel_rfl) eq_I_areDifferent

/-- I_IsPermutation_1 -/
def pk_I_IsPermutation_1 : List PK := [.data (.int .i64), .rp (.sl (.int .i64))]
def rk_I_IsPermutation_1 : List (Ty × Bool) := [(.bool, false)]
def h_I_IsPermutation_1 : Hints := { loops := [] }
noncomputable def M_I_IsPermutation_1 (x : (Int × (List Int))) : (Option Bool) :=
  (bindO (some (IntKind.wrap .i64 ((((List.length x.2) : Nat) : Int) - (1 : Int)))) (fun (a0 : Int) => (bindO (M_I_within (x.1, ((0 : Int), a0))) (fun (a1 : Bool) => (some a1)))))

noncomputable def c_I_IsPermutation_1 : Con0 := ⟨pk_I_IsPermutation_1, rk_I_IsPermutation_1, M_I_IsPermutation_1⟩

set_option maxRecDepth 100000 in
theorem eq_I_IsPermutation_1 (x : In pk_I_IsPermutation_1) : semF (mkE [(82, c_I_within)]) h_I_IsPermutation_1 (info Try.f210) pk_I_IsPermutation_1 rk_I_IsPermutation_1 x = M_I_IsPermutation_1 x := by kernel_rfl

set_option maxRecDepth 100000 in
theorem m_I_IsPermutation_1 : ConOK Try.prog 210 c_I_IsPermutation_1 := fn_ok (tyOK _) (E := mkE [(82, c_I_within)]) (consOK_cons m_I_within (consOK_nil rfl)) Try.func210 (h := h_I_IsPermutation_1) (by kernel_rfl) eq_I_IsPermutation_1

/-- I_IsPermutation -/
def pk_I_IsPermutation : List PK := [.data (.sl (.int .i64))]
def rk_I_IsPermutation : List (Ty × Bool) := [(.bool, false)]
def h_I_IsPermutation : Hints := { loops := [] }
noncomputable def M_I_IsPermutation (x : (List Int)) : (Option Bool) :=
  (cond (decide ((((List.length x) : Nat) : Int) ≤ (24 : Int))) (bindO (M_I_areAll (x, (fun (a0 : Int) => (bindO (M_I_IsPermutation_1 (a0, x)) (fun (a1 : Bool) => (some a1)))))) (fun (a2 : Bool) => (cond a2 (bindO (M_I_areDifferent x) (fun (a3 : Bool) => (some a3))) (some false)))) (some false))

noncomputable def c_I_IsPermutation : Con0 := ⟨pk_I_IsPermutation, rk_I_IsPermutation, M_I_IsPermutation⟩

set_option maxRecDepth 100000 in
theorem eq_I_IsPermutation (x : In pk_I_IsPermutation) : semF (mkE [(155, c_I_areAll), (150, c_I_areDifferent), (210, c_I_IsPermutation_1)]) h_I_IsPermutation (info Try.f187) pk_I_IsPermutation rk_I_IsPermutation x = M_I_IsPermutation x := by kernel_rfl

set_option maxRecDepth 100000 in
theorem m_I_IsPermutation : ConOK Try.prog 187 c_I_IsPermutation := fn_ok (tyOK _) (E := mkE [(155, c_I_areAll), (150, c_I_areDifferent), (210, c_I_IsPermutation_1)]) (consOK_cons m_I_areAll (consOK_cons m_I_areDifferent (consOK_cons m_I_IsPermutation_1 (consOK_nil rfl)))) Try.func187 (h := h_I_IsPermutation) (by kernel_rfl) eq_I_IsPermutation

/-- I_Group_isExp -/
def pk_I_Group_isExp : List PK := [.data (.cons (.int .i64) (.cons (.int .i64) (.one (.int .i64)))), .data (.int .i64)]
def rk_I_Group_isExp : List (Ty × Bool) := [(.bool, false)]
def h_I_Group_isExp : Hints := { loops := [] }
noncomputable def M_I_Group_isExp (x : ((Int × (Int × Int)) × Int)) : (Option Bool) :=
  (bindO (some (IntKind.wrap .i64 (x.1.2.1 - (1 : Int)))) (fun (a0 : Int) => (bindO (M_I_within (x.2, ((0 : Int), a0))) (fun (a1 : Bool) => (some a1)))))

noncomputable def c_I_Group_isExp : Con0 := ⟨pk_I_Group_isExp, rk_I_Group_isExp, M_I_Group_isExp⟩

set_option maxRecDepth 100000 in
theorem eq_I_Group_isExp (x : In pk_I_Group_isExp) : semF (mkE [(82, c_I_within)]) h_I_Group_isExp (info Try.f122) pk_I_Group_isExp rk_I_Group_isExp x = M_I_Group_isExp x := by kernel_rfl

set_option maxRecDepth 100000 in
theorem m_I_Group_isExp : ConOK Try.prog 122 c_I_Group_isExp := fn_ok (tyOK _) (E := mkE [(82, c_I_within)]) (consOK_cons m_I_within (consOK_nil rfl)) Try.func122 (h := h_I_Group_isExp) (by kernel_rfl) eq_I_Group_isExp

/-- I_Group_areExps -/
def pk_I_Group_areExps : List PK := [.data (.cons (.int .i64) (.cons (.int .i64) (.one (.int .i64)))), .data (.sl (.int .i64))]
def rk_I_Group_areExps : List (Ty × Bool) := [(.bool, false)]
def h_I_Group_areExps : Hints := { loops := [] }
noncomputable def M_I_Group_areExps (x : ((Int × (Int × Int)) × (List Int))) : (Option Bool) :=
  (bindO (M_I_areAll (x.2, (fun (a0 : Int) => (bindO (M_I_Group_isExp ((x.1.1, (x.1.2.1, x.1.2.2)), a0)) (fun (a1 : Bool) => (some a1)))))) (fun (a2 : Bool) => (some a2)))

noncomputable def c_I_Group_areExps : Con0 := ⟨pk_I_Group_areExps, rk_I_Group_areExps, M_I_Group_areExps⟩

set_option maxRecDepth 100000 in
theorem eq_I_Group_areExps (x : In pk_I_Group_areExps) : semF (mkE [(155, c_I_areAll), (122, c_I_Group_isExp)]) h_I_Group_areExps (info Try.f112) pk_I_Group_areExps rk_I_Group_areExps x = M_I_Group_areExps x := by kernel_rfl

set_option maxRecDepth 100000 in
theorem m_I_Group_areExps : ConOK Try.prog 112 c_I_Group_areExps := fn_ok (tyOK _) (E := mkE [(155, c_I_areAll), (122, c_I_Group_isExp)]) (consOK_cons m_I_areAll (consOK_cons m_I_Group_isExp (consOK_nil rfl))) Try.func112 (h := h_I_Group_areExps) (by kernel_rfl) eq_I_Group_areExps

/-- I_Group_isMixing -/
def pk_I_Group_isMixing : List PK := [.data (.cons (.int .i64) (.cons (.int .i64) (.one (.int .i64)))), .data (.sl (.int .i64)), .data (.sl (.int .i64)), .data (.int .i64)]
def rk_I_Group_isMixing : List (Ty × Bool) := [(.bool, false)]
def h_I_Group_isMixing : Hints := { loops := [] }
noncomputable def M_I_Group_isMixing (x : ((Int × (Int × Int)) × ((List Int) × ((List Int) × Int)))) : (Option Bool) :=
  (bindO (M_I_IsPermutation x.2.1) (fun (a0 : Bool) => (cond a0 (cond ((((List.length x.2.1) : Nat) : Int) == x.2.2.2) (cond ((((List.length x.2.2.1) : Nat) : Int) == x.2.2.2) (bindO (M_I_Group_areExps ((x.1.1, (x.1.2.1, x.1.2.2)), x.2.2.1)) (fun (a1 : Bool) => (some a1))) (some false)) (some false)) (some false))))

noncomputable def c_I_Group_isMixing : Con0 := ⟨pk_I_Group_isMixing, rk_I_Group_isMixing, M_I_Group_isMixing⟩

set_option maxRecDepth 100000 in
theorem eq_I_Group_isMixing (x : In pk_I_Group_isMixing) : semF (mkE [(187, c_I_IsPermutation), (112, c_I_Group_areExps)]) h_I_Group_isMixing (info Try.f142) pk_I_Group_isMixing rk_I_Group_isMixing x = M_I_Group_isMixing x := by kernel_rfl

set_option maxRecDepth 100000 in
theorem m_I_Group_isMixing : ConOK Try.prog 142 c_I_Group_isMixing := fn_ok (tyOK _) (E := mkE [(187, c_I_IsPermutation), (112, c_I_Group_areExps)]) (consOK_cons m_I_IsPermutation (consOK_cons m_I_Group_areExps (consOK_nil rfl))) Try.func142 (h := h_I_Group_isMixing) (by kernel_rfl) eq_I_Group_isMixing

/-- I_labelled -/
def pk_I_labelled : List PK := [.data .str, .data (.sl (.int .i64))]
def rk_I_labelled : List (Ty × Bool) := [((.sl (.int .i64)), true)]
def h_I_labelled : Hints := { loops := [(0, { items := [.slot 5 (.own (.int .i64) true), .slot 12 (.data (.int .i64) [])], kill := [2, 3, 4, 6, 7, 8, 9, 10, 13, 14, 15, 16, 17, 18, 19, 20, 21, 22, 23, 24, 25] })] }
noncomputable def M_I_labelled (x : (ByteArray × (List Int))) : (Option (List Int)) :=
  (loopO (fun (again0 : (((List Int) × Int) → (Option (List Int)))) => (fun (s1 : ((List Int) × Int)) => (cond (decide (s1.2 < (((ByteArray.size x.1) : Nat) : Int))) (bindO (if ((0 : Int) ≤ s1.2) then (x.1[(Int.toNat s1.2)]?) else (none : Option (UInt8))) (fun (a2 : (UInt8)) => (bindO (guardO (lenOk ((List.length s1.1) + (List.length ((IntKind.wrap .i64 (((UInt8.toNat a2) : Nat) : Int)) :: ([] : List Int)))))) (fun (a3 : Unit) => (bindO (some (s1.1 ++ ((IntKind.wrap .i64 (((UInt8.toNat a2) : Nat) : Int)) :: ([] : List Int)))) (fun (a4 : (List Int)) => (bindO (some (IntKind.wrap .i64 (s1.2 + (1 : Int)))) (fun (a5 : Int) => (again0 (a4, a5)))))))))) (bindO (guardO (lenOk ((List.length s1.1) + (List.length x.2)))) (fun (a6 : Unit) => (bindO (some (s1.1 ++ x.2)) (fun (a7 : (List Int)) => (some a7)))))))) (((((ByteArray.size x.1) : Nat) : Int) :: ([] : List Int)), (0 : Int)))

noncomputable def c_I_labelled : Con0 := ⟨pk_I_labelled, rk_I_labelled, M_I_labelled⟩

set_option maxRecDepth 100000 in
theorem eq_I_labelled (x : In pk_I_labelled) : semF (mkE []) h_I_labelled (info Try.f207) pk_I_labelled rk_I_labelled x = M_I_labelled x := by kernel_rfl

set_option maxRecDepth 100000 in
theorem m_I_labelled : ConOK Try.prog 207 c_I_labelled := fn_ok (tyOK _) (E := mkE []) (consOK_nil rfl) Try.func207 (h := h_I_labelled) (by kernel_rfl) eq_I_labelled

/-- I_isDigest -/
def pk_I_isDigest : List PK := [.data (.int .i64)]
def rk_I_isDigest : List (Ty × Bool) := [(.bool, false)]
def h_I_isDigest : Hints := { loops := [] }
noncomputable def M_I_isDigest (x : Int) : (Option Bool) :=
  (bindO (M_I_within (x, ((0 : Int), (4611686018427387903 : Int)))) (fun (a0 : Bool) => (some a0)))

noncomputable def c_I_isDigest : Con0 := ⟨pk_I_isDigest, rk_I_isDigest, M_I_isDigest⟩

set_option maxRecDepth 100000 in
theorem eq_I_isDigest (x : In pk_I_isDigest) : semF (mkE [(82, c_I_within)]) h_I_isDigest (info Try.f218) pk_I_isDigest rk_I_isDigest x = M_I_isDigest x := by kernel_rfl

set_option maxRecDepth 100000 in
theorem m_I_isDigest : ConOK Try.prog 218 c_I_isDigest := fn_ok (tyOK _) (E := mkE [(82, c_I_within)]) (consOK_cons m_I_within (consOK_nil rfl)) Try.func218 (h := h_I_isDigest) (by kernel_rfl) eq_I_isDigest

/-- I_areDigests -/
def pk_I_areDigests : List PK := [.data (.sl (.int .i64))]
def rk_I_areDigests : List (Ty × Bool) := [(.bool, false)]
def h_I_areDigests : Hints := { loops := [] }
noncomputable def M_I_areDigests (x : (List Int)) : (Option Bool) :=
  (cond (decide ((((List.length x) : Nat) : Int) ≤ (400 : Int))) (bindO (M_I_areAll (x, (fun (a0 : Int) => (bindO (M_I_isDigest a0) (fun (a1 : Bool) => (some a1)))))) (fun (a2 : Bool) => (some a2))) (some false))

noncomputable def c_I_areDigests : Con0 := ⟨pk_I_areDigests, rk_I_areDigests, M_I_areDigests⟩

set_option maxRecDepth 100000 in
theorem eq_I_areDigests (x : In pk_I_areDigests) : semF (mkE [(155, c_I_areAll), (218, c_I_isDigest)]) h_I_areDigests (info Try.f213) pk_I_areDigests rk_I_areDigests x = M_I_areDigests x := by kernel_rfl

set_option maxRecDepth 100000 in
theorem m_I_areDigests : ConOK Try.prog 213 c_I_areDigests := fn_ok (tyOK _) (E := mkE [(155, c_I_areAll), (218, c_I_isDigest)]) (consOK_cons m_I_areAll (consOK_cons m_I_isDigest (consOK_nil rfl))) Try.func213 (h := h_I_areDigests) (by kernel_rfl) eq_I_areDigests

/-- I_hash -/
def pk_I_hash : List PK := [.data (.sl (.int .i64))]
def rk_I_hash : List (Ty × Bool) := [((.int .i64), false)]
def h_I_hash : Hints := { loops := [(0, { items := [.slot 3 (.data (.int .i64) []), .slot 4 (.data (.int .i64) []), .slot 15 (.data (.int .i64) [])], kill := [0, 1, 2, 5, 6, 7, 8, 9, 10, 11, 12, 16, 17, 18, 19, 20, 21, 22, 23, 24, 25, 26, 27, 28, 29, 30, 31, 32, 33, 34, 35, 36, 37, 38, 39, 40, 41, 42, 43, 44, 45, 46, 47, 48, 49, 50, 51] })] }
noncomputable def M_I_hash (x : (List Int)) : (Option Int) :=
  (bindO (guardO (lenOk ((List.length ((((List.length x) : Nat) : Int) :: ([] : List Int))) + (List.length x)))) (fun (a0 : Unit) => (bindO (some (((((List.length x) : Nat) : Int) :: ([] : List Int)) ++ x)) (fun (a1 : (List Int)) => (loopO (fun (again2 : ((Int × (Int × Int)) → (Option Int))) => (fun (s3 : (Int × (Int × Int))) => (cond (decide (s3.2.2 < (((List.length a1) : Nat) : Int))) (bindO (getI a1 s3.2.2) (fun (a4 : Int) => (bindO (guardO (decide ((0 : Int) ≤ (31 : Int)))) (fun (a5 : Unit) => (bindO (some (shr .i64 a4 (31 : Int))) (fun (a6 : Int) => (bindO (some (bits .and .i64 a4 (2147483647 : Int))) (fun (a7 : Int) => (bindO (some (IntKind.wrap .i64 ((48271 : Int) * s3.1))) (fun (a8 : Int) => (bindO (some (IntKind.wrap .i64 (a8 + a7))) (fun (a9 : Int) => (bindO (some (IntKind.wrap .i64 (a9 + (1 : Int)))) (fun (a10 : Int) => (bindO (guardO ((2147483647 : Int) != (0 : Int))) (fun (a11 : Unit) => (bindO (some (Int.tmod a10 (2147483647 : Int))) (fun (a12 : Int) => (bindO (some (IntKind.wrap .i64 ((48271 : Int) * a12))) (fun (a13 : Int) => (bindO (some (IntKind.wrap .i64 (a13 + a6))) (fun (a14 : Int) => (bindO (some (IntKind.wrap .i64 (a14 + (1 : Int)))) (fun (a15 : Int) => (bindO (guardO ((2147483647 : Int) != (0 : Int))) (fun (a16 : Unit) => (bindO (some (Int.tmod a15 (2147483647 : Int))) (fun (a17 : Int) => (bindO (some (IntKind.wrap .i64 ((69621 : Int) * s3.2.1))) (fun (a18 : Int) => (bindO (some (IntKind.wrap .i64 (a18 + a7))) (fun (a19 : Int) => (bindO (some (IntKind.wrap .i64 (a19 + (1 : Int)))) (fun (a20 : Int) => (bindO (guardO ((2147483647 : Int) != (0 : Int))) (fun (a21 : Unit) => (bindO (some (Int.tmod a20 (2147483647 : Int))) (fun (a22 : Int) => (bindO (some (IntKind.wrap .i64 ((69621 : Int) * a22))) (fun (a23 : Int) => (bindO (some (IntKind.wrap .i64 (a23 + a6))) (fun (a24 : Int) => (bindO (some (IntKind.wrap .i64 (a24 + (1 : Int)))) (fun (a25 : Int) => (bindO (guardO ((2147483647 : Int) != (0 : Int))) (fun (a26 : Unit) => (bindO (some (Int.tmod a25 (2147483647 : Int))) (fun (a27 : Int) => (bindO (some (IntKind.wrap .i64 (s3.2.2 + (1 : Int)))) (fun (a28 : Int) => (again2 (a17, (a27, a28))))))))))))))))))))))))))))))))))))))))))))))))))))) (bindO (guardO (decide ((0 : Int) ≤ (31 : Int)))) (fun (a29 : Unit) => (bindO (some (shl .i64 s3.1 (31 : Int))) (fun (a30 : Int) => (bindO (some (IntKind.wrap .i64 (a30 + s3.2.1))) (fun (a31 : Int) => (some a31)))))))))) ((1 : Int), ((2 : Int), (0 : Int))))))))

noncomputable def c_I_hash : Con0 := ⟨pk_I_hash, rk_I_hash, M_I_hash⟩

set_option maxRecDepth 100000 in
theorem eq_I_hash (x : In pk_I_hash) : semF (mkE []) h_I_hash (info Try.f214) pk_I_hash rk_I_hash x = M_I_hash x := by kernel_rfl

set_option maxRecDepth 100000 in
theorem m_I_hash : ConOK Try.prog 214 c_I_hash := fn_ok (tyOK _) (E := mkE []) (consOK_nil rfl) Try.func214 (h := h_I_hash) (by kernel_rfl) eq_I_hash

/-- I_HashInts -/
def pk_I_HashInts : List PK := [.data (.sl (.int .i64))]
def rk_I_HashInts : List (Ty × Bool) := [((.int .i64), false), (.bool, false)]
def h_I_HashInts : Hints := { loops := [] }
noncomputable def M_I_HashInts (x : (List Int)) : (Option (Int × Bool)) :=
  (bindO (M_I_areDigests x) (fun (a0 : Bool) => (cond (not a0) (some ((0 : Int), false)) (bindO (M_I_hash x) (fun (a1 : Int) => (some (a1, true)))))))

noncomputable def c_I_HashInts : Con0 := ⟨pk_I_HashInts, rk_I_HashInts, M_I_HashInts⟩

set_option maxRecDepth 100000 in
theorem eq_I_HashInts (x : In pk_I_HashInts) : semF (mkE [(213, c_I_areDigests), (214, c_I_hash)]) h_I_HashInts (info Try.f206) pk_I_HashInts rk_I_HashInts x = M_I_HashInts x := by kernel_rfl

set_option maxRecDepth 100000 in
theorem m_I_HashInts : ConOK Try.prog 206 c_I_HashInts := fn_ok (tyOK _) (E := mkE [(213, c_I_areDigests), (214, c_I_hash)]) (consOK_cons m_I_areDigests (consOK_cons m_I_hash (consOK_nil rfl))) Try.func206 (h := h_I_HashInts) (by kernel_rfl) eq_I_HashInts

/-- I_HashLabelled -/
def pk_I_HashLabelled : List PK := [.data .str, .data (.sl (.int .i64))]
def rk_I_HashLabelled : List (Ty × Bool) := [((.int .i64), false), (.bool, false)]
def h_I_HashLabelled : Hints := { loops := [] }
noncomputable def M_I_HashLabelled (x : (ByteArray × (List Int))) : (Option (Int × Bool)) :=
  (cond (decide ((((ByteArray.size x.1) : Nat) : Int) > (40 : Int))) (some ((0 : Int), false)) (cond (decide ((((List.length x.2) : Nat) : Int) > (400 : Int))) (some ((0 : Int), false)) (bindO (M_I_labelled (x.1, x.2)) (fun (a0 : (List Int)) => (bindO (M_I_HashInts a0) (fun (a1 : (Int × Bool)) => (some (a1.1, a1.2))))))))

noncomputable def c_I_HashLabelled : Con0 := ⟨pk_I_HashLabelled, rk_I_HashLabelled, M_I_HashLabelled⟩

set_option maxRecDepth 100000 in
theorem eq_I_HashLabelled (x : In pk_I_HashLabelled) : semF (mkE [(207, c_I_labelled), (206, c_I_HashInts)]) h_I_HashLabelled (info Try.f174) pk_I_HashLabelled rk_I_HashLabelled x = M_I_HashLabelled x := by kernel_rfl

set_option maxRecDepth 100000 in
theorem m_I_HashLabelled : ConOK Try.prog 174 c_I_HashLabelled := fn_ok (tyOK _) (E := mkE [(207, c_I_labelled), (206, c_I_HashInts)]) (consOK_cons m_I_labelled (consOK_cons m_I_HashInts (consOK_nil rfl))) Try.func174 (h := h_I_HashLabelled) (by kernel_rfl) eq_I_HashLabelled

/-- I_Group_derive -/
def pk_I_Group_derive : List PK := [.data (.cons (.int .i64) (.cons (.int .i64) (.one (.int .i64)))), .data .str, .data (.int .i64)]
def rk_I_Group_derive : List (Ty × Bool) := [((.int .i64), false), (.bool, false)]
def h_I_Group_derive : Hints := { loops := [(0, { items := [.slot 12 (.data (.int .i64) [])], kill := [0, 4, 5, 6, 7, 8, 9, 10, 11, 13, 14, 15, 16, 17, 18, 19, 20, 21, 22, 23, 24, 25, 26, 27, 28, 29, 30, 31, 32, 33, 34, 35, 36, 37, 38, 39, 40, 41, 42, 43, 44, 45, 46, 47, 48, 49] })] }
noncomputable def M_I_Group_derive (x : ((Int × (Int × Int)) × (ByteArray × Int))) : (Option (Int × Bool)) :=
  (loopO (fun (again0 : (Int → (Option (Int × Bool)))) => (fun (s1 : Int) => (cond (decide (s1 < (1000 : Int))) (bindO (M_I_HashLabelled (x.2.1, (x.1.1 :: (x.1.2.1 :: (x.1.2.2 :: (x.2.2 :: (s1 :: ([] : List Int)))))))) (fun (a2 : (Int × Bool)) => (cond (not a2.2) (some ((0 : Int), false)) (bindO (some (IntKind.wrap .i64 (x.1.1 - (1 : Int)))) (fun (a3 : Int) => (bindO (guardO (a3 != (0 : Int))) (fun (a4 : Unit) => (bindO (some (Int.tmod a2.1 a3)) (fun (a5 : Int) => (bindO (some (IntKind.wrap .i64 ((1 : Int) + a5))) (fun (a6 : Int) => (bindO (some (IntKind.wrap .i64 (x.1.1 - (1 : Int)))) (fun (a7 : Int) => (bindO (guardO (x.1.2.1 != (0 : Int))) (fun (a8 : Unit) => (bindO (some (IntKind.wrap .i64 (Int.tdiv a7 x.1.2.1))) (fun (a9 : Int) => (bindO (M_I_power (a6, (a9, x.1.1))) (fun (a10 : Int) => (cond (a10 != (1 : Int)) (some (a10, true)) (bindO (some (IntKind.wrap .i64 (s1 + (1 : Int)))) (fun (a11 : Int) => (again0 a11))))))))))))))))))))))) (some ((0 : Int), false))))) (0 : Int))

noncomputable def c_I_Group_derive : Con0 := ⟨pk_I_Group_derive, rk_I_Group_derive, M_I_Group_derive⟩

set_option maxRecDepth 100000 in
theorem eq_I_Group_derive (x : In pk_I_Group_derive) : semF (mkE [(174, c_I_HashLabelled), (163, c_I_power)]) h_I_Group_derive (info Try.f188) pk_I_Group_derive rk_I_Group_derive x = M_I_Group_derive x := by kernel_rfl

set_option maxRecDepth 100000 in
theorem m_I_Group_derive : ConOK Try.prog 188 c_I_Group_derive := fn_ok (tyOK _) (E := mkE [(174, c_I_HashLabelled), (163, c_I_power)]) (consOK_cons m_I_HashLabelled (consOK_cons m_I_power (consOK_nil rfl))) Try.func188 (h := h_I_Group_derive) (by kernel_rfl) eq_I_Group_derive

/-- I_Group_basesOf -/
def pk_I_Group_basesOf : List PK := [.data (.cons (.int .i64) (.cons (.int .i64) (.one (.int .i64)))), .data (.int .i64)]
def rk_I_Group_basesOf : List (Ty × Bool) := [((.cons (.int .i64) (.one (.sl (.int .i64)))), true), (.bool, false)]
def h_I_Group_basesOf : Hints := { loops := [(0, { items := [.slot 9 (.data .bool []), .slot 21 (.data (.int .i64) []), .cell 8 0 (.data (.int .i64) []), .cell 8 1 (.own (.int .i64) true)], kill := [0, 1, 3, 5, 6, 10, 11, 12, 13, 14, 15, 16, 17, 18, 19, 22, 23, 24, 25, 26, 27, 28, 29, 30, 31, 32, 33, 34, 35, 36, 37, 38, 39, 40, 41, 42, 43, 44, 45, 46, 47, 48] })] }
noncomputable def M_I_Group_basesOf (x : ((Int × (Int × Int)) × Int)) : (Option ((Int × (List Int)) × Bool)) :=
  (bindO (M_I_Group_derive ((x.1.1, (x.1.2.1, x.1.2.2)), ((bytesOf [104]), (0 : Int)))) (fun (a0 : (Int × Bool)) => (loopO (fun (again1 : ((Bool × (Int × (Int × (List Int)))) → (Option ((Int × (List Int)) × Bool)))) => (fun (s2 : (Bool × (Int × (Int × (List Int))))) => (cond (decide (s2.2.1 < x.2)) (bindO (M_I_Group_derive ((x.1.1, (x.1.2.1, x.1.2.2)), ((bytesOf [104, 115]), s2.2.1))) (fun (a3 : (Int × Bool)) => (cond s2.1 (bindO (guardO (lenOk ((List.length s2.2.2.2) + (List.length (a3.1 :: ([] : List Int)))))) (fun (a4 : Unit) => (bindO (some (s2.2.2.2 ++ (a3.1 :: ([] : List Int)))) (fun (a5 : (List Int)) => (bindO (some (IntKind.wrap .i64 (s2.2.1 + (1 : Int)))) (fun (a6 : Int) => (again1 (a3.2, (a6, (s2.2.2.1, a5)))))))))) (bindO (guardO (lenOk ((List.length s2.2.2.2) + (List.length (a3.1 :: ([] : List Int)))))) (fun (a7 : Unit) => (bindO (some (s2.2.2.2 ++ (a3.1 :: ([] : List Int)))) (fun (a8 : (List Int)) => (bindO (some (IntKind.wrap .i64 (s2.2.1 + (1 : Int)))) (fun (a9 : Int) => (again1 (false, (a9, (s2.2.2.1, a8))))))))))))) (cond (not a0.2) (some (((0 : Int), ([] : List Int)), false)) (cond (not s2.1) (some (((0 : Int), ([] : List Int)), false)) (some ((s2.2.2.1, s2.2.2.2), true))))))) (true, ((0 : Int), (a0.1, ([] : List Int)))))))

noncomputable def c_I_Group_basesOf : Con0 := ⟨pk_I_Group_basesOf, rk_I_Group_basesOf, M_I_Group_basesOf⟩

set_option maxRecDepth 100000 in
theorem eq_I_Group_basesOf (x : In pk_I_Group_basesOf) : semF (mkE [(188, c_I_Group_derive)]) h_I_Group_basesOf (info Try.f143) pk_I_Group_basesOf rk_I_Group_basesOf x = M_I_Group_basesOf x := by kernel_rfl

set_option maxRecDepth 100000 in
theorem m_I_Group_basesOf : ConOK Try.prog 143 c_I_Group_basesOf := fn_ok (tyOK _) (E := mkE [(188, c_I_Group_derive)]) (consOK_cons m_I_Group_derive (consOK_nil rfl)) Try.func143 (h := h_I_Group_basesOf) (by kernel_rfl) eq_I_Group_basesOf

/-- I_mod -/
def pk_I_mod : List PK := [.data (.int .i64), .data (.int .i64)]
def rk_I_mod : List (Ty × Bool) := [((.int .i64), false)]
def h_I_mod : Hints := { loops := [] }
noncomputable def M_I_mod (x : (Int × Int)) : (Option Int) :=
  (bindO (guardO (x.2 != (0 : Int))) (fun (a0 : Unit) => (bindO (some (Int.tmod x.1 x.2)) (fun (a1 : Int) => (bindO (some (IntKind.wrap .i64 (a1 + x.2))) (fun (a2 : Int) => (bindO (guardO (x.2 != (0 : Int))) (fun (a3 : Unit) => (bindO (some (Int.tmod a2 x.2)) (fun (a4 : Int) => (some a4)))))))))))

noncomputable def c_I_mod : Con0 := ⟨pk_I_mod, rk_I_mod, M_I_mod⟩

set_option maxRecDepth 100000 in
theorem eq_I_mod (x : In pk_I_mod) : semF (mkE []) h_I_mod (info Try.f179) pk_I_mod rk_I_mod x = M_I_mod x := by kernel_rfl

set_option maxRecDepth 100000 in
theorem m_I_mod : ConOK Try.prog 179 c_I_mod := fn_ok (tyOK _) (E := mkE []) (consOK_nil rfl) Try.func179 (h := h_I_mod) (by kernel_rfl) eq_I_mod

/-- I_Group_pow -/
def pk_I_Group_pow : List PK := [.data (.cons (.int .i64) (.cons (.int .i64) (.one (.int .i64)))), .data (.int .i64), .data (.int .i64)]
def rk_I_Group_pow : List (Ty × Bool) := [((.int .i64), false)]
def h_I_Group_pow : Hints := { loops := [] }
noncomputable def M_I_Group_pow (x : ((Int × (Int × Int)) × (Int × Int))) : (Option Int) :=
  (bindO (M_I_mod (x.2.2, x.1.2.1)) (fun (a0 : Int) => (bindO (M_I_power (x.2.1, (a0, x.1.1))) (fun (a1 : Int) => (some a1)))))

noncomputable def c_I_Group_pow : Con0 := ⟨pk_I_Group_pow, rk_I_Group_pow, M_I_Group_pow⟩

set_option maxRecDepth 100000 in
theorem eq_I_Group_pow (x : In pk_I_Group_pow) : semF (mkE [(179, c_I_mod), (163, c_I_power)]) h_I_Group_pow (info Try.f115) pk_I_Group_pow rk_I_Group_pow x = M_I_Group_pow x := by kernel_rfl

set_option maxRecDepth 100000 in
theorem m_I_Group_pow : ConOK Try.prog 115 c_I_Group_pow := fn_ok (tyOK _) (E := mkE [(179, c_I_mod), (163, c_I_power)]) (consOK_cons m_I_mod (consOK_cons m_I_power (consOK_nil rfl))) Try.func115 (h := h_I_Group_pow) (by kernel_rfl) eq_I_Group_pow

/-- I_Group_mul -/
def pk_I_Group_mul : List PK := [.data (.cons (.int .i64) (.cons (.int .i64) (.one (.int .i64)))), .data (.sl (.int .i64))]
def rk_I_Group_mul : List (Ty × Bool) := [((.int .i64), false)]
def h_I_Group_mul : Hints := { loops := [(0, { items := [.slot 5 (.data (.int .i64) []), .slot 10 (.data (.int .i64) [])], kill := [0, 1, 3, 4, 6, 7, 11, 12, 13, 14, 15, 16, 17, 18, 19, 20, 21] })] }
noncomputable def M_I_Group_mul (x : ((Int × (Int × Int)) × (List Int))) : (Option Int) :=
  (loopO (fun (again0 : ((Int × Int) → (Option Int))) => (fun (s1 : (Int × Int)) => (cond (decide (s1.2 < (((List.length x.2) : Nat) : Int))) (bindO (getI x.2 s1.2) (fun (a2 : Int) => (bindO (some (IntKind.wrap .i64 (s1.1 * a2))) (fun (a3 : Int) => (bindO (guardO (x.1.1 != (0 : Int))) (fun (a4 : Unit) => (bindO (some (Int.tmod a3 x.1.1)) (fun (a5 : Int) => (bindO (some (IntKind.wrap .i64 (s1.2 + (1 : Int)))) (fun (a6 : Int) => (again0 (a5, a6)))))))))))) (some s1.1)))) ((1 : Int), (0 : Int)))

noncomputable def c_I_Group_mul : Con0 := ⟨pk_I_Group_mul, rk_I_Group_mul, M_I_Group_mul⟩

set_option maxRecDepth 100000 in
theorem eq_I_Group_mul (x : In pk_I_Group_mul) : semF (mkE []) h_I_Group_mul (info Try.f114) pk_I_Group_mul rk_I_Group_mul x = M_I_Group_mul x := by kernel_rfl

set_option maxRecDepth 100000 in
theorem m_I_Group_mul : ConOK Try.prog 114 c_I_Group_mul := fn_ok (tyOK _) (E := mkE []) (consOK_nil rfl) Try.func114 (h := h_I_Group_mul) (by kernel_rfl) eq_I_Group_mul

/-- I_Group_commit -/
def pk_I_Group_commit : List PK := [.data (.cons (.int .i64) (.cons (.int .i64) (.one (.int .i64)))), .data (.cons (.int .i64) (.one (.sl (.int .i64)))), .data (.int .i64), .data (.int .i64)]
def rk_I_Group_commit : List (Ty × Bool) := [((.int .i64), false)]
def h_I_Group_commit : Hints := { loops := [] }
noncomputable def M_I_Group_commit (x : ((Int × (Int × Int)) × ((Int × (List Int)) × (Int × Int)))) : (Option Int) :=
  (bindO (M_I_Group_pow ((x.1.1, (x.1.2.1, x.1.2.2)), (x.1.2.2, x.2.2.1))) (fun (a0 : Int) => (bindO (M_I_Group_pow ((x.1.1, (x.1.2.1, x.1.2.2)), (x.2.1.1, x.2.2.2))) (fun (a1 : Int) => (bindO (M_I_Group_mul ((x.1.1, (x.1.2.1, x.1.2.2)), (a0 :: (a1 :: ([] : List Int))))) (fun (a2 : Int) => (some a2)))))))

noncomputable def c_I_Group_commit : Con0 := ⟨pk_I_Group_commit, rk_I_Group_commit, M_I_Group_commit⟩

set_option maxRecDepth 100000 in
theorem eq_I_Group_commit (x : In pk_I_Group_commit) : semF (mkE [(115, c_I_Group_pow), (114, c_I_Group_mul)]) h_I_Group_commit (info Try.f189) pk_I_Group_commit rk_I_Group_commit x = M_I_Group_commit x := by kernel_rfl

set_option maxRecDepth 100000 in
theorem m_I_Group_commit : ConOK Try.prog 189 c_I_Group_commit := fn_ok (tyOK _) (E := mkE [(115, c_I_Group_pow), (114, c_I_Group_mul)]) (consOK_cons m_I_Group_pow (consOK_cons m_I_Group_mul (consOK_nil rfl))) Try.func189 (h := h_I_Group_commit) (by kernel_rfl) eq_I_Group_commit

/-- I_Group_placeCommits -/
def pk_I_Group_placeCommits : List PK := [.data (.cons (.int .i64) (.cons (.int .i64) (.one (.int .i64)))), .data (.cons (.int .i64) (.one (.sl (.int .i64)))), .data (.sl (.int .i64)), .data (.sl (.int .i64))]
def rk_I_Group_placeCommits : List (Ty × Bool) := [((.sl (.int .i64)), true)]
def h_I_Group_placeCommits : Hints := { loops := [(0, { items := [.slot 9 (.own (.int .i64) true), .slot 15 (.data (.int .i64) [])], kill := [0, 1, 2, 6, 7, 8, 10, 11, 12, 16, 17, 18, 19, 20, 21, 22, 23, 24, 25, 26, 27, 28, 29, 30, 31, 32, 33] })] }
noncomputable def M_I_Group_placeCommits (x : ((Int × (Int × Int)) × ((Int × (List Int)) × ((List Int) × (List Int))))) : (Option (List Int)) :=
  (loopO (fun (again0 : (((List Int) × Int) → (Option (List Int)))) => (fun (s1 : ((List Int) × Int)) => (cond (decide (s1.2 < (((List.length x.2.2.1) : Nat) : Int))) (bindO (getI x.2.2.1 s1.2) (fun (a2 : Int) => (bindO (some (IntKind.wrap .i64 (a2 + (1 : Int)))) (fun (a3 : Int) => (bindO (getI x.2.2.2 s1.2) (fun (a4 : Int) => (bindO (M_I_Group_commit ((x.1.1, (x.1.2.1, x.1.2.2)), ((x.2.1.1, x.2.1.2), (a3, a4)))) (fun (a5 : Int) => (bindO (guardO (lenOk ((List.length s1.1) + (List.length (a5 :: ([] : List Int)))))) (fun (a6 : Unit) => (bindO (some (s1.1 ++ (a5 :: ([] : List Int)))) (fun (a7 : (List Int)) => (bindO (some (IntKind.wrap .i64 (s1.2 + (1 : Int)))) (fun (a8 : Int) => (again0 (a7, a8)))))))))))))))) (some s1.1)))) (([] : List Int), (0 : Int)))

noncomputable def c_I_Group_placeCommits : Con0 := ⟨pk_I_Group_placeCommits, rk_I_Group_placeCommits, M_I_Group_placeCommits⟩

set_option maxRecDepth 100000 in
theorem eq_I_Group_placeCommits (x : In pk_I_Group_placeCommits) : semF (mkE [(189, c_I_Group_commit)]) h_I_Group_placeCommits (info Try.f144) pk_I_Group_placeCommits rk_I_Group_placeCommits x = M_I_Group_placeCommits x := by kernel_rfl

set_option maxRecDepth 100000 in
theorem m_I_Group_placeCommits : ConOK Try.prog 144 c_I_Group_placeCommits := fn_ok (tyOK _) (E := mkE [(189, c_I_Group_commit)]) (consOK_cons m_I_Group_commit (consOK_nil rfl)) Try.func144 (h := h_I_Group_placeCommits) (by kernel_rfl) eq_I_Group_placeCommits

/-- I_PlaceCommits -/
def pk_I_PlaceCommits : List PK := [.data (.cons (.int .i64) (.cons (.int .i64) (.one (.int .i64)))), .data (.sl (.int .i64)), .data (.sl (.int .i64))]
def rk_I_PlaceCommits : List (Ty × Bool) := [((.sl (.int .i64)), true), (.bool, false)]
def h_I_PlaceCommits : Hints := { loops := [] }
noncomputable def M_I_PlaceCommits (x : ((Int × (Int × Int)) × ((List Int) × (List Int)))) : (Option ((List Int) × Bool)) :=
  (bindO (M_I_IsValidGroup (x.1.1, (x.1.2.1, x.1.2.2))) (fun (a0 : Bool) => (cond (not a0) (some (([] : List Int), false)) (bindO (M_I_within ((((List.length x.2.1) : Nat) : Int), ((1 : Int), (12 : Int)))) (fun (a1 : Bool) => (cond (not a1) (some (([] : List Int), false)) (bindO (M_I_Group_isMixing ((x.1.1, (x.1.2.1, x.1.2.2)), (x.2.1, (x.2.2, (((List.length x.2.1) : Nat) : Int))))) (fun (a2 : Bool) => (cond (not a2) (some (([] : List Int), false)) (bindO (M_I_Group_basesOf ((x.1.1, (x.1.2.1, x.1.2.2)), (0 : Int))) (fun (a3 : ((Int × (List Int)) × Bool)) => (cond (not a3.2) (some (([] : List Int), false)) (bindO (M_I_Group_placeCommits ((x.1.1, (x.1.2.1, x.1.2.2)), ((a3.1.1, a3.1.2), (x.2.1, x.2.2)))) (fun (a4 : (List Int)) => (some (a4, true))))))))))))))))

noncomputable def c_I_PlaceCommits : Con0 := ⟨pk_I_PlaceCommits, rk_I_PlaceCommits, M_I_PlaceCommits⟩

set_option maxRecDepth 100000 in
theorem eq_I_PlaceCommits (x : In pk_I_PlaceCommits) : semF (mkE [(90, c_I_IsValidGroup), (82, c_I_within), (142, c_I_Group_isMixing), (143, c_I_Group_basesOf), (144, c_I_Group_placeCommits)]) h_I_PlaceCommits (info Try.f69) pk_I_PlaceCommits rk_I_PlaceCommits x = M_I_PlaceCommits x := by kernel_rfl

set_option maxRecDepth 100000 in
theorem m_I_PlaceCommits : ConOK Try.prog 69 c_I_PlaceCommits := fn_ok (tyOK _) (E := mkE [(90, c_I_IsValidGroup), (82, c_I_within), (142, c_I_Group_isMixing), (143, c_I_Group_basesOf), (144, c_I_Group_placeCommits)]) (consOK_cons m_I_IsValidGroup (consOK_cons m_I_within (consOK_cons m_I_Group_isMixing (consOK_cons m_I_Group_basesOf (consOK_cons m_I_Group_placeCommits (consOK_nil rfl)))))) Try.func69 (h := h_I_PlaceCommits) (by kernel_rfl) eq_I_PlaceCommits

/-- L_eqIntS -/
def pk_L_eqIntS : List PK := [.data (.sl (.int .i64)), .data (.sl (.int .i64))]
def rk_L_eqIntS : List (Ty × Bool) := [(.bool, false)]
def h_L_eqIntS : Hints := { loops := [(0, { items := [.slot 5 (.data (.int .i64) [])], kill := [2, 3, 4, 6, 7, 8, 9, 10, 11, 12, 13, 14, 15, 16, 17, 18, 19, 20, 21, 22, 23, 24, 25] })] }
noncomputable def M_L_eqIntS (x : ((List Int) × (List Int))) : (Option Bool) :=
  (cond ((((List.length x.1) : Nat) : Int) != (((List.length x.2) : Nat) : Int)) (some false) (loopO (fun (again0 : (Int → (Option Bool))) => (fun (s1 : Int) => (cond (decide (s1 < (((List.length x.1) : Nat) : Int))) (bindO (getI x.1 s1) (fun (a2 : Int) => (bindO (getI x.2 s1) (fun (a3 : Int) => (cond (a2 != a3) (some false) (bindO (some (IntKind.wrap .i64 (s1 + (1 : Int)))) (fun (a4 : Int) => (again0 a4)))))))) (some true)))) (0 : Int)))

noncomputable def c_L_eqIntS : Con0 := ⟨pk_L_eqIntS, rk_L_eqIntS, M_L_eqIntS⟩

set_option maxRecDepth 100000 in
theorem eq_L_eqIntS (x : In pk_L_eqIntS) : semF (mkE []) h_L_eqIntS (info Try.f27) pk_L_eqIntS rk_L_eqIntS x = M_L_eqIntS x := by kernel_rfl

set_option maxRecDepth 100000 in
theorem m_L_eqIntS : ConOK Try.prog 27 c_L_eqIntS := fn_ok (tyOK _) (E := mkE []) (consOK_nil rfl) Try.func27 (h := h_L_eqIntS) (by kernel_rfl) eq_L_eqIntS

/-- L_markIntS -/
def pk_L_markIntS : List PK := [.mv (.sl (.int .i64)), .data (.int .i64)]
def rk_L_markIntS : List (Ty × Bool) := [((.int .i64), false)]
def h_L_markIntS : Hints := { loops := [(0, { items := [.slot 1 (.data (.int .i64) []), .slot 5 (.data (.int .i64) []), .arr 0 (.int .i64) true], kill := [2, 3, 4, 6, 7, 8, 9, 10, 11, 12, 13, 14, 15, 16, 17, 18] })] }
noncomputable def M_L_markIntS (x : ((List Int) × Int)) : (Option (Int × (List Int))) :=
  (loopO (fun (again0 : ((Int × (Int × (List Int))) → (Option (Int × (List Int))))) => (fun (s1 : (Int × (Int × (List Int)))) => (cond (decide (s1.2.1 < (((List.length s1.2.2) : Nat) : Int))) (bindO (getI s1.2.2 s1.2.1) (fun (a2 : Int) => (bindO (some (List.set s1.2.2 (Int.toNat s1.2.1) s1.1)) (fun (a3 : (List Int)) => (bindO (some (IntKind.wrap .i64 (s1.1 + (1 : Int)))) (fun (a4 : Int) => (bindO (some (IntKind.wrap .i64 (s1.2.1 + (1 : Int)))) (fun (a5 : Int) => (again0 (a4, (a5, a3))))))))))) (some (s1.1, s1.2.2))))) (x.2, ((0 : Int), x.1)))

noncomputable def c_L_markIntS : Con0 := ⟨pk_L_markIntS, rk_L_markIntS, M_L_markIntS⟩

set_option maxRecDepth 100000 in
theorem eq_L_markIntS (x : In pk_L_markIntS) : semF (mkE []) h_L_markIntS (info Try.f28) pk_L_markIntS rk_L_markIntS x = M_L_markIntS x := by kernel_rfl

set_option maxRecDepth 100000 in
theorem m_L_markIntS : ConOK Try.prog 28 c_L_markIntS := fn_ok (tyOK _) (E := mkE []) (consOK_nil rfl) Try.func28 (h := h_L_markIntS) (by kernel_rfl) eq_L_markIntS

/-- L_heldIntS -/
def pk_L_heldIntS : List PK := [.data (.sl (.int .i64)), .data (.int .i64)]
def rk_L_heldIntS : List (Ty × Bool) := [((.int .i64), false)]
def h_L_heldIntS : Hints := { loops := [(0, { items := [.slot 1 (.data (.int .i64) []), .slot 5 (.data (.int .i64) [])], kill := [2, 3, 4, 6, 7, 8, 9, 10, 11, 12, 13, 14, 15, 16, 17, 18, 19, 20] })] }
noncomputable def M_L_heldIntS (x : ((List Int) × Int)) : (Option Int) :=
  (loopO (fun (again0 : ((Int × Int) → (Option Int))) => (fun (s1 : (Int × Int)) => (cond (decide (s1.2 < (((List.length x.1) : Nat) : Int))) (bindO (getI x.1 s1.2) (fun (a2 : Int) => (cond (a2 != s1.1) (some (- (1 : Int))) (bindO (some (IntKind.wrap .i64 (s1.1 + (1 : Int)))) (fun (a3 : Int) => (bindO (some (IntKind.wrap .i64 (s1.2 + (1 : Int)))) (fun (a4 : Int) => (again0 (a3, a4))))))))) (some s1.1)))) (x.2, (0 : Int)))

noncomputable def c_L_heldIntS : Con0 := ⟨pk_L_heldIntS, rk_L_heldIntS, M_L_heldIntS⟩

set_option maxRecDepth 100000 in
theorem eq_L_heldIntS (x : In pk_L_heldIntS) : semF (mkE []) h_L_heldIntS (info Try.f29) pk_L_heldIntS rk_L_heldIntS x = M_L_heldIntS x := by kernel_rfl

set_option maxRecDepth 100000 in
theorem m_L_heldIntS : ConOK Try.prog 29 c_L_heldIntS := fn_ok (tyOK _) (E := mkE []) (consOK_nil rfl) Try.func29 (h := h_L_heldIntS) (by kernel_rfl) eq_L_heldIntS

/-- L_FnExactPlaceCommits -/
def pk_L_FnExactPlaceCommits : List PK := [.data (.cons (.int .i64) (.cons (.int .i64) (.one (.int .i64)))), .data (.sl (.int .i64)), .data (.sl (.int .i64))]
def rk_L_FnExactPlaceCommits : List (Ty × Bool) := [(.bool, false)]
def h_L_FnExactPlaceCommits : Hints := { loops := [] }
noncomputable def M_L_FnExactPlaceCommits (x : ((Int × (Int × Int)) × ((List Int) × (List Int)))) : (Option Bool) :=
  (cond (decide ((((List.length x.2.1) : Nat) : Int) > (1048576 : Int))) (some true) (cond (decide ((((List.length x.2.2) : Nat) : Int) > (1048576 : Int))) (some true) (bindO (M_L_toGroup (x.1.1, (x.1.2.1, x.1.2.2))) (fun (a0 : (Int × (Int × Int))) => (bindO (M_L_toIntS x.2.1) (fun (a1 : (List Int)) => (bindO (M_L_toIntS x.2.2) (fun (a2 : (List Int)) => (bindO (M_S_PlaceCommits ((a0.1, (a0.2.1, a0.2.2)), (a1, a2))) (fun (a3 : ((List Int) × Bool)) => (bindO (M_L_toIntS x.2.1) (fun (a4 : (List Int)) => (bindO (M_L_toIntS x.2.2) (fun (a5 : (List Int)) => (bindO (M_L_toGroup (x.1.1, (x.1.2.1, x.1.2.2))) (fun (a6 : (Int × (Int × Int))) => (bindO (M_I_PlaceCommits ((a6.1, (a6.2.1, a6.2.2)), (a4, a5))) (fun (a7 : ((List Int) × Bool)) => (bindO (M_L_eqIntS (a7.1, a3.1)) (fun (a8 : Bool) => (cond (not a8) (some false) (cond (not (a7.2 == a3.2)) (some false) (bindO (M_L_toIntS x.2.1) (fun (a9 : (List Int)) => (bindO (M_L_eqIntS (a4, a9)) (fun (a10 : Bool) => (cond (not a10) (some false) (bindO (M_L_toIntS x.2.2) (fun (a11 : (List Int)) => (bindO (M_L_eqIntS (a5, a11)) (fun (a12 : Bool) => (cond (not a12) (some false) (bindO (M_L_markIntS (a4, (1 : Int))) (fun (a13 : (Int × (List Int))) => (bindO (M_L_markIntS (a5, a13.1)) (fun (a14 : (Int × (List Int))) => (cond (decide (a14.1 < (0 : Int))) (some false) (bindO (M_L_eqIntS (a7.1, a3.1)) (fun (a15 : Bool) => (cond (not a15) (some false) (cond (not (a7.2 == a3.2)) (some false) (bindO (M_L_markIntS (a7.1, (1 : Int))) (fun (a16 : (Int × (List Int))) => (bindO (M_L_heldIntS (a16.2, (1 : Int))) (fun (a17 : Int) => (cond (decide (a17 < (0 : Int))) (some false) (cond (a17 != a16.1) (some false) (bindO (M_L_toGroup (x.1.1, (x.1.2.1, x.1.2.2))) (fun (a18 : (Int × (Int × Int))) => (bindO (M_L_toIntS x.2.1) (fun (a19 : (List Int)) => (bindO (M_L_toIntS x.2.2) (fun (a20 : (List Int)) => (bindO (M_I_PlaceCommits ((a18.1, (a18.2.1, a18.2.2)), (a19, a20))) (fun (a21 : ((List Int) × Bool)) => (bindO (M_L_eqIntS (a21.1, a3.1)) (fun (a22 : Bool) => (cond (not a22) (some false) (cond (not (a21.2 == a3.2)) (some false) (bindO (M_L_heldIntS (a16.2, (1 : Int))) (fun (a23 : Int) => (cond (decide (a23 < (0 : Int))) (some false) (cond (a23 != a16.1) (some false) (some true))))))))))))))))))))))))))))))))))))))))))))))))))))))))))))))))

noncomputable def c_L_FnExactPlaceCommits : Con0 := ⟨pk_L_FnExactPlaceCommits, rk_L_FnExactPlaceCommits, M_L_FnExactPlaceCommits⟩

set_option maxRecDepth 100000 in
theorem eq_L_FnExactPlaceCommits (x : In pk_L_FnExactPlaceCommits) : semF (mkE [(32, c_L_toGroup), (25, c_L_toIntS), (68, c_S_PlaceCommits), (69, c_I_PlaceCommits), (27, c_L_eqIntS), (28, c_L_markIntS), (29, c_L_heldIntS)]) h_L_FnExactPlaceCommits (info Try.f14) pk_L_FnExactPlaceCommits rk_L_FnExactPlaceCommits x = M_L_FnExactPlaceCommits x := by kernel_rfl

set_option maxRecDepth 100000 in
theorem m_L_FnExactPlaceCommits : ConOK Try.prog 14 c_L_FnExactPlaceCommits := fn_ok (tyOK _) (E := mkE [(32, c_L_toGroup), (25, c_L_toIntS), (68, c_S_PlaceCommits), (69, c_I_PlaceCommits), (27, c_L_eqIntS), (28, c_L_markIntS), (29, c_L_heldIntS)]) (consOK_cons m_L_toGroup (consOK_cons m_L_toIntS (consOK_cons m_S_PlaceCommits (consOK_cons m_I_PlaceCommits (consOK_cons m_L_eqIntS (consOK_cons m_L_markIntS (consOK_cons m_L_heldIntS (consOK_nil rfl)))))))) Try.func14 (h := h_L_FnExactPlaceCommits) (by kernel_rfl) eq_L_FnExactPlaceCommits

/-- S_vDifferent -/
noncomputable def M_S_vDifferent (x : (List Int)) : (Option Bool) :=
  (loopO (fun (again0 : (Int → (Option Bool))) => (fun (s1 : Int) => (cond (decide (s1 < (((List.length x) : Nat) : Int))) (bindO (getI x s1) (fun (a2 : Int) => (bindO (sliceNH s1 (List.length x)) (fun (a3 : (Nat × Nat)) => (bindO (M_S_l1Has ((List.drop a3.1 (List.take a3.2 x)), a2)) (fun (a4 : Bool) => (cond a4 (some false) (bindO (some (IntKind.wrap .i64 (s1 + (1 : Int)))) (fun (a5 : Int) => (again0 a5)))))))))) (some true)))) (0 : Int))

end Go.Proofs.Ytikmcaegilhfeaa.Vd
