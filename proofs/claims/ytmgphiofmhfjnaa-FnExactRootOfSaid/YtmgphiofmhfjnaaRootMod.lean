/- The functions of the law as plain functions on data, and that the program's functions are these. No conditions. -/
import Derived.Test.YtmgphiofmhfjnaaVd3
import Derived.Test.YtmgphiofmhfjnaaChecked
import Derived.KernelRfl
set_option linter.unusedVariables false
namespace Go.Proofs.Ytmgphiofmhfjnaa.Vd
def tys : List (Option Ty) := [none, none, some (.int .i64), some (.int .i64), some .bool, some (.int .u8), some (.int .u8), some (.cons (.int .i64) (.cons (.int .i64) (.cons .bool (.one (.int .u8))))), some (.cons (.int .i64) (.cons (.int .i64) (.cons .bool (.one (.int .u8))))), some .str, some .str, some .str, some (.int .u64), some (.cons .str (.one (.int .u64))), some (.cons .str (.one (.int .u64))), none, none, none, none, none, none, some (.int .i32), some (.sl (.sl (.int .i64))), none, none, none, none, none, none, some (.cons (.int .i64) (.cons (.int .i64) (.one (.int .i64)))), some (.cons (.int .i64) (.cons (.int .i64) (.one (.int .i64)))), some (.sl (.int .i64)), none, none, some (.cons (.int .i64) (.cons (.int .i64) (.one (.int .i64)))), none, none, none, none, none, none, none, none, none, none, none, none, none, none, none, some (.sl (.cons (.int .i64) (.one (.int .i64)))), none, none, none, none, none, some (.sl (.cons (.int .i64) (.one (.int .i64)))), none, none, none, none, none, none, none, some (.int .u64), none, none, none, none, none, none, none, none, none, none, none, none, none, none, some (.cons (.int .i64) (.one (.int .i64))), some (.cons (.int .i64) (.one (.int .i64))), none, none, none, none, none, none, none, none, none, none, none, none, some (.cons (.int .i64) (.one (.int .i64))), none, none, none, none, none, none, none, none, none, none, none, none, some (.int .u32), none, some (.int .u64), none, none, none, none, none, none, none, none, some (.cons (.int .i64) (.one (.int .i64))), some (.cons (.int .i64) (.one (.int .i64))), none, none, none, none, none, none, none, none, some (.int .u8), some (.int .u8), none, none, some (.int .i32), some (.int .i32), none, none, none]
def others : List Nat := [1, 15, 16, 17, 23, 25, 26, 27, 28, 33, 35, 36, 37, 38, 39, 40, 41, 42, 43, 45, 46, 47, 49, 52, 53, 54, 55, 57, 58, 59, 60, 61, 62, 63, 65, 66, 67, 68, 69, 70, 71, 72, 73, 74, 75, 76, 77, 78, 81, 82, 83, 84, 85, 86, 87, 88, 89, 90, 91, 92, 94, 95, 96, 97, 98, 99, 100, 101, 102, 103, 104, 105, 107, 109, 110, 111, 112, 113, 114, 115, 116, 119, 120, 126, 129, 130]
def pairs : List Nat := [79, 80, 93, 117, 118]
noncomputable def mkE (con : List (Nat × Con0)) : Env := ⟨[], tys, others, pairs, con⟩

set_option maxRecDepth 100000 in
theorem tyOK (con : List (Nat × Con0)) : TyOK Try.prog (mkE con) := tyOK_of (E := mkE con) (by kernel_rfl) (by kernel_rfl) (by kernel_rfl)

/-- L_toIntS -/
def pk_L_toIntS : List PK := [.data (.sl (.int .i64))]
def rk_L_toIntS : List (Ty × Bool) := [((.sl (.int .i64)), true)]
def h_L_toIntS : Hints := { loops := [(0, { items := [.slot 4 (.data (.int .i64) []), .arr 3 (.int .i64) true], kill := [1, 2, 5, 6, 7, 8, 9, 10, 11, 12, 13, 14, 15, 16, 17, 18, 19, 20, 21] })] }
noncomputable def M_L_toIntS (x : (List Int)) : (Option (List Int)) :=
  (bindO (guardO (((decide ((0 : Int) ≤ (((List.length x) : Nat) : Int))) && (decide ((((List.length x) : Nat) : Int) ≤ (((List.length x) : Nat) : Int)))) && (decide ((((List.length x) : Nat) : Int) ≤ ((lim : Nat) : Int))))) (fun (a0 : Unit) => (loopO (fun (again1 : ((Int × (List Int)) → (Option (List Int)))) => (fun (s2 : (Int × (List Int))) => (cond (decide (s2.1 < (((List.length x) : Nat) : Int))) (bindO (getI x s2.1) (fun (a3 : Int) => (bindO (getI s2.2 s2.1) (fun (a4 : Int) => (bindO (some (List.set s2.2 (Int.toNat s2.1) a3)) (fun (a5 : (List Int)) => (bindO (some (IntKind.wrap .i64 (s2.1 + (1 : Int)))) (fun (a6 : Int) => (again1 (a6, a5)))))))))) (some s2.2)))) ((0 : Int), (List.replicate (Int.toNat (((List.length x) : Nat) : Int)) (0 : Int))))))

noncomputable def c_L_toIntS : Con0 := ⟨pk_L_toIntS, rk_L_toIntS, M_L_toIntS⟩

set_option maxRecDepth 100000 in
theorem eq_L_toIntS (x : In pk_L_toIntS) : semF (mkE []) h_L_toIntS (info Try.f22) pk_L_toIntS rk_L_toIntS x = M_L_toIntS x := by kernel_rfl

set_option maxRecDepth 100000 in
theorem m_L_toIntS : ConOK Try.prog 22 c_L_toIntS := fn_ok (tyOK _) (E := mkE []) (consOK_nil rfl) Try.func22 (h := h_L_toIntS) (by kernel_rfl) eq_L_toIntS

/-- S_l1In -/
def pk_S_l1In : List PK := [.data (.int .i64), .data (.int .i64), .data (.int .i64)]
def rk_S_l1In : List (Ty × Bool) := [(.bool, false)]
def h_S_l1In : Hints := { loops := [] }
noncomputable def M_S_l1In (x : (Int × (Int × Int))) : (Option Bool) :=
  (cond (decide (x.1 ≥ x.2.1)) (some (decide (x.1 ≤ x.2.2))) (some false))

noncomputable def c_S_l1In : Con0 := ⟨pk_S_l1In, rk_S_l1In, M_S_l1In⟩

set_option maxRecDepth 100000 in
theorem eq_S_l1In (x : In pk_S_l1In) : semF (mkE []) h_S_l1In (info Try.f61) pk_S_l1In rk_S_l1In x = M_S_l1In x := by kernel_rfl

set_option maxRecDepth 100000 in
theorem m_S_l1In : ConOK Try.prog 61 c_S_l1In := fn_ok (tyOK _) (E := mkE []) (consOK_nil rfl) Try.func61 (h := h_S_l1In) (by kernel_rfl) eq_S_l1In

/-- S_l1All -/
def pk_S_l1All : List PK := [.data (.sl (.int .i64)), .data (.int .i64), .data (.int .i64)]
def rk_S_l1All : List (Ty × Bool) := [(.bool, false)]
def h_S_l1All : Hints := { loops := [(0, { items := [.slot 11 (.data (.int .i64) [])], kill := [0, 3, 4, 5, 6, 7, 8, 12, 13, 14, 15, 16, 17, 18, 19, 20] })] }
noncomputable def M_S_l1All (x : ((List Int) × (Int × Int))) : (Option Bool) :=
  (loopO (fun (again0 : (Int → (Option Bool))) => (fun (s1 : Int) => (cond (decide (s1 < (((List.length x.1) : Nat) : Int))) (bindO (getI x.1 s1) (fun (a2 : Int) => (bindO (M_S_l1In (a2, (x.2.1, x.2.2))) (fun (a3 : Bool) => (cond (not a3) (some false) (bindO (some (IntKind.wrap .i64 (s1 + (1 : Int)))) (fun (a4 : Int) => (again0 a4)))))))) (some true)))) (0 : Int))

noncomputable def c_S_l1All : Con0 := ⟨pk_S_l1All, rk_S_l1All, M_S_l1All⟩

set_option maxRecDepth 100000 in
theorem eq_S_l1All (x : In pk_S_l1All) : semF (mkE [(61, c_S_l1In)]) h_S_l1All (info Try.f73) pk_S_l1All rk_S_l1All x = M_S_l1All x := by kernel_rfl

set_option maxRecDepth 100000 in
theorem m_S_l1All : ConOK Try.prog 73 c_S_l1All := fn_ok (tyOK _) (E := mkE [(61, c_S_l1In)]) (consOK_cons m_S_l1In (consOK_nil rfl)) Try.func73 (h := h_S_l1All) (by kernel_rfl) eq_S_l1All

/-- S_kGood -/
def pk_S_kGood : List PK := [.data (.sl (.int .i64))]
def rk_S_kGood : List (Ty × Bool) := [(.bool, false)]
def h_S_kGood : Hints := { loops := [] }
noncomputable def M_S_kGood (x : (List Int)) : (Option Bool) :=
  (cond (decide ((((List.length x) : Nat) : Int) ≤ (64 : Int))) (bindO (M_S_l1All (x, ((0 : Int), (4611686018427387903 : Int)))) (fun (a0 : Bool) => (some a0))) (some false))

noncomputable def c_S_kGood : Con0 := ⟨pk_S_kGood, rk_S_kGood, M_S_kGood⟩

set_option maxRecDepth 100000 in
theorem eq_S_kGood (x : In pk_S_kGood) : semF (mkE [(73, c_S_l1All)]) h_S_kGood (info Try.f69) pk_S_kGood rk_S_kGood x = M_S_kGood x := by kernel_rfl

set_option maxRecDepth 100000 in
theorem m_S_kGood : ConOK Try.prog 69 c_S_kGood := fn_ok (tyOK _) (E := mkE [(73, c_S_l1All)]) (consOK_cons m_S_l1All (consOK_nil rfl)) Try.func69 (h := h_S_kGood) (by kernel_rfl) eq_S_kGood

/-- S_l3With -/
def pk_S_l3With : List PK := [.data .str, .data (.sl (.int .i64))]
def rk_S_l3With : List (Ty × Bool) := [((.sl (.int .i64)), true)]
def h_S_l3With : Hints := { loops := [(0, { items := [.slot 5 (.own (.int .i64) true), .slot 6 (.data (.int .i64) [])], kill := [2, 3, 4, 7, 8, 9, 10, 11, 12, 13, 14, 15, 16, 17, 18, 19, 20, 21, 22, 23, 24, 25] })] }
noncomputable def M_S_l3With (x : (ByteArray × (List Int))) : (Option (List Int)) :=
  (loopO (fun (again0 : (((List Int) × Int) → (Option (List Int)))) => (fun (s1 : ((List Int) × Int)) => (cond (decide (s1.2 < (((ByteArray.size x.1) : Nat) : Int))) (bindO (if ((0 : Int) ≤ s1.2) then (x.1[(Int.toNat s1.2)]?) else (none : Option (UInt8))) (fun (a2 : (UInt8)) => (bindO (guardO (lenOk ((List.length s1.1) + (List.length ((IntKind.wrap .i64 (((UInt8.toNat a2) : Nat) : Int)) :: ([] : List Int)))))) (fun (a3 : Unit) => (bindO (some (s1.1 ++ ((IntKind.wrap .i64 (((UInt8.toNat a2) : Nat) : Int)) :: ([] : List Int)))) (fun (a4 : (List Int)) => (bindO (some (IntKind.wrap .i64 (s1.2 + (1 : Int)))) (fun (a5 : Int) => (again0 (a4, a5)))))))))) (bindO (guardO (lenOk ((List.length s1.1) + (List.length x.2)))) (fun (a6 : Unit) => (bindO (some (s1.1 ++ x.2)) (fun (a7 : (List Int)) => (some a7)))))))) (((((ByteArray.size x.1) : Nat) : Int) :: ([] : List Int)), (0 : Int)))

noncomputable def c_S_l3With : Con0 := ⟨pk_S_l3With, rk_S_l3With, M_S_l3With⟩

set_option maxRecDepth 100000 in
theorem eq_S_l3With (x : In pk_S_l3With) : semF (mkE []) h_S_l3With (info Try.f150) pk_S_l3With rk_S_l3With x = M_S_l3With x := by kernel_rfl

set_option maxRecDepth 100000 in
theorem m_S_l3With : ConOK Try.prog 150 c_S_l3With := fn_ok (tyOK _) (E := mkE []) (consOK_nil rfl) Try.func150 (h := h_S_l3With) (by kernel_rfl) eq_S_l3With

/-- S_l3State_absorb -/
def pk_S_l3State_absorb : List PK := [.mp (.cons (.int .i64) (.one (.int .i64))) false, .data (.int .i64)]
def rk_S_l3State_absorb : List (Ty × Bool) := []
def h_S_l3State_absorb : Hints := { loops := [(0, { items := [.slot 12 (.data (.int .i64) []), .cell 0 0 (.data (.int .i64) []), .cell 0 1 (.data (.int .i64) [])], kill := [1, 2, 3, 4, 5, 6, 7, 8, 9, 13, 14, 15, 16, 17, 18, 19, 20, 21, 22, 23, 24, 25, 26, 27, 28, 29, 30, 31, 32, 33, 34, 35, 36, 37, 38, 39, 40] })] }
noncomputable def M_S_l3State_absorb (x : ((Int × Int) × Int)) : (Option (Int × Int)) :=
  (bindO (guardO ((2147483648 : Int) != (0 : Int))) (fun (a0 : Unit) => (bindO (some (Int.tmod x.2 (2147483648 : Int))) (fun (a1 : Int) => (bindO (guardO ((2147483648 : Int) != (0 : Int))) (fun (a2 : Unit) => (bindO (some (IntKind.wrap .i64 (Int.tdiv x.2 (2147483648 : Int)))) (fun (a3 : Int) => (loopO (fun (again4 : ((Int × (Int × Int)) → (Option (Int × Int)))) => (fun (s5 : (Int × (Int × Int))) => (cond (decide (s5.1 < (((List.length (a1 :: (a3 :: ([] : List Int)))) : Nat) : Int))) (bindO (getI (a1 :: (a3 :: ([] : List Int))) s5.1) (fun (a6 : Int) => (bindO (some (IntKind.wrap .i64 ((48271 : Int) * s5.2.1))) (fun (a7 : Int) => (bindO (some (IntKind.wrap .i64 (a7 + a6))) (fun (a8 : Int) => (bindO (some (IntKind.wrap .i64 (a8 + (1 : Int)))) (fun (a9 : Int) => (bindO (guardO ((2147483647 : Int) != (0 : Int))) (fun (a10 : Unit) => (bindO (some (Int.tmod a9 (2147483647 : Int))) (fun (a11 : Int) => (bindO (some (IntKind.wrap .i64 ((69621 : Int) * s5.2.2))) (fun (a12 : Int) => (bindO (some (IntKind.wrap .i64 (a12 + a6))) (fun (a13 : Int) => (bindO (some (IntKind.wrap .i64 (a13 + (1 : Int)))) (fun (a14 : Int) => (bindO (guardO ((2147483647 : Int) != (0 : Int))) (fun (a15 : Unit) => (bindO (some (Int.tmod a14 (2147483647 : Int))) (fun (a16 : Int) => (bindO (some (IntKind.wrap .i64 (s5.1 + (1 : Int)))) (fun (a17 : Int) => (again4 (a17, (a11, a16))))))))))))))))))))))))))) (some (s5.2.1, s5.2.2))))) ((0 : Int), (x.1.1, x.1.2)))))))))))

noncomputable def c_S_l3State_absorb : Con0 := ⟨pk_S_l3State_absorb, rk_S_l3State_absorb, M_S_l3State_absorb⟩

set_option maxRecDepth 100000 in
theorem eq_S_l3State_absorb (x : In pk_S_l3State_absorb) : semF (mkE []) h_S_l3State_absorb (info Try.f158) pk_S_l3State_absorb rk_S_l3State_absorb x = M_S_l3State_absorb x := by kernel_rfl

set_option maxRecDepth 100000 in
theorem m_S_l3State_absorb : ConOK Try.prog 158 c_S_l3State_absorb := fn_ok (tyOK _) (E := mkE []) (consOK_nil rfl) Try.func158 (h := h_S_l3State_absorb) (by kernel_rfl) eq_S_l3State_absorb

/-- S_hInts -/
def pk_S_hInts : List PK := [.data (.sl (.int .i64))]
def rk_S_hInts : List (Ty × Bool) := [((.int .i64), false)]
def h_S_hInts : Hints := { loops := [(0, { items := [.slot 14 (.data (.int .i64) []), .cell 7 0 (.data (.int .i64) []), .cell 7 1 (.data (.int .i64) [])], kill := [0, 1, 2, 4, 5, 6, 8, 9, 10, 11, 15, 16, 17, 18, 19, 20, 21, 22, 23, 24, 25, 26, 27, 28, 29, 30, 31] })] }
noncomputable def M_S_hInts (x : (List Int)) : (Option Int) :=
  (bindO (M_S_l3State_absorb (((1 : Int), (2 : Int)), (((List.length x) : Nat) : Int))) (fun (a0 : (Int × Int)) => (loopO (fun (again1 : ((Int × (Int × Int)) → (Option Int))) => (fun (s2 : (Int × (Int × Int))) => (cond (decide (s2.1 < (((List.length x) : Nat) : Int))) (bindO (getI x s2.1) (fun (a3 : Int) => (bindO (M_S_l3State_absorb ((s2.2.1, s2.2.2), a3)) (fun (a4 : (Int × Int)) => (bindO (some (IntKind.wrap .i64 (s2.1 + (1 : Int)))) (fun (a5 : Int) => (again1 (a5, (a4.1, a4.2))))))))) (bindO (some (IntKind.wrap .i64 (s2.2.1 * (2147483648 : Int)))) (fun (a6 : Int) => (bindO (some (IntKind.wrap .i64 (a6 + s2.2.2))) (fun (a7 : Int) => (some a7)))))))) ((0 : Int), (a0.1, a0.2)))))

noncomputable def c_S_hInts : Con0 := ⟨pk_S_hInts, rk_S_hInts, M_S_hInts⟩

set_option maxRecDepth 100000 in
theorem eq_S_hInts (x : In pk_S_hInts) : semF (mkE [(158, c_S_l3State_absorb)]) h_S_hInts (info Try.f149) pk_S_hInts rk_S_hInts x = M_S_hInts x := by kernel_rfl

set_option maxRecDepth 100000 in
theorem m_S_hInts : ConOK Try.prog 149 c_S_hInts := fn_ok (tyOK _) (E := mkE [(158, c_S_l3State_absorb)]) (consOK_cons m_S_l3State_absorb (consOK_nil rfl)) Try.func149 (h := h_S_hInts) (by kernel_rfl) eq_S_hInts

/-- S_hLabelled -/
def pk_S_hLabelled : List PK := [.data .str, .data (.sl (.int .i64))]
def rk_S_hLabelled : List (Ty × Bool) := [((.int .i64), false)]
def h_S_hLabelled : Hints := { loops := [] }
noncomputable def M_S_hLabelled (x : (ByteArray × (List Int))) : (Option Int) :=
  (bindO (M_S_l3With (x.1, x.2)) (fun (a0 : (List Int)) => (bindO (M_S_hInts a0) (fun (a1 : Int) => (some a1)))))

noncomputable def c_S_hLabelled : Con0 := ⟨pk_S_hLabelled, rk_S_hLabelled, M_S_hLabelled⟩

set_option maxRecDepth 100000 in
theorem eq_S_hLabelled (x : In pk_S_hLabelled) : semF (mkE [(150, c_S_l3With), (149, c_S_hInts)]) h_S_hLabelled (info Try.f123) pk_S_hLabelled rk_S_hLabelled x = M_S_hLabelled x := by kernel_rfl

set_option maxRecDepth 100000 in
theorem m_S_hLabelled : ConOK Try.prog 123 c_S_hLabelled := fn_ok (tyOK _) (E := mkE [(150, c_S_l3With), (149, c_S_hInts)]) (consOK_cons m_S_l3With (consOK_cons m_S_hInts (consOK_nil rfl))) Try.func123 (h := h_S_hLabelled) (by kernel_rfl) eq_S_hLabelled

/-- S_kSplit -/
def pk_S_kSplit : List PK := [.data (.int .i64)]
def rk_S_kSplit : List (Ty × Bool) := [((.int .i64), false)]
def h_S_kSplit : Hints := { loops := [(0, { items := [.slot 3 (.data (.int .i64) [])], kill := [1, 2, 4, 5, 6, 7, 8, 9, 10] })] }
noncomputable def M_S_kSplit (x : Int) : (Option Int) :=
  (loopO (fun (again0 : (Int → (Option Int))) => (fun (s1 : Int) => (bindO (some (IntKind.wrap .i64 ((2 : Int) * s1))) (fun (a2 : Int) => (cond (decide (a2 < x)) (bindO (some (IntKind.wrap .i64 (s1 * (2 : Int)))) (fun (a3 : Int) => (again0 a3))) (some s1)))))) (1 : Int))

noncomputable def c_S_kSplit : Con0 := ⟨pk_S_kSplit, rk_S_kSplit, M_S_kSplit⟩

set_option maxRecDepth 100000 in
theorem eq_S_kSplit (x : In pk_S_kSplit) : semF (mkE []) h_S_kSplit (info Try.f124) pk_S_kSplit rk_S_kSplit x = M_S_kSplit x := by kernel_rfl

set_option maxRecDepth 100000 in
theorem m_S_kSplit : ConOK Try.prog 124 c_S_kSplit := fn_ok (tyOK _) (E := mkE []) (consOK_nil rfl) Try.func124 (h := h_S_kSplit) (by kernel_rfl) eq_S_kSplit

/-- S_kNode -/
def pk_S_kNode : List PK := [.data (.int .i64), .data (.int .i64)]
def rk_S_kNode : List (Ty × Bool) := [((.int .i64), false)]
def h_S_kNode : Hints := { loops := [] }
noncomputable def M_S_kNode (x : (Int × Int)) : (Option Int) :=
  (bindO (M_S_hLabelled ((bytesOf [110, 111, 100, 101]), (x.1 :: (x.2 :: ([] : List Int))))) (fun (a0 : Int) => (some a0)))

noncomputable def c_S_kNode : Con0 := ⟨pk_S_kNode, rk_S_kNode, M_S_kNode⟩

set_option maxRecDepth 100000 in
theorem eq_S_kNode (x : In pk_S_kNode) : semF (mkE [(123, c_S_hLabelled)]) h_S_kNode (info Try.f125) pk_S_kNode rk_S_kNode x = M_S_kNode x := by kernel_rfl

set_option maxRecDepth 100000 in
theorem m_S_kNode : ConOK Try.prog 125 c_S_kNode := fn_ok (tyOK _) (E := mkE [(123, c_S_hLabelled)]) (consOK_cons m_S_hLabelled (consOK_nil rfl)) Try.func125 (h := h_S_kNode) (by kernel_rfl) eq_S_kNode

/-- S_kRoot -/
def pk_S_kRoot : List PK := [.data (.sl (.int .i64))]
def rk_S_kRoot : List (Ty × Bool) := [((.int .i64), false)]
def h_S_kRoot : Hints := { loops := [] }
noncomputable def R_S_kRoot : Nat → (List Int) → (Option Int)
  | 0, _ => none
  | n + 1, x => (cond ((((List.length x) : Nat) : Int) == (0 : Int)) (bindO (M_S_hLabelled ((bytesOf [101, 109, 112, 116, 121]), ([] : List Int))) (fun (a0 : Int) => (some a0))) (cond ((((List.length x) : Nat) : Int) == (1 : Int)) (bindO (getI x (0 : Int)) (fun (a1 : Int) => (some a1))) (bindO (M_S_kSplit (((List.length x) : Nat) : Int)) (fun (a2 : Int) => (bindO (sliceNH a2 (List.length x)) (fun (a3 : (Nat × Nat)) => (bindO (R_S_kRoot n (List.drop a3.1 (List.take a3.2 x))) (fun (a4 : Int) => (bindO (sliceLN a2 (List.length x)) (fun (a5 : (Nat × Nat)) => (bindO (R_S_kRoot n (List.drop a5.1 (List.take a5.2 x))) (fun (a6 : Int) => (bindO (M_S_kNode (a4, a6)) (fun (a7 : Int) => (some a7)))))))))))))))

noncomputable def M_S_kRoot (x : (List Int)) : (Option Int) := limO R_S_kRoot x

noncomputable def c_S_kRoot : Con0 := ⟨pk_S_kRoot, rk_S_kRoot, M_S_kRoot⟩

set_option maxRecDepth 100000 in
theorem eq_S_kRoot (n : Nat) (x : In pk_S_kRoot) : semF (mkE ((70, ⟨pk_S_kRoot, rk_S_kRoot, R_S_kRoot n⟩) :: [(123, c_S_hLabelled), (124, c_S_kSplit), (125, c_S_kNode)])) h_S_kRoot (info Try.f70) pk_S_kRoot rk_S_kRoot x = R_S_kRoot (n + 1) x := by kernel_rfl

set_option maxRecDepth 100000 in
theorem mR_S_kRoot : ∀ n, ConOK Try.prog 70 ⟨pk_S_kRoot, rk_S_kRoot, R_S_kRoot n⟩
  | 0 => conOK_none Try.func70 (h := h_S_kRoot) (by kernel_rfl)
  | n + 1 => fn_ok (tyOK _) (E := mkE ((70, ⟨pk_S_kRoot, rk_S_kRoot, R_S_kRoot n⟩) :: [(123, c_S_hLabelled), (124, c_S_kSplit), (125, c_S_kNode)])) (consOK_cons (mR_S_kRoot n) (consOK_cons m_S_hLabelled (consOK_cons m_S_kSplit (consOK_cons m_S_kNode (consOK_nil rfl))))) Try.func70 (h := h_S_kRoot) (by kernel_rfl) (eq_S_kRoot n)

theorem m_S_kRoot : ConOK Try.prog 70 c_S_kRoot := conOK_lim mR_S_kRoot

/-- S_RootOf -/
def pk_S_RootOf : List PK := [.data (.sl (.int .i64))]
def rk_S_RootOf : List (Ty × Bool) := [((.int .i64), false), (.bool, false)]
def h_S_RootOf : Hints := { loops := [] }
noncomputable def M_S_RootOf (x : (List Int)) : (Option (Int × Bool)) :=
  (bindO (M_S_kGood x) (fun (a0 : Bool) => (cond (not a0) (some ((0 : Int), false)) (bindO (M_S_kRoot x) (fun (a1 : Int) => (some (a1, true)))))))

noncomputable def c_S_RootOf : Con0 := ⟨pk_S_RootOf, rk_S_RootOf, M_S_RootOf⟩

set_option maxRecDepth 100000 in
theorem eq_S_RootOf (x : In pk_S_RootOf) : semF (mkE [(69, c_S_kGood), (70, c_S_kRoot)]) h_S_RootOf (info Try.f30) pk_S_RootOf rk_S_RootOf x = M_S_RootOf x := by kernel_rfl

set_option maxRecDepth 100000 in
theorem m_S_RootOf : ConOK Try.prog 30 c_S_RootOf := fn_ok (tyOK _) (E := mkE [(69, c_S_kGood), (70, c_S_kRoot)]) (consOK_cons m_S_kGood (consOK_cons m_S_kRoot (consOK_nil rfl))) Try.func30 (h := h_S_RootOf) (by kernel_rfl) eq_S_RootOf

/-- slices_IndexFunc_sint_int -/
def pk_slices_IndexFunc_sint_int : List PK := [.data (.sl (.int .i64)), .fn [(.int .i64)] .bool]
def rk_slices_IndexFunc_sint_int : List (Ty × Bool) := [((.int .i64), false)]
def h_slices_IndexFunc_sint_int : Hints := { loops := [(0, { items := [.slot 8 (.data (.int .i64) [])], kill := [2, 3, 4, 5, 6, 9, 10, 11, 12, 13, 14, 15, 16, 17, 18] })] }
noncomputable def M_slices_IndexFunc_sint_int (x : ((List Int) × (Int → (Option Bool)))) : (Option Int) :=
  (loopO (fun (again0 : (Int → (Option Int))) => (fun (s1 : Int) => (cond (decide (s1 < (((List.length x.1) : Nat) : Int))) (bindO (getI x.1 s1) (fun (a2 : Int) => (bindO (x.2 a2) (fun (a3 : Bool) => (cond a3 (some s1) (bindO (some (IntKind.wrap .i64 (s1 + (1 : Int)))) (fun (a4 : Int) => (again0 a4)))))))) (some (- (1 : Int)))))) (0 : Int))

noncomputable def c_slices_IndexFunc_sint_int : Con0 := ⟨pk_slices_IndexFunc_sint_int, rk_slices_IndexFunc_sint_int, M_slices_IndexFunc_sint_int⟩

set_option maxRecDepth 100000 in
theorem eq_slices_IndexFunc_sint_int (x : In pk_slices_IndexFunc_sint_int) : semF (mkE []) h_slices_IndexFunc_sint_int (info Try.f154) pk_slices_IndexFunc_sint_int rk_slices_IndexFunc_sint_int x = M_slices_IndexFunc_sint_int x := by kernel_rfl

set_option maxRecDepth 100000 in
theorem m_slices_IndexFunc_sint_int : ConOK Try.prog 154 c_slices_IndexFunc_sint_int := fn_ok (tyOK _) (E := mkE []) (consOK_nil rfl) Try.func154 (h := h_slices_IndexFunc_sint_int) (by kernel_rfl) eq_slices_IndexFunc_sint_int

/-- slices_ContainsFunc_sint_int -/
def pk_slices_ContainsFunc_sint_int : List PK := [.data (.sl (.int .i64)), .fn [(.int .i64)] .bool]
def rk_slices_ContainsFunc_sint_int : List (Ty × Bool) := [(.bool, false)]
def h_slices_ContainsFunc_sint_int : Hints := { loops := [] }
noncomputable def M_slices_ContainsFunc_sint_int (x : ((List Int) × (Int → (Option Bool)))) : (Option Bool) :=
  (bindO (M_slices_IndexFunc_sint_int (x.1, x.2)) (fun (a0 : Int) => (some (decide (a0 ≥ (0 : Int))))))

noncomputable def c_slices_ContainsFunc_sint_int : Con0 := ⟨pk_slices_ContainsFunc_sint_int, rk_slices_ContainsFunc_sint_int, M_slices_ContainsFunc_sint_int⟩

set_option maxRecDepth 100000 in
theorem eq_slices_ContainsFunc_sint_int (x : In pk_slices_ContainsFunc_sint_int) : semF (mkE [(154, c_slices_IndexFunc_sint_int)]) h_slices_ContainsFunc_sint_int (info Try.f130) pk_slices_ContainsFunc_sint_int rk_slices_ContainsFunc_sint_int x = M_slices_ContainsFunc_sint_int x := by kernel_rfl

set_option maxRecDepth 100000 in
theorem m_slices_ContainsFunc_sint_int : ConOK Try.prog 130 c_slices_ContainsFunc_sint_int := fn_ok (tyOK _) (E := mkE [(154, c_slices_IndexFunc_sint_int)]) (consOK_cons m_slices_IndexFunc_sint_int (consOK_nil rfl)) Try.func130 (h := h_slices_ContainsFunc_sint_int) (by kernel_rfl) eq_slices_ContainsFunc_sint_int

/-- I_areAll_1 -/
def pk_I_areAll_1 : List PK := [.data (.int .i64), .rfn [(.int .i64)] .bool]
def rk_I_areAll_1 : List (Ty × Bool) := [(.bool, false)]
def h_I_areAll_1 : Hints := { loops := [] }
noncomputable def M_I_areAll_1 (x : (Int × (Int → (Option Bool)))) : (Option Bool) :=
  (bindO (x.2 x.1) (fun (a0 : Bool) => (some (not a0))))

noncomputable def c_I_areAll_1 : Con0 := ⟨pk_I_areAll_1, rk_I_areAll_1, M_I_areAll_1⟩

set_option maxRecDepth 100000 in
theorem eq_I_areAll_1 (x : In pk_I_areAll_1) : semF (mkE []) h_I_areAll_1 (info Try.f131) pk_I_areAll_1 rk_I_areAll_1 x = M_I_areAll_1 x := by kernel_rfl

set_option maxRecDepth 100000 in
theorem m_I_areAll_1 : ConOK Try.prog 131 c_I_areAll_1 := fn_ok (tyOK _) (E := mkE []) (consOK_nil rfl) Try.func131 (h := h_I_areAll_1) (by kernel_rfl) eq_I_areAll_1

/-- I_areAll -/
def pk_I_areAll : List PK := [.data (.sl (.int .i64)), .fn [(.int .i64)] .bool]
def rk_I_areAll : List (Ty × Bool) := [(.bool, false)]
def h_I_areAll : Hints := { loops := [] }
noncomputable def M_I_areAll (x : ((List Int) × (Int → (Option Bool)))) : (Option Bool) :=
  (bindO (M_slices_ContainsFunc_sint_int (x.1, (fun (a0 : Int) => (bindO (M_I_areAll_1 (a0, x.2)) (fun (a1 : Bool) => (some a1)))))) (fun (a2 : Bool) => (some (not a2))))

noncomputable def c_I_areAll : Con0 := ⟨pk_I_areAll, rk_I_areAll, M_I_areAll⟩

set_option maxRecDepth 100000 in
theorem eq_I_areAll (x : In pk_I_areAll) : semF (mkE [(130, c_slices_ContainsFunc_sint_int), (131, c_I_areAll_1)]) h_I_areAll (info Try.f76) pk_I_areAll rk_I_areAll x = M_I_areAll x := by kernel_rfl

set_option maxRecDepth 100000 in
theorem m_I_areAll : ConOK Try.prog 76 c_I_areAll := fn_ok (tyOK _) (E := mkE [(130, c_slices_ContainsFunc_sint_int), (131, c_I_areAll_1)]) (consOK_cons m_slices_ContainsFunc_sint_int (consOK_cons m_I_areAll_1 (consOK_nil rfl))) Try.func76 (h := h_I_areAll) (by kernel_rfl) eq_I_areAll

/-- I_within -/
def pk_I_within : List PK := [.data (.int .i64), .data (.int .i64), .data (.int .i64)]
def rk_I_within : List (Ty × Bool) := [(.bool, false)]
def h_I_within : Hints := { loops := [] }
noncomputable def M_I_within (x : (Int × (Int × Int))) : (Option Bool) :=
  (cond (decide (x.1 ≥ x.2.1)) (some (decide (x.1 ≤ x.2.2))) (some false))

noncomputable def c_I_within : Con0 := ⟨pk_I_within, rk_I_within, M_I_within⟩

set_option maxRecDepth 100000 in
theorem eq_I_within (x : In pk_I_within) : semF (mkE []) h_I_within (info Try.f65) pk_I_within rk_I_within x = M_I_within x := by kernel_rfl

set_option maxRecDepth 100000 in
theorem m_I_within : ConOK Try.prog 65 c_I_within := fn_ok (tyOK _) (E := mkE []) (consOK_nil rfl) Try.func65 (h := h_I_within) (by kernel_rfl) eq_I_within

/-- I_isDigest -/
def pk_I_isDigest : List PK := [.data (.int .i64)]
def rk_I_isDigest : List (Ty × Bool) := [(.bool, false)]
def h_I_isDigest : Hints := { loops := [] }
noncomputable def M_I_isDigest (x : Int) : (Option Bool) :=
  (bindO (M_I_within (x, ((0 : Int), (4611686018427387903 : Int)))) (fun (a0 : Bool) => (some a0)))

noncomputable def c_I_isDigest : Con0 := ⟨pk_I_isDigest, rk_I_isDigest, M_I_isDigest⟩

set_option maxRecDepth 100000 in
theorem eq_I_isDigest (x : In pk_I_isDigest) : semF (mkE [(65, c_I_within)]) h_I_isDigest (info Try.f75) pk_I_isDigest rk_I_isDigest x = M_I_isDigest x := by kernel_rfl

set_option maxRecDepth 100000 in
theorem m_I_isDigest : ConOK Try.prog 75 c_I_isDigest := fn_ok (tyOK _) (E := mkE [(65, c_I_within)]) (consOK_cons m_I_within (consOK_nil rfl)) Try.func75 (h := h_I_isDigest) (by kernel_rfl) eq_I_isDigest

/-- I_areLeaves -/
def pk_I_areLeaves : List PK := [.data (.sl (.int .i64))]
def rk_I_areLeaves : List (Ty × Bool) := [(.bool, false)]
def h_I_areLeaves : Hints := { loops := [] }
noncomputable def M_I_areLeaves (x : (List Int)) : (Option Bool) :=
  (cond (decide ((((List.length x) : Nat) : Int) ≤ (64 : Int))) (bindO (M_I_areAll (x, (fun (a0 : Int) => (bindO (M_I_isDigest a0) (fun (a1 : Bool) => (some a1)))))) (fun (a2 : Bool) => (some a2))) (some false))

noncomputable def c_I_areLeaves : Con0 := ⟨pk_I_areLeaves, rk_I_areLeaves, M_I_areLeaves⟩

set_option maxRecDepth 100000 in
theorem eq_I_areLeaves (x : In pk_I_areLeaves) : semF (mkE [(76, c_I_areAll), (75, c_I_isDigest)]) h_I_areLeaves (info Try.f71) pk_I_areLeaves rk_I_areLeaves x = M_I_areLeaves x := by kernel_rfl

set_option maxRecDepth 100000 in
theorem m_I_areLeaves : ConOK Try.prog 71 c_I_areLeaves := fn_ok (tyOK _) (E := mkE [(76, c_I_areAll), (75, c_I_isDigest)]) (consOK_cons m_I_areAll (consOK_cons m_I_isDigest (consOK_nil rfl))) Try.func71 (h := h_I_areLeaves) (by kernel_rfl) eq_I_areLeaves

/-- I_labelled -/
def pk_I_labelled : List PK := [.data .str, .data (.sl (.int .i64))]
def rk_I_labelled : List (Ty × Bool) := [((.sl (.int .i64)), true)]
def h_I_labelled : Hints := { loops := [(0, { items := [.slot 5 (.own (.int .i64) true), .slot 12 (.data (.int .i64) [])], kill := [2, 3, 4, 6, 7, 8, 9, 10, 13, 14, 15, 16, 17, 18, 19, 20, 21, 22, 23, 24, 25] })] }
noncomputable def M_I_labelled (x : (ByteArray × (List Int))) : (Option (List Int)) :=
  (loopO (fun (again0 : (((List Int) × Int) → (Option (List Int)))) => (fun (s1 : ((List Int) × Int)) => (cond (decide (s1.2 < (((ByteArray.size x.1) : Nat) : Int))) (bindO (if ((0 : Int) ≤ s1.2) then (x.1[(Int.toNat s1.2)]?) else (none : Option (UInt8))) (fun (a2 : (UInt8)) => (bindO (guardO (lenOk ((List.length s1.1) + (List.length ((IntKind.wrap .i64 (((UInt8.toNat a2) : Nat) : Int)) :: ([] : List Int)))))) (fun (a3 : Unit) => (bindO (some (s1.1 ++ ((IntKind.wrap .i64 (((UInt8.toNat a2) : Nat) : Int)) :: ([] : List Int)))) (fun (a4 : (List Int)) => (bindO (some (IntKind.wrap .i64 (s1.2 + (1 : Int)))) (fun (a5 : Int) => (again0 (a4, a5)))))))))) (bindO (guardO (lenOk ((List.length s1.1) + (List.length x.2)))) (fun (a6 : Unit) => (bindO (some (s1.1 ++ x.2)) (fun (a7 : (List Int)) => (some a7)))))))) (((((ByteArray.size x.1) : Nat) : Int) :: ([] : List Int)), (0 : Int)))

noncomputable def c_I_labelled : Con0 := ⟨pk_I_labelled, rk_I_labelled, M_I_labelled⟩

set_option maxRecDepth 100000 in
theorem eq_I_labelled (x : In pk_I_labelled) : semF (mkE []) h_I_labelled (info Try.f152) pk_I_labelled rk_I_labelled x = M_I_labelled x := by kernel_rfl

set_option maxRecDepth 100000 in
theorem m_I_labelled : ConOK Try.prog 152 c_I_labelled := fn_ok (tyOK _) (E := mkE []) (consOK_nil rfl) Try.func152 (h := h_I_labelled) (by kernel_rfl) eq_I_labelled

/-- I_areDigests -/
def pk_I_areDigests : List PK := [.data (.sl (.int .i64))]
def rk_I_areDigests : List (Ty × Bool) := [(.bool, false)]
def h_I_areDigests : Hints := { loops := [] }
noncomputable def M_I_areDigests (x : (List Int)) : (Option Bool) :=
  (cond (decide ((((List.length x) : Nat) : Int) ≤ (400 : Int))) (bindO (M_I_areAll (x, (fun (a0 : Int) => (bindO (M_I_isDigest a0) (fun (a1 : Bool) => (some a1)))))) (fun (a2 : Bool) => (some a2))) (some false))

noncomputable def c_I_areDigests : Con0 := ⟨pk_I_areDigests, rk_I_areDigests, M_I_areDigests⟩

set_option maxRecDepth 100000 in
theorem eq_I_areDigests (x : In pk_I_areDigests) : semF (mkE [(76, c_I_areAll), (75, c_I_isDigest)]) h_I_areDigests (info Try.f159) pk_I_areDigests rk_I_areDigests x = M_I_areDigests x := by kernel_rfl

set_option maxRecDepth 100000 in
theorem m_I_areDigests : ConOK Try.prog 159 c_I_areDigests := fn_ok (tyOK _) (E := mkE [(76, c_I_areAll), (75, c_I_isDigest)]) (consOK_cons m_I_areAll (consOK_cons m_I_isDigest (consOK_nil rfl))) Try.func159 (h := h_I_areDigests) (by kernel_rfl) eq_I_areDigests

/-- I_hash -/
def pk_I_hash : List PK := [.data (.sl (.int .i64))]
def rk_I_hash : List (Ty × Bool) := [((.int .i64), false)]
def h_I_hash : Hints := { loops := [(0, { items := [.slot 3 (.data (.int .i64) []), .slot 4 (.data (.int .i64) []), .slot 15 (.data (.int .i64) [])], kill := [0, 1, 2, 5, 6, 7, 8, 9, 10, 11, 12, 16, 17, 18, 19, 20, 21, 22, 23, 24, 25, 26, 27, 28, 29, 30, 31, 32, 33, 34, 35, 36, 37, 38, 39, 40, 41, 42, 43, 44, 45, 46, 47, 48, 49, 50, 51] })] }
noncomputable def M_I_hash (x : (List Int)) : (Option Int) :=
  (bindO (guardO (lenOk ((List.length ((((List.length x) : Nat) : Int) :: ([] : List Int))) + (List.length x)))) (fun (a0 : Unit) => (bindO (some (((((List.length x) : Nat) : Int) :: ([] : List Int)) ++ x)) (fun (a1 : (List Int)) => (loopO (fun (again2 : ((Int × (Int × Int)) → (Option Int))) => (fun (s3 : (Int × (Int × Int))) => (cond (decide (s3.2.2 < (((List.length a1) : Nat) : Int))) (bindO (getI a1 s3.2.2) (fun (a4 : Int) => (bindO (guardO (decide ((0 : Int) ≤ (31 : Int)))) (fun (a5 : Unit) => (bindO (some (shr .i64 a4 (31 : Int))) (fun (a6 : Int) => (bindO (some (bits .and .i64 a4 (2147483647 : Int))) (fun (a7 : Int) => (bindO (some (IntKind.wrap .i64 ((48271 : Int) * s3.1))) (fun (a8 : Int) => (bindO (some (IntKind.wrap .i64 (a8 + a7))) (fun (a9 : Int) => (bindO (some (IntKind.wrap .i64 (a9 + (1 : Int)))) (fun (a10 : Int) => (bindO (guardO ((2147483647 : Int) != (0 : Int))) (fun (a11 : Unit) => (bindO (some (Int.tmod a10 (2147483647 : Int))) (fun (a12 : Int) => (bindO (some (IntKind.wrap .i64 ((48271 : Int) * a12))) (fun (a13 : Int) => (bindO (some (IntKind.wrap .i64 (a13 + a6))) (fun (a14 : Int) => (bindO (some (IntKind.wrap .i64 (a14 + (1 : Int)))) (fun (a15 : Int) => (bindO (guardO ((2147483647 : Int) != (0 : Int))) (fun (a16 : Unit) => (bindO (some (Int.tmod a15 (2147483647 : Int))) (fun (a17 : Int) => (bindO (some (IntKind.wrap .i64 ((69621 : Int) * s3.2.1))) (fun (a18 : Int) => (bindO (some (IntKind.wrap .i64 (a18 + a7))) (fun (a19 : Int) => (bindO (some (IntKind.wrap .i64 (a19 + (1 : Int)))) (fun (a20 : Int) => (bindO (guardO ((2147483647 : Int) != (0 : Int))) (fun (a21 : Unit) => (bindO (some (Int.tmod a20 (2147483647 : Int))) (fun (a22 : Int) => (bindO (some (IntKind.wrap .i64 ((69621 : Int) * a22))) (fun (a23 : Int) => (bindO (some (IntKind.wrap .i64 (a23 + a6))) (fun (a24 : Int) => (bindO (some (IntKind.wrap .i64 (a24 + (1 : Int)))) (fun (a25 : Int) => (bindO (guardO ((2147483647 : Int) != (0 : Int))) (fun (a26 : Unit) => (bindO (some (Int.tmod a25 (2147483647 : Int))) (fun (a27 : Int) => (bindO (some (IntKind.wrap .i64 (s3.2.2 + (1 : Int)))) (fun (a28 : Int) => (again2 (a17, (a27, a28))))))))))))))))))))))))))))))))))))))))))))))))))))) (bindO (guardO (decide ((0 : Int) ≤ (31 : Int)))) (fun (a29 : Unit) => (bindO (some (shl .i64 s3.1 (31 : Int))) (fun (a30 : Int) => (bindO (some (IntKind.wrap .i64 (a30 + s3.2.1))) (fun (a31 : Int) => (some a31)))))))))) ((1 : Int), ((2 : Int), (0 : Int))))))))

noncomputable def c_I_hash : Con0 := ⟨pk_I_hash, rk_I_hash, M_I_hash⟩

set_option maxRecDepth 100000 in
theorem eq_I_hash (x : In pk_I_hash) : semF (mkE []) h_I_hash (info Try.f160) pk_I_hash rk_I_hash x = M_I_hash x := by kernel_rfl

set_option maxRecDepth 100000 in
theorem m_I_hash : ConOK Try.prog 160 c_I_hash := fn_ok (tyOK _) (E := mkE []) (consOK_nil rfl) Try.func160 (h := h_I_hash) (by kernel_rfl) eq_I_hash

/-- I_HashInts -/
def pk_I_HashInts : List PK := [.data (.sl (.int .i64))]
def rk_I_HashInts : List (Ty × Bool) := [((.int .i64), false), (.bool, false)]
def h_I_HashInts : Hints := { loops := [] }
noncomputable def M_I_HashInts (x : (List Int)) : (Option (Int × Bool)) :=
  (bindO (M_I_areDigests x) (fun (a0 : Bool) => (cond (not a0) (some ((0 : Int), false)) (bindO (M_I_hash x) (fun (a1 : Int) => (some (a1, true)))))))

noncomputable def c_I_HashInts : Con0 := ⟨pk_I_HashInts, rk_I_HashInts, M_I_HashInts⟩

set_option maxRecDepth 100000 in
theorem eq_I_HashInts (x : In pk_I_HashInts) : semF (mkE [(159, c_I_areDigests), (160, c_I_hash)]) h_I_HashInts (info Try.f151) pk_I_HashInts rk_I_HashInts x = M_I_HashInts x := by kernel_rfl

set_option maxRecDepth 100000 in
theorem m_I_HashInts : ConOK Try.prog 151 c_I_HashInts := fn_ok (tyOK _) (E := mkE [(159, c_I_areDigests), (160, c_I_hash)]) (consOK_cons m_I_areDigests (consOK_cons m_I_hash (consOK_nil rfl))) Try.func151 (h := h_I_HashInts) (by kernel_rfl) eq_I_HashInts

/-- I_HashLabelled -/
def pk_I_HashLabelled : List PK := [.data .str, .data (.sl (.int .i64))]
def rk_I_HashLabelled : List (Ty × Bool) := [((.int .i64), false), (.bool, false)]
def h_I_HashLabelled : Hints := { loops := [] }
noncomputable def M_I_HashLabelled (x : (ByteArray × (List Int))) : (Option (Int × Bool)) :=
  (cond (decide ((((ByteArray.size x.1) : Nat) : Int) > (40 : Int))) (some ((0 : Int), false)) (cond (decide ((((List.length x.2) : Nat) : Int) > (400 : Int))) (some ((0 : Int), false)) (bindO (M_I_labelled (x.1, x.2)) (fun (a0 : (List Int)) => (bindO (M_I_HashInts a0) (fun (a1 : (Int × Bool)) => (some (a1.1, a1.2))))))))

noncomputable def c_I_HashLabelled : Con0 := ⟨pk_I_HashLabelled, rk_I_HashLabelled, M_I_HashLabelled⟩

set_option maxRecDepth 100000 in
theorem eq_I_HashLabelled (x : In pk_I_HashLabelled) : semF (mkE [(152, c_I_labelled), (151, c_I_HashInts)]) h_I_HashLabelled (info Try.f126) pk_I_HashLabelled rk_I_HashLabelled x = M_I_HashLabelled x := by kernel_rfl

set_option maxRecDepth 100000 in
theorem m_I_HashLabelled : ConOK Try.prog 126 c_I_HashLabelled := fn_ok (tyOK _) (E := mkE [(152, c_I_labelled), (151, c_I_HashInts)]) (consOK_cons m_I_labelled (consOK_cons m_I_HashInts (consOK_nil rfl))) Try.func126 (h := h_I_HashLabelled) (by kernel_rfl) eq_I_HashLabelled

/-- math_bits_Len32 -/
def pk_math_bits_Len32 : List PK := [.data (.int .u32)]
def rk_math_bits_Len32 : List (Ty × Bool) := [((.int .i64), false)]
def h_math_bits_Len32 : Hints := { loops := [] }
noncomputable def M_math_bits_Len32 (x : Int) : (Option Int) :=
  (cond (decide (x ≥ (65536 : Int))) (bindO (guardO (decide ((0 : Int) ≤ (16 : Int)))) (fun (a0 : Unit) => (bindO (some (shr .u32 x (16 : Int))) (fun (a1 : Int) => (cond (decide (a1 ≥ (256 : Int))) (bindO (guardO (decide ((0 : Int) ≤ (8 : Int)))) (fun (a2 : Unit) => (bindO (some (shr .u32 a1 (8 : Int))) (fun (a3 : Int) => (bindO (some (IntKind.wrap .i64 ((16 : Int) + (8 : Int)))) (fun (a4 : Int) => (bindO (if ((0 : Int) ≤ (IntKind.wrap .u8 a3)) then ((bytesOf [0, 1, 2, 2, 3, 3, 3, 3, 4, 4, 4, 4, 4, 4, 4, 4, 5, 5, 5, 5, 5, 5, 5, 5, 5, 5, 5, 5, 5, 5, 5, 5, 6, 6, 6, 6, 6, 6, 6, 6, 6, 6, 6, 6, 6, 6, 6, 6, 6, 6, 6, 6, 6, 6, 6, 6, 6, 6, 6, 6, 6, 6, 6, 6, 7, 7, 7, 7, 7, 7, 7, 7, 7, 7, 7, 7, 7, 7, 7, 7, 7, 7, 7, 7, 7, 7, 7, 7, 7, 7, 7, 7, 7, 7, 7, 7, 7, 7, 7, 7, 7, 7, 7, 7, 7, 7, 7, 7, 7, 7, 7, 7, 7, 7, 7, 7, 7, 7, 7, 7, 7, 7, 7, 7, 7, 7, 7, 7, 8, 8, 8, 8, 8, 8, 8, 8, 8, 8, 8, 8, 8, 8, 8, 8, 8, 8, 8, 8, 8, 8, 8, 8, 8, 8, 8, 8, 8, 8, 8, 8, 8, 8, 8, 8, 8, 8, 8, 8, 8, 8, 8, 8, 8, 8, 8, 8, 8, 8, 8, 8, 8, 8, 8, 8, 8, 8, 8, 8, 8, 8, 8, 8, 8, 8, 8, 8, 8, 8, 8, 8, 8, 8, 8, 8, 8, 8, 8, 8, 8, 8, 8, 8, 8, 8, 8, 8, 8, 8, 8, 8, 8, 8, 8, 8, 8, 8, 8, 8, 8, 8, 8, 8, 8, 8, 8, 8, 8, 8, 8, 8, 8, 8, 8, 8, 8, 8, 8, 8, 8, 8, 8, 8, 8, 8, 8, 8])[(Int.toNat (IntKind.wrap .u8 a3))]?) else (none : Option (UInt8))) (fun (a5 : (UInt8)) => (bindO (some (IntKind.wrap .i64 (a4 + (IntKind.wrap .i64 (((UInt8.toNat a5) : Nat) : Int))))) (fun (a6 : Int) => (some a6))))))))))) (bindO (if ((0 : Int) ≤ (IntKind.wrap .u8 a1)) then ((bytesOf [0, 1, 2, 2, 3, 3, 3, 3, 4, 4, 4, 4, 4, 4, 4, 4, 5, 5, 5, 5, 5, 5, 5, 5, 5, 5, 5, 5, 5, 5, 5, 5, 6, 6, 6, 6, 6, 6, 6, 6, 6, 6, 6, 6, 6, 6, 6, 6, 6, 6, 6, 6, 6, 6, 6, 6, 6, 6, 6, 6, 6, 6, 6, 6, 7, 7, 7, 7, 7, 7, 7, 7, 7, 7, 7, 7, 7, 7, 7, 7, 7, 7, 7, 7, 7, 7, 7, 7, 7, 7, 7, 7, 7, 7, 7, 7, 7, 7, 7, 7, 7, 7, 7, 7, 7, 7, 7, 7, 7, 7, 7, 7, 7, 7, 7, 7, 7, 7, 7, 7, 7, 7, 7, 7, 7, 7, 7, 7, 8, 8, 8, 8, 8, 8, 8, 8, 8, 8, 8, 8, 8, 8, 8, 8, 8, 8, 8, 8, 8, 8, 8, 8, 8, 8, 8, 8, 8, 8, 8, 8, 8, 8, 8, 8, 8, 8, 8, 8, 8, 8, 8, 8, 8, 8, 8, 8, 8, 8, 8, 8, 8, 8, 8, 8, 8, 8, 8, 8, 8, 8, 8, 8, 8, 8, 8, 8, 8, 8, 8, 8, 8, 8, 8, 8, 8, 8, 8, 8, 8, 8, 8, 8, 8, 8, 8, 8, 8, 8, 8, 8, 8, 8, 8, 8, 8, 8, 8, 8, 8, 8, 8, 8, 8, 8, 8, 8, 8, 8, 8, 8, 8, 8, 8, 8, 8, 8, 8, 8, 8, 8, 8, 8, 8, 8, 8, 8])[(Int.toNat (IntKind.wrap .u8 a1))]?) else (none : Option (UInt8))) (fun (a7 : (UInt8)) => (bindO (some (IntKind.wrap .i64 ((16 : Int) + (IntKind.wrap .i64 (((UInt8.toNat a7) : Nat) : Int))))) (fun (a8 : Int) => (some a8)))))))))) (cond (decide (x ≥ (256 : Int))) (bindO (guardO (decide ((0 : Int) ≤ (8 : Int)))) (fun (a9 : Unit) => (bindO (some (shr .u32 x (8 : Int))) (fun (a10 : Int) => (bindO (some (IntKind.wrap .i64 ((0 : Int) + (8 : Int)))) (fun (a11 : Int) => (bindO (if ((0 : Int) ≤ (IntKind.wrap .u8 a10)) then ((bytesOf [0, 1, 2, 2, 3, 3, 3, 3, 4, 4, 4, 4, 4, 4, 4, 4, 5, 5, 5, 5, 5, 5, 5, 5, 5, 5, 5, 5, 5, 5, 5, 5, 6, 6, 6, 6, 6, 6, 6, 6, 6, 6, 6, 6, 6, 6, 6, 6, 6, 6, 6, 6, 6, 6, 6, 6, 6, 6, 6, 6, 6, 6, 6, 6, 7, 7, 7, 7, 7, 7, 7, 7, 7, 7, 7, 7, 7, 7, 7, 7, 7, 7, 7, 7, 7, 7, 7, 7, 7, 7, 7, 7, 7, 7, 7, 7, 7, 7, 7, 7, 7, 7, 7, 7, 7, 7, 7, 7, 7, 7, 7, 7, 7, 7, 7, 7, 7, 7, 7, 7, 7, 7, 7, 7, 7, 7, 7, 7, 8, 8, 8, 8, 8, 8, 8, 8, 8, 8, 8, 8, 8, 8, 8, 8, 8, 8, 8, 8, 8, 8, 8, 8, 8, 8, 8, 8, 8, 8, 8, 8, 8, 8, 8, 8, 8, 8, 8, 8, 8, 8, 8, 8, 8, 8, 8, 8, 8, 8, 8, 8, 8, 8, 8, 8, 8, 8, 8, 8, 8, 8, 8, 8, 8, 8, 8, 8, 8, 8, 8, 8, 8, 8, 8, 8, 8, 8, 8, 8, 8, 8, 8, 8, 8, 8, 8, 8, 8, 8, 8, 8, 8, 8, 8, 8, 8, 8, 8, 8, 8, 8, 8, 8, 8, 8, 8, 8, 8, 8, 8, 8, 8, 8, 8, 8, 8, 8, 8, 8, 8, 8, 8, 8, 8, 8, 8, 8])[(Int.toNat (IntKind.wrap .u8 a10))]?) else (none : Option (UInt8))) (fun (a12 : (UInt8)) => (bindO (some (IntKind.wrap .i64 (a11 + (IntKind.wrap .i64 (((UInt8.toNat a12) : Nat) : Int))))) (fun (a13 : Int) => (some a13))))))))))) (bindO (if ((0 : Int) ≤ (IntKind.wrap .u8 x)) then ((bytesOf [0, 1, 2, 2, 3, 3, 3, 3, 4, 4, 4, 4, 4, 4, 4, 4, 5, 5, 5, 5, 5, 5, 5, 5, 5, 5, 5, 5, 5, 5, 5, 5, 6, 6, 6, 6, 6, 6, 6, 6, 6, 6, 6, 6, 6, 6, 6, 6, 6, 6, 6, 6, 6, 6, 6, 6, 6, 6, 6, 6, 6, 6, 6, 6, 7, 7, 7, 7, 7, 7, 7, 7, 7, 7, 7, 7, 7, 7, 7, 7, 7, 7, 7, 7, 7, 7, 7, 7, 7, 7, 7, 7, 7, 7, 7, 7, 7, 7, 7, 7, 7, 7, 7, 7, 7, 7, 7, 7, 7, 7, 7, 7, 7, 7, 7, 7, 7, 7, 7, 7, 7, 7, 7, 7, 7, 7, 7, 7, 8, 8, 8, 8, 8, 8, 8, 8, 8, 8, 8, 8, 8, 8, 8, 8, 8, 8, 8, 8, 8, 8, 8, 8, 8, 8, 8, 8, 8, 8, 8, 8, 8, 8, 8, 8, 8, 8, 8, 8, 8, 8, 8, 8, 8, 8, 8, 8, 8, 8, 8, 8, 8, 8, 8, 8, 8, 8, 8, 8, 8, 8, 8, 8, 8, 8, 8, 8, 8, 8, 8, 8, 8, 8, 8, 8, 8, 8, 8, 8, 8, 8, 8, 8, 8, 8, 8, 8, 8, 8, 8, 8, 8, 8, 8, 8, 8, 8, 8, 8, 8, 8, 8, 8, 8, 8, 8, 8, 8, 8, 8, 8, 8, 8, 8, 8, 8, 8, 8, 8, 8, 8, 8, 8, 8, 8, 8, 8])[(Int.toNat (IntKind.wrap .u8 x))]?) else (none : Option (UInt8))) (fun (a14 : (UInt8)) => (bindO (some (IntKind.wrap .i64 ((0 : Int) + (IntKind.wrap .i64 (((UInt8.toNat a14) : Nat) : Int))))) (fun (a15 : Int) => (some a15)))))))

noncomputable def c_math_bits_Len32 : Con0 := ⟨pk_math_bits_Len32, rk_math_bits_Len32, M_math_bits_Len32⟩

set_option maxRecDepth 100000 in
theorem eq_math_bits_Len32 (x : In pk_math_bits_Len32) : semF (mkE []) h_math_bits_Len32 (info Try.f161) pk_math_bits_Len32 rk_math_bits_Len32 x = M_math_bits_Len32 x := by kernel_rfl

set_option maxRecDepth 100000 in
theorem m_math_bits_Len32 : ConOK Try.prog 161 c_math_bits_Len32 := fn_ok (tyOK _) (E := mkE []) (consOK_nil rfl) Try.func161 (h := h_math_bits_Len32) (by kernel_rfl) eq_math_bits_Len32

/-- math_bits_Len64 -/
def pk_math_bits_Len64 : List PK := [.data (.int .u64)]
def rk_math_bits_Len64 : List (Ty × Bool) := [((.int .i64), false)]
def h_math_bits_Len64 : Hints := { loops := [] }
noncomputable def M_math_bits_Len64 (x : Int) : (Option Int) :=
  (cond (decide (x ≥ (4294967296 : Int))) (bindO (guardO (decide ((0 : Int) ≤ (32 : Int)))) (fun (a0 : Unit) => (bindO (some (shr .u64 x (32 : Int))) (fun (a1 : Int) => (cond (decide (a1 ≥ (65536 : Int))) (bindO (guardO (decide ((0 : Int) ≤ (16 : Int)))) (fun (a2 : Unit) => (bindO (some (shr .u64 a1 (16 : Int))) (fun (a3 : Int) => (bindO (some (IntKind.wrap .i64 ((32 : Int) + (16 : Int)))) (fun (a4 : Int) => (cond (decide (a3 ≥ (256 : Int))) (bindO (guardO (decide ((0 : Int) ≤ (8 : Int)))) (fun (a5 : Unit) => (bindO (some (shr .u64 a3 (8 : Int))) (fun (a6 : Int) => (bindO (some (IntKind.wrap .i64 (a4 + (8 : Int)))) (fun (a7 : Int) => (bindO (if ((0 : Int) ≤ (IntKind.wrap .u8 a6)) then ((bytesOf [0, 1, 2, 2, 3, 3, 3, 3, 4, 4, 4, 4, 4, 4, 4, 4, 5, 5, 5, 5, 5, 5, 5, 5, 5, 5, 5, 5, 5, 5, 5, 5, 6, 6, 6, 6, 6, 6, 6, 6, 6, 6, 6, 6, 6, 6, 6, 6, 6, 6, 6, 6, 6, 6, 6, 6, 6, 6, 6, 6, 6, 6, 6, 6, 7, 7, 7, 7, 7, 7, 7, 7, 7, 7, 7, 7, 7, 7, 7, 7, 7, 7, 7, 7, 7, 7, 7, 7, 7, 7, 7, 7, 7, 7, 7, 7, 7, 7, 7, 7, 7, 7, 7, 7, 7, 7, 7, 7, 7, 7, 7, 7, 7, 7, 7, 7, 7, 7, 7, 7, 7, 7, 7, 7, 7, 7, 7, 7, 8, 8, 8, 8, 8, 8, 8, 8, 8, 8, 8, 8, 8, 8, 8, 8, 8, 8, 8, 8, 8, 8, 8, 8, 8, 8, 8, 8, 8, 8, 8, 8, 8, 8, 8, 8, 8, 8, 8, 8, 8, 8, 8, 8, 8, 8, 8, 8, 8, 8, 8, 8, 8, 8, 8, 8, 8, 8, 8, 8, 8, 8, 8, 8, 8, 8, 8, 8, 8, 8, 8, 8, 8, 8, 8, 8, 8, 8, 8, 8, 8, 8, 8, 8, 8, 8, 8, 8, 8, 8, 8, 8, 8, 8, 8, 8, 8, 8, 8, 8, 8, 8, 8, 8, 8, 8, 8, 8, 8, 8, 8, 8, 8, 8, 8, 8, 8, 8, 8, 8, 8, 8, 8, 8, 8, 8, 8, 8])[(Int.toNat (IntKind.wrap .u8 a6))]?) else (none : Option (UInt8))) (fun (a8 : (UInt8)) => (bindO (some (IntKind.wrap .i64 (a7 + (IntKind.wrap .i64 (((UInt8.toNat a8) : Nat) : Int))))) (fun (a9 : Int) => (some a9))))))))))) (bindO (if ((0 : Int) ≤ (IntKind.wrap .u8 a3)) then ((bytesOf [0, 1, 2, 2, 3, 3, 3, 3, 4, 4, 4, 4, 4, 4, 4, 4, 5, 5, 5, 5, 5, 5, 5, 5, 5, 5, 5, 5, 5, 5, 5, 5, 6, 6, 6, 6, 6, 6, 6, 6, 6, 6, 6, 6, 6, 6, 6, 6, 6, 6, 6, 6, 6, 6, 6, 6, 6, 6, 6, 6, 6, 6, 6, 6, 7, 7, 7, 7, 7, 7, 7, 7, 7, 7, 7, 7, 7, 7, 7, 7, 7, 7, 7, 7, 7, 7, 7, 7, 7, 7, 7, 7, 7, 7, 7, 7, 7, 7, 7, 7, 7, 7, 7, 7, 7, 7, 7, 7, 7, 7, 7, 7, 7, 7, 7, 7, 7, 7, 7, 7, 7, 7, 7, 7, 7, 7, 7, 7, 8, 8, 8, 8, 8, 8, 8, 8, 8, 8, 8, 8, 8, 8, 8, 8, 8, 8, 8, 8, 8, 8, 8, 8, 8, 8, 8, 8, 8, 8, 8, 8, 8, 8, 8, 8, 8, 8, 8, 8, 8, 8, 8, 8, 8, 8, 8, 8, 8, 8, 8, 8, 8, 8, 8, 8, 8, 8, 8, 8, 8, 8, 8, 8, 8, 8, 8, 8, 8, 8, 8, 8, 8, 8, 8, 8, 8, 8, 8, 8, 8, 8, 8, 8, 8, 8, 8, 8, 8, 8, 8, 8, 8, 8, 8, 8, 8, 8, 8, 8, 8, 8, 8, 8, 8, 8, 8, 8, 8, 8, 8, 8, 8, 8, 8, 8, 8, 8, 8, 8, 8, 8, 8, 8, 8, 8, 8, 8])[(Int.toNat (IntKind.wrap .u8 a3))]?) else (none : Option (UInt8))) (fun (a10 : (UInt8)) => (bindO (some (IntKind.wrap .i64 (a4 + (IntKind.wrap .i64 (((UInt8.toNat a10) : Nat) : Int))))) (fun (a11 : Int) => (some a11)))))))))))) (cond (decide (a1 ≥ (256 : Int))) (bindO (guardO (decide ((0 : Int) ≤ (8 : Int)))) (fun (a12 : Unit) => (bindO (some (shr .u64 a1 (8 : Int))) (fun (a13 : Int) => (bindO (some (IntKind.wrap .i64 ((32 : Int) + (8 : Int)))) (fun (a14 : Int) => (bindO (if ((0 : Int) ≤ (IntKind.wrap .u8 a13)) then ((bytesOf [0, 1, 2, 2, 3, 3, 3, 3, 4, 4, 4, 4, 4, 4, 4, 4, 5, 5, 5, 5, 5, 5, 5, 5, 5, 5, 5, 5, 5, 5, 5, 5, 6, 6, 6, 6, 6, 6, 6, 6, 6, 6, 6, 6, 6, 6, 6, 6, 6, 6, 6, 6, 6, 6, 6, 6, 6, 6, 6, 6, 6, 6, 6, 6, 7, 7, 7, 7, 7, 7, 7, 7, 7, 7, 7, 7, 7, 7, 7, 7, 7, 7, 7, 7, 7, 7, 7, 7, 7, 7, 7, 7, 7, 7, 7, 7, 7, 7, 7, 7, 7, 7, 7, 7, 7, 7, 7, 7, 7, 7, 7, 7, 7, 7, 7, 7, 7, 7, 7, 7, 7, 7, 7, 7, 7, 7, 7, 7, 8, 8, 8, 8, 8, 8, 8, 8, 8, 8, 8, 8, 8, 8, 8, 8, 8, 8, 8, 8, 8, 8, 8, 8, 8, 8, 8, 8, 8, 8, 8, 8, 8, 8, 8, 8, 8, 8, 8, 8, 8, 8, 8, 8, 8, 8, 8, 8, 8, 8, 8, 8, 8, 8, 8, 8, 8, 8, 8, 8, 8, 8, 8, 8, 8, 8, 8, 8, 8, 8, 8, 8, 8, 8, 8, 8, 8, 8, 8, 8, 8, 8, 8, 8, 8, 8, 8, 8, 8, 8, 8, 8, 8, 8, 8, 8, 8, 8, 8, 8, 8, 8, 8, 8, 8, 8, 8, 8, 8, 8, 8, 8, 8, 8, 8, 8, 8, 8, 8, 8, 8, 8, 8, 8, 8, 8, 8, 8])[(Int.toNat (IntKind.wrap .u8 a13))]?) else (none : Option (UInt8))) (fun (a15 : (UInt8)) => (bindO (some (IntKind.wrap .i64 (a14 + (IntKind.wrap .i64 (((UInt8.toNat a15) : Nat) : Int))))) (fun (a16 : Int) => (some a16))))))))))) (bindO (if ((0 : Int) ≤ (IntKind.wrap .u8 a1)) then ((bytesOf [0, 1, 2, 2, 3, 3, 3, 3, 4, 4, 4, 4, 4, 4, 4, 4, 5, 5, 5, 5, 5, 5, 5, 5, 5, 5, 5, 5, 5, 5, 5, 5, 6, 6, 6, 6, 6, 6, 6, 6, 6, 6, 6, 6, 6, 6, 6, 6, 6, 6, 6, 6, 6, 6, 6, 6, 6, 6, 6, 6, 6, 6, 6, 6, 7, 7, 7, 7, 7, 7, 7, 7, 7, 7, 7, 7, 7, 7, 7, 7, 7, 7, 7, 7, 7, 7, 7, 7, 7, 7, 7, 7, 7, 7, 7, 7, 7, 7, 7, 7, 7, 7, 7, 7, 7, 7, 7, 7, 7, 7, 7, 7, 7, 7, 7, 7, 7, 7, 7, 7, 7, 7, 7, 7, 7, 7, 7, 7, 8, 8, 8, 8, 8, 8, 8, 8, 8, 8, 8, 8, 8, 8, 8, 8, 8, 8, 8, 8, 8, 8, 8, 8, 8, 8, 8, 8, 8, 8, 8, 8, 8, 8, 8, 8, 8, 8, 8, 8, 8, 8, 8, 8, 8, 8, 8, 8, 8, 8, 8, 8, 8, 8, 8, 8, 8, 8, 8, 8, 8, 8, 8, 8, 8, 8, 8, 8, 8, 8, 8, 8, 8, 8, 8, 8, 8, 8, 8, 8, 8, 8, 8, 8, 8, 8, 8, 8, 8, 8, 8, 8, 8, 8, 8, 8, 8, 8, 8, 8, 8, 8, 8, 8, 8, 8, 8, 8, 8, 8, 8, 8, 8, 8, 8, 8, 8, 8, 8, 8, 8, 8, 8, 8, 8, 8, 8, 8])[(Int.toNat (IntKind.wrap .u8 a1))]?) else (none : Option (UInt8))) (fun (a17 : (UInt8)) => (bindO (some (IntKind.wrap .i64 ((32 : Int) + (IntKind.wrap .i64 (((UInt8.toNat a17) : Nat) : Int))))) (fun (a18 : Int) => (some a18))))))))))) (cond (decide (x ≥ (65536 : Int))) (bindO (guardO (decide ((0 : Int) ≤ (16 : Int)))) (fun (a19 : Unit) => (bindO (some (shr .u64 x (16 : Int))) (fun (a20 : Int) => (bindO (some (IntKind.wrap .i64 ((0 : Int) + (16 : Int)))) (fun (a21 : Int) => (cond (decide (a20 ≥ (256 : Int))) (bindO (guardO (decide ((0 : Int) ≤ (8 : Int)))) (fun (a22 : Unit) => (bindO (some (shr .u64 a20 (8 : Int))) (fun (a23 : Int) => (bindO (some (IntKind.wrap .i64 (a21 + (8 : Int)))) (fun (a24 : Int) => (bindO (if ((0 : Int) ≤ (IntKind.wrap .u8 a23)) then ((bytesOf [0, 1, 2, 2, 3, 3, 3, 3, 4, 4, 4, 4, 4, 4, 4, 4, 5, 5, 5, 5, 5, 5, 5, 5, 5, 5, 5, 5, 5, 5, 5, 5, 6, 6, 6, 6, 6, 6, 6, 6, 6, 6, 6, 6, 6, 6, 6, 6, 6, 6, 6, 6, 6, 6, 6, 6, 6, 6, 6, 6, 6, 6, 6, 6, 7, 7, 7, 7, 7, 7, 7, 7, 7, 7, 7, 7, 7, 7, 7, 7, 7, 7, 7, 7, 7, 7, 7, 7, 7, 7, 7, 7, 7, 7, 7, 7, 7, 7, 7, 7, 7, 7, 7, 7, 7, 7, 7, 7, 7, 7, 7, 7, 7, 7, 7, 7, 7, 7, 7, 7, 7, 7, 7, 7, 7, 7, 7, 7, 8, 8, 8, 8, 8, 8, 8, 8, 8, 8, 8, 8, 8, 8, 8, 8, 8, 8, 8, 8, 8, 8, 8, 8, 8, 8, 8, 8, 8, 8, 8, 8, 8, 8, 8, 8, 8, 8, 8, 8, 8, 8, 8, 8, 8, 8, 8, 8, 8, 8, 8, 8, 8, 8, 8, 8, 8, 8, 8, 8, 8, 8, 8, 8, 8, 8, 8, 8, 8, 8, 8, 8, 8, 8, 8, 8, 8, 8, 8, 8, 8, 8, 8, 8, 8, 8, 8, 8, 8, 8, 8, 8, 8, 8, 8, 8, 8, 8, 8, 8, 8, 8, 8, 8, 8, 8, 8, 8, 8, 8, 8, 8, 8, 8, 8, 8, 8, 8, 8, 8, 8, 8, 8, 8, 8, 8, 8, 8])[(Int.toNat (IntKind.wrap .u8 a23))]?) else (none : Option (UInt8))) (fun (a25 : (UInt8)) => (bindO (some (IntKind.wrap .i64 (a24 + (IntKind.wrap .i64 (((UInt8.toNat a25) : Nat) : Int))))) (fun (a26 : Int) => (some a26))))))))))) (bindO (if ((0 : Int) ≤ (IntKind.wrap .u8 a20)) then ((bytesOf [0, 1, 2, 2, 3, 3, 3, 3, 4, 4, 4, 4, 4, 4, 4, 4, 5, 5, 5, 5, 5, 5, 5, 5, 5, 5, 5, 5, 5, 5, 5, 5, 6, 6, 6, 6, 6, 6, 6, 6, 6, 6, 6, 6, 6, 6, 6, 6, 6, 6, 6, 6, 6, 6, 6, 6, 6, 6, 6, 6, 6, 6, 6, 6, 7, 7, 7, 7, 7, 7, 7, 7, 7, 7, 7, 7, 7, 7, 7, 7, 7, 7, 7, 7, 7, 7, 7, 7, 7, 7, 7, 7, 7, 7, 7, 7, 7, 7, 7, 7, 7, 7, 7, 7, 7, 7, 7, 7, 7, 7, 7, 7, 7, 7, 7, 7, 7, 7, 7, 7, 7, 7, 7, 7, 7, 7, 7, 7, 8, 8, 8, 8, 8, 8, 8, 8, 8, 8, 8, 8, 8, 8, 8, 8, 8, 8, 8, 8, 8, 8, 8, 8, 8, 8, 8, 8, 8, 8, 8, 8, 8, 8, 8, 8, 8, 8, 8, 8, 8, 8, 8, 8, 8, 8, 8, 8, 8, 8, 8, 8, 8, 8, 8, 8, 8, 8, 8, 8, 8, 8, 8, 8, 8, 8, 8, 8, 8, 8, 8, 8, 8, 8, 8, 8, 8, 8, 8, 8, 8, 8, 8, 8, 8, 8, 8, 8, 8, 8, 8, 8, 8, 8, 8, 8, 8, 8, 8, 8, 8, 8, 8, 8, 8, 8, 8, 8, 8, 8, 8, 8, 8, 8, 8, 8, 8, 8, 8, 8, 8, 8, 8, 8, 8, 8, 8, 8])[(Int.toNat (IntKind.wrap .u8 a20))]?) else (none : Option (UInt8))) (fun (a27 : (UInt8)) => (bindO (some (IntKind.wrap .i64 (a21 + (IntKind.wrap .i64 (((UInt8.toNat a27) : Nat) : Int))))) (fun (a28 : Int) => (some a28)))))))))))) (cond (decide (x ≥ (256 : Int))) (bindO (guardO (decide ((0 : Int) ≤ (8 : Int)))) (fun (a29 : Unit) => (bindO (some (shr .u64 x (8 : Int))) (fun (a30 : Int) => (bindO (some (IntKind.wrap .i64 ((0 : Int) + (8 : Int)))) (fun (a31 : Int) => (bindO (if ((0 : Int) ≤ (IntKind.wrap .u8 a30)) then ((bytesOf [0, 1, 2, 2, 3, 3, 3, 3, 4, 4, 4, 4, 4, 4, 4, 4, 5, 5, 5, 5, 5, 5, 5, 5, 5, 5, 5, 5, 5, 5, 5, 5, 6, 6, 6, 6, 6, 6, 6, 6, 6, 6, 6, 6, 6, 6, 6, 6, 6, 6, 6, 6, 6, 6, 6, 6, 6, 6, 6, 6, 6, 6, 6, 6, 7, 7, 7, 7, 7, 7, 7, 7, 7, 7, 7, 7, 7, 7, 7, 7, 7, 7, 7, 7, 7, 7, 7, 7, 7, 7, 7, 7, 7, 7, 7, 7, 7, 7, 7, 7, 7, 7, 7, 7, 7, 7, 7, 7, 7, 7, 7, 7, 7, 7, 7, 7, 7, 7, 7, 7, 7, 7, 7, 7, 7, 7, 7, 7, 8, 8, 8, 8, 8, 8, 8, 8, 8, 8, 8, 8, 8, 8, 8, 8, 8, 8, 8, 8, 8, 8, 8, 8, 8, 8, 8, 8, 8, 8, 8, 8, 8, 8, 8, 8, 8, 8, 8, 8, 8, 8, 8, 8, 8, 8, 8, 8, 8, 8, 8, 8, 8, 8, 8, 8, 8, 8, 8, 8, 8, 8, 8, 8, 8, 8, 8, 8, 8, 8, 8, 8, 8, 8, 8, 8, 8, 8, 8, 8, 8, 8, 8, 8, 8, 8, 8, 8, 8, 8, 8, 8, 8, 8, 8, 8, 8, 8, 8, 8, 8, 8, 8, 8, 8, 8, 8, 8, 8, 8, 8, 8, 8, 8, 8, 8, 8, 8, 8, 8, 8, 8, 8, 8, 8, 8, 8, 8])[(Int.toNat (IntKind.wrap .u8 a30))]?) else (none : Option (UInt8))) (fun (a32 : (UInt8)) => (bindO (some (IntKind.wrap .i64 (a31 + (IntKind.wrap .i64 (((UInt8.toNat a32) : Nat) : Int))))) (fun (a33 : Int) => (some a33))))))))))) (bindO (if ((0 : Int) ≤ (IntKind.wrap .u8 x)) then ((bytesOf [0, 1, 2, 2, 3, 3, 3, 3, 4, 4, 4, 4, 4, 4, 4, 4, 5, 5, 5, 5, 5, 5, 5, 5, 5, 5, 5, 5, 5, 5, 5, 5, 6, 6, 6, 6, 6, 6, 6, 6, 6, 6, 6, 6, 6, 6, 6, 6, 6, 6, 6, 6, 6, 6, 6, 6, 6, 6, 6, 6, 6, 6, 6, 6, 7, 7, 7, 7, 7, 7, 7, 7, 7, 7, 7, 7, 7, 7, 7, 7, 7, 7, 7, 7, 7, 7, 7, 7, 7, 7, 7, 7, 7, 7, 7, 7, 7, 7, 7, 7, 7, 7, 7, 7, 7, 7, 7, 7, 7, 7, 7, 7, 7, 7, 7, 7, 7, 7, 7, 7, 7, 7, 7, 7, 7, 7, 7, 7, 8, 8, 8, 8, 8, 8, 8, 8, 8, 8, 8, 8, 8, 8, 8, 8, 8, 8, 8, 8, 8, 8, 8, 8, 8, 8, 8, 8, 8, 8, 8, 8, 8, 8, 8, 8, 8, 8, 8, 8, 8, 8, 8, 8, 8, 8, 8, 8, 8, 8, 8, 8, 8, 8, 8, 8, 8, 8, 8, 8, 8, 8, 8, 8, 8, 8, 8, 8, 8, 8, 8, 8, 8, 8, 8, 8, 8, 8, 8, 8, 8, 8, 8, 8, 8, 8, 8, 8, 8, 8, 8, 8, 8, 8, 8, 8, 8, 8, 8, 8, 8, 8, 8, 8, 8, 8, 8, 8, 8, 8, 8, 8, 8, 8, 8, 8, 8, 8, 8, 8, 8, 8, 8, 8, 8, 8, 8, 8])[(Int.toNat (IntKind.wrap .u8 x))]?) else (none : Option (UInt8))) (fun (a34 : (UInt8)) => (bindO (some (IntKind.wrap .i64 ((0 : Int) + (IntKind.wrap .i64 (((UInt8.toNat a34) : Nat) : Int))))) (fun (a35 : Int) => (some a35))))))))

noncomputable def c_math_bits_Len64 : Con0 := ⟨pk_math_bits_Len64, rk_math_bits_Len64, M_math_bits_Len64⟩

set_option maxRecDepth 100000 in
theorem eq_math_bits_Len64 (x : In pk_math_bits_Len64) : semF (mkE []) h_math_bits_Len64 (info Try.f162) pk_math_bits_Len64 rk_math_bits_Len64 x = M_math_bits_Len64 x := by kernel_rfl

set_option maxRecDepth 100000 in
theorem m_math_bits_Len64 : ConOK Try.prog 162 c_math_bits_Len64 := fn_ok (tyOK _) (E := mkE []) (consOK_nil rfl) Try.func162 (h := h_math_bits_Len64) (by kernel_rfl) eq_math_bits_Len64

/-- math_bits_Len -/
def pk_math_bits_Len : List PK := [.data (.int .u64)]
def rk_math_bits_Len : List (Ty × Bool) := [((.int .i64), false)]
def h_math_bits_Len : Hints := { loops := [] }
noncomputable def M_math_bits_Len (x : Int) : (Option Int) :=
  (bindO (M_math_bits_Len64 x) (fun (a0 : Int) => (some a0)))

noncomputable def c_math_bits_Len : Con0 := ⟨pk_math_bits_Len, rk_math_bits_Len, M_math_bits_Len⟩

set_option maxRecDepth 100000 in
theorem eq_math_bits_Len (x : In pk_math_bits_Len) : semF (mkE [(161, c_math_bits_Len32), (162, c_math_bits_Len64)]) h_math_bits_Len (info Try.f153) pk_math_bits_Len rk_math_bits_Len x = M_math_bits_Len x := by kernel_rfl

set_option maxRecDepth 100000 in
theorem m_math_bits_Len : ConOK Try.prog 153 c_math_bits_Len := fn_ok (tyOK _) (E := mkE [(161, c_math_bits_Len32), (162, c_math_bits_Len64)]) (consOK_cons m_math_bits_Len32 (consOK_cons m_math_bits_Len64 (consOK_nil rfl))) Try.func153 (h := h_math_bits_Len) (by kernel_rfl) eq_math_bits_Len

/-- I_half -/
def pk_I_half : List PK := [.data (.int .i64)]
def rk_I_half : List (Ty × Bool) := [((.int .i64), false)]
def h_I_half : Hints := { loops := [] }
noncomputable def M_I_half (x : Int) : (Option Int) :=
  (bindO (some (IntKind.wrap .i64 (x - (1 : Int)))) (fun (a0 : Int) => (bindO (M_math_bits_Len (IntKind.wrap .u64 a0)) (fun (a1 : Int) => (bindO (some (IntKind.wrap .i64 (a1 - (1 : Int)))) (fun (a2 : Int) => (bindO (guardO (decide ((0 : Int) ≤ (IntKind.wrap .u64 a2)))) (fun (a3 : Unit) => (bindO (some (shl .i64 (1 : Int) (IntKind.wrap .u64 a2))) (fun (a4 : Int) => (some a4)))))))))))

noncomputable def c_I_half : Con0 := ⟨pk_I_half, rk_I_half, M_I_half⟩

set_option maxRecDepth 100000 in
theorem eq_I_half (x : In pk_I_half) : semF (mkE [(153, c_math_bits_Len)]) h_I_half (info Try.f128) pk_I_half rk_I_half x = M_I_half x := by kernel_rfl

set_option maxRecDepth 100000 in
theorem m_I_half : ConOK Try.prog 128 c_I_half := fn_ok (tyOK _) (E := mkE [(153, c_math_bits_Len)]) (consOK_cons m_math_bits_Len (consOK_nil rfl)) Try.func128 (h := h_I_half) (by kernel_rfl) eq_I_half

/-- I_nodeOf -/
def pk_I_nodeOf : List PK := [.data (.int .i64), .data (.int .i64)]
def rk_I_nodeOf : List (Ty × Bool) := [((.int .i64), false)]
def h_I_nodeOf : Hints := { loops := [] }
noncomputable def M_I_nodeOf (x : (Int × Int)) : (Option Int) :=
  (bindO (M_I_HashLabelled ((bytesOf [110, 111, 100, 101]), (x.1 :: (x.2 :: ([] : List Int))))) (fun (a0 : (Int × Bool)) => (some a0.1)))

noncomputable def c_I_nodeOf : Con0 := ⟨pk_I_nodeOf, rk_I_nodeOf, M_I_nodeOf⟩

set_option maxRecDepth 100000 in
theorem eq_I_nodeOf (x : In pk_I_nodeOf) : semF (mkE [(126, c_I_HashLabelled)]) h_I_nodeOf (info Try.f127) pk_I_nodeOf rk_I_nodeOf x = M_I_nodeOf x := by kernel_rfl

set_option maxRecDepth 100000 in
theorem m_I_nodeOf : ConOK Try.prog 127 c_I_nodeOf := fn_ok (tyOK _) (E := mkE [(126, c_I_HashLabelled)]) (consOK_cons m_I_HashLabelled (consOK_nil rfl)) Try.func127 (h := h_I_nodeOf) (by kernel_rfl) eq_I_nodeOf

/-- I_rootOf -/
def pk_I_rootOf : List PK := [.data (.sl (.int .i64))]
def rk_I_rootOf : List (Ty × Bool) := [((.int .i64), false)]
def h_I_rootOf : Hints := { loops := [] }
noncomputable def R_I_rootOf : Nat → (List Int) → (Option Int)
  | 0, _ => none
  | n + 1, x => (cond ((((List.length x) : Nat) : Int) == (0 : Int)) (bindO (M_I_HashLabelled ((bytesOf [101, 109, 112, 116, 121]), ([] : List Int))) (fun (a0 : (Int × Bool)) => (some a0.1))) (cond ((((List.length x) : Nat) : Int) == (1 : Int)) (bindO (getI x (0 : Int)) (fun (a1 : Int) => (some a1))) (bindO (M_I_half (((List.length x) : Nat) : Int)) (fun (a2 : Int) => (bindO (sliceNH a2 (List.length x)) (fun (a3 : (Nat × Nat)) => (bindO (R_I_rootOf n (List.drop a3.1 (List.take a3.2 x))) (fun (a4 : Int) => (bindO (M_I_half (((List.length x) : Nat) : Int)) (fun (a5 : Int) => (bindO (sliceLN a5 (List.length x)) (fun (a6 : (Nat × Nat)) => (bindO (R_I_rootOf n (List.drop a6.1 (List.take a6.2 x))) (fun (a7 : Int) => (bindO (M_I_nodeOf (a4, a7)) (fun (a8 : Int) => (some a8)))))))))))))))))

noncomputable def M_I_rootOf (x : (List Int)) : (Option Int) := limO R_I_rootOf x

noncomputable def c_I_rootOf : Con0 := ⟨pk_I_rootOf, rk_I_rootOf, M_I_rootOf⟩

set_option maxRecDepth 100000 in
theorem eq_I_rootOf (n : Nat) (x : In pk_I_rootOf) : semF (mkE ((72, ⟨pk_I_rootOf, rk_I_rootOf, R_I_rootOf n⟩) :: [(126, c_I_HashLabelled), (128, c_I_half), (127, c_I_nodeOf)])) h_I_rootOf (info Try.f72) pk_I_rootOf rk_I_rootOf x = R_I_rootOf (n + 1) x := by kernel_rfl

set_option maxRecDepth 100000 in
theorem mR_I_rootOf : ∀ n, ConOK Try.prog 72 ⟨pk_I_rootOf, rk_I_rootOf, R_I_rootOf n⟩
  | 0 => conOK_none Try.func72 (h := h_I_rootOf) (by kernel_rfl)
  | n + 1 => fn_ok (tyOK _) (E := mkE ((72, ⟨pk_I_rootOf, rk_I_rootOf, R_I_rootOf n⟩) :: [(126, c_I_HashLabelled), (128, c_I_half), (127, c_I_nodeOf)])) (consOK_cons (mR_I_rootOf n) (consOK_cons m_I_HashLabelled (consOK_cons m_I_half (consOK_cons m_I_nodeOf (consOK_nil rfl))))) Try.func72 (h := h_I_rootOf) (by kernel_rfl) (eq_I_rootOf n)

theorem m_I_rootOf : ConOK Try.prog 72 c_I_rootOf := conOK_lim mR_I_rootOf

/-- I_RootOf -/
def pk_I_RootOf : List PK := [.data (.sl (.int .i64))]
def rk_I_RootOf : List (Ty × Bool) := [((.int .i64), false), (.bool, false)]
def h_I_RootOf : Hints := { loops := [] }
noncomputable def M_I_RootOf (x : (List Int)) : (Option (Int × Bool)) :=
  (bindO (M_I_areLeaves x) (fun (a0 : Bool) => (cond (not a0) (some ((0 : Int), false)) (bindO (M_I_rootOf x) (fun (a1 : Int) => (some (a1, true)))))))

noncomputable def c_I_RootOf : Con0 := ⟨pk_I_RootOf, rk_I_RootOf, M_I_RootOf⟩

set_option maxRecDepth 100000 in
theorem eq_I_RootOf (x : In pk_I_RootOf) : semF (mkE [(71, c_I_areLeaves), (72, c_I_rootOf)]) h_I_RootOf (info Try.f31) pk_I_RootOf rk_I_RootOf x = M_I_RootOf x := by kernel_rfl

set_option maxRecDepth 100000 in
theorem m_I_RootOf : ConOK Try.prog 31 c_I_RootOf := fn_ok (tyOK _) (E := mkE [(71, c_I_areLeaves), (72, c_I_rootOf)]) (consOK_cons m_I_areLeaves (consOK_cons m_I_rootOf (consOK_nil rfl))) Try.func31 (h := h_I_RootOf) (by kernel_rfl) eq_I_RootOf

/-- L_eqIntS -/
def pk_L_eqIntS : List PK := [.data (.sl (.int .i64)), .data (.sl (.int .i64))]
def rk_L_eqIntS : List (Ty × Bool) := [(.bool, false)]
def h_L_eqIntS : Hints := { loops := [(0, { items := [.slot 5 (.data (.int .i64) [])], kill := [2, 3, 4, 6, 7, 8, 9, 10, 11, 12, 13, 14, 15, 16, 17, 18, 19, 20, 21, 22, 23, 24, 25] })] }
noncomputable def M_L_eqIntS (x : ((List Int) × (List Int))) : (Option Bool) :=
  (cond ((((List.length x.1) : Nat) : Int) != (((List.length x.2) : Nat) : Int)) (some false) (loopO (fun (again0 : (Int → (Option Bool))) => (fun (s1 : Int) => (cond (decide (s1 < (((List.length x.1) : Nat) : Int))) (bindO (getI x.1 s1) (fun (a2 : Int) => (bindO (getI x.2 s1) (fun (a3 : Int) => (cond (a2 != a3) (some false) (bindO (some (IntKind.wrap .i64 (s1 + (1 : Int)))) (fun (a4 : Int) => (again0 a4)))))))) (some true)))) (0 : Int)))

noncomputable def c_L_eqIntS : Con0 := ⟨pk_L_eqIntS, rk_L_eqIntS, M_L_eqIntS⟩

set_option maxRecDepth 100000 in
theorem eq_L_eqIntS (x : In pk_L_eqIntS) : semF (mkE []) h_L_eqIntS (info Try.f24) pk_L_eqIntS rk_L_eqIntS x = M_L_eqIntS x := by kernel_rfl

set_option maxRecDepth 100000 in
theorem m_L_eqIntS : ConOK Try.prog 24 c_L_eqIntS := fn_ok (tyOK _) (E := mkE []) (consOK_nil rfl) Try.func24 (h := h_L_eqIntS) (by kernel_rfl) eq_L_eqIntS

/-- L_FnExactRootOf -/
def pk_L_FnExactRootOf : List PK := [.data (.sl (.int .i64))]
def rk_L_FnExactRootOf : List (Ty × Bool) := [(.bool, false)]
def h_L_FnExactRootOf : Hints := { loops := [] }
noncomputable def M_L_FnExactRootOf (x : (List Int)) : (Option Bool) :=
  (cond (decide ((((List.length x) : Nat) : Int) > (1048576 : Int))) (some true) (bindO (M_L_toIntS x) (fun (a0 : (List Int)) => (bindO (M_S_RootOf a0) (fun (a1 : (Int × Bool)) => (bindO (M_L_toIntS x) (fun (a2 : (List Int)) => (bindO (M_I_RootOf a2) (fun (a3 : (Int × Bool)) => (cond (a3.1 != a1.1) (some false) (cond (not (a3.2 == a1.2)) (some false) (bindO (M_L_toIntS x) (fun (a4 : (List Int)) => (bindO (M_L_eqIntS (a2, a4)) (fun (a5 : Bool) => (cond (not a5) (some false) (some true)))))))))))))))))

noncomputable def c_L_FnExactRootOf : Con0 := ⟨pk_L_FnExactRootOf, rk_L_FnExactRootOf, M_L_FnExactRootOf⟩

set_option maxRecDepth 100000 in
theorem eq_L_FnExactRootOf (x : In pk_L_FnExactRootOf) : semF (mkE [(22, c_L_toIntS), (30, c_S_RootOf), (31, c_I_RootOf), (24, c_L_eqIntS)]) h_L_FnExactRootOf (info Try.f6) pk_L_FnExactRootOf rk_L_FnExactRootOf x = M_L_FnExactRootOf x := by kernel_rfl

set_option maxRecDepth 100000 in
theorem m_L_FnExactRootOf : ConOK Try.prog 6 c_L_FnExactRootOf := fn_ok (tyOK _) (E := mkE [(22, c_L_toIntS), (30, c_S_RootOf), (31, c_I_RootOf), (24, c_L_eqIntS)]) (consOK_cons m_L_toIntS (consOK_cons m_S_RootOf (consOK_cons m_I_RootOf (consOK_cons m_L_eqIntS (consOK_nil rfl))))) Try.func6 (h := h_L_FnExactRootOf) (by kernel_rfl) eq_L_FnExactRootOf

end Go.Proofs.Ytmgphiofmhfjnaa.Vd
