/- The functions of the law as plain functions on data, and that the program's functions are these. No conditions. -/
import Derived.Test.YtlacogoljcpijaaVd3
import Derived.Test.YtlacogoljcpijaaChecked
import Derived.KernelRfl
set_option linter.unusedVariables false
namespace Go.Proofs.Ytlacogoljcpijaa.Vd
def tys : List (Option Ty) := [none, none, some (.int .i64), some (.int .i64), some .bool, some (.int .u8), some (.int .u8), some (.cons (.int .i64) (.cons (.int .i64) (.cons .bool (.one (.int .u8))))), some (.cons (.int .i64) (.cons (.int .i64) (.cons .bool (.one (.int .u8))))), some .str, some .str, some .str, some (.int .u64), some (.cons .str (.one (.int .u64))), some (.cons .str (.one (.int .u64))), none, none, none, none, none, none, some (.int .i32), none, none, none, some (.sl (.int .i64)), none, none, none, none, none, none, some (.cons (.int .i64) (.cons (.int .i64) (.one (.int .i64)))), some (.cons (.int .i64) (.cons (.int .i64) (.one (.int .i64)))), none, some (.cons (.int .i64) (.cons (.int .i64) (.one (.int .i64)))), none, none, none, none, none, none, none, none, none, none, none, some (.cons (.int .i64) (.one (.int .i64))), some (.cons (.int .i64) (.one (.int .i64))), some (.cons (.int .i64) (.one (.int .i64))), none, none, none, none, none, none, none, none, none, none, none, none, none, none, none, none, none, none, none, none, none, none, none, none, none, none, none, none, none, none, none, none, some (.sl (.cons (.int .i64) (.one (.int .i64)))), none, some (.int .u64), none, none, none, some (.cons (.int .i64) (.one (.int .i64))), some (.cons (.int .i64) (.one (.int .i64))), none, none, none, none, none, none, none, none, some (.int .u32), some (.int .u8), some (.int .u8), none, none, some (.int .i32), some (.int .i32), none, none, none]
def others : List Nat := [1, 15, 16, 17, 23, 24, 27, 28, 29, 30, 31, 34, 36, 37, 38, 39, 40, 41, 42, 43, 44, 45, 46, 51, 52, 53, 54, 56, 57, 58, 59, 60, 61, 62, 63, 64, 65, 66, 68, 69, 70, 71, 72, 73, 74, 75, 76, 77, 78, 79, 80, 81, 83, 85, 86, 87, 90, 91, 97, 101, 102]
def pairs : List Nat := [47, 48, 49, 88, 89]
noncomputable def mkE (con : List (Nat × Con0)) : Env := ⟨[], tys, others, pairs, con⟩

set_option maxRecDepth 100000 in
theorem tyOK (con : List (Nat × Con0)) : TyOK Try.prog (mkE con) := tyOK_of (E := mkE con) (by kernel_rfl) (by kernel_rfl) (by kernel_rfl)

/-- L_toIntS -/
def pk_L_toIntS : List PK := [.data (.sl (.int .i64))]
def rk_L_toIntS : List (Ty × Bool) := [((.sl (.int .i64)), true)]
def h_L_toIntS : Hints := { loops := [(0, { items := [.slot 4 (.data (.int .i64) []), .arr 3 (.int .i64) true], kill := [1, 2, 5, 6, 7, 8, 9, 10, 11, 12, 13, 14, 15, 16, 17, 18, 19, 20, 21] })] }
noncomputable def M_L_toIntS (x : (List Int)) : (Option (List Int)) :=
  (bindO (guardO (((decide ((0 : Int) ≤ (((List.length x) : Nat) : Int))) && (decide ((((List.length x) : Nat) : Int) ≤ (((List.length x) : Nat) : Int)))) && (decide ((((List.length x) : Nat) : Int) ≤ ((lim : Nat) : Int))))) (fun (a0 : Unit) => (loopO (fun (again1 : ((Int × (List Int)) → (Option (List Int)))) => (fun (s2 : (Int × (List Int))) => (cond (decide (s2.1 < (((List.length x) : Nat) : Int))) (bindO (getI x s2.1) (fun (a3 : Int) => (bindO (getI s2.2 s2.1) (fun (a4 : Int) => (bindO (some (List.set s2.2 (Int.toNat s2.1) a3)) (fun (a5 : (List Int)) => (bindO (some (IntKind.wrap .i64 (s2.1 + (1 : Int)))) (fun (a6 : Int) => (again1 (a6, a5)))))))))) (some s2.2)))) ((0 : Int), (List.replicate (Int.toNat (((List.length x) : Nat) : Int)) (0 : Int))))))

noncomputable def c_L_toIntS : Con0 := ⟨pk_L_toIntS, rk_L_toIntS, M_L_toIntS⟩

set_option maxRecDepth 100000 in
theorem eq_L_toIntS (x : In pk_L_toIntS) : semF (mkE []) h_L_toIntS (info Try.f17) pk_L_toIntS rk_L_toIntS x = M_L_toIntS x := by kernel_rfl

set_option maxRecDepth 100000 in
theorem m_L_toIntS : ConOK Try.prog 17 c_L_toIntS := fn_ok (tyOK _) (E := mkE []) (consOK_nil rfl) Try.func17 (h := h_L_toIntS) (by kernel_rfl) eq_L_toIntS

/-- S_l1In -/
def pk_S_l1In : List PK := [.data (.int .i64), .data (.int .i64), .data (.int .i64)]
def rk_S_l1In : List (Ty × Bool) := [(.bool, false)]
def h_S_l1In : Hints := { loops := [] }
noncomputable def M_S_l1In (x : (Int × (Int × Int))) : (Option Bool) :=
  (cond (decide (x.1 ≥ x.2.1)) (some (decide (x.1 ≤ x.2.2))) (some false))

noncomputable def c_S_l1In : Con0 := ⟨pk_S_l1In, rk_S_l1In, M_S_l1In⟩

set_option maxRecDepth 100000 in
theorem eq_S_l1In (x : In pk_S_l1In) : semF (mkE []) h_S_l1In (info Try.f43) pk_S_l1In rk_S_l1In x = M_S_l1In x := by kernel_rfl

set_option maxRecDepth 100000 in
theorem m_S_l1In : ConOK Try.prog 43 c_S_l1In := fn_ok (tyOK _) (E := mkE []) (consOK_nil rfl) Try.func43 (h := h_S_l1In) (by kernel_rfl) eq_S_l1In

/-- S_l1All -/
def pk_S_l1All : List PK := [.data (.sl (.int .i64)), .data (.int .i64), .data (.int .i64)]
def rk_S_l1All : List (Ty × Bool) := [(.bool, false)]
def h_S_l1All : Hints := { loops := [(0, { items := [.slot 11 (.data (.int .i64) [])], kill := [0, 3, 4, 5, 6, 7, 8, 12, 13, 14, 15, 16, 17, 18, 19, 20] })] }
noncomputable def M_S_l1All (x : ((List Int) × (Int × Int))) : (Option Bool) :=
  (loopO (fun (again0 : (Int → (Option Bool))) => (fun (s1 : Int) => (cond (decide (s1 < (((List.length x.1) : Nat) : Int))) (bindO (getI x.1 s1) (fun (a2 : Int) => (bindO (M_S_l1In (a2, (x.2.1, x.2.2))) (fun (a3 : Bool) => (cond (not a3) (some false) (bindO (some (IntKind.wrap .i64 (s1 + (1 : Int)))) (fun (a4 : Int) => (again0 a4)))))))) (some true)))) (0 : Int))

noncomputable def c_S_l1All : Con0 := ⟨pk_S_l1All, rk_S_l1All, M_S_l1All⟩

set_option maxRecDepth 100000 in
theorem eq_S_l1All (x : In pk_S_l1All) : semF (mkE [(43, c_S_l1In)]) h_S_l1All (info Try.f83) pk_S_l1All rk_S_l1All x = M_S_l1All x := by kernel_rfl

set_option maxRecDepth 100000 in
theorem m_S_l1All : ConOK Try.prog 83 c_S_l1All := fn_ok (tyOK _) (E := mkE [(43, c_S_l1In)]) (consOK_cons m_S_l1In (consOK_nil rfl)) Try.func83 (h := h_S_l1All) (by kernel_rfl) eq_S_l1All

/-- S_l3Label -/
def pk_S_l3Label : List PK := [.data .str, .data (.sl (.int .i64)), .data (.int .i64)]
def rk_S_l3Label : List (Ty × Bool) := [(.bool, false)]
def h_S_l3Label : Hints := { loops := [] }
noncomputable def M_S_l3Label (x : (ByteArray × ((List Int) × Int))) : (Option Bool) :=
  (cond (decide ((((ByteArray.size x.1) : Nat) : Int) ≤ (40 : Int))) (bindO (M_S_l1All (x.2.1, ((0 : Int), (4611686018427387903 : Int)))) (fun (a0 : Bool) => (cond a0 (bindO (some (IntKind.wrap .i64 ((1 : Int) + (((ByteArray.size x.1) : Nat) : Int)))) (fun (a1 : Int) => (bindO (some (IntKind.wrap .i64 (a1 + (((List.length x.2.1) : Nat) : Int)))) (fun (a2 : Int) => (bindO (some (IntKind.wrap .i64 (a2 + x.2.2))) (fun (a3 : Int) => (some (decide (a3 ≤ (400 : Int)))))))))) (some false)))) (some false))

noncomputable def c_S_l3Label : Con0 := ⟨pk_S_l3Label, rk_S_l3Label, M_S_l3Label⟩

set_option maxRecDepth 100000 in
theorem eq_S_l3Label (x : In pk_S_l3Label) : semF (mkE [(83, c_S_l1All)]) h_S_l3Label (info Try.f89) pk_S_l3Label rk_S_l3Label x = M_S_l3Label x := by kernel_rfl

set_option maxRecDepth 100000 in
theorem m_S_l3Label : ConOK Try.prog 89 c_S_l3Label := fn_ok (tyOK _) (E := mkE [(83, c_S_l1All)]) (consOK_cons m_S_l1All (consOK_nil rfl)) Try.func89 (h := h_S_l3Label) (by kernel_rfl) eq_S_l3Label

/-- S_l3With -/
def pk_S_l3With : List PK := [.data .str, .data (.sl (.int .i64))]
def rk_S_l3With : List (Ty × Bool) := [((.sl (.int .i64)), true)]
def h_S_l3With : Hints := { loops := [(0, { items := [.slot 5 (.own (.int .i64) true), .slot 6 (.data (.int .i64) [])], kill := [2, 3, 4, 7, 8, 9, 10, 11, 12, 13, 14, 15, 16, 17, 18, 19, 20, 21, 22, 23, 24, 25] })] }
noncomputable def M_S_l3With (x : (ByteArray × (List Int))) : (Option (List Int)) :=
  (loopO (fun (again0 : (((List Int) × Int) → (Option (List Int)))) => (fun (s1 : ((List Int) × Int)) => (cond (decide (s1.2 < (((ByteArray.size x.1) : Nat) : Int))) (bindO (if ((0 : Int) ≤ s1.2) then (x.1[(Int.toNat s1.2)]?) else (none : Option (UInt8))) (fun (a2 : (UInt8)) => (bindO (guardO (lenOk ((List.length s1.1) + (List.length ((IntKind.wrap .i64 (((UInt8.toNat a2) : Nat) : Int)) :: ([] : List Int)))))) (fun (a3 : Unit) => (bindO (some (s1.1 ++ ((IntKind.wrap .i64 (((UInt8.toNat a2) : Nat) : Int)) :: ([] : List Int)))) (fun (a4 : (List Int)) => (bindO (some (IntKind.wrap .i64 (s1.2 + (1 : Int)))) (fun (a5 : Int) => (again0 (a4, a5)))))))))) (bindO (guardO (lenOk ((List.length s1.1) + (List.length x.2)))) (fun (a6 : Unit) => (bindO (some (s1.1 ++ x.2)) (fun (a7 : (List Int)) => (some a7)))))))) (((((ByteArray.size x.1) : Nat) : Int) :: ([] : List Int)), (0 : Int)))

noncomputable def c_S_l3With : Con0 := ⟨pk_S_l3With, rk_S_l3With, M_S_l3With⟩

set_option maxRecDepth 100000 in
theorem eq_S_l3With (x : In pk_S_l3With) : semF (mkE []) h_S_l3With (info Try.f102) pk_S_l3With rk_S_l3With x = M_S_l3With x := by kernel_rfl

set_option maxRecDepth 100000 in
theorem m_S_l3With : ConOK Try.prog 102 c_S_l3With := fn_ok (tyOK _) (E := mkE []) (consOK_nil rfl) Try.func102 (h := h_S_l3With) (by kernel_rfl) eq_S_l3With

/-- S_l3State_absorb -/
def pk_S_l3State_absorb : List PK := [.mp (.cons (.int .i64) (.one (.int .i64))) false, .data (.int .i64)]
def rk_S_l3State_absorb : List (Ty × Bool) := []
def h_S_l3State_absorb : Hints := { loops := [(0, { items := [.slot 12 (.data (.int .i64) []), .cell 0 0 (.data (.int .i64) []), .cell 0 1 (.data (.int .i64) [])], kill := [1, 2, 3, 4, 5, 6, 7, 8, 9, 13, 14, 15, 16, 17, 18, 19, 20, 21, 22, 23, 24, 25, 26, 27, 28, 29, 30, 31, 32, 33, 34, 35, 36, 37, 38, 39, 40] })] }
noncomputable def M_S_l3State_absorb (x : ((Int × Int) × Int)) : (Option (Int × Int)) :=
  (bindO (guardO ((2147483648 : Int) != (0 : Int))) (fun (a0 : Unit) => (bindO (some (Int.tmod x.2 (2147483648 : Int))) (fun (a1 : Int) => (bindO (guardO ((2147483648 : Int) != (0 : Int))) (fun (a2 : Unit) => (bindO (some (IntKind.wrap .i64 (Int.tdiv x.2 (2147483648 : Int)))) (fun (a3 : Int) => (loopO (fun (again4 : ((Int × (Int × Int)) → (Option (Int × Int)))) => (fun (s5 : (Int × (Int × Int))) => (cond (decide (s5.1 < (((List.length (a1 :: (a3 :: ([] : List Int)))) : Nat) : Int))) (bindO (getI (a1 :: (a3 :: ([] : List Int))) s5.1) (fun (a6 : Int) => (bindO (some (IntKind.wrap .i64 ((48271 : Int) * s5.2.1))) (fun (a7 : Int) => (bindO (some (IntKind.wrap .i64 (a7 + a6))) (fun (a8 : Int) => (bindO (some (IntKind.wrap .i64 (a8 + (1 : Int)))) (fun (a9 : Int) => (bindO (guardO ((2147483647 : Int) != (0 : Int))) (fun (a10 : Unit) => (bindO (some (Int.tmod a9 (2147483647 : Int))) (fun (a11 : Int) => (bindO (some (IntKind.wrap .i64 ((69621 : Int) * s5.2.2))) (fun (a12 : Int) => (bindO (some (IntKind.wrap .i64 (a12 + a6))) (fun (a13 : Int) => (bindO (some (IntKind.wrap .i64 (a13 + (1 : Int)))) (fun (a14 : Int) => (bindO (guardO ((2147483647 : Int) != (0 : Int))) (fun (a15 : Unit) => (bindO (some (Int.tmod a14 (2147483647 : Int))) (fun (a16 : Int) => (bindO (some (IntKind.wrap .i64 (s5.1 + (1 : Int)))) (fun (a17 : Int) => (again4 (a17, (a11, a16))))))))))))))))))))))))))) (some (s5.2.1, s5.2.2))))) ((0 : Int), (x.1.1, x.1.2)))))))))))

noncomputable def c_S_l3State_absorb : Con0 := ⟨pk_S_l3State_absorb, rk_S_l3State_absorb, M_S_l3State_absorb⟩

set_option maxRecDepth 100000 in
theorem eq_S_l3State_absorb (x : In pk_S_l3State_absorb) : semF (mkE []) h_S_l3State_absorb (info Try.f108) pk_S_l3State_absorb rk_S_l3State_absorb x = M_S_l3State_absorb x := by kernel_rfl

set_option maxRecDepth 100000 in
theorem m_S_l3State_absorb : ConOK Try.prog 108 c_S_l3State_absorb := fn_ok (tyOK _) (E := mkE []) (consOK_nil rfl) Try.func108 (h := h_S_l3State_absorb) (by kernel_rfl) eq_S_l3State_absorb

/-- S_hInts -/
def pk_S_hInts : List PK := [.data (.sl (.int .i64))]
def rk_S_hInts : List (Ty × Bool) := [((.int .i64), false)]
def h_S_hInts : Hints := { loops := [(0, { items := [.slot 14 (.data (.int .i64) []), .cell 7 0 (.data (.int .i64) []), .cell 7 1 (.data (.int .i64) [])], kill := [0, 1, 2, 4, 5, 6, 8, 9, 10, 11, 15, 16, 17, 18, 19, 20, 21, 22, 23, 24, 25, 26, 27, 28, 29, 30, 31] })] }
noncomputable def M_S_hInts (x : (List Int)) : (Option Int) :=
  (bindO (M_S_l3State_absorb (((1 : Int), (2 : Int)), (((List.length x) : Nat) : Int))) (fun (a0 : (Int × Int)) => (loopO (fun (again1 : ((Int × (Int × Int)) → (Option Int))) => (fun (s2 : (Int × (Int × Int))) => (cond (decide (s2.1 < (((List.length x) : Nat) : Int))) (bindO (getI x s2.1) (fun (a3 : Int) => (bindO (M_S_l3State_absorb ((s2.2.1, s2.2.2), a3)) (fun (a4 : (Int × Int)) => (bindO (some (IntKind.wrap .i64 (s2.1 + (1 : Int)))) (fun (a5 : Int) => (again1 (a5, (a4.1, a4.2))))))))) (bindO (some (IntKind.wrap .i64 (s2.2.1 * (2147483648 : Int)))) (fun (a6 : Int) => (bindO (some (IntKind.wrap .i64 (a6 + s2.2.2))) (fun (a7 : Int) => (some a7)))))))) ((0 : Int), (a0.1, a0.2)))))

noncomputable def c_S_hInts : Con0 := ⟨pk_S_hInts, rk_S_hInts, M_S_hInts⟩

set_option maxRecDepth 100000 in
theorem eq_S_hInts (x : In pk_S_hInts) : semF (mkE [(108, c_S_l3State_absorb)]) h_S_hInts (info Try.f101) pk_S_hInts rk_S_hInts x = M_S_hInts x := by kernel_rfl

set_option maxRecDepth 100000 in
theorem m_S_hInts : ConOK Try.prog 101 c_S_hInts := fn_ok (tyOK _) (E := mkE [(108, c_S_l3State_absorb)]) (consOK_cons m_S_l3State_absorb (consOK_nil rfl)) Try.func101 (h := h_S_hInts) (by kernel_rfl) eq_S_hInts

/-- S_hLabelled -/
def pk_S_hLabelled : List PK := [.data .str, .data (.sl (.int .i64))]
def rk_S_hLabelled : List (Ty × Bool) := [((.int .i64), false)]
def h_S_hLabelled : Hints := { loops := [] }
noncomputable def M_S_hLabelled (x : (ByteArray × (List Int))) : (Option Int) :=
  (bindO (M_S_l3With (x.1, x.2)) (fun (a0 : (List Int)) => (bindO (M_S_hInts a0) (fun (a1 : Int) => (some a1)))))

noncomputable def c_S_hLabelled : Con0 := ⟨pk_S_hLabelled, rk_S_hLabelled, M_S_hLabelled⟩

set_option maxRecDepth 100000 in
theorem eq_S_hLabelled (x : In pk_S_hLabelled) : semF (mkE [(102, c_S_l3With), (101, c_S_hInts)]) h_S_hLabelled (info Try.f90) pk_S_hLabelled rk_S_hLabelled x = M_S_hLabelled x := by kernel_rfl

set_option maxRecDepth 100000 in
theorem m_S_hLabelled : ConOK Try.prog 90 c_S_hLabelled := fn_ok (tyOK _) (E := mkE [(102, c_S_l3With), (101, c_S_hInts)]) (consOK_cons m_S_l3With (consOK_cons m_S_hInts (consOK_nil rfl))) Try.func90 (h := h_S_hLabelled) (by kernel_rfl) eq_S_hLabelled

/-- S_HashLabelled -/
def pk_S_HashLabelled : List PK := [.data .str, .data (.sl (.int .i64))]
def rk_S_HashLabelled : List (Ty × Bool) := [((.int .i64), false), (.bool, false)]
def h_S_HashLabelled : Hints := { loops := [] }
noncomputable def M_S_HashLabelled (x : (ByteArray × (List Int))) : (Option (Int × Bool)) :=
  (bindO (M_S_l3Label (x.1, (x.2, (0 : Int)))) (fun (a0 : Bool) => (cond (not a0) (some ((0 : Int), false)) (bindO (M_S_hLabelled (x.1, x.2)) (fun (a1 : Int) => (some (a1, true)))))))

noncomputable def c_S_HashLabelled : Con0 := ⟨pk_S_HashLabelled, rk_S_HashLabelled, M_S_HashLabelled⟩

set_option maxRecDepth 100000 in
theorem eq_S_HashLabelled (x : In pk_S_HashLabelled) : semF (mkE [(89, c_S_l3Label), (90, c_S_hLabelled)]) h_S_HashLabelled (info Try.f57) pk_S_HashLabelled rk_S_HashLabelled x = M_S_HashLabelled x := by kernel_rfl

set_option maxRecDepth 100000 in
theorem m_S_HashLabelled : ConOK Try.prog 57 c_S_HashLabelled := fn_ok (tyOK _) (E := mkE [(89, c_S_l3Label), (90, c_S_hLabelled)]) (consOK_cons m_S_l3Label (consOK_cons m_S_hLabelled (consOK_nil rfl))) Try.func57 (h := h_S_HashLabelled) (by kernel_rfl) eq_S_HashLabelled

/-- S_LeafDigest -/
def pk_S_LeafDigest : List PK := [.data (.sl (.int .i64))]
def rk_S_LeafDigest : List (Ty × Bool) := [((.int .i64), false), (.bool, false)]
def h_S_LeafDigest : Hints := { loops := [] }
noncomputable def M_S_LeafDigest (x : (List Int)) : (Option (Int × Bool)) :=
  (bindO (M_S_HashLabelled ((bytesOf [108, 101, 97, 102]), x)) (fun (a0 : (Int × Bool)) => (some (a0.1, a0.2))))

noncomputable def c_S_LeafDigest : Con0 := ⟨pk_S_LeafDigest, rk_S_LeafDigest, M_S_LeafDigest⟩

set_option maxRecDepth 100000 in
theorem eq_S_LeafDigest (x : In pk_S_LeafDigest) : semF (mkE [(57, c_S_HashLabelled)]) h_S_LeafDigest (info Try.f31) pk_S_LeafDigest rk_S_LeafDigest x = M_S_LeafDigest x := by kernel_rfl

set_option maxRecDepth 100000 in
theorem m_S_LeafDigest : ConOK Try.prog 31 c_S_LeafDigest := fn_ok (tyOK _) (E := mkE [(57, c_S_HashLabelled)]) (consOK_cons m_S_HashLabelled (consOK_nil rfl)) Try.func31 (h := h_S_LeafDigest) (by kernel_rfl) eq_S_LeafDigest

/-- I_labelled -/
def pk_I_labelled : List PK := [.data .str, .data (.sl (.int .i64))]
def rk_I_labelled : List (Ty × Bool) := [((.sl (.int .i64)), true)]
def h_I_labelled : Hints := { loops := [(0, { items := [.slot 5 (.own (.int .i64) true), .slot 12 (.data (.int .i64) [])], kill := [2, 3, 4, 6, 7, 8, 9, 10, 13, 14, 15, 16, 17, 18, 19, 20, 21, 22, 23, 24, 25] })] }
noncomputable def M_I_labelled (x : (ByteArray × (List Int))) : (Option (List Int)) :=
  (loopO (fun (again0 : (((List Int) × Int) → (Option (List Int)))) => (fun (s1 : ((List Int) × Int)) => (cond (decide (s1.2 < (((ByteArray.size x.1) : Nat) : Int))) (bindO (if ((0 : Int) ≤ s1.2) then (x.1[(Int.toNat s1.2)]?) else (none : Option (UInt8))) (fun (a2 : (UInt8)) => (bindO (guardO (lenOk ((List.length s1.1) + (List.length ((IntKind.wrap .i64 (((UInt8.toNat a2) : Nat) : Int)) :: ([] : List Int)))))) (fun (a3 : Unit) => (bindO (some (s1.1 ++ ((IntKind.wrap .i64 (((UInt8.toNat a2) : Nat) : Int)) :: ([] : List Int)))) (fun (a4 : (List Int)) => (bindO (some (IntKind.wrap .i64 (s1.2 + (1 : Int)))) (fun (a5 : Int) => (again0 (a4, a5)))))))))) (bindO (guardO (lenOk ((List.length s1.1) + (List.length x.2)))) (fun (a6 : Unit) => (bindO (some (s1.1 ++ x.2)) (fun (a7 : (List Int)) => (some a7)))))))) (((((ByteArray.size x.1) : Nat) : Int) :: ([] : List Int)), (0 : Int)))

noncomputable def c_I_labelled : Con0 := ⟨pk_I_labelled, rk_I_labelled, M_I_labelled⟩

set_option maxRecDepth 100000 in
theorem eq_I_labelled (x : In pk_I_labelled) : semF (mkE []) h_I_labelled (info Try.f94) pk_I_labelled rk_I_labelled x = M_I_labelled x := by kernel_rfl

set_option maxRecDepth 100000 in
theorem m_I_labelled : ConOK Try.prog 94 c_I_labelled := fn_ok (tyOK _) (E := mkE []) (consOK_nil rfl) Try.func94 (h := h_I_labelled) (by kernel_rfl) eq_I_labelled

/-- slices_IndexFunc_sint_int -/
def pk_slices_IndexFunc_sint_int : List PK := [.data (.sl (.int .i64)), .fn [(.int .i64)] .bool]
def rk_slices_IndexFunc_sint_int : List (Ty × Bool) := [((.int .i64), false)]
def h_slices_IndexFunc_sint_int : Hints := { loops := [(0, { items := [.slot 8 (.data (.int .i64) [])], kill := [2, 3, 4, 5, 6, 9, 10, 11, 12, 13, 14, 15, 16, 17, 18] })] }
noncomputable def M_slices_IndexFunc_sint_int (x : ((List Int) × (Int → (Option Bool)))) : (Option Int) :=
  (loopO (fun (again0 : (Int → (Option Int))) => (fun (s1 : Int) => (cond (decide (s1 < (((List.length x.1) : Nat) : Int))) (bindO (getI x.1 s1) (fun (a2 : Int) => (bindO (x.2 a2) (fun (a3 : Bool) => (cond a3 (some s1) (bindO (some (IntKind.wrap .i64 (s1 + (1 : Int)))) (fun (a4 : Int) => (again0 a4)))))))) (some (- (1 : Int)))))) (0 : Int))

noncomputable def c_slices_IndexFunc_sint_int : Con0 := ⟨pk_slices_IndexFunc_sint_int, rk_slices_IndexFunc_sint_int, M_slices_IndexFunc_sint_int⟩

set_option maxRecDepth 100000 in
theorem eq_slices_IndexFunc_sint_int (x : In pk_slices_IndexFunc_sint_int) : semF (mkE []) h_slices_IndexFunc_sint_int (info Try.f107) pk_slices_IndexFunc_sint_int rk_slices_IndexFunc_sint_int x = M_slices_IndexFunc_sint_int x := by kernel_rfl

set_option maxRecDepth 100000 in
theorem m_slices_IndexFunc_sint_int : ConOK Try.prog 107 c_slices_IndexFunc_sint_int := fn_ok (tyOK _) (E := mkE []) (consOK_nil rfl) Try.func107 (h := h_slices_IndexFunc_sint_int) (by kernel_rfl) eq_slices_IndexFunc_sint_int

/-- slices_ContainsFunc_sint_int -/
def pk_slices_ContainsFunc_sint_int : List PK := [.data (.sl (.int .i64)), .fn [(.int .i64)] .bool]
def rk_slices_ContainsFunc_sint_int : List (Ty × Bool) := [(.bool, false)]
def h_slices_ContainsFunc_sint_int : Hints := { loops := [] }
noncomputable def M_slices_ContainsFunc_sint_int (x : ((List Int) × (Int → (Option Bool)))) : (Option Bool) :=
  (bindO (M_slices_IndexFunc_sint_int (x.1, x.2)) (fun (a0 : Int) => (some (decide (a0 ≥ (0 : Int))))))

noncomputable def c_slices_ContainsFunc_sint_int : Con0 := ⟨pk_slices_ContainsFunc_sint_int, rk_slices_ContainsFunc_sint_int, M_slices_ContainsFunc_sint_int⟩

set_option maxRecDepth 100000 in
theorem eq_slices_ContainsFunc_sint_int (x : In pk_slices_ContainsFunc_sint_int) : semF (mkE [(107, c_slices_IndexFunc_sint_int)]) h_slices_ContainsFunc_sint_int (info Try.f99) pk_slices_ContainsFunc_sint_int rk_slices_ContainsFunc_sint_int x = M_slices_ContainsFunc_sint_int x := by kernel_rfl

set_option maxRecDepth 100000 in
theorem m_slices_ContainsFunc_sint_int : ConOK Try.prog 99 c_slices_ContainsFunc_sint_int := fn_ok (tyOK _) (E := mkE [(107, c_slices_IndexFunc_sint_int)]) (consOK_cons m_slices_IndexFunc_sint_int (consOK_nil rfl)) Try.func99 (h := h_slices_ContainsFunc_sint_int) (by kernel_rfl) eq_slices_ContainsFunc_sint_int

/-- I_areAll_1 -/
def pk_I_areAll_1 : List PK := [.data (.int .i64), .rfn [(.int .i64)] .bool]
def rk_I_areAll_1 : List (Ty × Bool) := [(.bool, false)]
def h_I_areAll_1 : Hints := { loops := [] }
noncomputable def M_I_areAll_1 (x : (Int × (Int → (Option Bool)))) : (Option Bool) :=
  (bindO (x.2 x.1) (fun (a0 : Bool) => (some (not a0))))

noncomputable def c_I_areAll_1 : Con0 := ⟨pk_I_areAll_1, rk_I_areAll_1, M_I_areAll_1⟩

set_option maxRecDepth 100000 in
theorem eq_I_areAll_1 (x : In pk_I_areAll_1) : semF (mkE []) h_I_areAll_1 (info Try.f100) pk_I_areAll_1 rk_I_areAll_1 x = M_I_areAll_1 x := by kernel_rfl

set_option maxRecDepth 100000 in
theorem m_I_areAll_1 : ConOK Try.prog 100 c_I_areAll_1 := fn_ok (tyOK _) (E := mkE []) (consOK_nil rfl) Try.func100 (h := h_I_areAll_1) (by kernel_rfl) eq_I_areAll_1

/-- I_areAll -/
def pk_I_areAll : List PK := [.data (.sl (.int .i64)), .fn [(.int .i64)] .bool]
def rk_I_areAll : List (Ty × Bool) := [(.bool, false)]
def h_I_areAll : Hints := { loops := [] }
noncomputable def M_I_areAll (x : ((List Int) × (Int → (Option Bool)))) : (Option Bool) :=
  (bindO (M_slices_ContainsFunc_sint_int (x.1, (fun (a0 : Int) => (bindO (M_I_areAll_1 (a0, x.2)) (fun (a1 : Bool) => (some a1)))))) (fun (a2 : Bool) => (some (not a2))))

noncomputable def c_I_areAll : Con0 := ⟨pk_I_areAll, rk_I_areAll, M_I_areAll⟩

set_option maxRecDepth 100000 in
theorem eq_I_areAll (x : In pk_I_areAll) : semF (mkE [(99, c_slices_ContainsFunc_sint_int), (100, c_I_areAll_1)]) h_I_areAll (info Try.f87) pk_I_areAll rk_I_areAll x = M_I_areAll x := by kernel_rfl

set_option maxRecDepth 100000 in
theorem m_I_areAll : ConOK Try.prog 87 c_I_areAll := fn_ok (tyOK _) (E := mkE [(99, c_slices_ContainsFunc_sint_int), (100, c_I_areAll_1)]) (consOK_cons m_slices_ContainsFunc_sint_int (consOK_cons m_I_areAll_1 (consOK_nil rfl))) Try.func87 (h := h_I_areAll) (by kernel_rfl) eq_I_areAll

/-- I_within -/
def pk_I_within : List PK := [.data (.int .i64), .data (.int .i64), .data (.int .i64)]
def rk_I_within : List (Ty × Bool) := [(.bool, false)]
def h_I_within : Hints := { loops := [] }
noncomputable def M_I_within (x : (Int × (Int × Int))) : (Option Bool) :=
  (cond (decide (x.1 ≥ x.2.1)) (some (decide (x.1 ≤ x.2.2))) (some false))

noncomputable def c_I_within : Con0 := ⟨pk_I_within, rk_I_within, M_I_within⟩

set_option maxRecDepth 100000 in
theorem eq_I_within (x : In pk_I_within) : semF (mkE []) h_I_within (info Try.f46) pk_I_within rk_I_within x = M_I_within x := by kernel_rfl

set_option maxRecDepth 100000 in
theorem m_I_within : ConOK Try.prog 46 c_I_within := fn_ok (tyOK _) (E := mkE []) (consOK_nil rfl) Try.func46 (h := h_I_within) (by kernel_rfl) eq_I_within

/-- I_isDigest -/
def pk_I_isDigest : List PK := [.data (.int .i64)]
def rk_I_isDigest : List (Ty × Bool) := [(.bool, false)]
def h_I_isDigest : Hints := { loops := [] }
noncomputable def M_I_isDigest (x : Int) : (Option Bool) :=
  (bindO (M_I_within (x, ((0 : Int), (4611686018427387903 : Int)))) (fun (a0 : Bool) => (some a0)))

noncomputable def c_I_isDigest : Con0 := ⟨pk_I_isDigest, rk_I_isDigest, M_I_isDigest⟩

set_option maxRecDepth 100000 in
theorem eq_I_isDigest (x : In pk_I_isDigest) : semF (mkE [(46, c_I_within)]) h_I_isDigest (info Try.f58) pk_I_isDigest rk_I_isDigest x = M_I_isDigest x := by kernel_rfl

set_option maxRecDepth 100000 in
theorem m_I_isDigest : ConOK Try.prog 58 c_I_isDigest := fn_ok (tyOK _) (E := mkE [(46, c_I_within)]) (consOK_cons m_I_within (consOK_nil rfl)) Try.func58 (h := h_I_isDigest) (by kernel_rfl) eq_I_isDigest

/-- I_areDigests -/
def pk_I_areDigests : List PK := [.data (.sl (.int .i64))]
def rk_I_areDigests : List (Ty × Bool) := [(.bool, false)]
def h_I_areDigests : Hints := { loops := [] }
noncomputable def M_I_areDigests (x : (List Int)) : (Option Bool) :=
  (cond (decide ((((List.length x) : Nat) : Int) ≤ (400 : Int))) (bindO (M_I_areAll (x, (fun (a0 : Int) => (bindO (M_I_isDigest a0) (fun (a1 : Bool) => (some a1)))))) (fun (a2 : Bool) => (some a2))) (some false))

noncomputable def c_I_areDigests : Con0 := ⟨pk_I_areDigests, rk_I_areDigests, M_I_areDigests⟩

set_option maxRecDepth 100000 in
theorem eq_I_areDigests (x : In pk_I_areDigests) : semF (mkE [(87, c_I_areAll), (58, c_I_isDigest)]) h_I_areDigests (info Try.f104) pk_I_areDigests rk_I_areDigests x = M_I_areDigests x := by kernel_rfl

set_option maxRecDepth 100000 in
theorem m_I_areDigests : ConOK Try.prog 104 c_I_areDigests := fn_ok (tyOK _) (E := mkE [(87, c_I_areAll), (58, c_I_isDigest)]) (consOK_cons m_I_areAll (consOK_cons m_I_isDigest (consOK_nil rfl))) Try.func104 (h := h_I_areDigests) (by kernel_rfl) eq_I_areDigests

/-- I_hash -/
def pk_I_hash : List PK := [.data (.sl (.int .i64))]
def rk_I_hash : List (Ty × Bool) := [((.int .i64), false)]
def h_I_hash : Hints := { loops := [(0, { items := [.slot 3 (.data (.int .i64) []), .slot 4 (.data (.int .i64) []), .slot 15 (.data (.int .i64) [])], kill := [0, 1, 2, 5, 6, 7, 8, 9, 10, 11, 12, 16, 17, 18, 19, 20, 21, 22, 23, 24, 25, 26, 27, 28, 29, 30, 31, 32, 33, 34, 35, 36, 37, 38, 39, 40, 41, 42, 43, 44, 45, 46, 47, 48, 49, 50, 51] })] }
noncomputable def M_I_hash (x : (List Int)) : (Option Int) :=
  (bindO (guardO (lenOk ((List.length ((((List.length x) : Nat) : Int) :: ([] : List Int))) + (List.length x)))) (fun (a0 : Unit) => (bindO (some (((((List.length x) : Nat) : Int) :: ([] : List Int)) ++ x)) (fun (a1 : (List Int)) => (loopO (fun (again2 : ((Int × (Int × Int)) → (Option Int))) => (fun (s3 : (Int × (Int × Int))) => (cond (decide (s3.2.2 < (((List.length a1) : Nat) : Int))) (bindO (getI a1 s3.2.2) (fun (a4 : Int) => (bindO (guardO (decide ((0 : Int) ≤ (31 : Int)))) (fun (a5 : Unit) => (bindO (some (shr .i64 a4 (31 : Int))) (fun (a6 : Int) => (bindO (some (bits .and .i64 a4 (2147483647 : Int))) (fun (a7 : Int) => (bindO (some (IntKind.wrap .i64 ((48271 : Int) * s3.1))) (fun (a8 : Int) => (bindO (some (IntKind.wrap .i64 (a8 + a7))) (fun (a9 : Int) => (bindO (some (IntKind.wrap .i64 (a9 + (1 : Int)))) (fun (a10 : Int) => (bindO (guardO ((2147483647 : Int) != (0 : Int))) (fun (a11 : Unit) => (bindO (some (Int.tmod a10 (2147483647 : Int))) (fun (a12 : Int) => (bindO (some (IntKind.wrap .i64 ((48271 : Int) * a12))) (fun (a13 : Int) => (bindO (some (IntKind.wrap .i64 (a13 + a6))) (fun (a14 : Int) => (bindO (some (IntKind.wrap .i64 (a14 + (1 : Int)))) (fun (a15 : Int) => (bindO (guardO ((2147483647 : Int) != (0 : Int))) (fun (a16 : Unit) => (bindO (some (Int.tmod a15 (2147483647 : Int))) (fun (a17 : Int) => (bindO (some (IntKind.wrap .i64 ((69621 : Int) * s3.2.1))) (fun (a18 : Int) => (bindO (some (IntKind.wrap .i64 (a18 + a7))) (fun (a19 : Int) => (bindO (some (IntKind.wrap .i64 (a19 + (1 : Int)))) (fun (a20 : Int) => (bindO (guardO ((2147483647 : Int) != (0 : Int))) (fun (a21 : Unit) => (bindO (some (Int.tmod a20 (2147483647 : Int))) (fun (a22 : Int) => (bindO (some (IntKind.wrap .i64 ((69621 : Int) * a22))) (fun (a23 : Int) => (bindO (some (IntKind.wrap .i64 (a23 + a6))) (fun (a24 : Int) => (bindO (some (IntKind.wrap .i64 (a24 + (1 : Int)))) (fun (a25 : Int) => (bindO (guardO ((2147483647 : Int) != (0 : Int))) (fun (a26 : Unit) => (bindO (some (Int.tmod a25 (2147483647 : Int))) (fun (a27 : Int) => (bindO (some (IntKind.wrap .i64 (s3.2.2 + (1 : Int)))) (fun (a28 : Int) => (again2 (a17, (a27, a28))))))))))))))))))))))))))))))))))))))))))))))))))))) (bindO (guardO (decide ((0 : Int) ≤ (31 : Int)))) (fun (a29 : Unit) => (bindO (some (shl .i64 s3.1 (31 : Int))) (fun (a30 : Int) => (bindO (some (IntKind.wrap .i64 (a30 + s3.2.1))) (fun (a31 : Int) => (some a31)))))))))) ((1 : Int), ((2 : Int), (0 : Int))))))))

noncomputable def c_I_hash : Con0 := ⟨pk_I_hash, rk_I_hash, M_I_hash⟩

set_option maxRecDepth 100000 in
theorem eq_I_hash (x : In pk_I_hash) : semF (mkE []) h_I_hash (info Try.f105) pk_I_hash rk_I_hash x = M_I_hash x := by kernel_rfl

set_option maxRecDepth 100000 in
theorem m_I_hash : ConOK Try.prog 105 c_I_hash := fn_ok (tyOK _) (E := mkE []) (consOK_nil rfl) Try.func105 (h := h_I_hash) (by kernel_rfl) eq_I_hash

/-- I_HashInts -/
def pk_I_HashInts : List PK := [.data (.sl (.int .i64))]
def rk_I_HashInts : List (Ty × Bool) := [((.int .i64), false), (.bool, false)]
def h_I_HashInts : Hints := { loops := [] }
noncomputable def M_I_HashInts (x : (List Int)) : (Option (Int × Bool)) :=
  (bindO (M_I_areDigests x) (fun (a0 : Bool) => (cond (not a0) (some ((0 : Int), false)) (bindO (M_I_hash x) (fun (a1 : Int) => (some (a1, true)))))))

noncomputable def c_I_HashInts : Con0 := ⟨pk_I_HashInts, rk_I_HashInts, M_I_HashInts⟩

set_option maxRecDepth 100000 in
theorem eq_I_HashInts (x : In pk_I_HashInts) : semF (mkE [(104, c_I_areDigests), (105, c_I_hash)]) h_I_HashInts (info Try.f93) pk_I_HashInts rk_I_HashInts x = M_I_HashInts x := by kernel_rfl

set_option maxRecDepth 100000 in
theorem m_I_HashInts : ConOK Try.prog 93 c_I_HashInts := fn_ok (tyOK _) (E := mkE [(104, c_I_areDigests), (105, c_I_hash)]) (consOK_cons m_I_areDigests (consOK_cons m_I_hash (consOK_nil rfl))) Try.func93 (h := h_I_HashInts) (by kernel_rfl) eq_I_HashInts

/-- I_HashLabelled -/
def pk_I_HashLabelled : List PK := [.data .str, .data (.sl (.int .i64))]
def rk_I_HashLabelled : List (Ty × Bool) := [((.int .i64), false), (.bool, false)]
def h_I_HashLabelled : Hints := { loops := [] }
noncomputable def M_I_HashLabelled (x : (ByteArray × (List Int))) : (Option (Int × Bool)) :=
  (cond (decide ((((ByteArray.size x.1) : Nat) : Int) > (40 : Int))) (some ((0 : Int), false)) (cond (decide ((((List.length x.2) : Nat) : Int) > (400 : Int))) (some ((0 : Int), false)) (bindO (M_I_labelled (x.1, x.2)) (fun (a0 : (List Int)) => (bindO (M_I_HashInts a0) (fun (a1 : (Int × Bool)) => (some (a1.1, a1.2))))))))

noncomputable def c_I_HashLabelled : Con0 := ⟨pk_I_HashLabelled, rk_I_HashLabelled, M_I_HashLabelled⟩

set_option maxRecDepth 100000 in
theorem eq_I_HashLabelled (x : In pk_I_HashLabelled) : semF (mkE [(94, c_I_labelled), (93, c_I_HashInts)]) h_I_HashLabelled (info Try.f65) pk_I_HashLabelled rk_I_HashLabelled x = M_I_HashLabelled x := by kernel_rfl

set_option maxRecDepth 100000 in
theorem m_I_HashLabelled : ConOK Try.prog 65 c_I_HashLabelled := fn_ok (tyOK _) (E := mkE [(94, c_I_labelled), (93, c_I_HashInts)]) (consOK_cons m_I_labelled (consOK_cons m_I_HashInts (consOK_nil rfl))) Try.func65 (h := h_I_HashLabelled) (by kernel_rfl) eq_I_HashLabelled

/-- I_LeafDigest -/
def pk_I_LeafDigest : List PK := [.data (.sl (.int .i64))]
def rk_I_LeafDigest : List (Ty × Bool) := [((.int .i64), false), (.bool, false)]
def h_I_LeafDigest : Hints := { loops := [] }
noncomputable def M_I_LeafDigest (x : (List Int)) : (Option (Int × Bool)) :=
  (bindO (M_I_HashLabelled ((bytesOf [108, 101, 97, 102]), x)) (fun (a0 : (Int × Bool)) => (some (a0.1, a0.2))))

noncomputable def c_I_LeafDigest : Con0 := ⟨pk_I_LeafDigest, rk_I_LeafDigest, M_I_LeafDigest⟩

set_option maxRecDepth 100000 in
theorem eq_I_LeafDigest (x : In pk_I_LeafDigest) : semF (mkE [(65, c_I_HashLabelled)]) h_I_LeafDigest (info Try.f32) pk_I_LeafDigest rk_I_LeafDigest x = M_I_LeafDigest x := by kernel_rfl

set_option maxRecDepth 100000 in
theorem m_I_LeafDigest : ConOK Try.prog 32 c_I_LeafDigest := fn_ok (tyOK _) (E := mkE [(65, c_I_HashLabelled)]) (consOK_cons m_I_HashLabelled (consOK_nil rfl)) Try.func32 (h := h_I_LeafDigest) (by kernel_rfl) eq_I_LeafDigest

/-- L_eqIntS -/
def pk_L_eqIntS : List PK := [.data (.sl (.int .i64)), .data (.sl (.int .i64))]
def rk_L_eqIntS : List (Ty × Bool) := [(.bool, false)]
def h_L_eqIntS : Hints := { loops := [(0, { items := [.slot 5 (.data (.int .i64) [])], kill := [2, 3, 4, 6, 7, 8, 9, 10, 11, 12, 13, 14, 15, 16, 17, 18, 19, 20, 21, 22, 23, 24, 25] })] }
noncomputable def M_L_eqIntS (x : ((List Int) × (List Int))) : (Option Bool) :=
  (cond ((((List.length x.1) : Nat) : Int) != (((List.length x.2) : Nat) : Int)) (some false) (loopO (fun (again0 : (Int → (Option Bool))) => (fun (s1 : Int) => (cond (decide (s1 < (((List.length x.1) : Nat) : Int))) (bindO (getI x.1 s1) (fun (a2 : Int) => (bindO (getI x.2 s1) (fun (a3 : Int) => (cond (a2 != a3) (some false) (bindO (some (IntKind.wrap .i64 (s1 + (1 : Int)))) (fun (a4 : Int) => (again0 a4)))))))) (some true)))) (0 : Int)))

noncomputable def c_L_eqIntS : Con0 := ⟨pk_L_eqIntS, rk_L_eqIntS, M_L_eqIntS⟩

set_option maxRecDepth 100000 in
theorem eq_L_eqIntS (x : In pk_L_eqIntS) : semF (mkE []) h_L_eqIntS (info Try.f19) pk_L_eqIntS rk_L_eqIntS x = M_L_eqIntS x := by kernel_rfl

set_option maxRecDepth 100000 in
theorem m_L_eqIntS : ConOK Try.prog 19 c_L_eqIntS := fn_ok (tyOK _) (E := mkE []) (consOK_nil rfl) Try.func19 (h := h_L_eqIntS) (by kernel_rfl) eq_L_eqIntS

/-- L_FnExactLeafDigest -/
def pk_L_FnExactLeafDigest : List PK := [.data (.sl (.int .i64))]
def rk_L_FnExactLeafDigest : List (Ty × Bool) := [(.bool, false)]
def h_L_FnExactLeafDigest : Hints := { loops := [] }
noncomputable def M_L_FnExactLeafDigest (x : (List Int)) : (Option Bool) :=
  (cond (decide ((((List.length x) : Nat) : Int) > (1048576 : Int))) (some true) (bindO (M_L_toIntS x) (fun (a0 : (List Int)) => (bindO (M_S_LeafDigest a0) (fun (a1 : (Int × Bool)) => (bindO (M_L_toIntS x) (fun (a2 : (List Int)) => (bindO (M_I_LeafDigest a2) (fun (a3 : (Int × Bool)) => (cond (a3.1 != a1.1) (some false) (cond (not (a3.2 == a1.2)) (some false) (bindO (M_L_toIntS x) (fun (a4 : (List Int)) => (bindO (M_L_eqIntS (a2, a4)) (fun (a5 : Bool) => (cond (not a5) (some false) (some true)))))))))))))))))

noncomputable def c_L_FnExactLeafDigest : Con0 := ⟨pk_L_FnExactLeafDigest, rk_L_FnExactLeafDigest, M_L_FnExactLeafDigest⟩

set_option maxRecDepth 100000 in
theorem eq_L_FnExactLeafDigest (x : In pk_L_FnExactLeafDigest) : semF (mkE [(17, c_L_toIntS), (31, c_S_LeafDigest), (32, c_I_LeafDigest), (19, c_L_eqIntS)]) h_L_FnExactLeafDigest (info Try.f9) pk_L_FnExactLeafDigest rk_L_FnExactLeafDigest x = M_L_FnExactLeafDigest x := by kernel_rfl

set_option maxRecDepth 100000 in
theorem m_L_FnExactLeafDigest : ConOK Try.prog 9 c_L_FnExactLeafDigest := fn_ok (tyOK _) (E := mkE [(17, c_L_toIntS), (31, c_S_LeafDigest), (32, c_I_LeafDigest), (19, c_L_eqIntS)]) (consOK_cons m_L_toIntS (consOK_cons m_S_LeafDigest (consOK_cons m_I_LeafDigest (consOK_cons m_L_eqIntS (consOK_nil rfl))))) Try.func9 (h := h_L_FnExactLeafDigest) (by kernel_rfl) eq_L_FnExactLeafDigest

end Go.Proofs.Ytlacogoljcpijaa.Vd
