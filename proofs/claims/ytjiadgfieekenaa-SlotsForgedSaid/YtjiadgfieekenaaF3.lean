/- Parts of the proof: S.F3. -/
import Derived.Test.YtjiadgfieekenaaL2
import Derived.Test.YtjiadgfieekenaaTy
set_option linter.unusedVariables false
set_option linter.unusedSimpArgs false
set_option linter.unusedSectionVars false
namespace Go.Proofs
open Go Go.Lf
set_option maxRecDepth 100000
/-- lattice/latticelaw13.within -/
def F6 (a0 : Value) (a1 : Value) (K : Value → World → Prop) (w : World) : Prop :=
  PRun Try.prog (binOp .rem 3 a0 a1) fun v8 =>
  PRun Try.prog (binOp .lss 3 v8 (Value.int .i64 0)) fun v10 =>
  Branch v10 (
    PRun Try.prog (binOp .add 3 v8 a1) fun v13 =>
    K v13 w
  ) (
    K v8 w
  )
def H6 : Hints := { n := 15, reg := [(0, ⟨[.p], [0]⟩), (1, ⟨[.p, .p, .p, .p], [0, 0, 3, 7]⟩), (2, ⟨[.p, .p], [0, 1]⟩), (3, ⟨[.p, .p, .p, .p], [0, 0, 3, 7]⟩), (4, ⟨[.p, .p], [0, 1]⟩)], loop := [], join := [] }
noncomputable def C6 : Code := Try.f6.body.getD .skip
theorem E6 (a0 : Value) (a1 : Value) (K : Value → World → Prop) (w : World) : F6 a0 a1 K w = lift Try.prog H6 C6 (envOf [a0, a1] 0) w (fun E w => resV Try.prog H6.n E Try.f6.results.toList w fun vs => K (retV vs) w) [] (fun E w => resV Try.prog H6.n E Try.f6.results.toList w fun vs => K (retV vs) w) := by kernel_rfl
theorem R6 : regOk H6 C6 = true := by kernel_rfl
theorem B6 : Try.f6.body = some C6 := by kernel_rfl
theorem F6_ok (a0 : Value) (a1 : Value) (K : Value → World → Prop) (w : World) (h : F6 a0 a1 K w) : Calls Try.prog 6 #[a0, a1] w (retK K) :=
  lift_call mixed Try.func6 B6 Try.ntmps6 R6 (Nat.le_of_ble_eq_true rfl) (Eq.mp (E6 a0 a1 K w) h)
/-- lattice/slots.New -/
def F7 (a0 : Value) (K : Value → World → Prop) (w : World) : Prop :=
  PRun Try.prog (binOp .lss 3 a0 (Value.int .i64 1)) fun v5 =>
  Gd v5 false (fun k => k a0) fun v7 =>
  Gd v5 false (fun k => PRun Try.prog (binOp .gtr 3 v7 (Value.int .i64 100)) k) fun v8 =>
  Pick v5 (Value.bool true) v8 fun v9 =>
  Branch v9 (
    K (Value.tuple #[(Value.pointer none), (Value.int .i64 1)]) w
  ) (
    Run Try.prog (Instr.makeMap 46 none) w fun v11 w1 =>
    PRun Try.prog (Instr.build 48 #[(0, a0), (1, v11)]) fun v12 =>
    Run Try.prog (Instr.box 48 v12) w1 fun v13 w2 =>
    K (Value.tuple #[v13, (Value.int .i64 0)]) w2
  )
def H7 : Hints := { n := 14, reg := [(0, ⟨[.p, .p], [0, 1]⟩), (1, ⟨[.p, .p, .p, .p, .p, .p], [0, 1, 3, 7, 15, 31]⟩), (2, ⟨[.p, .p], [0, 1]⟩), (3, ⟨[.p, .e, .p, .e, .p, .p], [0, 0, 3, 7, 15, 31]⟩)], loop := [], join := [] }
noncomputable def C7 : Code := Try.f7.body.getD .skip
theorem E7 (a0 : Value) (K : Value → World → Prop) (w : World) : F7 a0 K w = lift Try.prog H7 C7 (envOf [a0] 0) w (fun E w => resV Try.prog H7.n E Try.f7.results.toList w fun vs => K (retV vs) w) [] (fun E w => resV Try.prog H7.n E Try.f7.results.toList w fun vs => K (retV vs) w) := by kernel_rfl
theorem R7 : regOk H7 C7 = true := by kernel_rfl
theorem B7 : Try.f7.body = some C7 := by kernel_rfl
theorem F7_ok (a0 : Value) (K : Value → World → Prop) (w : World) (h : F7 a0 K w) : Calls Try.prog 7 #[a0] w (retK K) :=
  lift_call mixed Try.func7 B7 Try.ntmps7 R7 (Nat.le_of_ble_eq_true rfl) (Eq.mp (E7 a0 K w) h)
/-- lattice/latticelaw13.Seed -/
def F14 (a0 : Value) (K : Value → World → Prop) (w : World) : Prop :=
  Run Try.prog (Instr.alloc 25 true (.tuple #[])) w fun v2 w1 =>
  Run Try.prog (Instr.alloc 49 true (.tuple #[])) w1 fun v3 w2 =>
  Run Try.prog (Instr.alloc 25 true (.tuple #[])) w2 fun v4 w3 =>
  Run Try.prog (Instr.alloc 49 true (.tuple #[])) w3 fun v5 w4 =>
  PRun Try.prog (convert 3 5 a0) fun v7 =>
  PRun Try.prog (convert 3 5 a0) fun v9 =>
  PRun Try.prog (Instr.indexAt 25 v4 (Value.int .i64 0)) fun v10 =>
  Run Try.prog (Instr.storeAt 5 v10 v7) w4 fun _ w5 =>
  PRun Try.prog (Instr.indexAt 49 v5 (Value.int .i64 0)) fun v11 =>
  Run Try.prog (Instr.storeAt 5 v11 v9) w5 fun _ w6 =>
  QRun Try.prog (Instr.loadAt 25 v4) w6.drew fun v12 =>
  QRun Try.prog (Instr.loadAt 49 v5) w6.drew fun v13 =>
  Run Try.prog (Instr.storeAt 25 v2 v12) w6.drew fun _ w7 =>
  (QRun Try.prog (Instr.loadAt 49 v5) w7 fun u => u = v13) ∧
  Run Try.prog (Instr.storeAt 49 v3 v13) w7 fun _ w8 =>
  QRun Try.prog (Instr.loadAt 25 v2) w8 fun v2_2 =>
  QRun Try.prog (Instr.loadAt 49 v3) w8 fun v3_2 =>
  K (Value.tuple #[v2_2, v3_2]) w8
def H14 : Hints := { n := 14, reg := [(0, ⟨[.e, .e], [0, 0]⟩), (1, ⟨[.e], [0]⟩), (2, ⟨[.e], [0]⟩), (3, ⟨[.p, .p, .p, .p, .p, .e, .p, .e], [0, 1, 0, 4, 3, 19, 63, 127]⟩), (4, ⟨[.q, .q, .e, .e], [0, 0, 1, 7]⟩)], loop := [], join := [] }
noncomputable def C14 : Code := Try.f14.body.getD .skip
theorem E14 (a0 : Value) (K : Value → World → Prop) (w : World) : F14 a0 K w = lift Try.prog H14 C14 (envOf [a0] 0) w (fun E w => resV Try.prog H14.n E Try.f14.results.toList w fun vs => K (retV vs) w) [] (fun E w => resV Try.prog H14.n E Try.f14.results.toList w fun vs => K (retV vs) w) := by kernel_rfl
theorem R14 : regOk H14 C14 = true := by kernel_rfl
theorem B14 : Try.f14.body = some C14 := by kernel_rfl
theorem F14_ok (a0 : Value) (K : Value → World → Prop) (w : World) (h : F14 a0 K w) : Calls Try.prog 14 #[a0] w (retK K) :=
  lift_call mixed Try.func14 B14 Try.ntmps14 R14 (Nat.le_of_ble_eq_true rfl) (Eq.mp (E14 a0 K w) h)
/-- lattice/latticeref9.Claim -/
def F17 (a0 : Value) (a1 : Value) (K : Value → World → Prop) (w : World) : Prop :=
  Run Try.prog (Instr.box 25 a1) w fun v3 w1 =>
  PRun Try.prog (Instr.sliceAt 25 v3 none none none) fun v9 =>
  Run Try.prog (Instr.buildSlice 30 7 #[(0, (Value.int .u8 108)), (1, (Value.int .u8 97)), (2, (Value.int .u8 116)), (3, (Value.int .u8 116)), (4, (Value.int .u8 105)), (5, (Value.int .u8 99)), (6, (Value.int .u8 101))]) w1.drew fun v5 w2 =>
  Run Try.prog (convert 30 30 v5) w2 fun v6 w3 =>
  CallF Try.prog 31 #[v6, a0] w3 fun v8 w4 =>
  Run Try.prog (Builtin.append_ #[30, 30] 30 #[v8, v9]) w4 fun v10 w5 =>
  K v10 w5
def H17 : Hints := { n := 11, reg := [(0, ⟨[.e, .p], [0, 0]⟩), (1, ⟨[.e, .e, .p, .e, .p, .e, .p], [0, 1, 0, 7, 0, 31, 63]⟩)], loop := [], join := [] }
noncomputable def C17 : Code := Try.f17.body.getD .skip
theorem E17 (a0 : Value) (a1 : Value) (K : Value → World → Prop) (w : World) : F17 a0 a1 K w = lift Try.prog H17 C17 (envOf [a0, a1] 0) w (fun E w => resV Try.prog H17.n E Try.f17.results.toList w fun vs => K (retV vs) w) [] (fun E w => resV Try.prog H17.n E Try.f17.results.toList w fun vs => K (retV vs) w) := by kernel_rfl
theorem R17 : regOk H17 C17 = true := by kernel_rfl
theorem B17 : Try.f17.body = some C17 := by kernel_rfl
theorem F17_ok (a0 : Value) (a1 : Value) (K : Value → World → Prop) (w : World) (h : F17 a0 a1 K w) : Calls Try.prog 17 #[a0, a1] w (retK K) :=
  lift_call mixed Try.func17 B17 Try.ntmps17 R17 (Nat.le_of_ble_eq_true rfl) (Eq.mp (E17 a0 a1 K w) h)
def F20x1 (w2 : World) (a0 : Value) (v10 : Value) (K : Value → World → Prop) : Prop :=
  (
    Run Try.prog (Instr.buildSlice 30 7 #[(0, (Value.int .u8 108)), (1, (Value.int .u8 97)), (2, (Value.int .u8 116)), (3, (Value.int .u8 116)), (4, (Value.int .u8 105)), (5, (Value.int .u8 99)), (6, (Value.int .u8 101))]) w2 fun v5 w3 =>
    (
      Run Try.prog (convert 30 30 v5) w3 fun v6 w4 =>
      CallF Try.prog 39 #[a0, (Value.int .i64 4)] w4 fun v8 w5 =>
      Run Try.prog (Builtin.append_ #[30, 30] 30 #[v6, v8]) w5 fun v9 w6 =>
      Run Try.prog (Builtin.append_ #[30, 30] 30 #[v9, v10]) w6 fun v11 w7 =>
      K v11 w7
    ) ∧
    (
      CallF Try.prog 39 #[a0, (Value.int .i64 4)] w3 fun v8_2 w9 =>
      Run Try.prog (convert 30 30 v5) w9 fun v6_2 w10 =>
      Run Try.prog (Builtin.append_ #[30, 30] 30 #[v6_2, v8_2]) w10 fun v9_2 w11 =>
      Run Try.prog (Builtin.append_ #[30, 30] 30 #[v9_2, v10]) w11 fun v11_2 w12 =>
      K v11_2 w12
    )
  ) ∧
  (
    CallF Try.prog 39 #[a0, (Value.int .i64 4)] w2 fun v8_3 w14 =>
    Run Try.prog (Instr.buildSlice 30 7 #[(0, (Value.int .u8 108)), (1, (Value.int .u8 97)), (2, (Value.int .u8 116)), (3, (Value.int .u8 116)), (4, (Value.int .u8 105)), (5, (Value.int .u8 99)), (6, (Value.int .u8 101))]) w14 fun v5_2 w15 =>
    Run Try.prog (convert 30 30 v5_2) w15 fun v6_3 w16 =>
    Run Try.prog (Builtin.append_ #[30, 30] 30 #[v6_3, v8_3]) w16 fun v9_3 w17 =>
    Run Try.prog (Builtin.append_ #[30, 30] 30 #[v9_3, v10]) w17 fun v11_3 w18 =>
    K v11_3 w18
  )
/-- lattice/blob.Claim -/
def F20 (a0 : Value) (a1 : Value) (K : Value → World → Prop) (w : World) : Prop :=
  Run Try.prog (Instr.box 25 a1) w fun v3 w1 =>
  PRun Try.prog (Instr.sliceAt 25 v3 none none none) fun v10 =>
  F20x1 w1.drew a0 v10 K
def H20 : Hints := { n := 12, reg := [(0, ⟨[.e, .p], [0, 0]⟩), (1, ⟨[.e, .e, .p, .e, .e, .p, .e, .p], [0, 1, 0, 4, 15, 0, 63, 127]⟩)], loop := [], join := [] }
noncomputable def C20 : Code := Try.f20.body.getD .skip
theorem E20 (a0 : Value) (a1 : Value) (K : Value → World → Prop) (w : World) : F20 a0 a1 K w = lift Try.prog H20 C20 (envOf [a0, a1] 0) w (fun E w => resV Try.prog H20.n E Try.f20.results.toList w fun vs => K (retV vs) w) [] (fun E w => resV Try.prog H20.n E Try.f20.results.toList w fun vs => K (retV vs) w) := by kernel_rfl
theorem R20 : regOk H20 C20 = true := by kernel_rfl
theorem B20 : Try.f20.body = some C20 := by kernel_rfl
theorem F20_ok (a0 : Value) (a1 : Value) (K : Value → World → Prop) (w : World) (h : F20 a0 a1 K w) : Calls Try.prog 20 #[a0, a1] w (retK K) :=
  lift_call mixed Try.func20 B20 Try.ntmps20 R20 (Nat.le_of_ble_eq_true rfl) (Eq.mp (E20 a0 a1 K w) h)
/-- lattice/latticeref9.get -/
def F28 (a0 : Value) (K : Value → World → Prop) (w : World) : Prop :=
  PRun Try.prog (Instr.indexAt 30 a0 (Value.int .i64 0)) fun v4 =>
  QRun Try.prog (Instr.loadAt 5 v4) w.drew fun v5 =>
  PRun Try.prog (convert 5 3 v5) fun v6 =>
  PRun Try.prog (binOp .shl 3 v6 (Value.int .u64 24)) fun v7 =>
  PRun Try.prog (Instr.indexAt 30 a0 (Value.int .i64 1)) fun v9 =>
  QRun Try.prog (Instr.loadAt 5 v9) w.drew fun v10 =>
  PRun Try.prog (convert 5 3 v10) fun v11 =>
  PRun Try.prog (binOp .shl 3 v11 (Value.int .u64 16)) fun v12 =>
  PRun Try.prog (binOp .or 3 v7 v12) fun v13 =>
  PRun Try.prog (Instr.indexAt 30 a0 (Value.int .i64 2)) fun v15 =>
  QRun Try.prog (Instr.loadAt 5 v15) w.drew fun v16 =>
  PRun Try.prog (convert 5 3 v16) fun v17 =>
  PRun Try.prog (binOp .shl 3 v17 (Value.int .u64 8)) fun v18 =>
  PRun Try.prog (binOp .or 3 v13 v18) fun v19 =>
  PRun Try.prog (Instr.indexAt 30 a0 (Value.int .i64 3)) fun v21 =>
  QRun Try.prog (Instr.loadAt 5 v21) w.drew fun v22 =>
  PRun Try.prog (convert 5 3 v22) fun v23 =>
  PRun Try.prog (binOp .or 3 v19 v23) fun v24 =>
  K v24 w.drew
def H28 : Hints := { n := 25, reg := [(0, ⟨[.p], [0]⟩), (1, ⟨[.p, .p, .q, .p, .p, .p, .p, .q, .p, .p, .p, .p, .p, .q, .p, .p, .p, .p, .p, .q, .p, .p, .p], [0, 1, 3, 7, 15, 0, 32, 96, 224, 480, 1023, 0, 2048, 6144, 14336, 30720, 65535, 0, 131072, 393216, 917504, 2097151, 4194303]⟩)], loop := [], join := [] }
noncomputable def C28 : Code := Try.f28.body.getD .skip
theorem E28 (a0 : Value) (K : Value → World → Prop) (w : World) : F28 a0 K w = lift Try.prog H28 C28 (envOf [a0] 0) w (fun E w => resV Try.prog H28.n E Try.f28.results.toList w fun vs => K (retV vs) w) [] (fun E w => resV Try.prog H28.n E Try.f28.results.toList w fun vs => K (retV vs) w) := by kernel_rfl
theorem R28 : regOk H28 C28 = true := by kernel_rfl
theorem B28 : Try.f28.body = some C28 := by kernel_rfl
theorem F28_ok (a0 : Value) (K : Value → World → Prop) (w : World) (h : F28 a0 K w) : Calls Try.prog 28 #[a0] w (retK K) :=
  lift_call mixed Try.func28 B28 Try.ntmps28 R28 (Nat.le_of_ble_eq_true rfl) (Eq.mp (E28 a0 K w) h)
def F29x1 (v4_2 : Value) (a0 : Value) (w3 : World) (v3 : Value) (k1 : Value → World → Prop) (v2 : Value) (K : Value → World → Prop) : Prop :=
  PRun Try.prog (binOp .lss 3 v4_2 (Value.int .i64 32)) fun v6 =>
  Branch v6 (
    PRun Try.prog (Instr.indexAt 30 a0 v4_2) fun v12 =>
    QRun Try.prog (Instr.loadAt 5 v12) w3 fun v13 =>
    PRun Try.prog (Instr.indexAt 25 v3 v4_2) fun v14 =>
    Run Try.prog (Instr.storeAt 5 v14 v13) w3 fun _ w4 =>
    PRun Try.prog (binOp .add 3 v4_2 (Value.int .i64 1)) fun v8 =>
    k1 v8 w4
  ) (
    QRun Try.prog (Instr.loadAt 25 v3) w3 fun v15 =>
    Run Try.prog (Instr.storeAt 25 v2 v15) w3 fun _ w5 =>
    QRun Try.prog (Instr.loadAt 25 v2) w5 fun v2_2 =>
    K v2_2 w5
  )
/-- lattice/latticeref9.id -/
def F29 (a0 : Value) (K : Value → World → Prop) (w : World) : Prop :=
  Run Try.prog (Instr.alloc 25 true (.tuple #[])) w fun v2 w1 =>
  Run Try.prog (Instr.alloc 25 true (.tuple #[])) w1 fun v3 w2 =>
  LoopF 1 [(Value.int .i64 0)] w2 fun v4_2 w3 k1 => ∀ _ : Env,
  F29x1 v4_2 a0 w3 v3 k1 v2 K
def H29 : Hints := { n := 16, reg := [(0, ⟨[.e], [0]⟩), (1, ⟨[.e], [0]⟩), (2, ⟨[.p], [0]⟩), (3, ⟨[.p, .p], [0, 1]⟩), (5, ⟨[.p, .p, .p, .p, .q, .p, .e], [0, 0, 0, 6, 14, 31, 63]⟩), (4, ⟨[.p, .p, .p], [0, 1, 3]⟩), (6, ⟨[.q, .e], [0, 1]⟩)], loop := [(3, [4])], join := [] }
noncomputable def C29 : Code := Try.f29.body.getD .skip
theorem E29 (a0 : Value) (K : Value → World → Prop) (w : World) : F29 a0 K w = lift Try.prog H29 C29 (envOf [a0] 0) w (fun E w => resV Try.prog H29.n E Try.f29.results.toList w fun vs => K (retV vs) w) [] (fun E w => resV Try.prog H29.n E Try.f29.results.toList w fun vs => K (retV vs) w) := by kernel_rfl
theorem R29 : regOk H29 C29 = true := by kernel_rfl
theorem B29 : Try.f29.body = some C29 := by kernel_rfl
theorem F29_ok (a0 : Value) (K : Value → World → Prop) (w : World) (h : F29 a0 K w) : Calls Try.prog 29 #[a0] w (retK K) :=
  lift_call mixed Try.func29 B29 Try.ntmps29 R29 (Nat.le_of_ble_eq_true rfl) (Eq.mp (E29 a0 K w) h)
/-- lattice/latticeref9.four -/
def F31 (a0 : Value) (a1 : Value) (K : Value → World → Prop) (w : World) : Prop :=
  PRun Try.prog (binOp .shr 3 a1 (Value.int .u64 24)) fun v7 =>
  PRun Try.prog (convert 3 5 v7) fun v8 =>
  PRun Try.prog (binOp .shr 3 a1 (Value.int .u64 16)) fun v10 =>
  PRun Try.prog (convert 3 5 v10) fun v11 =>
  PRun Try.prog (binOp .shr 3 a1 (Value.int .u64 8)) fun v13 =>
  PRun Try.prog (convert 3 5 v13) fun v14 =>
  PRun Try.prog (convert 3 5 a1) fun v16 =>
  Run Try.prog (Instr.buildSlice 30 4 #[(0, v8), (1, v11), (2, v14), (3, v16)]) w fun v17 w1 =>
  Run Try.prog (Builtin.append_ #[30, 30] 30 #[a0, v17]) w1 fun v18 w2 =>
  K v18 w2
def H31 : Hints := { n := 19, reg := [(0, ⟨[.p], [0]⟩), (1, ⟨[.p, .p, .p, .p, .p, .p, .p, .p, .p, .p, .p, .p, .e, .e, .p], [0, 0, 2, 6, 0, 16, 48, 0, 128, 384, 0, 1024, 4094, 8191, 16383]⟩)], loop := [], join := [] }
noncomputable def C31 : Code := Try.f31.body.getD .skip
theorem E31 (a0 : Value) (a1 : Value) (K : Value → World → Prop) (w : World) : F31 a0 a1 K w = lift Try.prog H31 C31 (envOf [a0, a1] 0) w (fun E w => resV Try.prog H31.n E Try.f31.results.toList w fun vs => K (retV vs) w) [] (fun E w => resV Try.prog H31.n E Try.f31.results.toList w fun vs => K (retV vs) w) := by kernel_rfl
theorem R31 : regOk H31 C31 = true := by kernel_rfl
theorem B31 : Try.f31.body = some C31 := by kernel_rfl
theorem F31_ok (a0 : Value) (a1 : Value) (K : Value → World → Prop) (w : World) (h : F31 a0 a1 K w) : Calls Try.prog 31 #[a0, a1] w (retK K) :=
  lift_call mixed Try.func31 B31 Try.ntmps31 R31 (Nat.le_of_ble_eq_true rfl) (Eq.mp (E31 a0 a1 K w) h)
/-- lattice/latticeref6.four -/
def F33 (a0 : Value) (a1 : Value) (K : Value → World → Prop) (w : World) : Prop :=
  PRun Try.prog (binOp .shr 3 a1 (Value.int .u64 24)) fun v7 =>
  PRun Try.prog (convert 3 5 v7) fun v8 =>
  PRun Try.prog (binOp .shr 3 a1 (Value.int .u64 16)) fun v10 =>
  PRun Try.prog (convert 3 5 v10) fun v11 =>
  PRun Try.prog (binOp .shr 3 a1 (Value.int .u64 8)) fun v13 =>
  PRun Try.prog (convert 3 5 v13) fun v14 =>
  PRun Try.prog (convert 3 5 a1) fun v16 =>
  Run Try.prog (Instr.buildSlice 30 4 #[(0, v8), (1, v11), (2, v14), (3, v16)]) w fun v17 w1 =>
  Run Try.prog (Builtin.append_ #[30, 30] 30 #[a0, v17]) w1 fun v18 w2 =>
  K v18 w2
def H33 : Hints := { n := 19, reg := [(0, ⟨[.p], [0]⟩), (1, ⟨[.p, .p, .p, .p, .p, .p, .p, .p, .p, .p, .p, .p, .e, .e, .p], [0, 0, 2, 6, 0, 16, 48, 0, 128, 384, 0, 1024, 4094, 8191, 16383]⟩)], loop := [], join := [] }
noncomputable def C33 : Code := Try.f33.body.getD .skip
theorem E33 (a0 : Value) (a1 : Value) (K : Value → World → Prop) (w : World) : F33 a0 a1 K w = lift Try.prog H33 C33 (envOf [a0, a1] 0) w (fun E w => resV Try.prog H33.n E Try.f33.results.toList w fun vs => K (retV vs) w) [] (fun E w => resV Try.prog H33.n E Try.f33.results.toList w fun vs => K (retV vs) w) := by kernel_rfl
theorem R33 : regOk H33 C33 = true := by kernel_rfl
theorem B33 : Try.f33.body = some C33 := by kernel_rfl
theorem F33_ok (a0 : Value) (a1 : Value) (K : Value → World → Prop) (w : World) (h : F33 a0 a1 K w) : Calls Try.prog 33 #[a0, a1] w (retK K) :=
  lift_call mixed Try.func33 B33 Try.ntmps33 R33 (Nat.le_of_ble_eq_true rfl) (Eq.mp (E33 a0 a1 K w) h)
def F35x1 (v8_2 : Value) (v7 : Value) (a0 : Value) (w1 : World) (v3_2 : Value) (k1 : Value → Value → World → Prop) (K : Value → World → Prop) : Prop :=
  PRun Try.prog (binOp .lss 3 v8_2 v7) fun v9 =>
  Branch v9 (
    PRun Try.prog (Instr.indexAt 30 a0 v8_2) fun v10 =>
    QRun Try.prog (Instr.loadAt 5 v10) w1 fun v11 =>
    PRun Try.prog (binOp .shl 3 v3_2 (Value.int .u64 8)) fun v13 =>
    PRun Try.prog (convert 5 3 v11) fun v15 =>
    PRun Try.prog (binOp .or 3 v13 v15) fun v16 =>
    PRun Try.prog (binOp .add 3 v8_2 (Value.int .i64 1)) fun v17 =>
    k1 v16 v17 w1
  ) (
    K v3_2 w1
  )
/-- lattice/blob.numbered -/
def F35 (a0 : Value) (K : Value → World → Prop) (w : World) : Prop :=
  PRun Try.prog (Builtin.len_ #[30] 3 #[a0]) fun v7 =>
  LoopF 2 [(Value.int .i64 0), (Value.int .i64 0)] w fun v3_2 v8_2 w1 k1 => ∀ _ : Env,
  F35x1 v8_2 v7 a0 w1 v3_2 k1 K
def H35 : Hints := { n := 19, reg := [(0, ⟨[.p], [0]⟩), (1, ⟨[.p], [0]⟩), (2, ⟨[.p, .p, .p], [0, 1, 0]⟩), (3, ⟨[.p], [0]⟩), (4, ⟨[.p, .q, .p], [0, 1, 3]⟩), (5, ⟨[.p, .p, .p, .p, .p, .p], [0, 1, 0, 4, 15, 31]⟩), (6, ⟨[.p, .p], [0, 1]⟩), (7, ⟨[.p, .p], [0, 1]⟩)], loop := [(3, [3, 8])], join := [] }
noncomputable def C35 : Code := Try.f35.body.getD .skip
theorem E35 (a0 : Value) (K : Value → World → Prop) (w : World) : F35 a0 K w = lift Try.prog H35 C35 (envOf [a0] 0) w (fun E w => resV Try.prog H35.n E Try.f35.results.toList w fun vs => K (retV vs) w) [] (fun E w => resV Try.prog H35.n E Try.f35.results.toList w fun vs => K (retV vs) w) := by kernel_rfl
theorem R35 : regOk H35 C35 = true := by kernel_rfl
theorem B35 : Try.f35.body = some C35 := by kernel_rfl
theorem F35_ok (a0 : Value) (K : Value → World → Prop) (w : World) (h : F35 a0 K w) : Calls Try.prog 35 #[a0] w (retK K) :=
  lift_call mixed Try.func35 B35 Try.ntmps35 R35 (Nat.le_of_ble_eq_true rfl) (Eq.mp (E35 a0 K w) h)
/-- lattice/lms.number -/
def F36 (a0 : Value) (K : Value → World → Prop) (w : World) : Prop :=
  PRun Try.prog (Instr.indexAt 30 a0 (Value.int .i64 0)) fun v4 =>
  QRun Try.prog (Instr.loadAt 5 v4) w.drew fun v5 =>
  PRun Try.prog (convert 5 3 v5) fun v6 =>
  PRun Try.prog (binOp .shl 3 v6 (Value.int .u64 24)) fun v7 =>
  PRun Try.prog (Instr.indexAt 30 a0 (Value.int .i64 1)) fun v9 =>
  QRun Try.prog (Instr.loadAt 5 v9) w.drew fun v10 =>
  PRun Try.prog (convert 5 3 v10) fun v11 =>
  PRun Try.prog (binOp .shl 3 v11 (Value.int .u64 16)) fun v12 =>
  PRun Try.prog (binOp .or 3 v7 v12) fun v13 =>
  PRun Try.prog (Instr.indexAt 30 a0 (Value.int .i64 2)) fun v15 =>
  QRun Try.prog (Instr.loadAt 5 v15) w.drew fun v16 =>
  PRun Try.prog (convert 5 3 v16) fun v17 =>
  PRun Try.prog (binOp .shl 3 v17 (Value.int .u64 8)) fun v18 =>
  PRun Try.prog (binOp .or 3 v13 v18) fun v19 =>
  PRun Try.prog (Instr.indexAt 30 a0 (Value.int .i64 3)) fun v21 =>
  QRun Try.prog (Instr.loadAt 5 v21) w.drew fun v22 =>
  PRun Try.prog (convert 5 3 v22) fun v23 =>
  PRun Try.prog (binOp .or 3 v19 v23) fun v24 =>
  K v24 w.drew
def H36 : Hints := { n := 25, reg := [(0, ⟨[.p], [0]⟩), (1, ⟨[.p, .p, .q, .p, .p, .p, .p, .q, .p, .p, .p, .p, .p, .q, .p, .p, .p, .p, .p, .q, .p, .p, .p], [0, 1, 3, 7, 15, 0, 32, 96, 224, 480, 1023, 0, 2048, 6144, 14336, 30720, 65535, 0, 131072, 393216, 917504, 2097151, 4194303]⟩)], loop := [], join := [] }
noncomputable def C36 : Code := Try.f36.body.getD .skip
theorem E36 (a0 : Value) (K : Value → World → Prop) (w : World) : F36 a0 K w = lift Try.prog H36 C36 (envOf [a0] 0) w (fun E w => resV Try.prog H36.n E Try.f36.results.toList w fun vs => K (retV vs) w) [] (fun E w => resV Try.prog H36.n E Try.f36.results.toList w fun vs => K (retV vs) w) := by kernel_rfl
theorem R36 : regOk H36 C36 = true := by kernel_rfl
theorem B36 : Try.f36.body = some C36 := by kernel_rfl
theorem F36_ok (a0 : Value) (K : Value → World → Prop) (w : World) (h : F36 a0 K w) : Calls Try.prog 36 #[a0] w (retK K) :=
  lift_call mixed Try.func36 B36 Try.ntmps36 R36 (Nat.le_of_ble_eq_true rfl) (Eq.mp (E36 a0 K w) h)
def F39x1 (v11_2 : Value) (v10 : Value) (a1 : Value) (a0 : Value) (v8 : Value) (w2 : World) (k1 : Value → World → Prop) (K : Value → World → Prop) : Prop :=
  PRun Try.prog (binOp .lss 3 v11_2 v10) fun v12 =>
  Branch v12 (
    PRun Try.prog (binOp .sub 3 a1 (Value.int .i64 1)) fun v16 =>
    PRun Try.prog (binOp .sub 3 v16 v11_2) fun v18 =>
    PRun Try.prog (binOp .mul 3 (Value.int .i64 8) v11_2) fun v21 =>
    PRun Try.prog (binOp .shr 3 a0 v21) fun v22 =>
    PRun Try.prog (convert 3 5 v22) fun v23 =>
    PRun Try.prog (Instr.indexAt 30 v8 v18) fun v24 =>
    Run Try.prog (Instr.storeAt 5 v24 v23) w2 fun _ w3 =>
    PRun Try.prog (binOp .add 3 v11_2 (Value.int .i64 1)) fun v25 =>
    k1 v25 w3
  ) (
    K v8 w2
  )
/-- lattice/blob.number -/
def F39 (a0 : Value) (a1 : Value) (K : Value → World → Prop) (w : World) : Prop :=
  Run Try.prog (Instr.makeSlice 30 a1 a1) w fun v8 w1 =>
  PRun Try.prog (Builtin.len_ #[30] 3 #[v8]) fun v10 =>
  LoopF 1 [(Value.int .i64 0)] w1 fun v11_2 w2 k1 => ∀ _ : Env,
  F39x1 v11_2 v10 a1 a0 v8 w2 k1 K
def H39 : Hints := { n := 27, reg := [(0, ⟨[.p], [0]⟩), (1, ⟨[.p, .e, .p], [0, 1, 3]⟩), (2, ⟨[.p, .p, .p], [0, 1, 0]⟩), (3, ⟨[.p], [0]⟩), (4, ⟨[.p, .p], [0, 1]⟩), (5, ⟨[.p, .p, .p, .p, .p, .p, .p, .p, .p, .p, .p, .e], [0, 0, 2, 0, 14, 0, 0, 64, 224, 480, 1023, 2047]⟩), (6, ⟨[.p, .p], [0, 1]⟩), (7, ⟨[.p, .p], [0, 1]⟩)], loop := [(3, [11])], join := [] }
noncomputable def C39 : Code := Try.f39.body.getD .skip
theorem E39 (a0 : Value) (a1 : Value) (K : Value → World → Prop) (w : World) : F39 a0 a1 K w = lift Try.prog H39 C39 (envOf [a0, a1] 0) w (fun E w => resV Try.prog H39.n E Try.f39.results.toList w fun vs => K (retV vs) w) [] (fun E w => resV Try.prog H39.n E Try.f39.results.toList w fun vs => K (retV vs) w) := by kernel_rfl
theorem R39 : regOk H39 C39 = true := by kernel_rfl
theorem B39 : Try.f39.body = some C39 := by kernel_rfl
theorem F39_ok (a0 : Value) (a1 : Value) (K : Value → World → Prop) (w : World) (h : F39 a0 a1 K w) : Calls Try.prog 39 #[a0, a1] w (retK K) :=
  lift_call mixed Try.func39 B39 Try.ntmps39 R39 (Nat.le_of_ble_eq_true rfl) (Eq.mp (E39 a0 a1 K w) h)
/-- lattice/latticeref6.get -/
def F47 (a0 : Value) (K : Value → World → Prop) (w : World) : Prop :=
  PRun Try.prog (Instr.indexAt 30 a0 (Value.int .i64 0)) fun v4 =>
  QRun Try.prog (Instr.loadAt 5 v4) w.drew fun v5 =>
  PRun Try.prog (convert 5 3 v5) fun v6 =>
  PRun Try.prog (binOp .shl 3 v6 (Value.int .u64 24)) fun v7 =>
  PRun Try.prog (Instr.indexAt 30 a0 (Value.int .i64 1)) fun v9 =>
  QRun Try.prog (Instr.loadAt 5 v9) w.drew fun v10 =>
  PRun Try.prog (convert 5 3 v10) fun v11 =>
  PRun Try.prog (binOp .shl 3 v11 (Value.int .u64 16)) fun v12 =>
  PRun Try.prog (binOp .or 3 v7 v12) fun v13 =>
  PRun Try.prog (Instr.indexAt 30 a0 (Value.int .i64 2)) fun v15 =>
  QRun Try.prog (Instr.loadAt 5 v15) w.drew fun v16 =>
  PRun Try.prog (convert 5 3 v16) fun v17 =>
  PRun Try.prog (binOp .shl 3 v17 (Value.int .u64 8)) fun v18 =>
  PRun Try.prog (binOp .or 3 v13 v18) fun v19 =>
  PRun Try.prog (Instr.indexAt 30 a0 (Value.int .i64 3)) fun v21 =>
  QRun Try.prog (Instr.loadAt 5 v21) w.drew fun v22 =>
  PRun Try.prog (convert 5 3 v22) fun v23 =>
  PRun Try.prog (binOp .or 3 v19 v23) fun v24 =>
  K v24 w.drew
def H47 : Hints := { n := 25, reg := [(0, ⟨[.p], [0]⟩), (1, ⟨[.p, .p, .q, .p, .p, .p, .p, .q, .p, .p, .p, .p, .p, .q, .p, .p, .p, .p, .p, .q, .p, .p, .p], [0, 1, 3, 7, 15, 0, 32, 96, 224, 480, 1023, 0, 2048, 6144, 14336, 30720, 65535, 0, 131072, 393216, 917504, 2097151, 4194303]⟩)], loop := [], join := [] }
noncomputable def C47 : Code := Try.f47.body.getD .skip
theorem E47 (a0 : Value) (K : Value → World → Prop) (w : World) : F47 a0 K w = lift Try.prog H47 C47 (envOf [a0] 0) w (fun E w => resV Try.prog H47.n E Try.f47.results.toList w fun vs => K (retV vs) w) [] (fun E w => resV Try.prog H47.n E Try.f47.results.toList w fun vs => K (retV vs) w) := by kernel_rfl
theorem R47 : regOk H47 C47 = true := by kernel_rfl
theorem B47 : Try.f47.body = some C47 := by kernel_rfl
theorem F47_ok (a0 : Value) (K : Value → World → Prop) (w : World) (h : F47 a0 K w) : Calls Try.prog 47 #[a0] w (retK K) :=
  lift_call mixed Try.func47 B47 Try.ntmps47 R47 (Nat.le_of_ble_eq_true rfl) (Eq.mp (E47 a0 K w) h)
/-- lattice/lms.four -/
def F62 (a0 : Value) (K : Value → World → Prop) (w : World) : Prop :=
  PRun Try.prog (binOp .shr 3 a0 (Value.int .u64 24)) fun v4 =>
  PRun Try.prog (convert 3 5 v4) fun v5 =>
  PRun Try.prog (binOp .shr 3 a0 (Value.int .u64 16)) fun v7 =>
  PRun Try.prog (convert 3 5 v7) fun v8 =>
  PRun Try.prog (binOp .shr 3 a0 (Value.int .u64 8)) fun v10 =>
  PRun Try.prog (convert 3 5 v10) fun v11 =>
  PRun Try.prog (convert 3 5 a0) fun v13 =>
  Run Try.prog (Instr.buildSlice 30 4 #[(0, v5), (1, v8), (2, v11), (3, v13)]) w fun v14 w1 =>
  K v14 w1
def H62 : Hints := { n := 15, reg := [(0, ⟨[.p], [0]⟩), (1, ⟨[.p, .p, .p, .p, .p, .p, .p, .p, .p, .p, .p, .e, .p], [0, 1, 3, 0, 8, 24, 0, 64, 192, 0, 512, 2047, 4095]⟩)], loop := [], join := [] }
noncomputable def C62 : Code := Try.f62.body.getD .skip
theorem E62 (a0 : Value) (K : Value → World → Prop) (w : World) : F62 a0 K w = lift Try.prog H62 C62 (envOf [a0] 0) w (fun E w => resV Try.prog H62.n E Try.f62.results.toList w fun vs => K (retV vs) w) [] (fun E w => resV Try.prog H62.n E Try.f62.results.toList w fun vs => K (retV vs) w) := by kernel_rfl
theorem R62 : regOk H62 C62 = true := by kernel_rfl
theorem B62 : Try.f62.body = some C62 := by kernel_rfl
theorem F62_ok (a0 : Value) (K : Value → World → Prop) (w : World) (h : F62 a0 K w) : Calls Try.prog 62 #[a0] w (retK K) :=
  lift_call mixed Try.func62 B62 Try.ntmps62 R62 (Nat.le_of_ble_eq_true rfl) (Eq.mp (E62 a0 K w) h)
/-- lattice/latticeref5.two -/
def F52 (a0 : Value) (a1 : Value) (K : Value → World → Prop) (w : World) : Prop :=
  PRun Try.prog (binOp .shr 3 a1 (Value.int .u64 8)) fun v7 =>
  PRun Try.prog (convert 3 5 v7) fun v8 =>
  PRun Try.prog (convert 3 5 a1) fun v10 =>
  Run Try.prog (Instr.buildSlice 30 2 #[(0, v8), (1, v10)]) w fun v11 w1 =>
  Run Try.prog (Builtin.append_ #[30, 30] 30 #[a0, v11]) w1 fun v12 w2 =>
  K v12 w2
def H52 : Hints := { n := 13, reg := [(0, ⟨[.p], [0]⟩), (1, ⟨[.p, .p, .p, .p, .p, .p, .e, .e, .p], [0, 0, 2, 6, 0, 16, 62, 127, 255]⟩)], loop := [], join := [] }
noncomputable def C52 : Code := Try.f52.body.getD .skip
theorem E52 (a0 : Value) (a1 : Value) (K : Value → World → Prop) (w : World) : F52 a0 a1 K w = lift Try.prog H52 C52 (envOf [a0, a1] 0) w (fun E w => resV Try.prog H52.n E Try.f52.results.toList w fun vs => K (retV vs) w) [] (fun E w => resV Try.prog H52.n E Try.f52.results.toList w fun vs => K (retV vs) w) := by kernel_rfl
theorem R52 : regOk H52 C52 = true := by kernel_rfl
theorem B52 : Try.f52.body = some C52 := by kernel_rfl
theorem F52_ok (a0 : Value) (a1 : Value) (K : Value → World → Prop) (w : World) (h : F52 a0 a1 K w) : Calls Try.prog 52 #[a0, a1] w (retK K) :=
  lift_call mixed Try.func52 B52 Try.ntmps52 R52 (Nat.le_of_ble_eq_true rfl) (Eq.mp (E52 a0 a1 K w) h)
/-- lattice/latticeref5.head -/
def F53 (a0 : Value) (a1 : Value) (K : Value → World → Prop) (w : World) : Prop :=
  Run Try.prog (Instr.box 49 a0) w fun v2 w1 =>
  Run Try.prog (Instr.buildSlice 30 0 #[]) w1 fun v5 w2 =>
  PRun Try.prog (Instr.sliceAt 49 v2 none none none) fun v6 =>
  Run Try.prog (Builtin.append_ #[30, 30] 30 #[v5, v6]) w2 fun v7 w3 =>
  CallF Try.prog 55 #[v7, a1] w3 fun v9 w4 =>
  K v9 w4
def H53 : Hints := { n := 10, reg := [(0, ⟨[.e, .p], [0, 0]⟩), (1, ⟨[.e, .p, .e, .p, .e, .p], [0, 0, 3, 0, 15, 31]⟩)], loop := [], join := [] }
noncomputable def C53 : Code := Try.f53.body.getD .skip
theorem E53 (a0 : Value) (a1 : Value) (K : Value → World → Prop) (w : World) : F53 a0 a1 K w = lift Try.prog H53 C53 (envOf [a0, a1] 0) w (fun E w => resV Try.prog H53.n E Try.f53.results.toList w fun vs => K (retV vs) w) [] (fun E w => resV Try.prog H53.n E Try.f53.results.toList w fun vs => K (retV vs) w) := by kernel_rfl
theorem R53 : regOk H53 C53 = true := by kernel_rfl
theorem B53 : Try.f53.body = some C53 := by kernel_rfl
theorem F53_ok (a0 : Value) (a1 : Value) (K : Value → World → Prop) (w : World) (h : F53 a0 a1 K w) : Calls Try.prog 53 #[a0, a1] w (retK K) :=
  lift_call mixed Try.func53 B53 Try.ntmps53 R53 (Nat.le_of_ble_eq_true rfl) (Eq.mp (E53 a0 a1 K w) h)
/-- lattice/latticeref5.four -/
def F55 (a0 : Value) (a1 : Value) (K : Value → World → Prop) (w : World) : Prop :=
  PRun Try.prog (binOp .shr 3 a1 (Value.int .u64 24)) fun v7 =>
  PRun Try.prog (convert 3 5 v7) fun v8 =>
  PRun Try.prog (binOp .shr 3 a1 (Value.int .u64 16)) fun v10 =>
  PRun Try.prog (convert 3 5 v10) fun v11 =>
  PRun Try.prog (binOp .shr 3 a1 (Value.int .u64 8)) fun v13 =>
  PRun Try.prog (convert 3 5 v13) fun v14 =>
  PRun Try.prog (convert 3 5 a1) fun v16 =>
  Run Try.prog (Instr.buildSlice 30 4 #[(0, v8), (1, v11), (2, v14), (3, v16)]) w fun v17 w1 =>
  Run Try.prog (Builtin.append_ #[30, 30] 30 #[a0, v17]) w1 fun v18 w2 =>
  K v18 w2
def H55 : Hints := { n := 19, reg := [(0, ⟨[.p], [0]⟩), (1, ⟨[.p, .p, .p, .p, .p, .p, .p, .p, .p, .p, .p, .p, .e, .e, .p], [0, 0, 2, 6, 0, 16, 48, 0, 128, 384, 0, 1024, 4094, 8191, 16383]⟩)], loop := [], join := [] }
noncomputable def C55 : Code := Try.f55.body.getD .skip
theorem E55 (a0 : Value) (a1 : Value) (K : Value → World → Prop) (w : World) : F55 a0 a1 K w = lift Try.prog H55 C55 (envOf [a0, a1] 0) w (fun E w => resV Try.prog H55.n E Try.f55.results.toList w fun vs => K (retV vs) w) [] (fun E w => resV Try.prog H55.n E Try.f55.results.toList w fun vs => K (retV vs) w) := by kernel_rfl
theorem R55 : regOk H55 C55 = true := by kernel_rfl
theorem B55 : Try.f55.body = some C55 := by kernel_rfl
theorem F55_ok (a0 : Value) (a1 : Value) (K : Value → World → Prop) (w : World) (h : F55 a0 a1 K w) : Calls Try.prog 55 #[a0, a1] w (retK K) :=
  lift_call mixed Try.func55 B55 Try.ntmps55 R55 (Nat.le_of_ble_eq_true rfl) (Eq.mp (E55 a0 a1 K w) h)
def F57x1 (v9 : Value) (a1 : Value) (w4 : World) (a2 : Value) (v16 : Value) (v8 : Value) (K : Value → World → Prop) (v4 : Value) : Prop :=
  (
    CallF Try.prog 53 #[v9, a1] w4 fun v11 w5 =>
    (
      CallF Try.prog 52 #[v11, a2] w5 fun v13 w6 =>
      Run Try.prog (Instr.buildSlice 30 1 #[(0, (Value.int .u8 255))]) w6 fun v14 w7 =>
      Run Try.prog (Builtin.append_ #[30, 30] 30 #[v13, v14]) w7 fun v15 w8 =>
      Run Try.prog (Builtin.append_ #[30, 30] 30 #[v15, v16]) w8 fun v17 w9 =>
      CallF Try.prog 51 #[v17] w9 fun v18 w10 =>
      Run Try.prog (Instr.storeAt 25 v8 v18) w10 fun _ w11 =>
      QRun Try.prog (Instr.loadAt 25 v8) w11 fun v8_2 =>
      K v8_2 w11
    ) ∧
    (
      Run Try.prog (Instr.buildSlice 30 1 #[(0, (Value.int .u8 255))]) w5 fun v14_2 w13 =>
      CallF Try.prog 52 #[v11, a2] w13 fun v13_2 w14 =>
      Run Try.prog (Builtin.append_ #[30, 30] 30 #[v13_2, v14_2]) w14 fun v15_2 w15 =>
      Run Try.prog (Builtin.append_ #[30, 30] 30 #[v15_2, v16]) w15 fun v17_2 w16 =>
      CallF Try.prog 51 #[v17_2] w16 fun v18_2 w17 =>
      Run Try.prog (Instr.storeAt 25 v8 v18_2) w17 fun _ w18 =>
      QRun Try.prog (Instr.loadAt 25 v8) w18 fun v8_3 =>
      K v8_3 w18
    )
  ) ∧
  (
    Run Try.prog (Instr.buildSlice 30 1 #[(0, (Value.int .u8 255))]) w4 fun v14_3 w20 =>
    (QRun Try.prog (Instr.loadAt 49 v4) w20 fun u => u = v9) ∧
    CallF Try.prog 53 #[v9, a1] w20 fun v11_2 w21 =>
    CallF Try.prog 52 #[v11_2, a2] w21 fun v13_3 w22 =>
    Run Try.prog (Builtin.append_ #[30, 30] 30 #[v13_3, v14_3]) w22 fun v15_3 w23 =>
    Run Try.prog (Builtin.append_ #[30, 30] 30 #[v15_3, v16]) w23 fun v17_3 w24 =>
    CallF Try.prog 51 #[v17_3] w24 fun v18_3 w25 =>
    Run Try.prog (Instr.storeAt 25 v8 v18_3) w25 fun _ w26 =>
    QRun Try.prog (Instr.loadAt 25 v8) w26 fun v8_4 =>
    K v8_4 w26
  )
/-- lattice/latticeref5.secret -/
def F57 (a0 : Value) (a1 : Value) (a2 : Value) (a3 : Value) (K : Value → World → Prop) (w : World) : Prop :=
  Run Try.prog (Instr.box 49 a0) w fun v4 w1 =>
  Run Try.prog (Instr.box 25 a3) w1 fun v7 w2 =>
  Run Try.prog (Instr.alloc 25 true (.tuple #[])) w2 fun v8 w3 =>
  QRun Try.prog (Instr.loadAt 49 v4) w3.drew fun v9 =>
  PRun Try.prog (Instr.sliceAt 25 v7 none none none) fun v16 =>
  F57x1 v9 a1 w3.drew a2 v16 v8 K v4
def H57 : Hints := { n := 19, reg := [(0, ⟨[.e, .e, .e], [0, 0, 0]⟩), (1, ⟨[.q, .p, .e, .p, .e, .e, .e, .p, .e, .e, .e], [0, 0, 3, 0, 15, 0, 63, 0, 255, 511, 1023]⟩)], loop := [], join := [] }
noncomputable def C57 : Code := Try.f57.body.getD .skip
theorem E57 (a0 : Value) (a1 : Value) (a2 : Value) (a3 : Value) (K : Value → World → Prop) (w : World) : F57 a0 a1 a2 a3 K w = lift Try.prog H57 C57 (envOf [a0, a1, a2, a3] 0) w (fun E w => resV Try.prog H57.n E Try.f57.results.toList w fun vs => K (retV vs) w) [] (fun E w => resV Try.prog H57.n E Try.f57.results.toList w fun vs => K (retV vs) w) := by kernel_rfl
theorem R57 : regOk H57 C57 = true := by kernel_rfl
theorem B57 : Try.f57.body = some C57 := by kernel_rfl
theorem F57_ok (a0 : Value) (a1 : Value) (a2 : Value) (a3 : Value) (K : Value → World → Prop) (w : World) (h : F57 a0 a1 a2 a3 K w) : Calls Try.prog 57 #[a0, a1, a2, a3] w (retK K) :=
  lift_call mixed Try.func57 B57 Try.ntmps57 R57 (Nat.le_of_ble_eq_true rfl) (Eq.mp (E57 a0 a1 a2 a3 K w) h)
def F56x1 (v20 : Value) (a1 : Value) (w5 : World) (a2 : Value) (v26 : Value) (v29 : Value) (v11 : Value) (v13_2 : Value) (k1 : Value → World → Prop) (v6 : Value) : Prop :=
  (
    CallF Try.prog 53 #[v20, a1] w5 fun v22 w6 =>
    (
      CallF Try.prog 52 #[v22, a2] w6 fun v24 w7 =>
      Run Try.prog (Instr.buildSlice 30 1 #[(0, v26)]) w7 fun v27 w8 =>
      Run Try.prog (Builtin.append_ #[30, 30] 30 #[v24, v27]) w8 fun v28 w9 =>
      Run Try.prog (Builtin.append_ #[30, 30] 30 #[v28, v29]) w9 fun v30 w10 =>
      CallF Try.prog 51 #[v30] w10 fun v31 w11 =>
      Run Try.prog (Instr.storeAt 25 v11 v31) w11 fun _ w12 =>
      PRun Try.prog (binOp .add 3 v13_2 (Value.int .i64 1)) fun v19 =>
      k1 v19 w12
    ) ∧
    (
      Run Try.prog (Instr.buildSlice 30 1 #[(0, v26)]) w6 fun v27_2 w14 =>
      CallF Try.prog 52 #[v22, a2] w14 fun v24_2 w15 =>
      Run Try.prog (Builtin.append_ #[30, 30] 30 #[v24_2, v27_2]) w15 fun v28_2 w16 =>
      Run Try.prog (Builtin.append_ #[30, 30] 30 #[v28_2, v29]) w16 fun v30_2 w17 =>
      CallF Try.prog 51 #[v30_2] w17 fun v31_2 w18 =>
      Run Try.prog (Instr.storeAt 25 v11 v31_2) w18 fun _ w19 =>
      PRun Try.prog (binOp .add 3 v13_2 (Value.int .i64 1)) fun v19_2 =>
      k1 v19_2 w19
    )
  ) ∧
  (
    Run Try.prog (Instr.buildSlice 30 1 #[(0, v26)]) w5 fun v27_3 w21 =>
    (QRun Try.prog (Instr.loadAt 49 v6) w21 fun u => u = v20) ∧
    CallF Try.prog 53 #[v20, a1] w21 fun v22_2 w22 =>
    CallF Try.prog 52 #[v22_2, a2] w22 fun v24_3 w23 =>
    Run Try.prog (Builtin.append_ #[30, 30] 30 #[v24_3, v27_3]) w23 fun v28_3 w24 =>
    Run Try.prog (Builtin.append_ #[30, 30] 30 #[v28_3, v29]) w24 fun v30_3 w25 =>
    CallF Try.prog 51 #[v30_3] w25 fun v31_3 w26 =>
    Run Try.prog (Instr.storeAt 25 v11 v31_3) w26 fun _ w27 =>
    PRun Try.prog (binOp .add 3 v13_2 (Value.int .i64 1)) fun v19_3 =>
    k1 v19_3 w27
  )
def F56x2 (v13_2 : Value) (a4 : Value) (v6 : Value) (w4 : World) (v11 : Value) (a1 : Value) (a2 : Value) (k1 : Value → World → Prop) (v12 : Value) (K : Value → World → Prop) : Prop :=
  PRun Try.prog (binOp .lss 3 v13_2 a4) fun v17 =>
  Branch v17 (
    QRun Try.prog (Instr.loadAt 49 v6) w4.drew fun v20 =>
    PRun Try.prog (convert 3 5 v13_2) fun v26 =>
    PRun Try.prog (Instr.sliceAt 25 v11 none none none) fun v29 =>
    F56x1 v20 a1 w4.drew a2 v26 v29 v11 v13_2 k1 v6
  ) (
    QRun Try.prog (Instr.loadAt 25 v11) w4 fun v32 =>
    Run Try.prog (Instr.storeAt 25 v12 v32) w4 fun _ w29 =>
    QRun Try.prog (Instr.loadAt 25 v12) w29 fun v12_2 =>
    K v12_2 w29
  )
/-- lattice/latticeref5.walk -/
def F56 (a0 : Value) (a1 : Value) (a2 : Value) (a3 : Value) (a4 : Value) (a5 : Value) (K : Value → World → Prop) (w : World) : Prop :=
  Run Try.prog (Instr.box 49 a0) w fun v6 w1 =>
  Run Try.prog (Instr.box 25 a5) w1 fun v11 w2 =>
  Run Try.prog (Instr.alloc 25 true (.tuple #[])) w2 fun v12 w3 =>
  LoopF 1 [a3] w3 fun v13_2 w4 k1 => ∀ _ : Env,
  F56x2 v13_2 a4 v6 w4 v11 a1 a2 k1 v12 K
def H56 : Hints := { n := 33, reg := [(0, ⟨[.e, .e, .e], [0, 0, 0]⟩), (1, ⟨[.p, .p], [0, 1]⟩), (2, ⟨[.p, .p, .p], [0, 0, 3]⟩), (4, ⟨[.q, .p, .e, .p, .e, .p, .p, .e, .e, .p, .e, .e, .e], [0, 0, 3, 0, 15, 0, 32, 96, 255, 0, 1023, 2047, 4095]⟩), (3, ⟨[.p, .p, .p], [0, 1, 3]⟩), (5, ⟨[.q, .e], [0, 1]⟩)], loop := [(2, [13])], join := [] }
noncomputable def C56 : Code := Try.f56.body.getD .skip
theorem E56 (a0 : Value) (a1 : Value) (a2 : Value) (a3 : Value) (a4 : Value) (a5 : Value) (K : Value → World → Prop) (w : World) : F56 a0 a1 a2 a3 a4 a5 K w = lift Try.prog H56 C56 (envOf [a0, a1, a2, a3, a4, a5] 0) w (fun E w => resV Try.prog H56.n E Try.f56.results.toList w fun vs => K (retV vs) w) [] (fun E w => resV Try.prog H56.n E Try.f56.results.toList w fun vs => K (retV vs) w) := by kernel_rfl
theorem R56 : regOk H56 C56 = true := by kernel_rfl
theorem B56 : Try.f56.body = some C56 := by kernel_rfl
theorem F56_ok (a0 : Value) (a1 : Value) (a2 : Value) (a3 : Value) (a4 : Value) (a5 : Value) (K : Value → World → Prop) (w : World) (h : F56 a0 a1 a2 a3 a4 a5 K w) : Calls Try.prog 56 #[a0, a1, a2, a3, a4, a5] w (retK K) :=
  lift_call mixed Try.func56 B56 Try.ntmps56 R56 (Nat.le_of_ble_eq_true rfl) (Eq.mp (E56 a0 a1 a2 a3 a4 a5 K w) h)
/-- lattice/latticeref5.digit -/
def F70 (a0 : Value) (a1 : Value) (K : Value → World → Prop) (w : World) : Prop :=
  PRun Try.prog (binOp .quo 3 a1 (Value.int .i64 4)) fun v7 =>
  PRun Try.prog (Instr.indexAt 30 a0 v7) fun v8 =>
  QRun Try.prog (Instr.loadAt 5 v8) w fun v9 =>
  PRun Try.prog (binOp .rem 3 a1 (Value.int .i64 4)) fun v11 =>
  PRun Try.prog (convert 3 69 v11) fun v12 =>
  PRun Try.prog (binOp .mul 69 (Value.int .u64 2) v12) fun v13 =>
  PRun Try.prog (binOp .sub 69 (Value.int .u64 6) v13) fun v14 =>
  PRun Try.prog (binOp .shr 5 v9 v14) fun v15 =>
  PRun Try.prog (convert 5 3 v15) fun v16 =>
  PRun Try.prog (binOp .and 3 v16 (Value.int .i64 3)) fun v17 =>
  K v17 w
def H70 : Hints := { n := 18, reg := [(0, ⟨[.p], [0]⟩), (1, ⟨[.p, .p, .p, .p, .q, .p, .p, .p, .p, .p, .p, .p, .p, .p], [0, 0, 2, 7, 15, 0, 32, 96, 224, 480, 1023, 2047, 4095, 8191]⟩)], loop := [], join := [] }
noncomputable def C70 : Code := Try.f70.body.getD .skip
theorem E70 (a0 : Value) (a1 : Value) (K : Value → World → Prop) (w : World) : F70 a0 a1 K w = lift Try.prog H70 C70 (envOf [a0, a1] 0) w (fun E w => resV Try.prog H70.n E Try.f70.results.toList w fun vs => K (retV vs) w) [] (fun E w => resV Try.prog H70.n E Try.f70.results.toList w fun vs => K (retV vs) w) := by kernel_rfl
theorem R70 : regOk H70 C70 = true := by kernel_rfl
theorem B70 : Try.f70.body = some C70 := by kernel_rfl
theorem F70_ok (a0 : Value) (a1 : Value) (K : Value → World → Prop) (w : World) (h : F70 a0 a1 K w) : Calls Try.prog 70 #[a0, a1] w (retK K) :=
  lift_call mixed Try.func70 B70 Try.ntmps70 R70 (Nat.le_of_ble_eq_true rfl) (Eq.mp (E70 a0 a1 K w) h)
/-- (lattice/ots.key).head -/
def F71 (a0 : Value) (a1 : Value) (K : Value → World → Prop) (w : World) : Prop :=
  Run Try.prog (Instr.box 96 a0) w fun v2 w1 =>
  Run Try.prog (Instr.makeSlice 30 (Value.int .i64 0) (Value.int .i64 4292)) w1 fun v6 w2 =>
  PRun Try.prog (Instr.fieldAt 96 v2 0) fun v8 =>
  PRun Try.prog (Instr.sliceAt 49 v8 none none none) fun v9 =>
  Run Try.prog (Builtin.append_ #[30, 30] 30 #[v6, v9]) w2 fun v10 w3 =>
  PRun Try.prog (Instr.fieldAt 96 v2 1) fun v12 =>
  QRun Try.prog (Instr.loadAt 3 v12) w3 fun v13 =>
  PRun Try.prog (binOp .shr 3 v13 (Value.int .u64 24)) fun v14 =>
  PRun Try.prog (convert 3 5 v14) fun v15 =>
  PRun Try.prog (Instr.fieldAt 96 v2 1) fun v16 =>
  QRun Try.prog (Instr.loadAt 3 v16) w3 fun v17 =>
  PRun Try.prog (binOp .shr 3 v17 (Value.int .u64 16)) fun v18 =>
  PRun Try.prog (convert 3 5 v18) fun v19 =>
  PRun Try.prog (Instr.fieldAt 96 v2 1) fun v20 =>
  QRun Try.prog (Instr.loadAt 3 v20) w3 fun v21 =>
  PRun Try.prog (binOp .shr 3 v21 (Value.int .u64 8)) fun v22 =>
  PRun Try.prog (convert 3 5 v22) fun v23 =>
  PRun Try.prog (Instr.fieldAt 96 v2 1) fun v24 =>
  QRun Try.prog (Instr.loadAt 3 v24) w3 fun v25 =>
  PRun Try.prog (convert 3 5 v25) fun v26 =>
  PRun Try.prog (binOp .shr 3 a1 (Value.int .u64 8)) fun v28 =>
  PRun Try.prog (convert 3 5 v28) fun v29 =>
  PRun Try.prog (convert 3 5 a1) fun v31 =>
  Run Try.prog (Instr.buildSlice 30 6 #[(0, v15), (1, v19), (2, v23), (3, v26), (4, v29), (5, v31)]) w3 fun v32 w4 =>
  Run Try.prog (Builtin.append_ #[30, 30] 30 #[v10, v32]) w4 fun v33 w5 =>
  K v33 w5
def H71 : Hints := { n := 34, reg := [(0, ⟨[.e, .p], [0, 0]⟩), (1, ⟨[.e, .p], [0, 1]⟩), (2, ⟨[.p, .p, .p, .e, .p], [0, 0, 2, 7, 15]⟩), (3, ⟨[.p, .p, .q, .p, .p, .p, .q, .p, .p, .p, .q, .p, .p, .p, .q, .p, .p, .p, .p, .p, .p, .e, .e, .p], [0, 0, 2, 6, 14, 0, 32, 96, 224, 0, 512, 1536, 3584, 0, 8192, 24576, 0, 65536, 196608, 0, 524288, 2097150, 4194303, 8388607]⟩)], loop := [], join := [] }
noncomputable def C71 : Code := Try.f71.body.getD .skip
theorem E71 (a0 : Value) (a1 : Value) (K : Value → World → Prop) (w : World) : F71 a0 a1 K w = lift Try.prog H71 C71 (envOf [a0, a1] 0) w (fun E w => resV Try.prog H71.n E Try.f71.results.toList w fun vs => K (retV vs) w) [] (fun E w => resV Try.prog H71.n E Try.f71.results.toList w fun vs => K (retV vs) w) := by kernel_rfl
theorem R71 : regOk H71 C71 = true := by kernel_rfl
theorem B71 : Try.f71.body = some C71 := by kernel_rfl
theorem F71_ok (a0 : Value) (a1 : Value) (K : Value → World → Prop) (w : World) (h : F71 a0 a1 K w) : Calls Try.prog 71 #[a0, a1] w (retK K) :=
  lift_call mixed Try.func71 B71 Try.ntmps71 R71 (Nat.le_of_ble_eq_true rfl) (Eq.mp (E71 a0 a1 K w) h)
/-- (lattice/ots.key).hash -/
def F72 (a0 : Value) (a1 : Value) (a2 : Value) (a3 : Value) (K : Value → World → Prop) (w : World) : Prop :=
  Run Try.prog (Instr.box 96 a0) w fun v4 w1 =>
  Run Try.prog (Instr.box 25 a3) w1 fun v7 w2 =>
  Run Try.prog (Instr.alloc 25 true (.tuple #[])) w2 fun v8 w3 =>
  Run Try.prog (Instr.alloc 128 true (.tuple #[])) w3 fun v9 w4 =>
  PRun Try.prog (Instr.sliceAt 128 v9 none none none) fun v11 =>
  PRun Try.prog (Instr.fieldAt 96 v4 0) fun v12 =>
  PRun Try.prog (Instr.sliceAt 49 v12 none none none) fun v13 =>
  Run Try.prog (Builtin.copy_ #[30, 30] 3 #[v11, v13]) w4.drew fun v14 w5 =>
  PRun Try.prog (Instr.sliceAt 128 v9 (some v14) none none) fun v16 =>
  PRun Try.prog (Instr.fieldAt 96 v4 1) fun v17 =>
  QRun Try.prog (Instr.loadAt 3 v17) w5.drew fun v18 =>
  PRun Try.prog (binOp .shr 3 v18 (Value.int .u64 24)) fun v19 =>
  PRun Try.prog (convert 3 5 v19) fun v20 =>
  PRun Try.prog (Instr.fieldAt 96 v4 1) fun v21 =>
  QRun Try.prog (Instr.loadAt 3 v21) w5.drew fun v22 =>
  PRun Try.prog (binOp .shr 3 v22 (Value.int .u64 16)) fun v23 =>
  PRun Try.prog (convert 3 5 v23) fun v24 =>
  PRun Try.prog (Instr.fieldAt 96 v4 1) fun v25 =>
  QRun Try.prog (Instr.loadAt 3 v25) w5.drew fun v26 =>
  PRun Try.prog (binOp .shr 3 v26 (Value.int .u64 8)) fun v27 =>
  PRun Try.prog (convert 3 5 v27) fun v28 =>
  PRun Try.prog (Instr.fieldAt 96 v4 1) fun v29 =>
  QRun Try.prog (Instr.loadAt 3 v29) w5.drew fun v30 =>
  PRun Try.prog (convert 3 5 v30) fun v31 =>
  PRun Try.prog (binOp .shr 3 a1 (Value.int .u64 8)) fun v33 =>
  PRun Try.prog (convert 3 5 v33) fun v34 =>
  PRun Try.prog (convert 3 5 a1) fun v36 =>
  PRun Try.prog (convert 3 5 a2) fun v38 =>
  Run Try.prog (Instr.buildSlice 30 7 #[(0, v20), (1, v24), (2, v28), (3, v31), (4, v34), (5, v36), (6, v38)]) w5.drew fun v39 w6 =>
  Run Try.prog (Builtin.copy_ #[30, 30] 3 #[v16, v39]) w6 fun v40 w7 =>
  PRun Try.prog (Instr.sliceAt 128 v9 (some (Value.int .i64 23)) none none) fun v41 =>
  PRun Try.prog (Instr.sliceAt 25 v7 none none none) fun v42 =>
  Run Try.prog (Builtin.copy_ #[30, 30] 3 #[v41, v42]) w7.drew fun v43 w8 =>
  PRun Try.prog (Instr.sliceAt 128 v9 none none none) fun v44 =>
  CallF Try.prog 22 #[v44] w8 fun v45 w9 =>
  Run Try.prog (Instr.storeAt 25 v8 v45) w9 fun _ w10 =>
  QRun Try.prog (Instr.loadAt 25 v8) w10 fun v8_2 =>
  K v8_2 w10
def H72 : Hints := { n := 46, reg := [(0, ⟨[.e, .e, .e], [0, 0, 0]⟩), (1, ⟨[.e], [0]⟩), (2, ⟨[.p, .p, .p, .e, .p], [0, 0, 2, 7, 15]⟩), (3, ⟨[.p, .p, .p, .q, .p, .p, .p, .q, .p, .p, .p, .q, .p, .p, .p, .q, .p, .p, .p, .p, .p, .p, .p, .p, .e, .e], [0, 1, 0, 4, 12, 28, 0, 64, 192, 448, 0, 1024, 3072, 7168, 0, 16384, 49152, 0, 131072, 393216, 0, 1048576, 0, 4194304, 16777212, 33554431]⟩), (4, ⟨[.p, .p, .e], [0, 0, 3]⟩), (5, ⟨[.p, .e, .e], [0, 1, 3]⟩)], loop := [], join := [] }
noncomputable def C72 : Code := Try.f72.body.getD .skip
theorem E72 (a0 : Value) (a1 : Value) (a2 : Value) (a3 : Value) (K : Value → World → Prop) (w : World) : F72 a0 a1 a2 a3 K w = lift Try.prog H72 C72 (envOf [a0, a1, a2, a3] 0) w (fun E w => resV Try.prog H72.n E Try.f72.results.toList w fun vs => K (retV vs) w) [] (fun E w => resV Try.prog H72.n E Try.f72.results.toList w fun vs => K (retV vs) w) := by kernel_rfl
theorem R72 : regOk H72 C72 = true := by kernel_rfl
theorem B72 : Try.f72.body = some C72 := by kernel_rfl
theorem F72_ok (a0 : Value) (a1 : Value) (a2 : Value) (a3 : Value) (K : Value → World → Prop) (w : World) (h : F72 a0 a1 a2 a3 K w) : Calls Try.prog 72 #[a0, a1, a2, a3] w (retK K) :=
  lift_call mixed Try.func72 B72 Try.ntmps72 R72 (Nat.le_of_ble_eq_true rfl) (Eq.mp (E72 a0 a1 a2 a3 K w) h)
def F61x1 (v11_2 : Value) (a3 : Value) (v5 : Value) (w4 : World) (v9 : Value) (a1 : Value) (k1 : Value → World → Prop) (v10 : Value) (K : Value → World → Prop) : Prop :=
  PRun Try.prog (binOp .lss 3 v11_2 a3) fun v15 =>
  Branch v15 (
    QRun Try.prog (Instr.loadAt 96 v5) w4 fun v18 =>
    QRun Try.prog (Instr.loadAt 25 v9) w4 fun v21 =>
    CallF Try.prog 72 #[v18, a1, v11_2, v21] w4 fun v22 w5 =>
    Run Try.prog (Instr.storeAt 25 v9 v22) w5 fun _ w6 =>
    PRun Try.prog (binOp .add 3 v11_2 (Value.int .i64 1)) fun v17 =>
    k1 v17 w6
  ) (
    QRun Try.prog (Instr.loadAt 25 v9) w4 fun v23 =>
    Run Try.prog (Instr.storeAt 25 v10 v23) w4 fun _ w7 =>
    QRun Try.prog (Instr.loadAt 25 v10) w7 fun v10_2 =>
    K v10_2 w7
  )
/-- (lattice/ots.key).steps -/
def F61 (a0 : Value) (a1 : Value) (a2 : Value) (a3 : Value) (a4 : Value) (K : Value → World → Prop) (w : World) : Prop :=
  Run Try.prog (Instr.box 96 a0) w fun v5 w1 =>
  Run Try.prog (Instr.box 25 a4) w1 fun v9 w2 =>
  Run Try.prog (Instr.alloc 25 true (.tuple #[])) w2 fun v10 w3 =>
  LoopF 1 [a2] w3 fun v11_2 w4 k1 => ∀ _ : Env,
  F61x1 v11_2 a3 v5 w4 v9 a1 k1 v10 K
def H61 : Hints := { n := 24, reg := [(0, ⟨[.e, .e, .e], [0, 0, 0]⟩), (1, ⟨[.p, .p], [0, 1]⟩), (2, ⟨[.p, .p, .p], [0, 0, 3]⟩), (4, ⟨[.q, .p, .p, .q, .e, .e], [0, 0, 0, 0, 15, 31]⟩), (3, ⟨[.p, .p, .p], [0, 1, 3]⟩), (5, ⟨[.q, .e], [0, 1]⟩)], loop := [(2, [11])], join := [] }
noncomputable def C61 : Code := Try.f61.body.getD .skip
theorem E61 (a0 : Value) (a1 : Value) (a2 : Value) (a3 : Value) (a4 : Value) (K : Value → World → Prop) (w : World) : F61 a0 a1 a2 a3 a4 K w = lift Try.prog H61 C61 (envOf [a0, a1, a2, a3, a4] 0) w (fun E w => resV Try.prog H61.n E Try.f61.results.toList w fun vs => K (retV vs) w) [] (fun E w => resV Try.prog H61.n E Try.f61.results.toList w fun vs => K (retV vs) w) := by kernel_rfl
theorem R61 : regOk H61 C61 = true := by kernel_rfl
theorem B61 : Try.f61.body = some C61 := by kernel_rfl
theorem F61_ok (a0 : Value) (a1 : Value) (a2 : Value) (a3 : Value) (a4 : Value) (K : Value → World → Prop) (w : World) (h : F61 a0 a1 a2 a3 a4 K w) : Calls Try.prog 61 #[a0, a1, a2, a3, a4] w (retK K) :=
  lift_call mixed Try.func61 B61 Try.ntmps61 R61 (Nat.le_of_ble_eq_true rfl) (Eq.mp (E61 a0 a1 a2 a3 a4 K w) h)
def F58x1 (v31_2 : Value) (v30 : Value) (v9_3 : Value) (k2 : Value → Value → World → Prop) (w14 : World) (v27_2 : Value) (k1 : Value → Value → World → Prop) : Prop :=
  PRun Try.prog (binOp .lss 3 v31_2 (Value.int .i64 4)) fun v32 =>
  Branch v32 (
    PRun Try.prog (binOp .mul 3 (Value.int .i64 2) v31_2) fun v37 =>
    PRun Try.prog (binOp .shr 5 v30 v37) fun v38 =>
    PRun Try.prog (binOp .and 5 v38 (Value.int .u8 3)) fun v39 =>
    PRun Try.prog (convert 5 3 v39) fun v40 =>
    PRun Try.prog (binOp .sub 3 (Value.int .i64 3) v40) fun v41 =>
    PRun Try.prog (binOp .add 3 v9_3 v41) fun v42 =>
    PRun Try.prog (binOp .add 3 v31_2 (Value.int .i64 1)) fun v43 =>
    k2 v42 v43 w14
  ) (
    PRun Try.prog (binOp .add 3 v27_2 (Value.int .i64 1)) fun v44 =>
    k1 v9_3 v44 w14
  )
def F58x2 (v55_2 : Value) (v54 : Value) (w18 : World) (v13 : Value) (k3 : Value → World → Prop) : Prop :=
  PRun Try.prog (binOp .quo 3 v55_2 (Value.int .i64 4)) fun v61 =>
  PRun Try.prog (Instr.indexAt 30 v54 v61) fun v62 =>
  QRun Try.prog (Instr.loadAt 5 v62) w18 fun v63 =>
  PRun Try.prog (binOp .rem 3 v55_2 (Value.int .i64 4)) fun v65 =>
  PRun Try.prog (binOp .mul 3 (Value.int .i64 2) v65) fun v66 =>
  PRun Try.prog (binOp .sub 3 (Value.int .i64 6) v66) fun v67 =>
  PRun Try.prog (binOp .shr 5 v63 v67) fun v68 =>
  PRun Try.prog (binOp .and 5 v68 (Value.int .u8 3)) fun v69 =>
  PRun Try.prog (convert 5 3 v69) fun v70 =>
  PRun Try.prog (Instr.indexAt 91 v13 v55_2) fun v71 =>
  Run Try.prog (Instr.storeAt 3 v71 v70) w18 fun _ w19 =>
  PRun Try.prog (binOp .add 3 v55_2 (Value.int .i64 1)) fun v72 =>
  k3 v72 w19
def F58x3 (v9_2 : Value) (w13 : World) (v21 : Value) (v6 : Value) (K : Value → World → Prop) : Prop :=
  PRun Try.prog (binOp .mul 3 v9_2 (Value.int .i64 64)) fun v46 =>
  PRun Try.prog (binOp .shr 3 v46 (Value.int .u64 8)) fun v49 =>
  PRun Try.prog (convert 3 5 v49) fun v50 =>
  PRun Try.prog (convert 3 5 v46) fun v52 =>
  Run Try.prog (Instr.buildSlice 30 2 #[(0, v50), (1, v52)]) w13 fun v53 w15 =>
  Run Try.prog (Builtin.append_ #[30, 30] 30 #[v21, v53]) w15 fun v54 w16 =>
  Run Try.prog (Instr.alloc 91 true (.tuple #[])) w16 fun v13 w17 =>
  LoopF 1 [(Value.int .i64 0)] w17 fun v55_2 w18 k3 => ∀ _ : Env,
  PRun Try.prog (binOp .lss 3 v55_2 (Value.int .i64 133)) fun v56 =>
  Branch v56 (
    F58x2 v55_2 v54 w18 v13 k3
  ) (
    QRun Try.prog (Instr.loadAt 91 v13) w18 fun v73 =>
    Run Try.prog (Instr.storeAt 91 v6 v73) w18 fun _ w20 =>
    QRun Try.prog (Instr.loadAt 91 v6) w20 fun v6_2 =>
    K v6_2 w20
  )
def F58x4 (w10 : World) (v7 : Value) (v6 : Value) (K : Value → World → Prop) : Prop :=
  Run Try.prog (Instr.makeSlice 30 (Value.int .i64 32) (Value.int .i64 34)) w10 fun v21 w11 =>
  PRun Try.prog (Instr.sliceAt 25 v7 none none none) fun v23 =>
  Run Try.prog (Builtin.copy_ #[30, 30] 3 #[v21, v23]) w11 fun v24 w12 =>
  PRun Try.prog (Builtin.len_ #[30] 3 #[v21]) fun v26 =>
  LoopF 2 [(Value.int .i64 0), (Value.int .i64 0)] w12 fun v9_2 v27_2 w13 k1 => ∀ _ : Env,
  PRun Try.prog (binOp .lss 3 v27_2 v26) fun v28 =>
  Branch v28 (
    PRun Try.prog (Instr.indexAt 30 v21 v27_2) fun v29 =>
    QRun Try.prog (Instr.loadAt 5 v29) w13 fun v30 =>
    LoopF 2 [v9_2, (Value.int .i64 0)] w13 fun v9_3 v31_2 w14 k2 => ∀ _ : Env,
    F58x1 v31_2 v30 v9_3 k2 w14 v27_2 k1
  ) (
    F58x3 v9_2 w13 v21 v6 K
  )
def F58x5 (v15 : Value) (w4 : World) (v17 : Value) (a2 : Value) (v6 : Value) (K : Value → World → Prop) (v3 : Value) : Prop :=
  (
    CallF Try.prog 71 #[v15, (Value.int .i64 33153)] w4 fun v16 w5 =>
    (
      Run Try.prog (Builtin.append_ #[30, 30] 30 #[v16, v17]) w5 fun v18 w6 =>
      (
        CallF Try.prog 42 #[v18, a2] w6 fun v20 w7 =>
        Run Try.prog (Instr.alloc 25 true (.tuple #[])) w7 fun v7 w8 =>
        Run Try.prog (Instr.storeAt 25 v7 v20) w8 fun _ w9 =>
        F58x4 w9 v7 v6 K
      ) ∧
      (
        Run Try.prog (Instr.alloc 25 true (.tuple #[])) w6 fun v7_2 w21 =>
        CallF Try.prog 42 #[v18, a2] w21 fun v20_2 w22 =>
        Run Try.prog (Instr.storeAt 25 v7_2 v20_2) w22 fun _ w23 =>
        F58x4 w23 v7_2 v6 K
      )
    ) ∧
    (
      Run Try.prog (Instr.alloc 25 true (.tuple #[])) w5 fun v7_3 w35 =>
      Run Try.prog (Builtin.append_ #[30, 30] 30 #[v16, v17]) w35 fun v18_2 w36 =>
      CallF Try.prog 42 #[v18_2, a2] w36 fun v20_3 w37 =>
      Run Try.prog (Instr.storeAt 25 v7_3 v20_3) w37 fun _ w38 =>
      F58x4 w38 v7_3 v6 K
    )
  ) ∧
  (
    Run Try.prog (Instr.alloc 25 true (.tuple #[])) w4 fun v7_4 w50 =>
    (QRun Try.prog (Instr.loadAt 96 v3) w50 fun u => u = v15) ∧
    CallF Try.prog 71 #[v15, (Value.int .i64 33153)] w50 fun v16_2 w51 =>
    Run Try.prog (Builtin.append_ #[30, 30] 30 #[v16_2, v17]) w51 fun v18_3 w52 =>
    CallF Try.prog 42 #[v18_3, a2] w52 fun v20_4 w53 =>
    Run Try.prog (Instr.storeAt 25 v7_4 v20_4) w53 fun _ w54 =>
    F58x4 w54 v7_4 v6 K
  )
/-- (lattice/ots.key).digits -/
def F58 (a0 : Value) (a1 : Value) (a2 : Value) (K : Value → World → Prop) (w : World) : Prop :=
  Run Try.prog (Instr.box 96 a0) w fun v3 w1 =>
  Run Try.prog (Instr.box 25 a1) w1 fun v4 w2 =>
  Run Try.prog (Instr.alloc 91 true (.tuple #[])) w2 fun v6 w3 =>
  QRun Try.prog (Instr.loadAt 96 v3) w3.drew fun v15 =>
  PRun Try.prog (Instr.sliceAt 25 v4 none none none) fun v17 =>
  F58x5 v15 w3.drew v17 a2 v6 K v3
def H58 : Hints := { n := 74, reg := [(0, ⟨[.e, .e, .e], [0, 0, 0]⟩), (1, ⟨[.q, .e, .p, .e, .p, .e, .e, .e], [0, 1, 0, 7, 0, 31, 0, 127]⟩), (2, ⟨[.e, .p], [0, 1]⟩), (3, ⟨[.p, .p, .e], [0, 0, 3]⟩), (4, ⟨[.p], [0]⟩), (5, ⟨[.p, .p, .p], [0, 1, 0]⟩), (6, ⟨[.p], [0]⟩), (7, ⟨[.p, .q, .p], [0, 1, 3]⟩), (8, ⟨[.p], [0]⟩), (9, ⟨[.p], [0]⟩), (10, ⟨[.p, .p], [0, 1]⟩), (11, ⟨[.p, .p, .p, .p, .p, .p, .p, .p, .p, .p], [0, 0, 0, 4, 14, 30, 62, 126, 255, 511]⟩), (12, ⟨[.p, .p], [0, 1]⟩), (13, ⟨[.p, .p], [0, 1]⟩), (14, ⟨[.p, .p, .p], [0, 1, 3]⟩), (15, ⟨[.p, .p, .p, .p, .p, .p, .e, .e, .p], [0, 0, 2, 6, 0, 16, 62, 127, 255]⟩), (16, ⟨[.e], [0]⟩), (17, ⟨[.p], [0]⟩), (18, ⟨[.p], [0]⟩), (19, ⟨[.p, .p], [0, 1]⟩), (20, ⟨[.p, .p, .p, .p, .p, .q, .p, .p, .p, .p, .p, .p, .p, .p, .e], [0, 0, 0, 4, 14, 30, 0, 64, 192, 448, 1022, 2046, 4094, 8191, 16383]⟩), (21, ⟨[.p, .p], [0, 1]⟩), (22, ⟨[.q, .e], [0, 1]⟩)], loop := [(6, [9, 27]), (9, [9, 31]), (18, [55])], join := [] }
noncomputable def C58 : Code := Try.f58.body.getD .skip
theorem E58 (a0 : Value) (a1 : Value) (a2 : Value) (K : Value → World → Prop) (w : World) : F58 a0 a1 a2 K w = lift Try.prog H58 C58 (envOf [a0, a1, a2] 0) w (fun E w => resV Try.prog H58.n E Try.f58.results.toList w fun vs => K (retV vs) w) [] (fun E w => resV Try.prog H58.n E Try.f58.results.toList w fun vs => K (retV vs) w) := by kernel_rfl
theorem R58 : regOk H58 C58 = true := by kernel_rfl
theorem B58 : Try.f58.body = some C58 := by kernel_rfl
theorem F58_ok (a0 : Value) (a1 : Value) (a2 : Value) (K : Value → World → Prop) (w : World) (h : F58 a0 a1 a2 K w) : Calls Try.prog 58 #[a0, a1, a2] w (retK K) :=
  lift_call mixed Try.func58 B58 Try.ntmps58 R58 (Nat.le_of_ble_eq_true rfl) (Eq.mp (E58 a0 a1 a2 K w) h)
def F54x1 (v14_2 : Value) (v41 : Value) (w17 : World) (v13 : Value) (k2 : Value → World → Prop) (v8 : Value) (K : Value → World → Prop) : Prop :=
  PRun Try.prog (binOp .lss 3 v14_2 (Value.int .i64 133)) fun v43 =>
  Branch v43 (
    CallF Try.prog 70 #[v41, v14_2] w17 fun v49 w18 =>
    PRun Try.prog (Instr.indexAt 91 v13 v14_2) fun v50 =>
    Run Try.prog (Instr.storeAt 3 v50 v49) w18 fun _ w19 =>
    PRun Try.prog (binOp .add 3 v14_2 (Value.int .i64 1)) fun v45 =>
    k2 v45 w19
  ) (
    QRun Try.prog (Instr.loadAt 91 v13) w17 fun v51 =>
    Run Try.prog (Instr.storeAt 91 v8 v51) w17 fun _ w20 =>
    QRun Try.prog (Instr.loadAt 91 v8) w20 fun v8_2 =>
    K v8_2 w20
  )
def F54x2 (v12_2 : Value) (v11_2 : Value) (v27 : Value) (w13 : World) (k1 : Value → Value → World → Prop) (v8 : Value) (K : Value → World → Prop) : Prop :=
  PRun Try.prog (binOp .lss 3 v12_2 (Value.int .i64 128)) fun v29 =>
  Branch v29 (
    PRun Try.prog (binOp .add 3 v11_2 (Value.int .i64 3)) fun v33 =>
    CallF Try.prog 70 #[v27, v12_2] w13 fun v36 w14 =>
    PRun Try.prog (binOp .sub 3 v33 v36) fun v37 =>
    PRun Try.prog (binOp .add 3 v12_2 (Value.int .i64 1)) fun v31 =>
    k1 v37 v31 w14
  ) (
    PRun Try.prog (binOp .mul 3 (Value.int .i64 64) v11_2) fun v40 =>
    CallF Try.prog 52 #[v27, v40] w13 fun v41 w15 =>
    Run Try.prog (Instr.alloc 91 true (.tuple #[])) w15 fun v13 w16 =>
    LoopF 1 [(Value.int .i64 0)] w16 fun v14_2 w17 k2 => ∀ _ : Env,
    F54x1 v14_2 v41 w17 v13 k2 v8 K
  )
/-- lattice/latticeref5.digits -/
def F54 (a0 : Value) (a1 : Value) (a2 : Value) (a3 : Value) (K : Value → World → Prop) (w : World) : Prop :=
  Run Try.prog (Instr.box 49 a0) w fun v4 w1 =>
  Run Try.prog (Instr.alloc 91 true (.tuple #[])) w1 fun v8 w2 =>
  QRun Try.prog (Instr.loadAt 49 v4) w2 fun v15 =>
  CallF Try.prog 53 #[v15, a1] w2 fun v17 w3 =>
  Run Try.prog (Instr.buildSlice 30 2 #[(0, (Value.int .u8 129)), (1, (Value.int .u8 129))]) w3 fun v18 w4 =>
  Run Try.prog (Builtin.append_ #[30, 30] 30 #[v17, v18]) w4 fun v19 w5 =>
  Run Try.prog (Builtin.append_ #[30, 30] 30 #[v19, a2]) w5 fun v21 w6 =>
  Run Try.prog (Builtin.append_ #[30, 30] 30 #[v21, a3]) w6 fun v23 w7 =>
  CallF Try.prog 51 #[v23] w7 fun v24 w8 =>
  Run Try.prog (Instr.alloc 25 true (.tuple #[])) w8 fun v9 w9 =>
  Run Try.prog (Instr.storeAt 25 v9 v24) w9 fun _ w10 =>
  Run Try.prog (Instr.buildSlice 30 0 #[]) w10 fun v25 w11 =>
  PRun Try.prog (Instr.sliceAt 25 v9 none none none) fun v26 =>
  Run Try.prog (Builtin.append_ #[30, 30] 30 #[v25, v26]) w11 fun v27 w12 =>
  LoopF 2 [(Value.int .i64 0), (Value.int .i64 0)] w12 fun v11_2 v12_2 w13 k1 => ∀ _ : Env,
  F54x2 v12_2 v11_2 v27 w13 k1 v8 K
def H54 : Hints := { n := 52, reg := [(0, ⟨[.e, .e], [0, 0]⟩), (1, ⟨[.q, .p, .e, .e, .e, .p, .e, .p, .e, .e, .e, .e], [0, 0, 3, 0, 15, 0, 63, 0, 255, 511, 0, 2047]⟩), (2, ⟨[.e, .p, .e, .p], [0, 0, 3, 7]⟩), (3, ⟨[.p], [0]⟩), (4, ⟨[.p], [0]⟩), (5, ⟨[.p, .p], [0, 1]⟩), (7, ⟨[.p, .p, .p, .p, .e, .p, .p], [0, 1, 0, 0, 12, 31, 63]⟩), (6, ⟨[.p, .p, .p], [0, 1, 3]⟩), (8, ⟨[.p, .p, .p, .e, .p], [0, 0, 2, 7, 15]⟩), (9, ⟨[.e], [0]⟩), (10, ⟨[.p], [0]⟩), (11, ⟨[.p, .p], [0, 1]⟩), (13, ⟨[.p, .p, .p, .e, .p, .e], [0, 0, 0, 6, 15, 31]⟩), (12, ⟨[.p, .p, .p], [0, 1, 3]⟩), (14, ⟨[.q, .e], [0, 1]⟩)], loop := [(5, [11, 12]), (11, [14])], join := [] }
noncomputable def C54 : Code := Try.f54.body.getD .skip
theorem E54 (a0 : Value) (a1 : Value) (a2 : Value) (a3 : Value) (K : Value → World → Prop) (w : World) : F54 a0 a1 a2 a3 K w = lift Try.prog H54 C54 (envOf [a0, a1, a2, a3] 0) w (fun E w => resV Try.prog H54.n E Try.f54.results.toList w fun vs => K (retV vs) w) [] (fun E w => resV Try.prog H54.n E Try.f54.results.toList w fun vs => K (retV vs) w) := by kernel_rfl
theorem R54 : regOk H54 C54 = true := by kernel_rfl
theorem B54 : Try.f54.body = some C54 := by kernel_rfl
theorem F54_ok (a0 : Value) (a1 : Value) (a2 : Value) (a3 : Value) (K : Value → World → Prop) (w : World) (h : F54 a0 a1 a2 a3 K w) : Calls Try.prog 54 #[a0, a1, a2, a3] w (retK K) :=
  lift_call mixed Try.func54 B54 Try.ntmps54 R54 (Nat.le_of_ble_eq_true rfl) (Eq.mp (E54 a0 a1 a2 a3 K w) h)
def F50x1 (v9 : Value) (v7_2 : Value) (w13 : World) (v8_2 : Value) (k1 : Value → Value → World → Prop) : Prop :=
  PRun Try.prog (Instr.sliceAt 25 v9 none none none) fun v29 =>
  Run Try.prog (Builtin.append_ #[30, 30] 30 #[v7_2, v29]) w13 fun v30 w14 =>
  PRun Try.prog (binOp .add 3 v8_2 (Value.int .i64 1)) fun v18 =>
  k1 v30 v18 w14
def F50x2 (v22 : Value) (a1 : Value) (v8_2 : Value) (v25 : Value) (w8 : World) (v3 : Value) (v19 : Value) (v7_2 : Value) (k1 : Value → Value → World → Prop) (v5 : Value) : Prop :=
  (
    CallF Try.prog 57 #[v22, a1, v8_2, v25] w8 fun v26 w9 =>
    (QRun Try.prog (Instr.loadAt 49 v3) w9 fun u => u = v19) ∧
    (
      CallF Try.prog 56 #[v19, a1, v8_2, (Value.int .i64 0), (Value.int .i64 3), v26] w9 fun v27 w10 =>
      Run Try.prog (Instr.alloc 25 true (.tuple #[])) w10 fun v9 w11 =>
      Run Try.prog (Instr.storeAt 25 v9 v27) w11 fun _ w12 =>
      F50x1 v9 v7_2 w12 v8_2 k1
    ) ∧
    (
      Run Try.prog (Instr.alloc 25 true (.tuple #[])) w9 fun v9_2 w15 =>
      (QRun Try.prog (Instr.loadAt 49 v3) w15 fun u => u = v19) ∧
      CallF Try.prog 56 #[v19, a1, v8_2, (Value.int .i64 0), (Value.int .i64 3), v26] w15 fun v27_2 w16 =>
      Run Try.prog (Instr.storeAt 25 v9_2 v27_2) w16 fun _ w17 =>
      F50x1 v9_2 v7_2 w17 v8_2 k1
    )
  ) ∧
  (
    Run Try.prog (Instr.alloc 25 true (.tuple #[])) w8 fun v9_3 w20 =>
    (QRun Try.prog (Instr.loadAt 25 v5) w20 fun u => u = v25) ∧
    (QRun Try.prog (Instr.loadAt 49 v3) w20 fun u => u = v22) ∧
    (QRun Try.prog (Instr.loadAt 49 v3) w20 fun u => u = v19) ∧
    CallF Try.prog 57 #[v22, a1, v8_2, v25] w20 fun v26_2 w21 =>
    (QRun Try.prog (Instr.loadAt 49 v3) w21 fun u => u = v19) ∧
    CallF Try.prog 56 #[v19, a1, v8_2, (Value.int .i64 0), (Value.int .i64 3), v26_2] w21 fun v27_3 w22 =>
    Run Try.prog (Instr.storeAt 25 v9_3 v27_3) w22 fun _ w23 =>
    F50x1 v9_3 v7_2 w23 v8_2 k1
  )
def F50x3 (v8_2 : Value) (v3 : Value) (w7 : World) (v5 : Value) (a1 : Value) (v7_2 : Value) (k1 : Value → Value → World → Prop) (v6 : Value) (K : Value → World → Prop) : Prop :=
  PRun Try.prog (binOp .lss 3 v8_2 (Value.int .i64 133)) fun v16 =>
  Branch v16 (
    QRun Try.prog (Instr.loadAt 49 v3) w7.drew fun v19 =>
    QRun Try.prog (Instr.loadAt 49 v3) w7.drew fun v22 =>
    QRun Try.prog (Instr.loadAt 25 v5) w7.drew fun v25 =>
    F50x2 v22 a1 v8_2 v25 w7.drew v3 v19 v7_2 k1 v5
  ) (
    CallF Try.prog 51 #[v7_2] w7 fun v32 w26 =>
    Run Try.prog (Instr.storeAt 25 v6 v32) w26 fun _ w27 =>
    QRun Try.prog (Instr.loadAt 25 v6) w27 fun v6_2 =>
    K v6_2 w27
  )
/-- lattice/latticeref5.Public -/
def F50 (a0 : Value) (a1 : Value) (a2 : Value) (K : Value → World → Prop) (w : World) : Prop :=
  Run Try.prog (Instr.box 49 a0) w fun v3 w1 =>
  Run Try.prog (Instr.box 25 a2) w1 fun v5 w2 =>
  Run Try.prog (Instr.alloc 25 true (.tuple #[])) w2 fun v6 w3 =>
  QRun Try.prog (Instr.loadAt 49 v3) w3 fun v10 =>
  CallF Try.prog 53 #[v10, a1] w3 fun v12 w4 =>
  Run Try.prog (Instr.buildSlice 30 2 #[(0, (Value.int .u8 128)), (1, (Value.int .u8 128))]) w4 fun v13 w5 =>
  Run Try.prog (Builtin.append_ #[30, 30] 30 #[v12, v13]) w5 fun v14 w6 =>
  LoopF 2 [v14, (Value.int .i64 0)] w6 fun v7_2 v8_2 w7 k1 => ∀ _ : Env,
  F50x3 v8_2 v3 w7 v5 a1 v7_2 k1 v6 K
def H50 : Hints := { n := 33, reg := [(0, ⟨[.e, .e, .e], [0, 0, 0]⟩), (1, ⟨[.q, .p, .e, .e, .e, .p], [0, 0, 3, 0, 15, 31]⟩), (2, ⟨[.p], [0]⟩), (3, ⟨[.p, .p], [0, 1]⟩), (5, ⟨[.q, .p, .p, .q, .p, .p, .q, .e, .e, .e, .e], [0, 0, 0, 0, 0, 0, 0, 120, 255, 0, 1023]⟩), (6, ⟨[.p, .p, .e, .p], [0, 0, 3, 7]⟩), (4, ⟨[.p, .p, .p], [0, 1, 3]⟩), (7, ⟨[.p, .e, .e], [0, 1, 3]⟩)], loop := [(3, [7, 8])], join := [] }
noncomputable def C50 : Code := Try.f50.body.getD .skip
theorem E50 (a0 : Value) (a1 : Value) (a2 : Value) (K : Value → World → Prop) (w : World) : F50 a0 a1 a2 K w = lift Try.prog H50 C50 (envOf [a0, a1, a2] 0) w (fun E w => resV Try.prog H50.n E Try.f50.results.toList w fun vs => K (retV vs) w) [] (fun E w => resV Try.prog H50.n E Try.f50.results.toList w fun vs => K (retV vs) w) := by kernel_rfl
theorem R50 : regOk H50 C50 = true := by kernel_rfl
theorem B50 : Try.f50.body = some C50 := by kernel_rfl
theorem F50_ok (a0 : Value) (a1 : Value) (a2 : Value) (K : Value → World → Prop) (w : World) (h : F50 a0 a1 a2 K w) : Calls Try.prog 50 #[a0, a1, a2] w (retK K) :=
  lift_call mixed Try.func50 B50 Try.ntmps50 R50 (Nat.le_of_ble_eq_true rfl) (Eq.mp (E50 a0 a1 a2 K w) h)
def F34x1 (v13 : Value) (v11_2 : Value) (w26 : World) (v12_2 : Value) (k1 : Value → Value → World → Prop) : Prop :=
  PRun Try.prog (Instr.sliceAt 25 v13 none none none) fun v48 =>
  Run Try.prog (Builtin.append_ #[30, 30] 30 #[v11_2, v48]) w26 fun v49 w27 =>
  PRun Try.prog (binOp .add 3 v12_2 (Value.int .i64 1)) fun v34 =>
  k1 v49 v34 w27
def F34x2 (v41 : Value) (a1 : Value) (v12_2 : Value) (v44 : Value) (w21 : World) (v39 : Value) (v40 : Value) (v4 : Value) (v35 : Value) (v11_2 : Value) (k1 : Value → Value → World → Prop) (v6 : Value) : Prop :=
  (
    CallF Try.prog 57 #[v41, a1, v12_2, v44] w21 fun v45 w22 =>
    (QRun Try.prog (Instr.loadAt 3 v39) w22 fun u => u = v40) ∧
    (QRun Try.prog (Instr.loadAt 49 v4) w22 fun u => u = v35) ∧
    (
      CallF Try.prog 56 #[v35, a1, v12_2, (Value.int .i64 0), v40, v45] w22 fun v46 w23 =>
      Run Try.prog (Instr.alloc 25 true (.tuple #[])) w23 fun v13 w24 =>
      Run Try.prog (Instr.storeAt 25 v13 v46) w24 fun _ w25 =>
      F34x1 v13 v11_2 w25 v12_2 k1
    ) ∧
    (
      Run Try.prog (Instr.alloc 25 true (.tuple #[])) w22 fun v13_2 w28 =>
      (QRun Try.prog (Instr.loadAt 3 v39) w28 fun u => u = v40) ∧
      (QRun Try.prog (Instr.loadAt 49 v4) w28 fun u => u = v35) ∧
      CallF Try.prog 56 #[v35, a1, v12_2, (Value.int .i64 0), v40, v45] w28 fun v46_2 w29 =>
      Run Try.prog (Instr.storeAt 25 v13_2 v46_2) w29 fun _ w30 =>
      F34x1 v13_2 v11_2 w30 v12_2 k1
    )
  ) ∧
  (
    Run Try.prog (Instr.alloc 25 true (.tuple #[])) w21 fun v13_3 w33 =>
    (QRun Try.prog (Instr.loadAt 25 v6) w33 fun u => u = v44) ∧
    (QRun Try.prog (Instr.loadAt 49 v4) w33 fun u => u = v41) ∧
    (QRun Try.prog (Instr.loadAt 3 v39) w33 fun u => u = v40) ∧
    (QRun Try.prog (Instr.loadAt 49 v4) w33 fun u => u = v35) ∧
    CallF Try.prog 57 #[v41, a1, v12_2, v44] w33 fun v45_2 w34 =>
    (QRun Try.prog (Instr.loadAt 3 v39) w34 fun u => u = v40) ∧
    (QRun Try.prog (Instr.loadAt 49 v4) w34 fun u => u = v35) ∧
    CallF Try.prog 56 #[v35, a1, v12_2, (Value.int .i64 0), v40, v45_2] w34 fun v46_3 w35 =>
    Run Try.prog (Instr.storeAt 25 v13_3 v46_3) w35 fun _ w36 =>
    F34x1 v13_3 v11_2 w36 v12_2 k1
  )
def F34x3 (v9 : Value) (w17 : World) (v4 : Value) (v10 : Value) (v6 : Value) (a1 : Value) (K : Value → World → Prop) : Prop :=
  PRun Try.prog (Instr.sliceAt 25 v9 none none none) fun v29 =>
  CallF Try.prog 55 #[(Value.slice none 0 0), (Value.int .i64 2)] w17.drew fun v28 w18 =>
  Run Try.prog (Builtin.append_ #[30, 30] 30 #[v28, v29]) w18 fun v30 w19 =>
  LoopF 2 [v30, (Value.int .i64 0)] w19 fun v11_2 v12_2 w20 k1 => ∀ _ : Env,
  PRun Try.prog (binOp .lss 3 v12_2 (Value.int .i64 133)) fun v32 =>
  Branch v32 (
    QRun Try.prog (Instr.loadAt 49 v4) w20.drew fun v35 =>
    PRun Try.prog (Instr.indexAt 91 v10 v12_2) fun v39 =>
    QRun Try.prog (Instr.loadAt 3 v39) w20.drew fun v40 =>
    QRun Try.prog (Instr.loadAt 49 v4) w20.drew fun v41 =>
    QRun Try.prog (Instr.loadAt 25 v6) w20.drew fun v44 =>
    F34x2 v41 a1 v12_2 v44 w20.drew v39 v40 v4 v35 v11_2 k1 v6
  ) (
    K v11_2 w20
  )
def F34x4 (v23 : Value) (a1 : Value) (v25 : Value) (a3 : Value) (w13 : World) (v9 : Value) (v4 : Value) (v6 : Value) (K : Value → World → Prop) : Prop :=
  (
    CallF Try.prog 54 #[v23, a1, v25, a3] w13 fun v27 w14 =>
    Run Try.prog (Instr.alloc 91 true (.tuple #[])) w14 fun v10 w15 =>
    Run Try.prog (Instr.storeAt 91 v10 v27) w15 fun _ w16 =>
    F34x3 v9 w16 v4 v10 v6 a1 K
  ) ∧
  (
    Run Try.prog (Instr.alloc 91 true (.tuple #[])) w13 fun v10_2 w39 =>
    (QRun Try.prog (Instr.loadAt 49 v4) w39 fun u => u = v23) ∧
    CallF Try.prog 54 #[v23, a1, v25, a3] w39 fun v27_2 w40 =>
    Run Try.prog (Instr.storeAt 91 v10_2 v27_2) w40 fun _ w41 =>
    F34x3 v9 w41 v4 v10_2 v6 a1 K
  )
def F34x5 (v4 : Value) (w12 : World) (v9 : Value) (a1 : Value) (a3 : Value) (v6 : Value) (K : Value → World → Prop) : Prop :=
  QRun Try.prog (Instr.loadAt 49 v4) w12.drew fun v23 =>
  PRun Try.prog (Instr.sliceAt 25 v9 none none none) fun v25 =>
  F34x4 v23 a1 v25 a3 w12.drew v9 v4 v6 K
def F34x6 (v14 : Value) (a1 : Value) (w3 : World) (v20 : Value) (v4 : Value) (a3 : Value) (v6 : Value) (K : Value → World → Prop) : Prop :=
  (
    CallF Try.prog 53 #[v14, a1] w3 fun v16 w4 =>
    (
      CallF Try.prog 52 #[v16, (Value.int .i64 65533)] w4 fun v17 w5 =>
      (
        Run Try.prog (Instr.buildSlice 30 1 #[(0, (Value.int .u8 255))]) w5 fun v18 w6 =>
        (
          Run Try.prog (Builtin.append_ #[30, 30] 30 #[v17, v18]) w6 fun v19 w7 =>
          (
            Run Try.prog (Builtin.append_ #[30, 30] 30 #[v19, v20]) w7 fun v21 w8 =>
            (
              CallF Try.prog 51 #[v21] w8 fun v22 w9 =>
              Run Try.prog (Instr.alloc 25 true (.tuple #[])) w9 fun v9 w10 =>
              Run Try.prog (Instr.storeAt 25 v9 v22) w10 fun _ w11 =>
              F34x5 v4 w11 v9 a1 a3 v6 K
            ) ∧
            (
              Run Try.prog (Instr.alloc 25 true (.tuple #[])) w8 fun v9_2 w64 =>
              CallF Try.prog 51 #[v21] w64 fun v22_2 w65 =>
              Run Try.prog (Instr.storeAt 25 v9_2 v22_2) w65 fun _ w66 =>
              F34x5 v4 w66 v9_2 a1 a3 v6 K
            )
          ) ∧
          (
            Run Try.prog (Instr.alloc 25 true (.tuple #[])) w7 fun v9_3 w119 =>
            Run Try.prog (Builtin.append_ #[30, 30] 30 #[v19, v20]) w119 fun v21_2 w120 =>
            CallF Try.prog 51 #[v21_2] w120 fun v22_3 w121 =>
            Run Try.prog (Instr.storeAt 25 v9_3 v22_3) w121 fun _ w122 =>
            F34x5 v4 w122 v9_3 a1 a3 v6 K
          )
        ) ∧
        (
          Run Try.prog (Instr.alloc 25 true (.tuple #[])) w6 fun v9_4 w175 =>
          Run Try.prog (Builtin.append_ #[30, 30] 30 #[v17, v18]) w175 fun v19_2 w176 =>
          Run Try.prog (Builtin.append_ #[30, 30] 30 #[v19_2, v20]) w176 fun v21_3 w177 =>
          CallF Try.prog 51 #[v21_3] w177 fun v22_4 w178 =>
          Run Try.prog (Instr.storeAt 25 v9_4 v22_4) w178 fun _ w179 =>
          F34x5 v4 w179 v9_4 a1 a3 v6 K
        )
      ) ∧
      (
        Run Try.prog (Instr.alloc 25 true (.tuple #[])) w5 fun v9_5 w232 =>
        Run Try.prog (Instr.buildSlice 30 1 #[(0, (Value.int .u8 255))]) w232 fun v18_2 w233 =>
        Run Try.prog (Builtin.append_ #[30, 30] 30 #[v17, v18_2]) w233 fun v19_3 w234 =>
        Run Try.prog (Builtin.append_ #[30, 30] 30 #[v19_3, v20]) w234 fun v21_4 w235 =>
        CallF Try.prog 51 #[v21_4] w235 fun v22_5 w236 =>
        Run Try.prog (Instr.storeAt 25 v9_5 v22_5) w236 fun _ w237 =>
        F34x5 v4 w237 v9_5 a1 a3 v6 K
      )
    ) ∧
    (
      Run Try.prog (Instr.buildSlice 30 1 #[(0, (Value.int .u8 255))]) w4 fun v18_3 w290 =>
      (
        CallF Try.prog 52 #[v16, (Value.int .i64 65533)] w290 fun v17_2 w291 =>
        (
          Run Try.prog (Builtin.append_ #[30, 30] 30 #[v17_2, v18_3]) w291 fun v19_4 w292 =>
          (
            Run Try.prog (Builtin.append_ #[30, 30] 30 #[v19_4, v20]) w292 fun v21_5 w293 =>
            (
              CallF Try.prog 51 #[v21_5] w293 fun v22_6 w294 =>
              Run Try.prog (Instr.alloc 25 true (.tuple #[])) w294 fun v9_6 w295 =>
              Run Try.prog (Instr.storeAt 25 v9_6 v22_6) w295 fun _ w296 =>
              F34x5 v4 w296 v9_6 a1 a3 v6 K
            ) ∧
            (
              Run Try.prog (Instr.alloc 25 true (.tuple #[])) w293 fun v9_7 w349 =>
              CallF Try.prog 51 #[v21_5] w349 fun v22_7 w350 =>
              Run Try.prog (Instr.storeAt 25 v9_7 v22_7) w350 fun _ w351 =>
              F34x5 v4 w351 v9_7 a1 a3 v6 K
            )
          ) ∧
          (
            Run Try.prog (Instr.alloc 25 true (.tuple #[])) w292 fun v9_8 w404 =>
            Run Try.prog (Builtin.append_ #[30, 30] 30 #[v19_4, v20]) w404 fun v21_6 w405 =>
            CallF Try.prog 51 #[v21_6] w405 fun v22_8 w406 =>
            Run Try.prog (Instr.storeAt 25 v9_8 v22_8) w406 fun _ w407 =>
            F34x5 v4 w407 v9_8 a1 a3 v6 K
          )
        ) ∧
        (
          Run Try.prog (Instr.alloc 25 true (.tuple #[])) w291 fun v9_9 w460 =>
          Run Try.prog (Builtin.append_ #[30, 30] 30 #[v17_2, v18_3]) w460 fun v19_5 w461 =>
          Run Try.prog (Builtin.append_ #[30, 30] 30 #[v19_5, v20]) w461 fun v21_7 w462 =>
          CallF Try.prog 51 #[v21_7] w462 fun v22_9 w463 =>
          Run Try.prog (Instr.storeAt 25 v9_9 v22_9) w463 fun _ w464 =>
          F34x5 v4 w464 v9_9 a1 a3 v6 K
        )
      ) ∧
      (
        Run Try.prog (Instr.alloc 25 true (.tuple #[])) w290 fun v9_10 w517 =>
        CallF Try.prog 52 #[v16, (Value.int .i64 65533)] w517 fun v17_3 w518 =>
        Run Try.prog (Builtin.append_ #[30, 30] 30 #[v17_3, v18_3]) w518 fun v19_6 w519 =>
        Run Try.prog (Builtin.append_ #[30, 30] 30 #[v19_6, v20]) w519 fun v21_8 w520 =>
        CallF Try.prog 51 #[v21_8] w520 fun v22_10 w521 =>
        Run Try.prog (Instr.storeAt 25 v9_10 v22_10) w521 fun _ w522 =>
        F34x5 v4 w522 v9_10 a1 a3 v6 K
      )
    ) ∧
    (
      Run Try.prog (Instr.alloc 25 true (.tuple #[])) w4 fun v9_11 w575 =>
      (
        CallF Try.prog 52 #[v16, (Value.int .i64 65533)] w575 fun v17_4 w576 =>
        Run Try.prog (Instr.buildSlice 30 1 #[(0, (Value.int .u8 255))]) w576 fun v18_4 w577 =>
        Run Try.prog (Builtin.append_ #[30, 30] 30 #[v17_4, v18_4]) w577 fun v19_7 w578 =>
        Run Try.prog (Builtin.append_ #[30, 30] 30 #[v19_7, v20]) w578 fun v21_9 w579 =>
        CallF Try.prog 51 #[v21_9] w579 fun v22_11 w580 =>
        Run Try.prog (Instr.storeAt 25 v9_11 v22_11) w580 fun _ w581 =>
        F34x5 v4 w581 v9_11 a1 a3 v6 K
      ) ∧
      (
        Run Try.prog (Instr.buildSlice 30 1 #[(0, (Value.int .u8 255))]) w575 fun v18_5 w634 =>
        CallF Try.prog 52 #[v16, (Value.int .i64 65533)] w634 fun v17_5 w635 =>
        Run Try.prog (Builtin.append_ #[30, 30] 30 #[v17_5, v18_5]) w635 fun v19_8 w636 =>
        Run Try.prog (Builtin.append_ #[30, 30] 30 #[v19_8, v20]) w636 fun v21_10 w637 =>
        CallF Try.prog 51 #[v21_10] w637 fun v22_12 w638 =>
        Run Try.prog (Instr.storeAt 25 v9_11 v22_12) w638 fun _ w639 =>
        F34x5 v4 w639 v9_11 a1 a3 v6 K
      )
    )
  ) ∧
  (
    Run Try.prog (Instr.buildSlice 30 1 #[(0, (Value.int .u8 255))]) w3 fun v18_6 w692 =>
    (QRun Try.prog (Instr.loadAt 49 v4) w692 fun u => u = v14) ∧
    (
      CallF Try.prog 53 #[v14, a1] w692 fun v16_2 w693 =>
      (
        CallF Try.prog 52 #[v16_2, (Value.int .i64 65533)] w693 fun v17_6 w694 =>
        (
          Run Try.prog (Builtin.append_ #[30, 30] 30 #[v17_6, v18_6]) w694 fun v19_9 w695 =>
          (
            Run Try.prog (Builtin.append_ #[30, 30] 30 #[v19_9, v20]) w695 fun v21_11 w696 =>
            (
              CallF Try.prog 51 #[v21_11] w696 fun v22_13 w697 =>
              Run Try.prog (Instr.alloc 25 true (.tuple #[])) w697 fun v9_12 w698 =>
              Run Try.prog (Instr.storeAt 25 v9_12 v22_13) w698 fun _ w699 =>
              F34x5 v4 w699 v9_12 a1 a3 v6 K
            ) ∧
            (
              Run Try.prog (Instr.alloc 25 true (.tuple #[])) w696 fun v9_13 w752 =>
              CallF Try.prog 51 #[v21_11] w752 fun v22_14 w753 =>
              Run Try.prog (Instr.storeAt 25 v9_13 v22_14) w753 fun _ w754 =>
              F34x5 v4 w754 v9_13 a1 a3 v6 K
            )
          ) ∧
          (
            Run Try.prog (Instr.alloc 25 true (.tuple #[])) w695 fun v9_14 w807 =>
            Run Try.prog (Builtin.append_ #[30, 30] 30 #[v19_9, v20]) w807 fun v21_12 w808 =>
            CallF Try.prog 51 #[v21_12] w808 fun v22_15 w809 =>
            Run Try.prog (Instr.storeAt 25 v9_14 v22_15) w809 fun _ w810 =>
            F34x5 v4 w810 v9_14 a1 a3 v6 K
          )
        ) ∧
        (
          Run Try.prog (Instr.alloc 25 true (.tuple #[])) w694 fun v9_15 w863 =>
          Run Try.prog (Builtin.append_ #[30, 30] 30 #[v17_6, v18_6]) w863 fun v19_10 w864 =>
          Run Try.prog (Builtin.append_ #[30, 30] 30 #[v19_10, v20]) w864 fun v21_13 w865 =>
          CallF Try.prog 51 #[v21_13] w865 fun v22_16 w866 =>
          Run Try.prog (Instr.storeAt 25 v9_15 v22_16) w866 fun _ w867 =>
          F34x5 v4 w867 v9_15 a1 a3 v6 K
        )
      ) ∧
      (
        Run Try.prog (Instr.alloc 25 true (.tuple #[])) w693 fun v9_16 w920 =>
        CallF Try.prog 52 #[v16_2, (Value.int .i64 65533)] w920 fun v17_7 w921 =>
        Run Try.prog (Builtin.append_ #[30, 30] 30 #[v17_7, v18_6]) w921 fun v19_11 w922 =>
        Run Try.prog (Builtin.append_ #[30, 30] 30 #[v19_11, v20]) w922 fun v21_14 w923 =>
        CallF Try.prog 51 #[v21_14] w923 fun v22_17 w924 =>
        Run Try.prog (Instr.storeAt 25 v9_16 v22_17) w924 fun _ w925 =>
        F34x5 v4 w925 v9_16 a1 a3 v6 K
      )
    ) ∧
    (
      Run Try.prog (Instr.alloc 25 true (.tuple #[])) w692 fun v9_17 w978 =>
      (QRun Try.prog (Instr.loadAt 49 v4) w978 fun u => u = v14) ∧
      CallF Try.prog 53 #[v14, a1] w978 fun v16_3 w979 =>
      CallF Try.prog 52 #[v16_3, (Value.int .i64 65533)] w979 fun v17_8 w980 =>
      Run Try.prog (Builtin.append_ #[30, 30] 30 #[v17_8, v18_6]) w980 fun v19_12 w981 =>
      Run Try.prog (Builtin.append_ #[30, 30] 30 #[v19_12, v20]) w981 fun v21_15 w982 =>
      CallF Try.prog 51 #[v21_15] w982 fun v22_18 w983 =>
      Run Try.prog (Instr.storeAt 25 v9_17 v22_18) w983 fun _ w984 =>
      F34x5 v4 w984 v9_17 a1 a3 v6 K
    )
  ) ∧
  (
    Run Try.prog (Instr.alloc 25 true (.tuple #[])) w3 fun v9_18 w1037 =>
    (QRun Try.prog (Instr.loadAt 49 v4) w1037 fun u => u = v14) ∧
    (
      CallF Try.prog 53 #[v14, a1] w1037 fun v16_4 w1038 =>
      (
        CallF Try.prog 52 #[v16_4, (Value.int .i64 65533)] w1038 fun v17_9 w1039 =>
        Run Try.prog (Instr.buildSlice 30 1 #[(0, (Value.int .u8 255))]) w1039 fun v18_7 w1040 =>
        Run Try.prog (Builtin.append_ #[30, 30] 30 #[v17_9, v18_7]) w1040 fun v19_13 w1041 =>
        Run Try.prog (Builtin.append_ #[30, 30] 30 #[v19_13, v20]) w1041 fun v21_16 w1042 =>
        CallF Try.prog 51 #[v21_16] w1042 fun v22_19 w1043 =>
        Run Try.prog (Instr.storeAt 25 v9_18 v22_19) w1043 fun _ w1044 =>
        F34x5 v4 w1044 v9_18 a1 a3 v6 K
      ) ∧
      (
        Run Try.prog (Instr.buildSlice 30 1 #[(0, (Value.int .u8 255))]) w1038 fun v18_8 w1097 =>
        CallF Try.prog 52 #[v16_4, (Value.int .i64 65533)] w1097 fun v17_10 w1098 =>
        Run Try.prog (Builtin.append_ #[30, 30] 30 #[v17_10, v18_8]) w1098 fun v19_14 w1099 =>
        Run Try.prog (Builtin.append_ #[30, 30] 30 #[v19_14, v20]) w1099 fun v21_17 w1100 =>
        CallF Try.prog 51 #[v21_17] w1100 fun v22_20 w1101 =>
        Run Try.prog (Instr.storeAt 25 v9_18 v22_20) w1101 fun _ w1102 =>
        F34x5 v4 w1102 v9_18 a1 a3 v6 K
      )
    ) ∧
    (
      Run Try.prog (Instr.buildSlice 30 1 #[(0, (Value.int .u8 255))]) w1037 fun v18_9 w1155 =>
      (QRun Try.prog (Instr.loadAt 49 v4) w1155 fun u => u = v14) ∧
      CallF Try.prog 53 #[v14, a1] w1155 fun v16_5 w1156 =>
      CallF Try.prog 52 #[v16_5, (Value.int .i64 65533)] w1156 fun v17_11 w1157 =>
      Run Try.prog (Builtin.append_ #[30, 30] 30 #[v17_11, v18_9]) w1157 fun v19_15 w1158 =>
      Run Try.prog (Builtin.append_ #[30, 30] 30 #[v19_15, v20]) w1158 fun v21_18 w1159 =>
      CallF Try.prog 51 #[v21_18] w1159 fun v22_21 w1160 =>
      Run Try.prog (Instr.storeAt 25 v9_18 v22_21) w1160 fun _ w1161 =>
      F34x5 v4 w1161 v9_18 a1 a3 v6 K
    )
  )
/-- lattice/latticeref5.Sign -/
def F34 (a0 : Value) (a1 : Value) (a2 : Value) (a3 : Value) (K : Value → World → Prop) (w : World) : Prop :=
  Run Try.prog (Instr.box 49 a0) w fun v4 w1 =>
  Run Try.prog (Instr.box 25 a2) w1 fun v6 w2 =>
  QRun Try.prog (Instr.loadAt 49 v4) w2.drew fun v14 =>
  PRun Try.prog (Instr.sliceAt 25 v6 none none none) fun v20 =>
  F34x6 v14 a1 w2.drew v20 v4 a3 v6 K
def H34 : Hints := { n := 51, reg := [(0, ⟨[.e, .e, .p], [0, 0, 0]⟩), (1, ⟨[.q, .p, .e, .e, .e, .e, .p, .e, .e, .e, .e], [0, 0, 3, 7, 0, 31, 0, 127, 255, 0, 1023]⟩), (2, ⟨[.q, .p, .p, .p, .e, .e, .e], [0, 0, 0, 0, 15, 0, 63]⟩), (3, ⟨[.e, .p, .e, .p], [0, 0, 3, 7]⟩), (4, ⟨[.p], [0]⟩), (5, ⟨[.p, .p], [0, 1]⟩), (7, ⟨[.q, .p, .p, .p, .p, .q, .q, .p, .p, .q, .e, .e, .e, .e], [0, 0, 0, 0, 8, 24, 0, 0, 0, 0, 960, 2047, 0, 8191]⟩), (8, ⟨[.p, .p, .e, .p], [0, 0, 3, 7]⟩), (6, ⟨[.p, .p, .p], [0, 1, 3]⟩), (9, ⟨[.p, .p], [0, 1]⟩)], loop := [(5, [11, 12])], join := [] }
noncomputable def C34 : Code := Try.f34.body.getD .skip
theorem E34 (a0 : Value) (a1 : Value) (a2 : Value) (a3 : Value) (K : Value → World → Prop) (w : World) : F34 a0 a1 a2 a3 K w = lift Try.prog H34 C34 (envOf [a0, a1, a2, a3] 0) w (fun E w => resV Try.prog H34.n E Try.f34.results.toList w fun vs => K (retV vs) w) [] (fun E w => resV Try.prog H34.n E Try.f34.results.toList w fun vs => K (retV vs) w) := by kernel_rfl
theorem R34 : regOk H34 C34 = true := by kernel_rfl
theorem B34 : Try.f34.body = some C34 := by kernel_rfl
theorem F34_ok (a0 : Value) (a1 : Value) (a2 : Value) (a3 : Value) (K : Value → World → Prop) (w : World) (h : F34 a0 a1 a2 a3 K w) : Calls Try.prog 34 #[a0, a1, a2, a3] w (retK K) :=
  lift_call mixed Try.func34 B34 Try.ntmps34 R34 (Nat.le_of_ble_eq_true rfl) (Eq.mp (E34 a0 a1 a2 a3 K w) h)
def F48x1 (v15 : Value) (v11_2 : Value) (w21 : World) (v12_2 : Value) (k1 : Value → Value → World → Prop) : Prop :=
  PRun Try.prog (Instr.sliceAt 25 v15 none none none) fun v66 =>
  Run Try.prog (Builtin.append_ #[30, 30] 30 #[v11_2, v66]) w21 fun v67 w22 =>
  PRun Try.prog (binOp .add 3 v12_2 (Value.int .i64 1)) fun v42 =>
  k1 v67 v42 w22
def F48x2 (v57 : Value) (a1 : Value) (v12_2 : Value) (v62 : Value) (v63 : Value) (w17 : World) (v11_2 : Value) (k1 : Value → Value → World → Prop) (v13 : Value) (v61 : Value) (v4 : Value) : Prop :=
  (
    CallF Try.prog 56 #[v57, a1, v12_2, v62, (Value.int .i64 3), v63] w17 fun v64 w18 =>
    Run Try.prog (Instr.alloc 25 true (.tuple #[])) w18 fun v15 w19 =>
    Run Try.prog (Instr.storeAt 25 v15 v64) w19 fun _ w20 =>
    F48x1 v15 v11_2 w20 v12_2 k1
  ) ∧
  (
    Run Try.prog (Instr.alloc 25 true (.tuple #[])) w17 fun v15_2 w23 =>
    (QRun Try.prog (Instr.loadAt 25 v13) w23 fun u => u = v63) ∧
    (QRun Try.prog (Instr.loadAt 3 v61) w23 fun u => u = v62) ∧
    (QRun Try.prog (Instr.loadAt 49 v4) w23 fun u => u = v57) ∧
    CallF Try.prog 56 #[v57, a1, v12_2, v62, (Value.int .i64 3), v63] w23 fun v64_2 w24 =>
    Run Try.prog (Instr.storeAt 25 v15_2 v64_2) w24 fun _ w25 =>
    F48x1 v15_2 v11_2 w25 v12_2 k1
  )
def F48x3 (v14_2 : Value) (v12_2 : Value) (a3 : Value) (w15 : World) (v13 : Value) (k2 : Value → World → Prop) (v4 : Value) (v10 : Value) (a1 : Value) (v11_2 : Value) (k1 : Value → Value → World → Prop) : Prop :=
  PRun Try.prog (binOp .lss 3 v14_2 (Value.int .i64 32)) fun v44 =>
  Branch v44 (
    PRun Try.prog (binOp .mul 3 (Value.int .i64 32) v12_2) fun v50 =>
    PRun Try.prog (binOp .add 3 (Value.int .i64 36) v50) fun v51 =>
    PRun Try.prog (binOp .add 3 v51 v14_2) fun v53 =>
    PRun Try.prog (Instr.indexAt 30 a3 v53) fun v54 =>
    QRun Try.prog (Instr.loadAt 5 v54) w15 fun v55 =>
    PRun Try.prog (Instr.indexAt 25 v13 v14_2) fun v56 =>
    Run Try.prog (Instr.storeAt 5 v56 v55) w15 fun _ w16 =>
    PRun Try.prog (binOp .add 3 v14_2 (Value.int .i64 1)) fun v46 =>
    k2 v46 w16
  ) (
    QRun Try.prog (Instr.loadAt 49 v4) w15.drew fun v57 =>
    PRun Try.prog (Instr.indexAt 91 v10 v12_2) fun v61 =>
    QRun Try.prog (Instr.loadAt 3 v61) w15.drew fun v62 =>
    QRun Try.prog (Instr.loadAt 25 v13) w15.drew fun v63 =>
    F48x2 v57 a1 v12_2 v62 v63 w15.drew v11_2 k1 v13 v61 v4
  )
def F48x4 (v4 : Value) (w9 : World) (a1 : Value) (a3 : Value) (v10 : Value) (v8 : Value) (K : Value → World → Prop) : Prop :=
  QRun Try.prog (Instr.loadAt 49 v4) w9 fun v34 =>
  CallF Try.prog 53 #[v34, a1] w9 fun v36 w10 =>
  Run Try.prog (Instr.buildSlice 30 2 #[(0, (Value.int .u8 128)), (1, (Value.int .u8 128))]) w10 fun v37 w11 =>
  Run Try.prog (Builtin.append_ #[30, 30] 30 #[v36, v37]) w11 fun v38 w12 =>
  LoopF 2 [v38, (Value.int .i64 0)] w12 fun v11_2 v12_2 w13 k1 => ∀ _ : Env,
  PRun Try.prog (binOp .lss 3 v12_2 (Value.int .i64 133)) fun v40 =>
  Branch v40 (
    Run Try.prog (Instr.alloc 25 true (.tuple #[])) w13 fun v13 w14 =>
    LoopF 1 [(Value.int .i64 0)] w14 fun v14_2 w15 k2 => ∀ _ : Env,
    F48x3 v14_2 v12_2 a3 w15 v13 k2 v4 v10 a1 v11_2 k1
  ) (
    CallF Try.prog 51 #[v11_2] w13 fun v69 w28 =>
    Run Try.prog (Instr.storeAt 25 v8 v69) w28 fun _ w29 =>
    QRun Try.prog (Instr.loadAt 25 v8) w29 fun v8_3 =>
    K (Value.tuple #[v8_3, (Value.int .i64 0)]) w29
  )
def F48x5 (v28 : Value) (a1 : Value) (v31 : Value) (a2 : Value) (w5 : World) (v4 : Value) (a3 : Value) (v8 : Value) (K : Value → World → Prop) : Prop :=
  (
    CallF Try.prog 54 #[v28, a1, v31, a2] w5 fun v33 w6 =>
    Run Try.prog (Instr.alloc 91 true (.tuple #[])) w6 fun v10 w7 =>
    Run Try.prog (Instr.storeAt 91 v10 v33) w7 fun _ w8 =>
    F48x4 v4 w8 a1 a3 v10 v8 K
  ) ∧
  (
    Run Try.prog (Instr.alloc 91 true (.tuple #[])) w5 fun v10_2 w30 =>
    (QRun Try.prog (Instr.loadAt 49 v4) w30 fun u => u = v28) ∧
    CallF Try.prog 54 #[v28, a1, v31, a2] w30 fun v33_2 w31 =>
    Run Try.prog (Instr.storeAt 91 v10_2 v33_2) w31 fun _ w32 =>
    F48x4 v4 w32 a1 a3 v10_2 v8 K
  )
/-- lattice/latticeref5.Back -/
def F48 (a0 : Value) (a1 : Value) (a2 : Value) (a3 : Value) (K : Value → World → Prop) (w : World) : Prop :=
  Run Try.prog (Instr.box 49 a0) w fun v4 w1 =>
  Run Try.prog (Instr.alloc 25 true (.tuple #[])) w1 fun v8 w2 =>
  PRun Try.prog (Builtin.len_ #[30] 3 #[a3]) fun v17 =>
  PRun Try.prog (eqS .neq 3 (.tmp 17) (.const (Value.int .i64 4292)) v17 (Value.int .i64 4292)) fun v18 =>
  Gd v18 false (fun k => k a3) fun v20 =>
  Gd v18 false (fun k => PRun Try.prog (Instr.sliceAt 30 v20 none (some (Value.int .i64 4)) none) k) fun v21 =>
  Gd v18 false (fun k => QRun Try.prog (convert 30 9 v21) w2.drew k) fun v22 =>
  GdE v18 false (fun k => CallF Try.prog 55 #[(Value.slice none 0 0), (Value.int .i64 2)] w2.drew k) w2.drew fun v23 w3 =>
  (v18 = .bool false → (QRun Try.prog (convert 30 9 v21) w3 fun u => u = v22)) ∧
  Gd v18 false (fun k => QRun Try.prog (convert 30 9 v23) w3 k) fun v24 =>
  Gd v18 false (fun k => PRun Try.prog (eqS .neq 9 (.tmp 22) (.tmp 24) v22 v24) k) fun v25 =>
  Pick v18 (Value.bool true) v25 fun v26 =>
  Branch v26 (
    PRun Try.prog (Instr.build 25 #[]) fun v27 =>
    Run Try.prog (Instr.storeAt 25 v8 v27) w3 fun _ w4 =>
    QRun Try.prog (Instr.loadAt 25 v8) w4 fun v8_2 =>
    K (Value.tuple #[v8_2, (Value.int .i64 12)]) w4
  ) (
    QRun Try.prog (Instr.loadAt 49 v4) w3.drew fun v28 =>
    PRun Try.prog (Instr.sliceAt 30 a3 (some (Value.int .i64 4)) (some (Value.int .i64 36)) none) fun v31 =>
    F48x5 v28 a1 v31 a2 w3.drew v4 a3 v8 K
  )
def H48 : Hints := { n := 70, reg := [(0, ⟨[.e, .e, .p], [0, 0, 0]⟩), (1, ⟨[.p, .p, .p, .p, .p, .p, .q, .e, .q, .p, .p], [0, 1, 3, 7, 15, 31, 63, 15, 143, 511, 1023]⟩), (2, ⟨[.p, .e, .p], [0, 1, 3]⟩), (3, ⟨[.q, .p, .p, .p, .p, .e, .e, .e], [0, 0, 0, 4, 0, 31, 0, 127]⟩), (4, ⟨[.q, .p, .e, .e, .e, .p], [0, 0, 3, 0, 15, 31]⟩), (5, ⟨[.p], [0]⟩), (6, ⟨[.p, .p], [0, 1]⟩), (8, ⟨[.e], [0]⟩), (9, ⟨[.p], [0]⟩), (10, ⟨[.p, .p], [0, 1]⟩), (12, ⟨[.p, .p, .p, .p, .p, .p, .p, .p, .q, .p, .e], [0, 0, 0, 4, 12, 0, 60, 126, 254, 511, 1023]⟩), (11, ⟨[.p, .p, .p], [0, 1, 3]⟩), (13, ⟨[.q, .p, .p, .p, .p, .q, .q, .e, .e, .e], [0, 0, 0, 0, 8, 24, 0, 127, 0, 511]⟩), (14, ⟨[.p, .p, .e, .p], [0, 0, 3, 7]⟩), (7, ⟨[.p, .p, .p], [0, 1, 3]⟩), (15, ⟨[.p, .e, .e, .p], [0, 1, 3, 7]⟩)], loop := [(6, [11, 12]), (10, [14])], join := [] }
noncomputable def C48 : Code := Try.f48.body.getD .skip
theorem E48 (a0 : Value) (a1 : Value) (a2 : Value) (a3 : Value) (K : Value → World → Prop) (w : World) : F48 a0 a1 a2 a3 K w = lift Try.prog H48 C48 (envOf [a0, a1, a2, a3] 0) w (fun E w => resV Try.prog H48.n E Try.f48.results.toList w fun vs => K (retV vs) w) [] (fun E w => resV Try.prog H48.n E Try.f48.results.toList w fun vs => K (retV vs) w) := by kernel_rfl
theorem R48 : regOk H48 C48 = true := by kernel_rfl
theorem B48 : Try.f48.body = some C48 := by kernel_rfl
theorem F48_ok (a0 : Value) (a1 : Value) (a2 : Value) (a3 : Value) (K : Value → World → Prop) (w : World) (h : F48 a0 a1 a2 a3 K w) : Calls Try.prog 48 #[a0, a1, a2, a3] w (retK K) :=
  lift_call mixed Try.func48 B48 Try.ntmps48 R48 (Nat.le_of_ble_eq_true rfl) (Eq.mp (E48 a0 a1 a2 a3 K w) h)
def F37x1 (v4 : Value) (w3 : World) (a1 : Value) (v7 : Value) (a2 : Value) (v8 : Value) (K : Value → World → Prop) : Prop :=
  QRun Try.prog (Instr.loadAt 49 v4) w3 fun v41 =>
  PRun Try.prog (Instr.build 96 #[(0, v41), (1, a1)]) fun v43 =>
  Run Try.prog (Instr.alloc 96 true (.tuple #[])) w3 fun v10 w5 =>
  Run Try.prog (Instr.storeAt 96 v10 v43) w5 fun _ w6 =>
  Run Try.prog (Instr.alloc 25 true (.tuple #[])) w6 fun v11 w7 =>
  PRun Try.prog (Instr.sliceAt 25 v11 none none none) fun v44 =>
  QRun Try.prog (Instr.loadAt 30 v7) w7.drew fun v45 =>
  PRun Try.prog (Instr.sliceAt 30 v45 (some (Value.int .i64 4)) none none) fun v46 =>
  Run Try.prog (Builtin.copy_ #[30, 30] 3 #[v44, v46]) w7.drew fun v47 w8 =>
  QRun Try.prog (Instr.loadAt 96 v10) w8 fun v48 =>
  QRun Try.prog (Instr.loadAt 25 v11) w8 fun v49 =>
  CallF Try.prog 58 #[v48, v49, a2] w8 fun v51 w9 =>
  Run Try.prog (Instr.alloc 91 true (.tuple #[])) w9 fun v12 w10 =>
  Run Try.prog (Instr.storeAt 91 v12 v51) w10 fun _ w11 =>
  QRun Try.prog (Instr.loadAt 96 v10) w11 fun v52 =>
  PRun Try.prog (Instr.makeFunc (Fn.func 60) #[] #[v7, v10, v12]) fun v53 =>
  CallF Try.prog 59 #[v52, v53] w11 fun v54 w12 =>
  Run Try.prog (Instr.storeAt 25 v8 v54) w12 fun _ w13 =>
  QRun Try.prog (Instr.loadAt 25 v8) w13 fun v8_3 =>
  K (Value.tuple #[v8_3, (Value.int .i64 0)]) w13
/-- lattice/ots.Back -/
def F37 (a0 : Value) (a1 : Value) (a2 : Value) (a3 : Value) (K : Value → World → Prop) (w : World) : Prop :=
  Run Try.prog (Instr.box 49 a0) w fun v4 w1 =>
  Run Try.prog (Instr.box 30 a3) w1 fun v7 w2 =>
  Run Try.prog (Instr.alloc 25 true (.tuple #[])) w2 fun v8 w3 =>
  QRun Try.prog (Instr.loadAt 30 v7) w3 fun v13 =>
  PRun Try.prog (Builtin.len_ #[30] 3 #[v13]) fun v14 =>
  PRun Try.prog (eqS .neq 3 (.tmp 14) (.const (Value.int .i64 4292)) v14 (Value.int .i64 4292)) fun v15 =>
  Gd v15 false (fun k => QRun Try.prog (Instr.loadAt 30 v7) w3 k) fun v17 =>
  Gd v15 false (fun k => PRun Try.prog (Instr.indexAt 30 v17 (Value.int .i64 0)) k) fun v18 =>
  Gd v15 false (fun k => QRun Try.prog (Instr.loadAt 5 v18) w3 k) fun v19 =>
  Gd v15 false (fun k => PRun Try.prog (eqS .neq 5 (.tmp 19) (.const (Value.int .u8 0)) v19 (Value.int .u8 0)) k) fun v20 =>
  Pick v15 (Value.bool true) v20 fun v21 =>
  Gd v21 false (fun k => QRun Try.prog (Instr.loadAt 30 v7) w3 k) fun v23 =>
  Gd v21 false (fun k => PRun Try.prog (Instr.indexAt 30 v23 (Value.int .i64 1)) k) fun v24 =>
  Gd v21 false (fun k => QRun Try.prog (Instr.loadAt 5 v24) w3 k) fun v25 =>
  Gd v21 false (fun k => PRun Try.prog (eqS .neq 5 (.tmp 25) (.const (Value.int .u8 0)) v25 (Value.int .u8 0)) k) fun v26 =>
  Pick v21 (Value.bool true) v26 fun v27 =>
  Gd v27 false (fun k => QRun Try.prog (Instr.loadAt 30 v7) w3 k) fun v29 =>
  Gd v27 false (fun k => PRun Try.prog (Instr.indexAt 30 v29 (Value.int .i64 2)) k) fun v30 =>
  Gd v27 false (fun k => QRun Try.prog (Instr.loadAt 5 v30) w3 k) fun v31 =>
  Gd v27 false (fun k => PRun Try.prog (eqS .neq 5 (.tmp 31) (.const (Value.int .u8 0)) v31 (Value.int .u8 0)) k) fun v32 =>
  Pick v27 (Value.bool true) v32 fun v33 =>
  Gd v33 false (fun k => QRun Try.prog (Instr.loadAt 30 v7) w3 k) fun v35 =>
  Gd v33 false (fun k => PRun Try.prog (Instr.indexAt 30 v35 (Value.int .i64 3)) k) fun v36 =>
  Gd v33 false (fun k => QRun Try.prog (Instr.loadAt 5 v36) w3 k) fun v37 =>
  Gd v33 false (fun k => PRun Try.prog (eqS .neq 5 (.tmp 37) (.const (Value.int .u8 2)) v37 (Value.int .u8 2)) k) fun v38 =>
  Pick v33 (Value.bool true) v38 fun v39 =>
  Branch v39 (
    PRun Try.prog (Instr.build 25 #[]) fun v40 =>
    Run Try.prog (Instr.storeAt 25 v8 v40) w3 fun _ w4 =>
    QRun Try.prog (Instr.loadAt 25 v8) w4 fun v8_2 =>
    K (Value.tuple #[v8_2, (Value.int .i64 12)]) w4
  ) (
    F37x1 v4 w3 a1 v7 a2 v8 K
  )
def H37 : Hints := { n := 55, reg := [(0, ⟨[.e, .e, .e, .p], [0, 0, 0, 0]⟩), (1, ⟨[.q, .p, .p, .p, .q, .p, .q, .p, .p, .p, .q, .p, .q, .p, .p, .p, .q, .p, .q, .p, .p, .p, .q, .p, .q, .p, .p], [0, 1, 3, 7, 15, 31, 63, 127, 255, 511, 1023, 2047, 4095, 8191, 16383, 32767, 65535, 131071, 262143, 524287, 1048575, 2097151, 4194303, 8388607, 16777215, 33554431, 67108863]⟩), (2, ⟨[.p, .e, .p], [0, 1, 3]⟩), (3, ⟨[.q, .p, .p, .e, .e], [0, 0, 3, 0, 15]⟩), (4, ⟨[.e], [0]⟩), (5, ⟨[.p, .q, .p, .e], [0, 0, 2, 7]⟩), (6, ⟨[.q, .q, .p, .e, .e, .e], [0, 0, 0, 7, 0, 31]⟩), (7, ⟨[.q, .p, .e, .e, .p], [0, 0, 3, 7, 15]⟩)], loop := [], join := [] }
noncomputable def C37 : Code := Try.f37.body.getD .skip
theorem E37 (a0 : Value) (a1 : Value) (a2 : Value) (a3 : Value) (K : Value → World → Prop) (w : World) : F37 a0 a1 a2 a3 K w = lift Try.prog H37 C37 (envOf [a0, a1, a2, a3] 0) w (fun E w => resV Try.prog H37.n E Try.f37.results.toList w fun vs => K (retV vs) w) [] (fun E w => resV Try.prog H37.n E Try.f37.results.toList w fun vs => K (retV vs) w) := by kernel_rfl
theorem R37 : regOk H37 C37 = true := by kernel_rfl
theorem B37 : Try.f37.body = some C37 := by kernel_rfl
theorem F37_ok (a0 : Value) (a1 : Value) (a2 : Value) (a3 : Value) (K : Value → World → Prop) (w : World) (h : F37 a0 a1 a2 a3 K w) : Calls Try.prog 37 #[a0, a1, a2, a3] w (retK K) :=
  lift_call mixed Try.func37 B37 Try.ntmps37 R37 (Nat.le_of_ble_eq_true rfl) (Eq.mp (E37 a0 a1 a2 a3 K w) h)
def F59x1 (v10_2 : Value) (a1 : Value) (w4 : World) (v5_2 : Value) (k1 : Value → Value → World → Prop) (v4 : Value) (K : Value → World → Prop) : Prop :=
  PRun Try.prog (binOp .lss 3 v10_2 (Value.int .i64 133)) fun v11 =>
  Branch v11 (
    CallV Try.prog a1 #[v10_2] w4 fun v15 w5 =>
    Run Try.prog (Instr.alloc 25 true (.tuple #[])) w5 fun v7 w6 =>
    Run Try.prog (Instr.storeAt 25 v7 v15) w6 fun _ w7 =>
    PRun Try.prog (Instr.sliceAt 25 v7 none none none) fun v17 =>
    Run Try.prog (Builtin.append_ #[30, 30] 30 #[v5_2, v17]) w7 fun v18 w8 =>
    PRun Try.prog (binOp .add 3 v10_2 (Value.int .i64 1)) fun v19 =>
    k1 v18 v19 w8
  ) (
    CallF Try.prog 22 #[v5_2] w4 fun v21 w9 =>
    Run Try.prog (Instr.storeAt 25 v4 v21) w9 fun _ w10 =>
    QRun Try.prog (Instr.loadAt 25 v4) w10 fun v4_2 =>
    K v4_2 w10
  )
/-- (lattice/ots.key).ends -/
def F59 (a0 : Value) (a1 : Value) (K : Value → World → Prop) (w : World) : Prop :=
  Run Try.prog (Instr.box 96 a0) w fun v2 w1 =>
  Run Try.prog (Instr.alloc 25 true (.tuple #[])) w1 fun v4 w2 =>
  QRun Try.prog (Instr.loadAt 96 v2) w2 fun v8 =>
  CallF Try.prog 71 #[v8, (Value.int .i64 32896)] w2 fun v9 w3 =>
  LoopF 2 [v9, (Value.int .i64 0)] w3 fun v5_2 v10_2 w4 k1 => ∀ _ : Env,
  F59x1 v10_2 a1 w4 v5_2 k1 v4 K
def H59 : Hints := { n := 22, reg := [(0, ⟨[.e, .e], [0, 0]⟩), (1, ⟨[.q, .e, .p], [0, 1, 3]⟩), (2, ⟨[.p], [0]⟩), (3, ⟨[.p], [0]⟩), (4, ⟨[.p, .p], [0, 1]⟩), (5, ⟨[.p, .p, .e, .e, .e], [0, 0, 3, 0, 15]⟩), (6, ⟨[.p, .p, .e, .p], [0, 0, 3, 7]⟩), (7, ⟨[.p, .p], [0, 1]⟩), (8, ⟨[.p, .e, .e], [0, 1, 3]⟩)], loop := [(3, [5, 10])], join := [] }
noncomputable def C59 : Code := Try.f59.body.getD .skip
theorem E59 (a0 : Value) (a1 : Value) (K : Value → World → Prop) (w : World) : F59 a0 a1 K w = lift Try.prog H59 C59 (envOf [a0, a1] 0) w (fun E w => resV Try.prog H59.n E Try.f59.results.toList w fun vs => K (retV vs) w) [] (fun E w => resV Try.prog H59.n E Try.f59.results.toList w fun vs => K (retV vs) w) := by kernel_rfl
theorem R59 : regOk H59 C59 = true := by kernel_rfl
theorem B59 : Try.f59.body = some C59 := by kernel_rfl
theorem F59_ok (a0 : Value) (a1 : Value) (K : Value → World → Prop) (w : World) (h : F59 a0 a1 K w) : Calls Try.prog 59 #[a0, a1] w (retK K) :=
  lift_call mixed Try.func59 B59 Try.ntmps59 R59 (Nat.le_of_ble_eq_true rfl) (Eq.mp (E59 a0 a1 K w) h)
/-- lattice/ots.Back$1 -/
def F60 (a0 : Value) (a1 : Value) (a2 : Value) (a3 : Value) (K : Value → World → Prop) (w : World) : Prop :=
  Run Try.prog (Instr.alloc 25 true (.tuple #[])) w fun v5 w1 =>
  Run Try.prog (Instr.alloc 25 true (.tuple #[])) w1 fun v6 w2 =>
  PRun Try.prog (Instr.sliceAt 25 v6 none none none) fun v7 =>
  QRun Try.prog (Instr.loadAt 30 a1) w2.drew fun v8 =>
  PRun Try.prog (binOp .mul 3 (Value.int .i64 32) a0) fun v10 =>
  PRun Try.prog (binOp .add 3 (Value.int .i64 36) v10) fun v11 =>
  PRun Try.prog (Instr.sliceAt 30 v8 (some v11) none none) fun v12 =>
  Run Try.prog (Builtin.copy_ #[30, 30] 3 #[v7, v12]) w2.drew fun v13 w3 =>
  QRun Try.prog (Instr.loadAt 96 a2) w3.drew fun v14 =>
  PRun Try.prog (Instr.indexAt 91 a3 a0) fun v17 =>
  QRun Try.prog (Instr.loadAt 3 v17) w3.drew fun v18 =>
  QRun Try.prog (Instr.loadAt 25 v6) w3.drew fun v19 =>
  CallF Try.prog 61 #[v14, a0, v18, (Value.int .i64 3), v19] w3.drew fun v20 w4 =>
  Run Try.prog (Instr.storeAt 25 v5 v20) w4 fun _ w5 =>
  QRun Try.prog (Instr.loadAt 25 v5) w5 fun v5_2 =>
  K v5_2 w5
def H60 : Hints := { n := 21, reg := [(0, ⟨[.e], [0]⟩), (1, ⟨[.e], [0]⟩), (2, ⟨[.p, .q, .p, .p, .p, .p, .e], [0, 0, 0, 4, 12, 30, 63]⟩), (3, ⟨[.q, .p, .p, .p, .q, .q, .e, .e], [0, 0, 0, 4, 12, 0, 63, 127]⟩)], loop := [], join := [] }
noncomputable def C60 : Code := Try.f60.body.getD .skip
theorem E60 (a0 : Value) (a1 : Value) (a2 : Value) (a3 : Value) (K : Value → World → Prop) (w : World) : F60 a0 a1 a2 a3 K w = lift Try.prog H60 C60 (envOf [a0, a1, a2, a3] 0) w (fun E w => resV Try.prog H60.n E Try.f60.results.toList w fun vs => K (retV vs) w) [] (fun E w => resV Try.prog H60.n E Try.f60.results.toList w fun vs => K (retV vs) w) := by kernel_rfl
theorem R60 : regOk H60 C60 = true := by kernel_rfl
theorem B60 : Try.f60.body = some C60 := by kernel_rfl
theorem F60_ok (a0 : Value) (a1 : Value) (a2 : Value) (a3 : Value) (K : Value → World → Prop) (w : World) (h : F60 a0 a1 a2 a3 K w) : Calls Try.prog 60 #[a0, a1, a2, a3] w (retK K) :=
  lift_call mixed Try.func60 B60 Try.ntmps60 R60 (Nat.le_of_ble_eq_true rfl) (Eq.mp (E60 a0 a1 a2 a3 K w) h)
def F38x1 (v31_2 : Value) (v30 : Value) (a3 : Value) (w9 : World) (v9_5 : Value) (k1 : Value → Value → World → Prop) (v8 : Value) (K : Value → World → Prop) : Prop :=
  PRun Try.prog (binOp .lss 3 v31_2 v30) fun v32 =>
  Branch v32 (
    PRun Try.prog (Instr.indexAt 72 a3 v31_2) fun v33 =>
    QRun Try.prog (Instr.loadAt 25 v33) w9 fun v34 =>
    Run Try.prog (Instr.alloc 25 true (.tuple #[])) w9 fun v11 w10 =>
    Run Try.prog (Instr.storeAt 25 v11 v34) w10 fun _ w11 =>
    PRun Try.prog (Instr.sliceAt 25 v11 none none none) fun v36 =>
    Run Try.prog (Builtin.append_ #[30, 30] 30 #[v9_5, v36]) w11 fun v37 w12 =>
    PRun Try.prog (binOp .add 3 v31_2 (Value.int .i64 1)) fun v38 =>
    k1 v37 v38 w12
  ) (
    CallF Try.prog 22 #[v9_5] w9 fun v40 w13 =>
    Run Try.prog (Instr.storeAt 25 v8 v40) w13 fun _ w14 =>
    QRun Try.prog (Instr.loadAt 25 v8) w14 fun v8_2 =>
    K v8_2 w14
  )
/-- lattice/lms.node -/
def F38 (a0 : Value) (a1 : Value) (a2 : Value) (a3 : Value) (K : Value → World → Prop) (w : World) : Prop :=
  Run Try.prog (Instr.box 49 a0) w fun v4 w1 =>
  Run Try.prog (Instr.alloc 25 true (.tuple #[])) w1 fun v8 w2 =>
  PRun Try.prog (Builtin.len_ #[72] 3 #[a3]) fun v13 =>
  PRun Try.prog (binOp .mul 3 v13 (Value.int .i64 32)) fun v14 =>
  PRun Try.prog (binOp .add 3 (Value.int .i64 22) v14) fun v15 =>
  Run Try.prog (Instr.makeSlice 30 (Value.int .i64 0) v15) w2 fun v16 w3 =>
  PRun Try.prog (Instr.sliceAt 49 v4 none none none) fun v18 =>
  Run Try.prog (Builtin.append_ #[30, 30] 30 #[v16, v18]) w3 fun v19 w4 =>
  CallF Try.prog 62 #[a1] w4 fun v22 w5 =>
  Run Try.prog (Builtin.append_ #[30, 30] 30 #[v19, v22]) w5 fun v23 w6 =>
  Run Try.prog (Instr.buildSlice 30 2 #[(0, a2), (1, a2)]) w6 fun v27 w7 =>
  Run Try.prog (Builtin.append_ #[30, 30] 30 #[v23, v27]) w7 fun v28 w8 =>
  PRun Try.prog (Builtin.len_ #[72] 3 #[a3]) fun v30 =>
  LoopF 2 [v28, (Value.int .i64 0)] w8 fun v9_5 v31_2 w9 k1 => ∀ _ : Env,
  F38x1 v31_2 v30 a3 w9 v9_5 k1 v8 K
def H38 : Hints := { n := 41, reg := [(0, ⟨[.e, .e], [0, 0]⟩), (1, ⟨[.p, .p, .p, .p, .e, .p], [0, 1, 3, 7, 15, 31]⟩), (2, ⟨[.p, .p, .e, .p], [0, 0, 3, 7]⟩), (3, ⟨[.p, .p, .e, .e, .p], [0, 0, 2, 7, 15]⟩), (4, ⟨[.p, .p, .p, .e, .e, .p], [0, 0, 0, 6, 15, 31]⟩), (5, ⟨[.p, .p, .p], [0, 1, 0]⟩), (6, ⟨[.p], [0]⟩), (7, ⟨[.p, .q, .e, .e], [0, 1, 0, 7]⟩), (8, ⟨[.p, .p, .e, .p], [0, 0, 3, 7]⟩), (9, ⟨[.p, .p], [0, 1]⟩), (10, ⟨[.p, .e, .e], [0, 1, 3]⟩)], loop := [(6, [9, 31])], join := [] }
noncomputable def C38 : Code := Try.f38.body.getD .skip
theorem E38 (a0 : Value) (a1 : Value) (a2 : Value) (a3 : Value) (K : Value → World → Prop) (w : World) : F38 a0 a1 a2 a3 K w = lift Try.prog H38 C38 (envOf [a0, a1, a2, a3] 0) w (fun E w => resV Try.prog H38.n E Try.f38.results.toList w fun vs => K (retV vs) w) [] (fun E w => resV Try.prog H38.n E Try.f38.results.toList w fun vs => K (retV vs) w) := by kernel_rfl
theorem R38 : regOk H38 C38 = true := by kernel_rfl
theorem B38 : Try.f38.body = some C38 := by kernel_rfl
theorem F38_ok (a0 : Value) (a1 : Value) (a2 : Value) (a3 : Value) (K : Value → World → Prop) (w : World) (h : F38 a0 a1 a2 a3 K w) : Calls Try.prog 38 #[a0, a1, a2, a3] w (retK K) :=
  lift_call mixed Try.func38 B38 Try.ntmps38 R38 (Nat.le_of_ble_eq_true rfl) (Eq.mp (E38 a0 a1 a2 a3 K w) h)
/-- lattice/latticeref6.node -/
def F49 (a0 : Value) (a1 : Value) (a2 : Value) (a3 : Value) (K : Value → World → Prop) (w : World) : Prop :=
  Run Try.prog (Instr.box 49 a0) w fun v4 w1 =>
  Run Try.prog (Instr.alloc 25 true (.tuple #[])) w1 fun v8 w2 =>
  Run Try.prog (Instr.buildSlice 30 0 #[]) w2 fun v10 w3 =>
  PRun Try.prog (Instr.sliceAt 49 v4 none none none) fun v11 =>
  Run Try.prog (Builtin.append_ #[30, 30] 30 #[v10, v11]) w3 fun v12 w4 =>
  CallF Try.prog 33 #[v12, a1] w4 fun v14 w5 =>
  Run Try.prog (Instr.buildSlice 30 2 #[(0, a2), (1, a2)]) w5 fun v17 w6 =>
  Run Try.prog (Builtin.append_ #[30, 30] 30 #[v14, v17]) w6 fun v18 w7 =>
  Run Try.prog (Builtin.append_ #[30, 30] 30 #[v18, a3]) w7 fun v21 w8 =>
  CallF Try.prog 51 #[v21] w8 fun v22 w9 =>
  Run Try.prog (Instr.storeAt 25 v8 v22) w9 fun _ w10 =>
  QRun Try.prog (Instr.loadAt 25 v8) w10 fun v8_2 =>
  K v8_2 w10
def H49 : Hints := { n := 23, reg := [(0, ⟨[.e, .e], [0, 0]⟩), (1, ⟨[.e, .p, .e, .p, .e, .p, .p, .e, .e, .p], [0, 0, 3, 0, 15, 0, 0, 96, 255, 511]⟩), (2, ⟨[.p, .p, .e, .e, .e], [0, 0, 3, 7, 15]⟩)], loop := [], join := [] }
noncomputable def C49 : Code := Try.f49.body.getD .skip
theorem E49 (a0 : Value) (a1 : Value) (a2 : Value) (a3 : Value) (K : Value → World → Prop) (w : World) : F49 a0 a1 a2 a3 K w = lift Try.prog H49 C49 (envOf [a0, a1, a2, a3] 0) w (fun E w => resV Try.prog H49.n E Try.f49.results.toList w fun vs => K (retV vs) w) [] (fun E w => resV Try.prog H49.n E Try.f49.results.toList w fun vs => K (retV vs) w) := by kernel_rfl
theorem R49 : regOk H49 C49 = true := by kernel_rfl
theorem B49 : Try.f49.body = some C49 := by kernel_rfl
theorem F49_ok (a0 : Value) (a1 : Value) (a2 : Value) (a3 : Value) (K : Value → World → Prop) (w : World) (h : F49 a0 a1 a2 a3 K w) : Calls Try.prog 49 #[a0, a1, a2, a3] w (retK K) :=
  lift_call mixed Try.func49 B49 Try.ntmps49 R49 (Nat.le_of_ble_eq_true rfl) (Eq.mp (E49 a0 a1 a2 a3 K w) h)
def F32x1 (v3 : Value) (w10 : World) (v11_2 : Value) (v17 : Value) (k2 : Value → World → Prop) : Prop :=
  QRun Try.prog (Instr.loadAt 49 v3) w10.drew fun v46 =>
  PRun Try.prog (binOp .mul 3 (Value.int .i64 2) v11_2) fun v51 =>
  PRun Try.prog (Instr.indexAt 72 v17 v51) fun v52 =>
  PRun Try.prog (Instr.sliceAt 25 v52 none none none) fun v53 =>
  PRun Try.prog (binOp .mul 3 (Value.int .i64 2) v11_2) fun v57 =>
  PRun Try.prog (binOp .add 3 v57 (Value.int .i64 1)) fun v58 =>
  PRun Try.prog (Instr.indexAt 72 v17 v58) fun v59 =>
  PRun Try.prog (Instr.sliceAt 25 v59 none none none) fun v60 =>
  Run Try.prog (Instr.buildSlice 30 0 #[]) w10.drew fun v48 w11 =>
  (QRun Try.prog (Instr.loadAt 49 v3) w11 fun u => u = v46) ∧
  Run Try.prog (Builtin.append_ #[30, 30] 30 #[v48, v53]) w11 fun v54 w12 =>
  (QRun Try.prog (Instr.loadAt 49 v3) w12 fun u => u = v46) ∧
  Run Try.prog (Builtin.append_ #[30, 30] 30 #[v54, v60]) w12 fun v61 w13 =>
  (QRun Try.prog (Instr.loadAt 49 v3) w13 fun u => u = v46) ∧
  CallF Try.prog 49 #[v46, v11_2, (Value.int .u8 131), v61] w13 fun v62 w14 =>
  PRun Try.prog (Instr.indexAt 72 v17 v11_2) fun v63 =>
  Run Try.prog (Instr.storeAt 25 v63 v62) w14 fun _ w15 =>
  PRun Try.prog (binOp .sub 3 v11_2 (Value.int .i64 1)) fun v43 =>
  k2 v43 w15
def F32x2 (v3 : Value) (w4 : World) (v4 : Value) (v9_2 : Value) (v14 : Value) (v17 : Value) (k1 : Value → World → Prop) : Prop :=
  QRun Try.prog (Instr.loadAt 49 v3) w4 fun v23 =>
  QRun Try.prog (Instr.loadAt 25 v4) w4 fun v25 =>
  CallF Try.prog 50 #[v23, v9_2, v25] w4 fun v26 w5 =>
  Run Try.prog (Instr.alloc 25 true (.tuple #[])) w5 fun v10 w6 =>
  Run Try.prog (Instr.storeAt 25 v10 v26) w6 fun _ w7 =>
  PRun Try.prog (binOp .add 3 v14 v9_2) fun v30 =>
  QRun Try.prog (Instr.loadAt 49 v3) w7.drew fun v31 =>
  PRun Try.prog (binOp .add 3 v14 v9_2) fun v34 =>
  PRun Try.prog (Instr.sliceAt 25 v10 none none none) fun v35 =>
  CallF Try.prog 49 #[v31, v34, (Value.int .u8 130), v35] w7.drew fun v36 w8 =>
  PRun Try.prog (Instr.indexAt 72 v17 v30) fun v37 =>
  Run Try.prog (Instr.storeAt 25 v37 v36) w8 fun _ w9 =>
  PRun Try.prog (binOp .add 3 v9_2 (Value.int .i64 1)) fun v22 =>
  k1 v22 w9
def F32x3 (v9_2 : Value) (v14 : Value) (v3 : Value) (w4 : World) (v4 : Value) (v17 : Value) (k1 : Value → World → Prop) (K : Value → World → Prop) : Prop :=
  PRun Try.prog (binOp .lss 3 v9_2 v14) fun v20 =>
  Branch v20 (
    F32x2 v3 w4 v4 v9_2 v14 v17 k1
  ) (
    PRun Try.prog (binOp .sub 3 v14 (Value.int .i64 1)) fun v39 =>
    LoopF 1 [v39] w4 fun v11_2 w10 k2 => ∀ _ : Env,
    PRun Try.prog (binOp .gtr 3 v11_2 (Value.int .i64 0)) fun v41 =>
    Branch v41 (
      F32x1 v3 w10 v11_2 v17 k2
    ) (
      K v17 w10
    )
  )
/-- lattice/latticeref6.tree -/
def F32 (a0 : Value) (a1 : Value) (a2 : Value) (K : Value → World → Prop) (w : World) : Prop :=
  Run Try.prog (Instr.box 49 a0) w fun v3 w1 =>
  Run Try.prog (Instr.box 25 a1) w1 fun v4 w2 =>
  PRun Try.prog (convert 3 69 a2) fun v13 =>
  PRun Try.prog (binOp .shl 3 (Value.int .i64 1) v13) fun v14 =>
  PRun Try.prog (binOp .mul 3 (Value.int .i64 2) v14) fun v16 =>
  Run Try.prog (Instr.makeSlice 72 v16 v16) w2 fun v17 w3 =>
  LoopF 1 [(Value.int .i64 0)] w3 fun v9_2 w4 k1 => ∀ _ : Env,
  F32x3 v9_2 v14 v3 w4 v4 v17 k1 K
def H32 : Hints := { n := 65, reg := [(0, ⟨[.e, .e, .p], [0, 0, 0]⟩), (1, ⟨[.p, .p, .p, .p], [0, 1, 3, 7]⟩), (2, ⟨[.p, .p, .e, .p], [0, 1, 3, 7]⟩), (3, ⟨[.p], [0]⟩), (4, ⟨[.p, .p, .p], [0, 0, 3]⟩), (6, ⟨[.q, .p, .q, .e, .e, .e], [0, 0, 0, 7, 0, 31]⟩), (7, ⟨[.p, .p, .p, .p, .q, .p, .p, .p, .p, .e, .p, .e], [0, 0, 0, 6, 0, 0, 0, 96, 0, 496, 1023, 2047]⟩), (5, ⟨[.p, .p, .p], [0, 1, 3]⟩), (8, ⟨[.p, .p, .p], [0, 1, 3]⟩), (9, ⟨[.p, .p], [0, 1]⟩), (11, ⟨[.p, .p, .q, .p, .e, .p, .p, .p, .p, .p, .e, .p, .p, .p, .p, .p, .p, .e, .e, .p, .e], [0, 0, 0, 0, 0, 0, 0, 64, 224, 480, 1008, 0, 0, 4096, 12288, 30720, 63488, 131056, 262140, 524287, 1048575]⟩), (10, ⟨[.p, .p, .p], [0, 1, 3]⟩), (12, ⟨[.p, .p], [0, 1]⟩)], loop := [(4, [9]), (9, [11])], join := [] }
noncomputable def C32 : Code := Try.f32.body.getD .skip
theorem E32 (a0 : Value) (a1 : Value) (a2 : Value) (K : Value → World → Prop) (w : World) : F32 a0 a1 a2 K w = lift Try.prog H32 C32 (envOf [a0, a1, a2] 0) w (fun E w => resV Try.prog H32.n E Try.f32.results.toList w fun vs => K (retV vs) w) [] (fun E w => resV Try.prog H32.n E Try.f32.results.toList w fun vs => K (retV vs) w) := by kernel_rfl
theorem R32 : regOk H32 C32 = true := by kernel_rfl
theorem B32 : Try.f32.body = some C32 := by kernel_rfl
theorem F32_ok (a0 : Value) (a1 : Value) (a2 : Value) (K : Value → World → Prop) (w : World) (h : F32 a0 a1 a2 K w) : Calls Try.prog 32 #[a0, a1, a2] w (retK K) :=
  lift_call mixed Try.func32 B32 Try.ntmps32 R32 (Nat.le_of_ble_eq_true rfl) (Eq.mp (E32 a0 a1 a2 K w) h)
/-- lattice/latticeref6.Public -/
def F15 (a0 : Value) (a1 : Value) (a2 : Value) (K : Value → World → Prop) (w : World) : Prop :=
  Run Try.prog (Instr.box 49 a0) w fun v3 w1 =>
  Run Try.prog (Instr.box 25 a1) w1 fun v4 w2 =>
  PRun Try.prog (binOp .lss 3 a2 (Value.int .i64 1)) fun v10 =>
  Gd v10 false (fun k => k a2) fun v12 =>
  Gd v10 false (fun k => PRun Try.prog (binOp .gtr 3 v12 (Value.int .i64 5)) k) fun v13 =>
  Pick v10 (Value.bool true) v13 fun v14 =>
  Branch v14 (
    K (Value.tuple #[(Value.slice none 0 0), (Value.int .i64 1)]) w2
  ) (
    QRun Try.prog (Instr.loadAt 49 v3) w2 fun v15 =>
    QRun Try.prog (Instr.loadAt 25 v4) w2 fun v16 =>
    CallF Try.prog 32 #[v15, v16, a2] w2 fun v18 w3 =>
    PRun Try.prog (Instr.sliceAt 49 v3 none none none) fun v22 =>
    PRun Try.prog (Instr.indexAt 72 v18 (Value.int .i64 1)) fun v25 =>
    PRun Try.prog (Instr.sliceAt 25 v25 none none none) fun v26 =>
    CallF Try.prog 33 #[(Value.slice none 0 0), a2] w3.drew fun v20 w4 =>
    CallF Try.prog 33 #[v20, (Value.int .i64 2)] w4 fun v21 w5 =>
    Run Try.prog (Builtin.append_ #[30, 30] 30 #[v21, v22]) w5 fun v23 w6 =>
    Run Try.prog (Builtin.append_ #[30, 30] 30 #[v23, v26]) w6 fun v27 w7 =>
    K (Value.tuple #[v27, (Value.int .i64 0)]) w7
  )
def H15 : Hints := { n := 28, reg := [(0, ⟨[.e, .e, .p, .p], [0, 0, 0, 4]⟩), (1, ⟨[.p, .p, .p, .p, .p, .p], [0, 1, 3, 7, 15, 31]⟩), (2, ⟨[.p, .p], [0, 1]⟩), (3, ⟨[.q, .q, .p, .e, .p], [0, 0, 0, 7, 15]⟩), (4, ⟨[.p, .e, .e, .p, .e, .p, .p, .p, .e, .p, .p], [0, 1, 3, 0, 15, 0, 32, 96, 255, 511, 1023]⟩)], loop := [], join := [] }
noncomputable def C15 : Code := Try.f15.body.getD .skip
theorem E15 (a0 : Value) (a1 : Value) (a2 : Value) (K : Value → World → Prop) (w : World) : F15 a0 a1 a2 K w = lift Try.prog H15 C15 (envOf [a0, a1, a2] 0) w (fun E w => resV Try.prog H15.n E Try.f15.results.toList w fun vs => K (retV vs) w) [] (fun E w => resV Try.prog H15.n E Try.f15.results.toList w fun vs => K (retV vs) w) := by kernel_rfl
theorem R15 : regOk H15 C15 = true := by kernel_rfl
theorem B15 : Try.f15.body = some C15 := by kernel_rfl
theorem F15_ok (a0 : Value) (a1 : Value) (a2 : Value) (K : Value → World → Prop) (w : World) (h : F15 a0 a1 a2 K w) : Calls Try.prog 15 #[a0, a1, a2] w (retK K) :=
  lift_call mixed Try.func15 B15 Try.ntmps15 R15 (Nat.le_of_ble_eq_true rfl) (Eq.mp (E15 a0 a1 a2 K w) h)
def F16x1 (v5 : Value) (w2 : World) (v6 : Value) (a2 : Value) (a3 : Value) (a4 : Value) (K : Value → World → Prop) : Prop :=
  QRun Try.prog (Instr.loadAt 49 v5) w2 fun v30 =>
  QRun Try.prog (Instr.loadAt 25 v6) w2 fun v31 =>
  CallF Try.prog 32 #[v30, v31, a2] w2 fun v33 w3 =>
  QRun Try.prog (Instr.loadAt 49 v5) w3.drew fun v36 =>
  QRun Try.prog (Instr.loadAt 25 v6) w3.drew fun v38 =>
  CallF Try.prog 33 #[(Value.slice none 0 0), a3] w3.drew fun v35 w4 =>
  (QRun Try.prog (Instr.loadAt 25 v6) w4 fun u => u = v38) ∧
  (QRun Try.prog (Instr.loadAt 49 v5) w4 fun u => u = v36) ∧
  CallF Try.prog 34 #[v36, a3, v38, a4] w4 fun v40 w5 =>
  Run Try.prog (Builtin.append_ #[30, 30] 30 #[v35, v40]) w5 fun v41 w6 =>
  CallF Try.prog 33 #[v41, a2] w6 fun v44 w7 =>
  PRun Try.prog (convert 3 69 a2) fun v46 =>
  PRun Try.prog (binOp .shl 3 (Value.int .i64 1) v46) fun v47 =>
  PRun Try.prog (binOp .add 3 v47 a3) fun v49 =>
  LoopF 2 [v44, v49] w7 fun v13_3 v14_2 w8 k1 => ∀ _ : Env,
  PRun Try.prog (binOp .gtr 3 v14_2 (Value.int .i64 1)) fun v51 =>
  Branch v51 (
    PRun Try.prog (binOp .xor 3 v14_2 (Value.int .i64 1)) fun v57 =>
    PRun Try.prog (Instr.indexAt 72 v33 v57) fun v58 =>
    PRun Try.prog (Instr.sliceAt 25 v58 none none none) fun v59 =>
    Run Try.prog (Builtin.append_ #[30, 30] 30 #[v13_3, v59]) w8 fun v60 w9 =>
    PRun Try.prog (binOp .quo 3 v14_2 (Value.int .i64 2)) fun v53 =>
    k1 v60 v53 w9
  ) (
    K (Value.tuple #[v13_3, (Value.int .i64 0)]) w8
  )
def F16x2 (a3 : Value) (a2 : Value) (K : Value → World → Prop) (w2 : World) (v5 : Value) (v6 : Value) (a4 : Value) : Prop :=
  PRun Try.prog (binOp .lss 3 a3 (Value.int .i64 0)) fun v22 =>
  Gd v22 false (fun k => k a3) fun v24 =>
  Gd v22 false (fun k => k a2) fun v25 =>
  Gd v22 false (fun k => PRun Try.prog (convert 3 69 v25) k) fun v26 =>
  Gd v22 false (fun k => PRun Try.prog (binOp .shl 3 (Value.int .i64 1) v26) k) fun v27 =>
  Gd v22 false (fun k => PRun Try.prog (binOp .geq 3 v24 v27) k) fun v28 =>
  Pick v22 (Value.bool true) v28 fun v29 =>
  Branch v29 (
    K (Value.tuple #[(Value.slice none 0 0), (Value.int .i64 13)]) w2
  ) (
    F16x1 v5 w2 v6 a2 a3 a4 K
  )
/-- lattice/latticeref6.Sign -/
def F16 (a0 : Value) (a1 : Value) (a2 : Value) (a3 : Value) (a4 : Value) (K : Value → World → Prop) (w : World) : Prop :=
  Run Try.prog (Instr.box 49 a0) w fun v5 w1 =>
  Run Try.prog (Instr.box 25 a1) w1 fun v6 w2 =>
  PRun Try.prog (binOp .lss 3 a2 (Value.int .i64 1)) fun v16 =>
  Gd v16 false (fun k => k a2) fun v18 =>
  Gd v16 false (fun k => PRun Try.prog (binOp .gtr 3 v18 (Value.int .i64 5)) k) fun v19 =>
  Pick v16 (Value.bool true) v19 fun v20 =>
  Branch v20 (
    K (Value.tuple #[(Value.slice none 0 0), (Value.int .i64 1)]) w2
  ) (
    F16x2 a3 a2 K w2 v5 v6 a4
  )
def H16 : Hints := { n := 62, reg := [(0, ⟨[.e, .e, .p, .p], [0, 0, 0, 4]⟩), (1, ⟨[.p, .p, .p, .p, .p, .p], [0, 1, 3, 7, 15, 31]⟩), (2, ⟨[.p, .p], [0, 1]⟩), (3, ⟨[.p, .p, .p, .p, .p, .p, .p, .p, .p], [0, 1, 3, 7, 7, 23, 55, 127, 255]⟩), (4, ⟨[.p, .p], [0, 1]⟩), (5, ⟨[.q, .q, .p, .e, .p], [0, 0, 0, 7, 15]⟩), (6, ⟨[.p, .e, .q, .p, .q, .p, .e, .e, .p], [0, 1, 0, 0, 0, 0, 63, 127, 255]⟩), (7, ⟨[.p, .p, .e, .p], [0, 0, 3, 7]⟩), (8, ⟨[.p, .p, .p, .p, .p, .p], [0, 1, 3, 0, 15, 31]⟩), (9, ⟨[.p, .p], [0, 1]⟩), (11, ⟨[.p, .p, .p, .p, .p, .p, .e, .p], [0, 0, 0, 4, 14, 30, 63, 127]⟩), (10, ⟨[.p, .p, .p], [0, 1, 3]⟩), (12, ⟨[.p, .p, .p], [0, 1, 3]⟩)], loop := [(9, [13, 14])], join := [] }
noncomputable def C16 : Code := Try.f16.body.getD .skip
theorem E16 (a0 : Value) (a1 : Value) (a2 : Value) (a3 : Value) (a4 : Value) (K : Value → World → Prop) (w : World) : F16 a0 a1 a2 a3 a4 K w = lift Try.prog H16 C16 (envOf [a0, a1, a2, a3, a4] 0) w (fun E w => resV Try.prog H16.n E Try.f16.results.toList w fun vs => K (retV vs) w) [] (fun E w => resV Try.prog H16.n E Try.f16.results.toList w fun vs => K (retV vs) w) := by kernel_rfl
theorem R16 : regOk H16 C16 = true := by kernel_rfl
theorem B16 : Try.f16.body = some C16 := by kernel_rfl
theorem F16_ok (a0 : Value) (a1 : Value) (a2 : Value) (a3 : Value) (a4 : Value) (K : Value → World → Prop) (w : World) (h : F16 a0 a1 a2 a3 a4 K w) : Calls Try.prog 16 #[a0, a1, a2, a3, a4] w (retK K) :=
  lift_call mixed Try.func16 B16 Try.ntmps16 R16 (Nat.le_of_ble_eq_true rfl) (Eq.mp (E16 a0 a1 a2 a3 a4 K w) h)
def F30x1 (v8 : Value) (w19 : World) (v13_2 : Value) (v14 : Value) (v100 : Value) (k3 : World → Prop) : Prop :=
  QRun Try.prog (Instr.loadAt 49 v8) w19.drew fun v104 =>
  PRun Try.prog (binOp .quo 3 v13_2 (Value.int .i64 2)) fun v106 =>
  PRun Try.prog (Instr.sliceAt 25 v14 none none none) fun v108 =>
  Run Try.prog (Instr.buildSlice 30 0 #[]) w19.drew fun v107 w20 =>
  (QRun Try.prog (Instr.loadAt 49 v8) w20 fun u => u = v104) ∧
  Run Try.prog (Builtin.append_ #[30, 30] 30 #[v107, v108]) w20 fun v109 w21 =>
  (QRun Try.prog (Instr.loadAt 49 v8) w21 fun u => u = v104) ∧
  Run Try.prog (Builtin.append_ #[30, 30] 30 #[v109, v100]) w21 fun v111 w22 =>
  (QRun Try.prog (Instr.loadAt 49 v8) w22 fun u => u = v104) ∧
  CallF Try.prog 49 #[v104, v106, (Value.int .u8 131), v111] w22 fun v112 w23 =>
  Run Try.prog (Instr.storeAt 25 v14 v112) w23 fun _ w24 =>
  k3 w24
def F30x2 (v8 : Value) (w19 : World) (v13_2 : Value) (v14 : Value) (v100 : Value) (k3 : World → Prop) : Prop :=
  QRun Try.prog (Instr.loadAt 49 v8) w19.drew fun v113 =>
  PRun Try.prog (binOp .quo 3 v13_2 (Value.int .i64 2)) fun v115 =>
  PRun Try.prog (Instr.sliceAt 25 v14 none none none) fun v119 =>
  Run Try.prog (Instr.buildSlice 30 0 #[]) w19.drew fun v116 w25 =>
  (QRun Try.prog (Instr.loadAt 49 v8) w25 fun u => u = v113) ∧
  Run Try.prog (Builtin.append_ #[30, 30] 30 #[v116, v100]) w25 fun v118 w26 =>
  (QRun Try.prog (Instr.loadAt 49 v8) w26 fun u => u = v113) ∧
  Run Try.prog (Builtin.append_ #[30, 30] 30 #[v118, v119]) w26 fun v120 w27 =>
  (QRun Try.prog (Instr.loadAt 49 v8) w27 fun u => u = v113) ∧
  CallF Try.prog 49 #[v113, v115, (Value.int .u8 131), v120] w27 fun v121 w28 =>
  Run Try.prog (Instr.storeAt 25 v14 v121) w28 fun _ w29 =>
  k3 w29
def F30x3 (v15_2 : Value) (a2 : Value) (v13_2 : Value) (v8 : Value) (w19 : World) (v14 : Value) (k2 : Value → Value → World → Prop) : Prop :=
  PRun Try.prog (binOp .mul 3 (Value.int .i64 32) v15_2) fun v95 =>
  PRun Try.prog (binOp .add 3 (Value.int .i64 4300) v95) fun v96 =>
  PRun Try.prog (binOp .mul 3 (Value.int .i64 32) v15_2) fun v98 =>
  PRun Try.prog (binOp .add 3 (Value.int .i64 4332) v98) fun v99 =>
  PRun Try.prog (Instr.sliceAt 30 a2 (some v96) (some v99) none) fun v100 =>
  LetJ 0 (fun k3 =>
    PRun Try.prog (binOp .rem 3 v13_2 (Value.int .i64 2)) fun v102 =>
    PRun Try.prog (eqS .eql 3 (.tmp 102) (.const (Value.int .i64 0)) v102 (Value.int .i64 0)) fun v103 =>
    Branch v103 (
      F30x1 v8 w19 v13_2 v14 v100 k3
    ) (
      F30x2 v8 w19 v13_2 v14 v100 k3
    )
  ) fun w30 => ∀ _ : Env,
  PRun Try.prog (binOp .quo 3 v13_2 (Value.int .i64 2)) fun v123 =>
  PRun Try.prog (binOp .add 3 v15_2 (Value.int .i64 1)) fun v92 =>
  k2 v123 v92 w30
def F30x4 (v13_2 : Value) (v15_2 : Value) (a2 : Value) (v8 : Value) (w19 : World) (v14 : Value) (k2 : Value → Value → World → Prop) (a0 : Value) (K : Value → World → Prop) : Prop :=
  PRun Try.prog (binOp .gtr 3 v13_2 (Value.int .i64 1)) fun v90 =>
  Branch v90 (
    F30x3 v15_2 a2 v13_2 v8 w19 v14 k2
  ) (
    PRun Try.prog (Instr.sliceAt 25 v14 none none none) fun v124 =>
    QRun Try.prog (convert 30 9 v124) w19.drew fun v125 =>
    PRun Try.prog (Instr.sliceAt 30 a0 (some (Value.int .i64 24)) none none) fun v127 =>
    QRun Try.prog (convert 30 9 v127) w19.drew fun v128 =>
    PRun Try.prog (eqS .neq 9 (.tmp 125) (.tmp 128) v125 v128) fun v129 =>
    Branch v129 (
      K (Value.int .i64 12) w19.drew
    ) (
      K (Value.int .i64 0) w19.drew
    )
  )
def F30x5 (v85 : Value) (v84 : Value) (v87 : Value) (w14 : World) (a2 : Value) (v8 : Value) (a0 : Value) (K : Value → World → Prop) : Prop :=
  (
    CallF Try.prog 49 #[v85, v84, (Value.int .u8 130), v87] w14 fun v88 w15 =>
    Run Try.prog (Instr.alloc 25 true (.tuple #[])) w15 fun v14 w16 =>
    Run Try.prog (Instr.storeAt 25 v14 v88) w16 fun _ w17 =>
    LoopF 2 [v84, (Value.int .i64 0)] w17 fun v13_2 v15_2 w19 k2 => ∀ _ : Env,
    F30x4 v13_2 v15_2 a2 v8 w19 v14 k2 a0 K
  ) ∧
  (
    Run Try.prog (Instr.alloc 25 true (.tuple #[])) w14 fun v14_2 w31 =>
    (QRun Try.prog (Instr.loadAt 49 v8) w31 fun u => u = v85) ∧
    CallF Try.prog 49 #[v85, v84, (Value.int .u8 130), v87] w31 fun v88_2 w32 =>
    Run Try.prog (Instr.storeAt 25 v14_2 v88_2) w32 fun _ w33 =>
    LoopF 2 [v84, (Value.int .i64 0)] w33 fun v13_4 v15_5 w35 k4 => ∀ _ : Env,
    F30x4 v13_4 v15_5 a2 v8 w35 v14_2 k4 a0 K
  )
def F30x6 (v76 : Value) (K : Value → World → Prop) (w13 : World) (v21 : Value) (v67 : Value) (v8 : Value) (v11 : Value) (a2 : Value) (a0 : Value) : Prop :=
  PRun Try.prog (eqS .neq 3 (.tmp 77) (.const (Value.int .i64 0)) v76 (Value.int .i64 0)) fun v78 =>
  Branch v78 (
    K v76 w13
  ) (
    PRun Try.prog (convert 3 69 v21) fun v81 =>
    PRun Try.prog (binOp .shl 3 (Value.int .i64 1) v81) fun v82 =>
    PRun Try.prog (binOp .add 3 v82 v67) fun v84 =>
    QRun Try.prog (Instr.loadAt 49 v8) w13.drew fun v85 =>
    PRun Try.prog (Instr.sliceAt 25 v11 none none none) fun v87 =>
    F30x5 v85 v84 v87 w13.drew a2 v8 a0 K
  )
def F30x7 (v69 : Value) (v67 : Value) (a1 : Value) (v73 : Value) (w9 : World) (K : Value → World → Prop) (v21 : Value) (v8 : Value) (a2 : Value) (a0 : Value) : Prop :=
  (
    CallF Try.prog 48 #[v69, v67, a1, v73] w9 fun v74 w10 =>
    PRun Try.prog (Instr.extract v74 0) fun v75 =>
    PRun Try.prog (Instr.extract v74 1) fun v76 =>
    Run Try.prog (Instr.alloc 25 true (.tuple #[])) w10 fun v11 w11 =>
    Run Try.prog (Instr.storeAt 25 v11 v75) w11 fun _ w12 =>
    F30x6 v76 K w12 v21 v67 v8 v11 a2 a0
  ) ∧
  (
    Run Try.prog (Instr.alloc 25 true (.tuple #[])) w9 fun v11_2 w47 =>
    (QRun Try.prog (Instr.loadAt 49 v8) w47 fun u => u = v69) ∧
    CallF Try.prog 48 #[v69, v67, a1, v73] w47 fun v74_2 w48 =>
    PRun Try.prog (Instr.extract v74_2 0) fun v75_2 =>
    PRun Try.prog (Instr.extract v74_2 1) fun v76_2 =>
    Run Try.prog (Instr.storeAt 25 v11_2 v75_2) w48 fun _ w49 =>
    F30x6 v76_2 K w49 v21 v67 v8 v11_2 a2 a0
  )
def F30x8 (v9_2 : Value) (a0 : Value) (w6 : World) (v8 : Value) (k1 : Value → World → Prop) (a2 : Value) (a1 : Value) (K : Value → World → Prop) (v21 : Value) : Prop :=
  PRun Try.prog (binOp .lss 3 v9_2 (Value.int .i64 16)) fun v56 =>
  Branch v56 (
    PRun Try.prog (binOp .add 3 (Value.int .i64 8) v9_2) fun v62 =>
    PRun Try.prog (Instr.indexAt 30 a0 v62) fun v63 =>
    QRun Try.prog (Instr.loadAt 5 v63) w6 fun v64 =>
    PRun Try.prog (Instr.indexAt 49 v8 v9_2) fun v65 =>
    Run Try.prog (Instr.storeAt 5 v65 v64) w6 fun _ w7 =>
    PRun Try.prog (binOp .add 3 v9_2 (Value.int .i64 1)) fun v58 =>
    k1 v58 w7
  ) (
    CallF Try.prog 47 #[a2] w6 fun v67 w8 =>
    QRun Try.prog (Instr.loadAt 49 v8) w8.drew fun v69 =>
    PRun Try.prog (Instr.sliceAt 30 a2 (some (Value.int .i64 4)) (some (Value.int .i64 4296)) none) fun v73 =>
    F30x7 v69 v67 a1 v73 w8.drew K v21 v8 a2 a0
  )
def F30x9 (a2 : Value) (v21 : Value) (w2 : World) (K : Value → World → Prop) (a0 : Value) (a1 : Value) : Prop :=
  PRun Try.prog (Builtin.len_ #[30] 3 #[a2]) fun v35 =>
  PRun Try.prog (binOp .mul 3 (Value.int .i64 32) v21) fun v37 =>
  PRun Try.prog (binOp .add 3 (Value.int .i64 4300) v37) fun v38 =>
  PRun Try.prog (eqS .neq 3 (.tmp 35) (.tmp 38) v35 v38) fun v39 =>
  Gd v39 false (fun k => k a2) fun v41 =>
  Gd v39 false (fun k => PRun Try.prog (Instr.sliceAt 30 v41 (some (Value.int .i64 4296)) none none) k) fun v42 =>
  GdE v39 false (fun k => CallF Try.prog 47 #[v42] w2 k) w2 fun v43 w3 =>
  Gd v39 false (fun k => k v21) fun v44 =>
  Gd v39 false (fun k => PRun Try.prog (eqS .neq 3 (.tmp 43) (.tmp 44) v43 v44) k) fun v45 =>
  Pick v39 (Value.bool true) v45 fun v46 =>
  Gd v46 false (fun k => k a2) fun v48 =>
  GdE v46 false (fun k => CallF Try.prog 47 #[v48] w3 k) w3 fun v49 w4 =>
  Gd v46 false (fun k => k v21) fun v50 =>
  Gd v46 false (fun k => PRun Try.prog (convert 3 69 v50) k) fun v51 =>
  Gd v46 false (fun k => PRun Try.prog (binOp .shl 3 (Value.int .i64 1) v51) k) fun v52 =>
  Gd v46 false (fun k => PRun Try.prog (binOp .geq 3 v49 v52) k) fun v53 =>
  Pick v46 (Value.bool true) v53 fun v54 =>
  Branch v54 (
    K (Value.int .i64 12) w4
  ) (
    Run Try.prog (Instr.alloc 49 true (.tuple #[])) w4 fun v8 w5 =>
    LoopF 1 [(Value.int .i64 0)] w5 fun v9_2 w6 k1 => ∀ _ : Env,
    F30x8 v9_2 a0 w6 v8 k1 a2 a1 K v21
  )
def F30x10 (a0 : Value) (w : World) (K : Value → World → Prop) (a2 : Value) (a1 : Value) : Prop :=
  CallF Try.prog 47 #[a0] w fun v21 w1 =>
  PRun Try.prog (binOp .lss 3 v21 (Value.int .i64 1)) fun v23 =>
  Gd v23 false (fun k => k v21) fun v25 =>
  Gd v23 false (fun k => PRun Try.prog (binOp .gtr 3 v25 (Value.int .i64 5)) k) fun v26 =>
  Pick v23 (Value.bool true) v26 fun v27 =>
  Gd v27 false (fun k => k a0) fun v29 =>
  Gd v27 false (fun k => PRun Try.prog (Instr.sliceAt 30 v29 (some (Value.int .i64 4)) none none) k) fun v30 =>
  GdE v27 false (fun k => CallF Try.prog 47 #[v30] w1 k) w1 fun v31 w2 =>
  Gd v27 false (fun k => PRun Try.prog (eqS .neq 3 (.tmp 31) (.const (Value.int .i64 2)) v31 (Value.int .i64 2)) k) fun v32 =>
  Pick v27 (Value.bool true) v32 fun v33 =>
  Branch v33 (
    K (Value.int .i64 11) w2
  ) (
    F30x9 a2 v21 w2 K a0 a1
  )
/-- lattice/latticeref6.Check -/
def F30 (a0 : Value) (a1 : Value) (a2 : Value) (K : Value → World → Prop) (w : World) : Prop :=
  PRun Try.prog (Builtin.len_ #[30] 3 #[a0]) fun v18 =>
  PRun Try.prog (eqS .neq 3 (.tmp 18) (.const (Value.int .i64 56)) v18 (Value.int .i64 56)) fun v19 =>
  Branch v19 (
    K (Value.int .i64 11) w
  ) (
    F30x10 a0 w K a2 a1
  )
def H30 : Hints := { n := 130, reg := [(0, ⟨[.p], [0]⟩), (1, ⟨[.p, .p, .p], [0, 1, 3]⟩), (2, ⟨[.p], [0]⟩), (3, ⟨[.p, .e, .p], [0, 1, 3]⟩), (4, ⟨[.p, .p, .p, .p, .p, .p, .p, .p, .p, .e, .p, .p], [0, 1, 3, 7, 15, 31, 63, 127, 255, 511, 1023, 2047]⟩), (5, ⟨[.p], [0]⟩), (6, ⟨[.p, .p, .p, .p, .p, .p, .p, .p, .p, .e, .p, .p, .p, .p, .p, .e, .p, .p, .p, .p, .p], [0, 1, 0, 4, 12, 31, 63, 127, 255, 511, 127, 2047, 4095, 8191, 16383, 32767, 16383, 81919, 212991, 524287, 1048575]⟩), (7, ⟨[.p], [0]⟩), (8, ⟨[.e], [0]⟩), (9, ⟨[.p], [0]⟩), (10, ⟨[.p, .p], [0, 1]⟩), (12, ⟨[.p, .p, .p, .p, .p, .q, .p, .e], [0, 0, 0, 4, 14, 30, 63, 127]⟩), (11, ⟨[.p, .p, .p], [0, 1, 3]⟩), (13, ⟨[.p, .e, .p], [0, 1, 3]⟩), (14, ⟨[.q, .p, .p, .p, .p, .e, .p, .p, .p, .e, .e, .p], [0, 0, 0, 0, 8, 31, 63, 127, 127, 0, 767, 2047]⟩), (15, ⟨[.p, .p], [0, 1]⟩), (16, ⟨[.p, .p], [0, 1]⟩), (17, ⟨[.p, .p, .p, .p, .p, .p], [0, 1, 3, 0, 15, 31]⟩), (18, ⟨[.q, .p, .p, .e, .e, .e], [0, 0, 0, 7, 0, 31]⟩), (19, ⟨[.p], [0]⟩), (20, ⟨[.p, .p], [0, 1]⟩), (22, ⟨[.p, .p, .p, .p, .p, .p, .p, .p, .p], [0, 0, 2, 6, 0, 16, 48, 127, 255]⟩), (23, ⟨[.p, .p, .p], [0, 1, 3]⟩), (24, ⟨[.q, .p, .p, .e, .p, .e, .p, .e, .e, .e], [0, 0, 2, 0, 0, 24, 0, 120, 255, 511]⟩), (25, ⟨[.q, .p, .p, .e, .p, .e, .p, .e, .e, .e], [0, 0, 2, 0, 0, 24, 0, 120, 255, 511]⟩), (26, ⟨[.p, .p, .p], [0, 1, 3]⟩), (21, ⟨[.p, .p, .p], [0, 1, 3]⟩), (27, ⟨[.p, .q, .p, .p, .q, .p], [0, 1, 0, 4, 12, 31]⟩), (28, ⟨[.p], [0]⟩), (29, ⟨[.p], [0]⟩)], loop := [(10, [9]), (20, [13, 15])], join := [(208, [])] }
noncomputable def C30 : Code := Try.f30.body.getD .skip
theorem E30 (a0 : Value) (a1 : Value) (a2 : Value) (K : Value → World → Prop) (w : World) : F30 a0 a1 a2 K w = lift Try.prog H30 C30 (envOf [a0, a1, a2] 0) w (fun E w => resV Try.prog H30.n E Try.f30.results.toList w fun vs => K (retV vs) w) [] (fun E w => resV Try.prog H30.n E Try.f30.results.toList w fun vs => K (retV vs) w) := by kernel_rfl
theorem R30 : regOk H30 C30 = true := by kernel_rfl
theorem B30 : Try.f30.body = some C30 := by kernel_rfl
theorem F30_ok (a0 : Value) (a1 : Value) (a2 : Value) (K : Value → World → Prop) (w : World) (h : F30 a0 a1 a2 K w) : Calls Try.prog 30 #[a0, a1, a2] w (retK K) :=
  lift_call mixed Try.func30 B30 Try.ntmps30 R30 (Nat.le_of_ble_eq_true rfl) (Eq.mp (E30 a0 a1 a2 K w) h)
def F19x1 (w19 : World) (v14_2 : Value) (v13 : Value) (v12_2 : Value) (v8 : Value) (k1 : Value → Value → World → Prop) : Prop :=
  Run Try.prog (Instr.alloc 25 true (.tuple #[])) w19 fun v15 w20 =>
  PRun Try.prog (Instr.sliceAt 25 v15 none none none) fun v91 =>
  Run Try.prog (Builtin.copy_ #[30, 30] 3 #[v91, v14_2]) w20 fun v93 w21 =>
  QRun Try.prog (Instr.loadAt 25 v13) w21 fun v94 =>
  QRun Try.prog (Instr.loadAt 25 v15) w21 fun v95 =>
  PRun Try.prog (Instr.build 78 #[(0, v94), (1, v95)]) fun v96 =>
  Run Try.prog (Instr.alloc 78 true (.tuple #[])) w21 fun v16 w22 =>
  Run Try.prog (Instr.storeAt 78 v16 v96) w22 fun _ w23 =>
  LetJ 0 (fun k2 =>
    PRun Try.prog (binOp .rem 3 v12_2 (Value.int .i64 2)) fun v98 =>
    PRun Try.prog (eqS .eql 3 (.tmp 98) (.const (Value.int .i64 1)) v98 (Value.int .i64 1)) fun v99 =>
    Branch v99 (
      QRun Try.prog (Instr.loadAt 25 v15) w23 fun v100 =>
      QRun Try.prog (Instr.loadAt 25 v13) w23 fun v101 =>
      PRun Try.prog (Instr.build 78 #[(0, v100), (1, v101)]) fun v102 =>
      Run Try.prog (Instr.storeAt 78 v16 v102) w23 fun _ w24 =>
      k2 w24
    ) (
      k2 w23
    )
  ) fun w25 => ∀ _ : Env,
  PRun Try.prog (binOp .quo 3 v12_2 (Value.int .i64 2)) fun v104 =>
  QRun Try.prog (Instr.loadAt 49 v8) w25.drew fun v105 =>
  PRun Try.prog (Instr.sliceAt 78 v16 none none none) fun v107 =>
  CallF Try.prog 38 #[v105, v104, (Value.int .u8 131), v107] w25.drew fun v108 w26 =>
  Run Try.prog (Instr.storeAt 25 v13 v108) w26 fun _ w27 =>
  PRun Try.prog (Instr.sliceAt 30 v14_2 (some (Value.int .i64 32)) none none) fun v90 =>
  k1 v104 v90 w27
def F19x2 (v12_2 : Value) (w19 : World) (v14_2 : Value) (v13 : Value) (v8 : Value) (k1 : Value → Value → World → Prop) (a0 : Value) (K : Value → World → Prop) : Prop :=
  PRun Try.prog (binOp .gtr 3 v12_2 (Value.int .i64 1)) fun v88 =>
  Branch v88 (
    F19x1 w19 v14_2 v13 v12_2 v8 k1
  ) (
    PRun Try.prog (Instr.sliceAt 25 v13 none none none) fun v109 =>
    QRun Try.prog (convert 30 9 v109) w19.drew fun v110 =>
    PRun Try.prog (Instr.sliceAt 30 a0 (some (Value.int .i64 24)) none none) fun v112 =>
    QRun Try.prog (convert 30 9 v112) w19.drew fun v113 =>
    PRun Try.prog (eqS .neq 9 (.tmp 110) (.tmp 113) v110 v113) fun v114 =>
    Branch v114 (
      K (Value.int .i64 12) w19.drew
    ) (
      K (Value.int .i64 0) w19.drew
    )
  )
def F19x3 (v72 : Value) (K : Value → World → Prop) (w14 : World) (v37 : Value) (v63 : Value) (v8 : Value) (v10 : Value) (a2 : Value) (a0 : Value) : Prop :=
  PRun Try.prog (eqS .neq 27 (.tmp 73) (.const (Value.int .i64 0)) v72 (Value.int .i64 0)) fun v74 =>
  Branch v74 (
    K v72 w14
  ) (
    PRun Try.prog (binOp .shl 3 (Value.int .i64 1) v37) fun v77 =>
    PRun Try.prog (binOp .add 3 v77 v63) fun v79 =>
    QRun Try.prog (Instr.loadAt 49 v8) w14 fun v80 =>
    QRun Try.prog (Instr.loadAt 25 v10) w14 fun v82 =>
    Run Try.prog (Instr.buildSlice 72 1 #[(0, v82)]) w14 fun v83 w15 =>
    CallF Try.prog 38 #[v80, v79, (Value.int .u8 130), v83] w15 fun v84 w16 =>
    Run Try.prog (Instr.alloc 25 true (.tuple #[])) w16 fun v13 w17 =>
    Run Try.prog (Instr.storeAt 25 v13 v84) w17 fun _ w18 =>
    PRun Try.prog (Instr.sliceAt 30 a2 (some (Value.int .i64 4300)) none none) fun v86 =>
    LoopF 2 [v79, v86] w18 fun v12_2 v14_2 w19 k1 => ∀ _ : Env,
    F19x2 v12_2 w19 v14_2 v13 v8 k1 a0 K
  )
def F19x4 (v65 : Value) (v63 : Value) (a1 : Value) (v69 : Value) (w10 : World) (K : Value → World → Prop) (v37 : Value) (v8 : Value) (a2 : Value) (a0 : Value) : Prop :=
  (
    CallF Try.prog 37 #[v65, v63, a1, v69] w10 fun v70 w11 =>
    PRun Try.prog (Instr.extract v70 0) fun v71 =>
    PRun Try.prog (Instr.extract v70 1) fun v72 =>
    Run Try.prog (Instr.alloc 25 true (.tuple #[])) w11 fun v10 w12 =>
    Run Try.prog (Instr.storeAt 25 v10 v71) w12 fun _ w13 =>
    F19x3 v72 K w13 v37 v63 v8 v10 a2 a0
  ) ∧
  (
    Run Try.prog (Instr.alloc 25 true (.tuple #[])) w10 fun v10_2 w28 =>
    (QRun Try.prog (Instr.loadAt 49 v8) w28 fun u => u = v65) ∧
    CallF Try.prog 37 #[v65, v63, a1, v69] w28 fun v70_2 w29 =>
    PRun Try.prog (Instr.extract v70_2 0) fun v71_2 =>
    PRun Try.prog (Instr.extract v70_2 1) fun v72_2 =>
    Run Try.prog (Instr.storeAt 25 v10_2 v71_2) w29 fun _ w30 =>
    F19x3 v72_2 K w30 v37 v63 v8 v10_2 a2 a0
  )
def F19x5 (a0 : Value) (w3 : World) (a2 : Value) (K : Value → World → Prop) (a1 : Value) : Prop :=
  CallF Try.prog 36 #[a0] w3 fun v37 w4 =>
  PRun Try.prog (Builtin.len_ #[30] 3 #[a2]) fun v39 =>
  PRun Try.prog (binOp .mul 3 (Value.int .i64 32) v37) fun v41 =>
  PRun Try.prog (binOp .add 3 (Value.int .i64 4300) v41) fun v42 =>
  PRun Try.prog (eqS .neq 3 (.tmp 39) (.tmp 42) v39 v42) fun v43 =>
  Gd v43 false (fun k => k a2) fun v45 =>
  Gd v43 false (fun k => PRun Try.prog (Instr.sliceAt 30 v45 (some (Value.int .i64 4296)) none none) k) fun v46 =>
  Gd v43 false (fun k => k v37) fun v48 =>
  GdE v43 false (fun k => CallF Try.prog 36 #[v46] w4.drew k) w4.drew fun v47 w5 =>
  Gd v43 false (fun k => PRun Try.prog (eqS .neq 3 (.tmp 47) (.tmp 48) v47 v48) k) fun v49 =>
  Pick v43 (Value.bool true) v49 fun v50 =>
  Gd v50 false (fun k => k a2) fun v52 =>
  Gd v50 false (fun k => k v37) fun v54 =>
  Gd v50 false (fun k => PRun Try.prog (binOp .shl 3 (Value.int .i64 1) v54) k) fun v55 =>
  GdE v50 false (fun k => CallF Try.prog 36 #[v52] w5 k) w5 fun v53 w6 =>
  Gd v50 false (fun k => PRun Try.prog (binOp .geq 3 v53 v55) k) fun v56 =>
  Pick v50 (Value.bool true) v56 fun v57 =>
  Branch v57 (
    K (Value.int .i64 12) w6
  ) (
    Run Try.prog (Instr.alloc 49 true (.tuple #[])) w6 fun v8 w7 =>
    PRun Try.prog (Instr.sliceAt 49 v8 none none none) fun v58 =>
    PRun Try.prog (Instr.sliceAt 30 a0 (some (Value.int .i64 8)) none none) fun v60 =>
    Run Try.prog (Builtin.copy_ #[30, 30] 3 #[v58, v60]) w7.drew fun v61 w8 =>
    CallF Try.prog 36 #[a2] w8 fun v63 w9 =>
    QRun Try.prog (Instr.loadAt 49 v8) w9.drew fun v65 =>
    PRun Try.prog (Instr.sliceAt 30 a2 (some (Value.int .i64 4)) (some (Value.int .i64 4296)) none) fun v69 =>
    F19x4 v65 v63 a1 v69 w9.drew K v37 v8 a2 a0
  )
/-- lattice/lms.Check -/
def F19 (a0 : Value) (a1 : Value) (a2 : Value) (K : Value → World → Prop) (w : World) : Prop :=
  PRun Try.prog (Builtin.len_ #[30] 3 #[a0]) fun v18 =>
  PRun Try.prog (eqS .neq 3 (.tmp 18) (.const (Value.int .i64 56)) v18 (Value.int .i64 56)) fun v19 =>
  Gd v19 false (fun k => k a0) fun v21 =>
  GdE v19 false (fun k => CallF Try.prog 36 #[v21] w k) w fun v22 w1 =>
  Gd v19 false (fun k => PRun Try.prog (binOp .lss 3 v22 (Value.int .i64 1)) k) fun v23 =>
  Pick v19 (Value.bool true) v23 fun v24 =>
  Gd v24 false (fun k => k a0) fun v26 =>
  GdE v24 false (fun k => CallF Try.prog 36 #[v26] w1 k) w1 fun v27 w2 =>
  Gd v24 false (fun k => PRun Try.prog (binOp .gtr 3 v27 (Value.int .i64 5)) k) fun v28 =>
  Pick v24 (Value.bool true) v28 fun v29 =>
  Gd v29 false (fun k => k a0) fun v31 =>
  Gd v29 false (fun k => PRun Try.prog (Instr.sliceAt 30 v31 (some (Value.int .i64 4)) none none) k) fun v32 =>
  GdE v29 false (fun k => CallF Try.prog 36 #[v32] w2 k) w2 fun v33 w3 =>
  Gd v29 false (fun k => PRun Try.prog (eqS .neq 3 (.tmp 33) (.const (Value.int .i64 2)) v33 (Value.int .i64 2)) k) fun v34 =>
  Pick v29 (Value.bool true) v34 fun v35 =>
  Branch v35 (
    K (Value.int .i64 11) w3
  ) (
    F19x5 a0 w3 a2 K a1
  )
def H19 : Hints := { n := 115, reg := [(0, ⟨[.p], [0]⟩), (1, ⟨[.p, .p, .p, .p, .p, .e, .p, .p, .p, .p, .e, .p, .p, .p, .p, .p, .e, .p, .p], [0, 1, 3, 7, 15, 31, 63, 127, 255, 511, 1023, 2047, 4095, 8191, 16383, 32767, 65535, 131071, 262143]⟩), (2, ⟨[.p], [0]⟩), (3, ⟨[.p, .e, .p], [0, 1, 3]⟩), (4, ⟨[.p, .p, .p, .p, .p, .p, .p, .p, .p, .e, .p, .p, .p, .p, .p, .e, .p, .p, .p, .p], [0, 1, 0, 4, 12, 31, 63, 127, 255, 511, 127, 2047, 4095, 8191, 16383, 32767, 16383, 81919, 262143, 524287]⟩), (5, ⟨[.p], [0]⟩), (6, ⟨[.e], [0]⟩), (7, ⟨[.p, .p, .p, .e], [0, 0, 2, 7]⟩), (8, ⟨[.p, .e, .p], [0, 1, 3]⟩), (9, ⟨[.q, .p, .p, .p, .p, .e, .p, .p, .p, .e, .e, .p], [0, 0, 0, 0, 8, 31, 63, 127, 127, 0, 767, 2047]⟩), (10, ⟨[.p, .p], [0, 1]⟩), (11, ⟨[.p, .p], [0, 1]⟩), (12, ⟨[.p, .p, .p, .p, .p], [0, 1, 0, 7, 15]⟩), (13, ⟨[.q, .p, .q, .e, .e, .e, .e], [0, 0, 0, 4, 15, 0, 63]⟩), (14, ⟨[.p, .p, .p], [0, 1, 3]⟩), (15, ⟨[.p, .p], [0, 1]⟩), (17, ⟨[.e], [0]⟩), (18, ⟨[.p, .p, .e], [0, 0, 3]⟩), (19, ⟨[.q, .q, .p, .e, .e], [0, 0, 3, 0, 15]⟩), (20, ⟨[.p, .p, .p], [0, 1, 3]⟩), (21, ⟨[.q, .q, .p, .e], [0, 0, 3, 7]⟩), (22, ⟨[.p, .p, .p], [0, 1, 3]⟩), (23, ⟨[.q, .p, .p, .e, .e], [0, 0, 0, 7, 15]⟩), (16, ⟨[.p, .p, .p], [0, 1, 3]⟩), (24, ⟨[.p, .q, .p, .p, .q, .p], [0, 1, 0, 4, 12, 31]⟩), (25, ⟨[.p], [0]⟩), (26, ⟨[.p], [0]⟩)], loop := [(15, [12, 14])], join := [(200, [])] }
noncomputable def C19 : Code := Try.f19.body.getD .skip
theorem E19 (a0 : Value) (a1 : Value) (a2 : Value) (K : Value → World → Prop) (w : World) : F19 a0 a1 a2 K w = lift Try.prog H19 C19 (envOf [a0, a1, a2] 0) w (fun E w => resV Try.prog H19.n E Try.f19.results.toList w fun vs => K (retV vs) w) [] (fun E w => resV Try.prog H19.n E Try.f19.results.toList w fun vs => K (retV vs) w) := by kernel_rfl
theorem R19 : regOk H19 C19 = true := by kernel_rfl
theorem B19 : Try.f19.body = some C19 := by kernel_rfl
theorem F19_ok (a0 : Value) (a1 : Value) (a2 : Value) (K : Value → World → Prop) (w : World) (h : F19 a0 a1 a2 K w) : Calls Try.prog 19 #[a0, a1, a2] w (retK K) :=
  lift_call mixed Try.func19 B19 Try.ntmps19 R19 (Nat.le_of_ble_eq_true rfl) (Eq.mp (E19 a0 a1 a2 K w) h)
/-- lattice/latticeref13.Right -/
def F12 (a0 : Value) (K : Value → World → Prop) (w : World) : Prop :=
  Run Try.prog (Instr.box 39 a0) w fun v1 w1 =>
  PRun Try.prog (Instr.fieldAt 39 v1 0) fun v3 =>
  QRun Try.prog (Instr.loadAt 30 v3) w1.drew fun v4 =>
  PRun Try.prog (Instr.fieldAt 39 v1 1) fun v5 =>
  QRun Try.prog (Instr.loadAt 3 v5) w1.drew fun v6 =>
  PRun Try.prog (Instr.fieldAt 39 v1 2) fun v7 =>
  QRun Try.prog (Instr.loadAt 25 v7) w1.drew fun v8 =>
  PRun Try.prog (Instr.fieldAt 39 v1 3) fun v10 =>
  QRun Try.prog (Instr.loadAt 30 v10) w1.drew fun v11 =>
  CallF Try.prog 17 #[v6, v8] w1.drew fun v9 w2 =>
  (QRun Try.prog (Instr.loadAt 30 v10) w2 fun u => u = v11) ∧
  (QRun Try.prog (Instr.loadAt 30 v3) w2 fun u => u = v4) ∧
  CallF Try.prog 30 #[v4, v9, v11] w2 fun v12 w3 =>
  K v12 w3
def H12 : Hints := { n := 13, reg := [(0, ⟨[.e, .p], [0, 0]⟩), (1, ⟨[.p, .q, .p, .q, .p, .q, .e, .p, .q, .e, .p], [0, 1, 0, 4, 0, 16, 60, 0, 128, 511, 1023]⟩)], loop := [], join := [] }
noncomputable def C12 : Code := Try.f12.body.getD .skip
theorem E12 (a0 : Value) (K : Value → World → Prop) (w : World) : F12 a0 K w = lift Try.prog H12 C12 (envOf [a0] 0) w (fun E w => resV Try.prog H12.n E Try.f12.results.toList w fun vs => K (retV vs) w) [] (fun E w => resV Try.prog H12.n E Try.f12.results.toList w fun vs => K (retV vs) w) := by kernel_rfl
theorem R12 : regOk H12 C12 = true := by kernel_rfl
theorem B12 : Try.f12.body = some C12 := by kernel_rfl
theorem F12_ok (a0 : Value) (K : Value → World → Prop) (w : World) (h : F12 a0 K w) : Calls Try.prog 12 #[a0] w (retK K) :=
  lift_call mixed Try.func12 B12 Try.ntmps12 R12 (Nat.le_of_ble_eq_true rfl) (Eq.mp (E12 a0 K w) h)
def F13x1 (w1 : World) (v1 : Value) (K : Value → World → Prop) : Prop :=
  Run Try.prog (Instr.buildSlice 30 1 #[(0, (Value.int .u8 114))]) w1 fun v23 w2 =>
  PRun Try.prog (Instr.fieldAt 39 v1 0) fun v24 =>
  QRun Try.prog (Instr.loadAt 30 v24) w2 fun v25 =>
  Run Try.prog (Builtin.append_ #[30, 30] 30 #[v23, v25]) w2 fun v26 w3 =>
  PRun Try.prog (Instr.fieldAt 39 v1 1) fun v28 =>
  QRun Try.prog (Instr.loadAt 3 v28) w3.drew fun v29 =>
  PRun Try.prog (Instr.fieldAt 39 v1 2) fun v31 =>
  PRun Try.prog (Instr.sliceAt 25 v31 none none none) fun v32 =>
  CallF Try.prog 31 #[v26, v29] w3.drew fun v30 w4 =>
  Run Try.prog (Builtin.append_ #[30, 30] 30 #[v30, v32]) w4 fun v33 w5 =>
  PRun Try.prog (Instr.fieldAt 39 v1 3) fun v35 =>
  QRun Try.prog (Instr.loadAt 30 v35) w5 fun v36 =>
  PRun Try.prog (Builtin.len_ #[30] 3 #[v36]) fun v37 =>
  PRun Try.prog (binOp .shr 3 v37 (Value.int .u64 8)) fun v38 =>
  PRun Try.prog (convert 3 5 v38) fun v39 =>
  PRun Try.prog (Instr.fieldAt 39 v1 3) fun v40 =>
  QRun Try.prog (Instr.loadAt 30 v40) w5 fun v41 =>
  PRun Try.prog (Builtin.len_ #[30] 3 #[v41]) fun v42 =>
  PRun Try.prog (convert 3 5 v42) fun v43 =>
  Run Try.prog (Instr.buildSlice 30 2 #[(0, v39), (1, v43)]) w5 fun v44 w6 =>
  Run Try.prog (Builtin.append_ #[30, 30] 30 #[v33, v44]) w6 fun v45 w7 =>
  PRun Try.prog (Instr.fieldAt 39 v1 3) fun v47 =>
  QRun Try.prog (Instr.loadAt 30 v47) w7 fun v48 =>
  Run Try.prog (Builtin.append_ #[30, 30] 30 #[v45, v48]) w7 fun v49 w8 =>
  K (Value.tuple #[v49, (Value.int .i64 0)]) w8
/-- lattice/latticeref9.Root -/
def F13 (a0 : Value) (K : Value → World → Prop) (w : World) : Prop :=
  Run Try.prog (Instr.box 39 a0) w fun v1 w1 =>
  PRun Try.prog (Instr.fieldAt 39 v1 0) fun v5 =>
  QRun Try.prog (Instr.loadAt 30 v5) w1 fun v6 =>
  PRun Try.prog (Builtin.len_ #[30] 3 #[v6]) fun v7 =>
  PRun Try.prog (eqS .neq 3 (.tmp 7) (.const (Value.int .i64 56)) v7 (Value.int .i64 56)) fun v8 =>
  Gd v8 false (fun k => PRun Try.prog (Instr.fieldAt 39 v1 1) k) fun v10 =>
  Gd v8 false (fun k => QRun Try.prog (Instr.loadAt 3 v10) w1 k) fun v11 =>
  Gd v8 false (fun k => PRun Try.prog (binOp .lss 3 v11 (Value.int .i64 1)) k) fun v12 =>
  Pick v8 (Value.bool true) v12 fun v13 =>
  Gd v13 false (fun k => PRun Try.prog (Instr.fieldAt 39 v1 1) k) fun v15 =>
  Gd v13 false (fun k => QRun Try.prog (Instr.loadAt 3 v15) w1 k) fun v16 =>
  Gd v13 false (fun k => PRun Try.prog (binOp .gtr 3 v16 (Value.int .i64 2147483647)) k) fun v17 =>
  Pick v13 (Value.bool true) v17 fun v18 =>
  Branch v18 (
    K (Value.tuple #[(Value.slice none 0 0), (Value.int .i64 1)]) w1
  ) (
    PRun Try.prog (Instr.fieldAt 39 v1 3) fun v19 =>
    QRun Try.prog (Instr.loadAt 30 v19) w1 fun v20 =>
    PRun Try.prog (Builtin.len_ #[30] 3 #[v20]) fun v21 =>
    PRun Try.prog (binOp .gtr 3 v21 (Value.int .i64 5000)) fun v22 =>
    Branch v22 (
      K (Value.tuple #[(Value.slice none 0 0), (Value.int .i64 5)]) w1
    ) (
      F13x1 w1 v1 K
    )
  )
def H13 : Hints := { n := 50, reg := [(0, ⟨[.e, .p, .p], [0, 0, 2]⟩), (1, ⟨[.p, .q, .p, .p, .p, .p, .q, .p, .p, .p, .p, .q, .p, .p], [0, 1, 3, 7, 15, 31, 63, 127, 255, 511, 1023, 2047, 4095, 8191]⟩), (2, ⟨[.p, .p], [0, 1]⟩), (3, ⟨[.p, .q, .p, .p], [0, 1, 3, 7]⟩), (4, ⟨[.p, .p], [0, 1]⟩), (5, ⟨[.e, .p, .q, .e, .p], [0, 0, 2, 7, 15]⟩), (6, ⟨[.p, .p, .q, .e, .p, .p, .e, .p], [0, 0, 2, 7, 0, 16, 63, 127]⟩), (7, ⟨[.p, .p, .q, .p, .p, .p, .p, .q, .p, .p, .e, .e, .p], [0, 0, 2, 6, 14, 30, 0, 64, 192, 448, 1022, 2047, 4095]⟩), (8, ⟨[.p, .p, .q, .e, .p, .p], [0, 0, 2, 7, 15, 31]⟩)], loop := [], join := [] }
noncomputable def C13 : Code := Try.f13.body.getD .skip
theorem E13 (a0 : Value) (K : Value → World → Prop) (w : World) : F13 a0 K w = lift Try.prog H13 C13 (envOf [a0] 0) w (fun E w => resV Try.prog H13.n E Try.f13.results.toList w fun vs => K (retV vs) w) [] (fun E w => resV Try.prog H13.n E Try.f13.results.toList w fun vs => K (retV vs) w) := by kernel_rfl
theorem R13 : regOk H13 C13 = true := by kernel_rfl
theorem B13 : Try.f13.body = some C13 := by kernel_rfl
theorem F13_ok (a0 : Value) (K : Value → World → Prop) (w : World) (h : F13 a0 K w) : Calls Try.prog 13 #[a0] w (retK K) :=
  lift_call mixed Try.func13 B13 Try.ntmps13 R13 (Nat.le_of_ble_eq_true rfl) (Eq.mp (E13 a0 K w) h)
def F11x1 (a0 : Value) (v30 : Value) (v2 : Value) (w10 : World) (K : Value → World → Prop) (v4 : Value) : Prop :=
  PRun Try.prog (Builtin.len_ #[30] 3 #[a0]) fun v57 =>
  PRun Try.prog (binOp .add 3 (Value.int .i64 95) v30) fun v59 =>
  PRun Try.prog (binOp .gtr 3 v57 v59) fun v60 =>
  Branch v60 (
    PRun Try.prog (Instr.build 39 #[]) fun v61 =>
    Run Try.prog (Instr.storeAt 39 v2 v61) w10.drew fun _ w13 =>
    QRun Try.prog (Instr.loadAt 39 v2) w13 fun v2_5 =>
    K (Value.tuple #[v2_5, (Value.int .i64 9)]) w13
  ) (
    Run Try.prog (Instr.buildSlice 30 0 #[]) w10.drew fun v62 w14 =>
    PRun Try.prog (Instr.sliceAt 30 a0 (some (Value.int .i64 95)) none none) fun v64 =>
    Run Try.prog (Builtin.append_ #[30, 30] 30 #[v62, v64]) w14 fun v65 w15 =>
    PRun Try.prog (Instr.fieldAt 39 v4 3) fun v66 =>
    Run Try.prog (Instr.storeAt 30 v66 v65) w15 fun _ w16 =>
    QRun Try.prog (Instr.loadAt 39 v4) w16 fun v67 =>
    Run Try.prog (Instr.storeAt 39 v2 v67) w16 fun _ w17 =>
    QRun Try.prog (Instr.loadAt 39 v2) w17 fun v2_6 =>
    K (Value.tuple #[v2_6, (Value.int .i64 0)]) w17
  )
def F11x2 (a0 : Value) (w10 : World) (v4 : Value) (v2 : Value) (K : Value → World → Prop) : Prop :=
  PRun Try.prog (Instr.indexAt 30 a0 (Value.int .i64 93)) fun v22 =>
  QRun Try.prog (Instr.loadAt 5 v22) w10.drew fun v23 =>
  PRun Try.prog (convert 5 3 v23) fun v24 =>
  PRun Try.prog (binOp .shl 3 v24 (Value.int .u64 8)) fun v25 =>
  PRun Try.prog (Instr.indexAt 30 a0 (Value.int .i64 94)) fun v27 =>
  QRun Try.prog (Instr.loadAt 5 v27) w10.drew fun v28 =>
  PRun Try.prog (convert 5 3 v28) fun v29 =>
  PRun Try.prog (binOp .or 3 v25 v29) fun v30 =>
  PRun Try.prog (Instr.indexAt 30 a0 (Value.int .i64 0)) fun v32 =>
  QRun Try.prog (Instr.loadAt 5 v32) w10.drew fun v33 =>
  PRun Try.prog (eqS .neq 5 (.tmp 33) (.const (Value.int .u8 114)) v33 (Value.int .u8 114)) fun v34 =>
  Gd v34 false (fun k => PRun Try.prog (Instr.fieldAt 39 v4 1) k) fun v36 =>
  Gd v34 false (fun k => QRun Try.prog (Instr.loadAt 3 v36) w10.drew k) fun v37 =>
  Gd v34 false (fun k => PRun Try.prog (binOp .lss 3 v37 (Value.int .i64 1)) k) fun v38 =>
  Pick v34 (Value.bool true) v38 fun v39 =>
  Gd v39 false (fun k => PRun Try.prog (Instr.fieldAt 39 v4 1) k) fun v41 =>
  Gd v39 false (fun k => QRun Try.prog (Instr.loadAt 3 v41) w10.drew k) fun v42 =>
  Gd v39 false (fun k => PRun Try.prog (binOp .gtr 3 v42 (Value.int .i64 2147483647)) k) fun v43 =>
  Pick v39 (Value.bool true) v43 fun v44 =>
  Gd v44 false (fun k => k v30) fun v46 =>
  Gd v44 false (fun k => PRun Try.prog (binOp .gtr 3 v46 (Value.int .i64 5000)) k) fun v47 =>
  Pick v44 (Value.bool true) v47 fun v48 =>
  Branch v48 (
    PRun Try.prog (Instr.build 39 #[]) fun v49 =>
    Run Try.prog (Instr.storeAt 39 v2 v49) w10.drew fun _ w11 =>
    QRun Try.prog (Instr.loadAt 39 v2) w11 fun v2_3 =>
    K (Value.tuple #[v2_3, (Value.int .i64 11)]) w11
  ) (
    PRun Try.prog (Builtin.len_ #[30] 3 #[a0]) fun v51 =>
    PRun Try.prog (binOp .add 3 (Value.int .i64 95) v30) fun v53 =>
    PRun Try.prog (binOp .lss 3 v51 v53) fun v54 =>
    Branch v54 (
      PRun Try.prog (Instr.build 39 #[]) fun v55 =>
      Run Try.prog (Instr.storeAt 39 v2 v55) w10.drew fun _ w12 =>
      QRun Try.prog (Instr.loadAt 39 v2) w12 fun v2_4 =>
      K (Value.tuple #[v2_4, (Value.int .i64 8)]) w12
    ) (
      F11x1 a0 v30 v2 w10 K v4
    )
  )
def F11x3 (w3 : World) (v12 : Value) (v15 : Value) (v18 : Value) (a0 : Value) (v2 : Value) (K : Value → World → Prop) : Prop :=
  (
    Run Try.prog (Instr.buildSlice 30 0 #[]) w3 fun v10 w4 =>
    (
      Run Try.prog (Builtin.append_ #[30, 30] 30 #[v10, v12]) w4 fun v13 w5 =>
      (
        CallF Try.prog 28 #[v15] w5 fun v16 w6 =>
        (
          CallF Try.prog 29 #[v18] w6 fun v19 w7 =>
          PRun Try.prog (Instr.build 39 #[(0, v13), (1, v16), (2, v19)]) fun v20 =>
          Run Try.prog (Instr.alloc 39 true (.tuple #[])) w7 fun v4 w8 =>
          Run Try.prog (Instr.storeAt 39 v4 v20) w8 fun _ w9 =>
          F11x2 a0 w9 v4 v2 K
        ) ∧
        (
          Run Try.prog (Instr.alloc 39 true (.tuple #[])) w6 fun v4_2 w18 =>
          CallF Try.prog 29 #[v18] w18 fun v19_2 w19 =>
          PRun Try.prog (Instr.build 39 #[(0, v13), (1, v16), (2, v19_2)]) fun v20_2 =>
          Run Try.prog (Instr.storeAt 39 v4_2 v20_2) w19 fun _ w20 =>
          F11x2 a0 w20 v4_2 v2 K
        )
      ) ∧
      (
        Run Try.prog (Instr.alloc 39 true (.tuple #[])) w5 fun v4_3 w29 =>
        CallF Try.prog 28 #[v15] w29 fun v16_2 w30 =>
        CallF Try.prog 29 #[v18] w30 fun v19_3 w31 =>
        PRun Try.prog (Instr.build 39 #[(0, v13), (1, v16_2), (2, v19_3)]) fun v20_3 =>
        Run Try.prog (Instr.storeAt 39 v4_3 v20_3) w31 fun _ w32 =>
        F11x2 a0 w32 v4_3 v2 K
      )
    ) ∧
    (
      Run Try.prog (Instr.alloc 39 true (.tuple #[])) w4 fun v4_4 w41 =>
      Run Try.prog (Builtin.append_ #[30, 30] 30 #[v10, v12]) w41 fun v13_2 w42 =>
      CallF Try.prog 28 #[v15] w42 fun v16_3 w43 =>
      CallF Try.prog 29 #[v18] w43 fun v19_4 w44 =>
      PRun Try.prog (Instr.build 39 #[(0, v13_2), (1, v16_3), (2, v19_4)]) fun v20_4 =>
      Run Try.prog (Instr.storeAt 39 v4_4 v20_4) w44 fun _ w45 =>
      F11x2 a0 w45 v4_4 v2 K
    )
  ) ∧
  (
    Run Try.prog (Instr.alloc 39 true (.tuple #[])) w3 fun v4_5 w54 =>
    Run Try.prog (Instr.buildSlice 30 0 #[]) w54 fun v10_2 w55 =>
    Run Try.prog (Builtin.append_ #[30, 30] 30 #[v10_2, v12]) w55 fun v13_3 w56 =>
    CallF Try.prog 28 #[v15] w56 fun v16_4 w57 =>
    CallF Try.prog 29 #[v18] w57 fun v19_5 w58 =>
    PRun Try.prog (Instr.build 39 #[(0, v13_3), (1, v16_4), (2, v19_5)]) fun v20_5 =>
    Run Try.prog (Instr.storeAt 39 v4_5 v20_5) w58 fun _ w59 =>
    F11x2 a0 w59 v4_5 v2 K
  )
/-- lattice/latticeref9.ParseRoot -/
def F11 (a0 : Value) (K : Value → World → Prop) (w : World) : Prop :=
  Run Try.prog (Instr.alloc 39 true (.tuple #[])) w fun v2 w1 =>
  PRun Try.prog (Builtin.len_ #[30] 3 #[a0]) fun v7 =>
  PRun Try.prog (binOp .lss 3 v7 (Value.int .i64 95)) fun v8 =>
  Branch v8 (
    PRun Try.prog (Instr.build 39 #[]) fun v9 =>
    Run Try.prog (Instr.storeAt 39 v2 v9) w1 fun _ w2 =>
    QRun Try.prog (Instr.loadAt 39 v2) w2 fun v2_2 =>
    K (Value.tuple #[v2_2, (Value.int .i64 8)]) w2
  ) (
    PRun Try.prog (Instr.sliceAt 30 a0 (some (Value.int .i64 1)) (some (Value.int .i64 57)) none) fun v12 =>
    PRun Try.prog (Instr.sliceAt 30 a0 (some (Value.int .i64 57)) none none) fun v15 =>
    PRun Try.prog (Instr.sliceAt 30 a0 (some (Value.int .i64 61)) none none) fun v18 =>
    F11x3 w1.drew v12 v15 v18 a0 v2 K
  )
def H11 : Hints := { n := 68, reg := [(0, ⟨[.e, .p], [0, 0]⟩), (1, ⟨[.p, .p, .p], [0, 1, 3]⟩), (2, ⟨[.p, .e, .p], [0, 1, 3]⟩), (3, ⟨[.e, .p, .p, .e, .p, .p, .e, .p, .p, .e, .p, .e, .e], [0, 0, 2, 7, 0, 16, 63, 0, 128, 511, 1023, 0, 4095]⟩), (4, ⟨[.p, .p, .q, .p, .p, .p, .p, .q, .p, .p, .p], [0, 1, 3, 7, 15, 0, 32, 96, 224, 511, 1023]⟩), (5, ⟨[.p, .p, .q, .p, .p, .p, .q, .p, .p, .p, .p, .q, .p, .p, .p, .p, .p, .p], [0, 1, 3, 7, 15, 31, 63, 127, 255, 511, 1023, 2047, 4095, 8191, 16383, 32767, 65535, 131071]⟩), (6, ⟨[.p, .e, .p], [0, 1, 3]⟩), (7, ⟨[.p, .p, .p, .p, .p], [0, 1, 0, 4, 15]⟩), (8, ⟨[.p, .e, .p], [0, 1, 3]⟩), (9, ⟨[.p, .p, .p, .p, .p], [0, 1, 0, 4, 15]⟩), (10, ⟨[.p, .e, .p], [0, 1, 3]⟩), (11, ⟨[.e, .p, .p, .e, .p, .e], [0, 0, 2, 7, 15, 31]⟩), (12, ⟨[.q, .e, .p], [0, 1, 3]⟩)], loop := [], join := [] }
noncomputable def C11 : Code := Try.f11.body.getD .skip
theorem E11 (a0 : Value) (K : Value → World → Prop) (w : World) : F11 a0 K w = lift Try.prog H11 C11 (envOf [a0] 0) w (fun E w => resV Try.prog H11.n E Try.f11.results.toList w fun vs => K (retV vs) w) [] (fun E w => resV Try.prog H11.n E Try.f11.results.toList w fun vs => K (retV vs) w) := by kernel_rfl
theorem R11 : regOk H11 C11 = true := by kernel_rfl
theorem B11 : Try.f11.body = some C11 := by kernel_rfl
theorem F11_ok (a0 : Value) (K : Value → World → Prop) (w : World) (h : F11 a0 K w) : Calls Try.prog 11 #[a0] w (retK K) :=
  lift_call mixed Try.func11 B11 Try.ntmps11 R11 (Nat.le_of_ble_eq_true rfl) (Eq.mp (E11 a0 K w) h)
def F18x1 (a0 : Value) (v24 : Value) (v2 : Value) (w10 : World) (K : Value → World → Prop) (v4 : Value) : Prop :=
  PRun Try.prog (Builtin.len_ #[30] 3 #[a0]) fun v54 =>
  PRun Try.prog (binOp .add 3 (Value.int .i64 95) v24) fun v56 =>
  PRun Try.prog (binOp .gtr 3 v54 v56) fun v57 =>
  Branch v57 (
    PRun Try.prog (Instr.build 39 #[]) fun v58 =>
    Run Try.prog (Instr.storeAt 39 v2 v58) w10 fun _ w13 =>
    QRun Try.prog (Instr.loadAt 39 v2) w13 fun v2_5 =>
    K (Value.tuple #[v2_5, (Value.int .i64 9)]) w13
  ) (
    PRun Try.prog (Instr.sliceAt 30 a0 (some (Value.int .i64 95)) none none) fun v60 =>
    CallF Try.prog 23 #[v60] w10 fun v61 w14 =>
    PRun Try.prog (Instr.fieldAt 39 v4 3) fun v62 =>
    Run Try.prog (Instr.storeAt 30 v62 v61) w14 fun _ w15 =>
    QRun Try.prog (Instr.loadAt 39 v4) w15 fun v63 =>
    Run Try.prog (Instr.storeAt 39 v2 v63) w15 fun _ w16 =>
    QRun Try.prog (Instr.loadAt 39 v2) w16 fun v2_6 =>
    K (Value.tuple #[v2_6, (Value.int .i64 0)]) w16
  )
def F18x2 (v4 : Value) (a0 : Value) (w8 : World) (v2 : Value) (K : Value → World → Prop) : Prop :=
  PRun Try.prog (Instr.fieldAt 39 v4 2) fun v17 =>
  PRun Try.prog (Instr.sliceAt 25 v17 none none none) fun v18 =>
  PRun Try.prog (Instr.sliceAt 30 a0 (some (Value.int .i64 61)) none none) fun v20 =>
  Run Try.prog (Builtin.copy_ #[30, 30] 3 #[v18, v20]) w8.drew fun v21 w9 =>
  PRun Try.prog (Instr.sliceAt 30 a0 (some (Value.int .i64 93)) (some (Value.int .i64 95)) none) fun v23 =>
  CallF Try.prog 35 #[v23] w9 fun v24 w10 =>
  PRun Try.prog (Instr.indexAt 30 a0 (Value.int .i64 0)) fun v27 =>
  QRun Try.prog (Instr.loadAt 5 v27) w10 fun v28 =>
  PRun Try.prog (eqS .neq 5 (.tmp 28) (.const (Value.int .u8 114)) v28 (Value.int .u8 114)) fun v29 =>
  Gd v29 false (fun k => PRun Try.prog (Instr.fieldAt 39 v4 1) k) fun v31 =>
  Gd v29 false (fun k => QRun Try.prog (Instr.loadAt 3 v31) w10 k) fun v32 =>
  Gd v29 false (fun k => PRun Try.prog (binOp .lss 3 v32 (Value.int .i64 1)) k) fun v33 =>
  Pick v29 (Value.bool true) v33 fun v34 =>
  Gd v34 false (fun k => PRun Try.prog (Instr.fieldAt 39 v4 1) k) fun v36 =>
  Gd v34 false (fun k => QRun Try.prog (Instr.loadAt 3 v36) w10 k) fun v37 =>
  Gd v34 false (fun k => PRun Try.prog (binOp .gtr 3 v37 (Value.int .i64 2147483647)) k) fun v38 =>
  Pick v34 (Value.bool true) v38 fun v39 =>
  Gd v39 false (fun k => k v24) fun v41 =>
  Gd v39 false (fun k => PRun Try.prog (binOp .gtr 3 v41 (Value.int .i64 5000)) k) fun v42 =>
  Pick v39 (Value.bool true) v42 fun v43 =>
  Branch v43 (
    PRun Try.prog (Instr.build 39 #[]) fun v44 =>
    Run Try.prog (Instr.storeAt 39 v2 v44) w10 fun _ w11 =>
    QRun Try.prog (Instr.loadAt 39 v2) w11 fun v2_3 =>
    K (Value.tuple #[v2_3, (Value.int .i64 11)]) w11
  ) (
    PRun Try.prog (Builtin.len_ #[30] 3 #[a0]) fun v47 =>
    PRun Try.prog (binOp .add 3 (Value.int .i64 95) v24) fun v49 =>
    PRun Try.prog (binOp .lss 3 v47 v49) fun v50 =>
    Branch v50 (
      PRun Try.prog (Instr.build 39 #[]) fun v51 =>
      Run Try.prog (Instr.storeAt 39 v2 v51) w10 fun _ w12 =>
      QRun Try.prog (Instr.loadAt 39 v2) w12 fun v2_4 =>
      K (Value.tuple #[v2_4, (Value.int .i64 8)]) w12
    ) (
      F18x1 a0 v24 v2 w10 K v4
    )
  )
def F18x3 (v11 : Value) (w3 : World) (v14 : Value) (a0 : Value) (v2 : Value) (K : Value → World → Prop) : Prop :=
  (
    CallF Try.prog 23 #[v11] w3 fun v12 w4 =>
    (
      CallF Try.prog 35 #[v14] w4 fun v15 w5 =>
      PRun Try.prog (Instr.build 39 #[(0, v12), (1, v15)]) fun v16 =>
      Run Try.prog (Instr.alloc 39 true (.tuple #[])) w5 fun v4 w6 =>
      Run Try.prog (Instr.storeAt 39 v4 v16) w6 fun _ w7 =>
      F18x2 v4 a0 w7 v2 K
    ) ∧
    (
      Run Try.prog (Instr.alloc 39 true (.tuple #[])) w4 fun v4_2 w17 =>
      CallF Try.prog 35 #[v14] w17 fun v15_2 w18 =>
      PRun Try.prog (Instr.build 39 #[(0, v12), (1, v15_2)]) fun v16_2 =>
      Run Try.prog (Instr.storeAt 39 v4_2 v16_2) w18 fun _ w19 =>
      F18x2 v4_2 a0 w19 v2 K
    )
  ) ∧
  (
    Run Try.prog (Instr.alloc 39 true (.tuple #[])) w3 fun v4_3 w29 =>
    CallF Try.prog 23 #[v11] w29 fun v12_2 w30 =>
    CallF Try.prog 35 #[v14] w30 fun v15_3 w31 =>
    PRun Try.prog (Instr.build 39 #[(0, v12_2), (1, v15_3)]) fun v16_3 =>
    Run Try.prog (Instr.storeAt 39 v4_3 v16_3) w31 fun _ w32 =>
    F18x2 v4_3 a0 w32 v2 K
  )
/-- lattice/blob.ParseRoot -/
def F18 (a0 : Value) (K : Value → World → Prop) (w : World) : Prop :=
  Run Try.prog (Instr.alloc 39 true (.tuple #[])) w fun v2 w1 =>
  PRun Try.prog (Builtin.len_ #[30] 3 #[a0]) fun v7 =>
  PRun Try.prog (binOp .lss 3 v7 (Value.int .i64 95)) fun v8 =>
  Branch v8 (
    PRun Try.prog (Instr.build 39 #[]) fun v9 =>
    Run Try.prog (Instr.storeAt 39 v2 v9) w1 fun _ w2 =>
    QRun Try.prog (Instr.loadAt 39 v2) w2 fun v2_2 =>
    K (Value.tuple #[v2_2, (Value.int .i64 8)]) w2
  ) (
    PRun Try.prog (Instr.sliceAt 30 a0 (some (Value.int .i64 1)) (some (Value.int .i64 57)) none) fun v11 =>
    PRun Try.prog (Instr.sliceAt 30 a0 (some (Value.int .i64 57)) (some (Value.int .i64 61)) none) fun v14 =>
    F18x3 v11 w1.drew v14 a0 v2 K
  )
def H18 : Hints := { n := 64, reg := [(0, ⟨[.e, .p], [0, 0]⟩), (1, ⟨[.p, .p, .p], [0, 1, 3]⟩), (2, ⟨[.p, .e, .p], [0, 1, 3]⟩), (3, ⟨[.p, .p, .e, .p, .p, .e, .p, .e, .e], [0, 1, 3, 0, 8, 31, 63, 0, 255]⟩), (4, ⟨[.p, .p, .p, .p, .e], [0, 1, 0, 4, 15]⟩), (5, ⟨[.p, .p, .e, .p], [0, 1, 3, 7]⟩), (6, ⟨[.p, .p, .q, .p, .p, .p, .q, .p, .p, .p, .p, .q, .p, .p, .p, .p, .p, .p, .p], [0, 1, 3, 7, 15, 31, 63, 127, 255, 511, 1023, 2047, 4095, 8191, 16383, 32767, 65535, 131071, 262143]⟩), (7, ⟨[.p, .e, .p], [0, 1, 3]⟩), (8, ⟨[.p, .p, .p, .p, .p, .p], [0, 1, 0, 4, 15, 31]⟩), (9, ⟨[.p, .e, .p], [0, 1, 3]⟩), (10, ⟨[.p, .p, .p, .p, .p, .p], [0, 1, 0, 4, 15, 31]⟩), (11, ⟨[.p, .e, .p], [0, 1, 3]⟩), (12, ⟨[.p, .p, .e, .p, .e], [0, 1, 3, 7, 15]⟩), (13, ⟨[.q, .e, .p], [0, 1, 3]⟩)], loop := [], join := [] }
noncomputable def C18 : Code := Try.f18.body.getD .skip
theorem E18 (a0 : Value) (K : Value → World → Prop) (w : World) : F18 a0 K w = lift Try.prog H18 C18 (envOf [a0] 0) w (fun E w => resV Try.prog H18.n E Try.f18.results.toList w fun vs => K (retV vs) w) [] (fun E w => resV Try.prog H18.n E Try.f18.results.toList w fun vs => K (retV vs) w) := by kernel_rfl
theorem R18 : regOk H18 C18 = true := by kernel_rfl
theorem B18 : Try.f18.body = some C18 := by kernel_rfl
theorem F18_ok (a0 : Value) (K : Value → World → Prop) (w : World) (h : F18 a0 K w) : Calls Try.prog 18 #[a0] w (retK K) :=
  lift_call mixed Try.func18 B18 Try.ntmps18 R18 (Nat.le_of_ble_eq_true rfl) (Eq.mp (E18 a0 K w) h)
/-- lattice/latticelaw13.Signed -/
def F8 (a0 : Value) (a1 : Value) (a2 : Value) (K : Value → World → Prop) (w : World) : Prop :=
  Run Try.prog (Instr.box 25 a2) w fun v5 w1 =>
  CallF Try.prog 14 #[a0] w1 fun v17 w2 =>
  PRun Try.prog (Instr.extract v17 0) fun v18 =>
  PRun Try.prog (Instr.extract v17 1) fun v19 =>
  Run Try.prog (Instr.alloc 25 true (.tuple #[])) w2 fun v7 w3 =>
  Run Try.prog (Instr.alloc 49 true (.tuple #[])) w3 fun v8 w4 =>
  Run Try.prog (Instr.storeAt 25 v7 v18) w4 fun _ w5 =>
  Run Try.prog (Instr.storeAt 49 v8 v19) w5 fun _ w6 =>
  QRun Try.prog (Instr.loadAt 49 v8) w6 fun v21 =>
  QRun Try.prog (Instr.loadAt 25 v7) w6 fun v22 =>
  CallF Try.prog 15 #[v21, v22, (Value.int .i64 1)] w6 fun v23 w7 =>
  PRun Try.prog (Instr.extract v23 0) fun v24 =>
  PRun Try.prog (Instr.extract v23 1) fun v25 =>
  QRun Try.prog (Instr.loadAt 49 v8) w7.drew fun v27 =>
  QRun Try.prog (Instr.loadAt 25 v7) w7.drew fun v28 =>
  PRun Try.prog (binOp .sub 3 a1 (Value.int .i64 1)) fun v30 =>
  QRun Try.prog (Instr.loadAt 25 v5) w7.drew fun v32 =>
  CallF Try.prog 17 #[a1, v32] w7.drew fun v33 w8 =>
  (QRun Try.prog (Instr.loadAt 25 v7) w8 fun u => u = v28) ∧
  (QRun Try.prog (Instr.loadAt 49 v8) w8 fun u => u = v27) ∧
  CallF Try.prog 16 #[v27, v28, (Value.int .i64 1), v30, v33] w8 fun v34 w9 =>
  PRun Try.prog (Instr.extract v34 0) fun v35 =>
  PRun Try.prog (Instr.extract v34 1) fun v36 =>
  QRun Try.prog (Instr.loadAt 25 v5) w9 fun v40 =>
  PRun Try.prog (Instr.build 39 #[(0, v24), (1, a1), (2, v40), (3, v35)]) fun v42 =>
  CallF Try.prog 13 #[v42] w9 fun v43 w10 =>
  PRun Try.prog (Instr.extract v43 0) fun v44 =>
  PRun Try.prog (Instr.extract v43 1) fun v45 =>
  K v44 w10
def H8 : Hints := { n := 47, reg := [(0, ⟨[.e, .p], [0, 0]⟩), (1, ⟨[.p, .e, .p, .p, .p, .e, .e, .e, .e], [0, 1, 3, 7, 7, 0, 0, 111, 255]⟩), (2, ⟨[.q, .q, .e, .p, .p, .p, .p, .p], [0, 0, 3, 7, 15, 15, 31, 127]⟩), (3, ⟨[.q, .q, .p, .p, .p, .q, .e, .e, .p, .p, .p, .p, .p], [0, 0, 0, 4, 0, 0, 48, 127, 255, 511, 511, 1023, 4095]⟩), (4, ⟨[.p, .p, .q, .p, .p, .e, .p, .p, .p, .p, .p], [0, 0, 0, 0, 15, 31, 63, 127, 127, 255, 1023]⟩), (5, ⟨[.p, .p], [0, 1]⟩)], loop := [], join := [] }
noncomputable def C8 : Code := Try.f8.body.getD .skip
theorem E8 (a0 : Value) (a1 : Value) (a2 : Value) (K : Value → World → Prop) (w : World) : F8 a0 a1 a2 K w = lift Try.prog H8 C8 (envOf [a0, a1, a2] 0) w (fun E w => resV Try.prog H8.n E Try.f8.results.toList w fun vs => K (retV vs) w) [] (fun E w => resV Try.prog H8.n E Try.f8.results.toList w fun vs => K (retV vs) w) := by kernel_rfl
theorem R8 : regOk H8 C8 = true := by kernel_rfl
theorem B8 : Try.f8.body = some C8 := by kernel_rfl
theorem F8_ok (a0 : Value) (a1 : Value) (a2 : Value) (K : Value → World → Prop) (w : World) (h : F8 a0 a1 a2 K w) : Calls Try.prog 8 #[a0, a1, a2] w (retK K) :=
  lift_call mixed Try.func8 B8 Try.ntmps8 R8 (Nat.le_of_ble_eq_true rfl) (Eq.mp (E8 a0 a1 a2 K w) h)
end Go.Proofs
