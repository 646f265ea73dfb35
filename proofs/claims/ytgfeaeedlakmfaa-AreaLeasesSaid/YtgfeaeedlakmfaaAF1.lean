/- A part of the proof: A.F1. -/
import Derived.Test.YtgfeaeedlakmfaaATy
set_option linter.unusedVariables false
set_option linter.unusedSimpArgs false
set_option linter.unusedSectionVars false
namespace Go.Proofs
open Go Go.Lf
/-- lattice/latticelaw11.known -/
def F5 (K : Value → World → Prop) (w : World) : Prop :=
  CallF Try.prog 6 #[(Value.int .i64 10), (Value.int .i64 4)] w fun v6 w1 =>
  PRun Try.prog (Instr.extract v6 0) fun v7 =>
  PRun Try.prog (Instr.extract v6 1) fun v8 =>
  PRun Try.prog (eqS .neq 25 (.tmp 9) (.const (Value.int .i64 0)) v8 (Value.int .i64 0)) fun v10 =>
  Gd v10 false (fun k => k v7) fun v12 =>
  Gd v10 false (fun k => PRun Try.prog (eqS .eql 24 (.tmp 12) (.const (Value.pointer none)) v12 (Value.pointer none)) k) fun v13 =>
  Pick v10 (Value.bool true) v13 fun v14 =>
  Branch v14 (
    K (Value.bool false) w1
  ) (
    Run Try.prog (Instr.makeSlice 37 (Value.int .i64 5) (Value.int .i64 5)) w1 fun v16 w2 =>
    PRun Try.prog (Instr.build 39 #[(1, v16), (3, (Value.int .i64 9))]) fun v17 =>
    CallF Try.prog 10 #[v7, v17, (Value.int .i64 0)] w2 fun v18 w3 =>
    Run Try.prog (Instr.makeSlice 37 (Value.int .i64 4) (Value.int .i64 4)) w3 fun v20 w4 =>
    PRun Try.prog (Instr.build 39 #[(1, v20), (3, (Value.int .i64 9))]) fun v21 =>
    CallF Try.prog 10 #[v7, v21, (Value.int .i64 0)] w4 fun v22 w5 =>
    PRun Try.prog (eqS .eql 25 (.tmp 23) (.const (Value.int .i64 15)) v18 (Value.int .i64 15)) fun v24 =>
    Gd v24 true (fun k => k v22) fun v26 =>
    Gd v24 true (fun k => PRun Try.prog (eqS .eql 25 (.tmp 26) (.const (Value.int .i64 0)) v26 (Value.int .i64 0)) k) fun v27 =>
    Pick v24 v27 (Value.bool false) fun v28 =>
    Gd v28 true (fun k => k v7) fun v30 =>
    GdE v28 true (fun k => CallF Try.prog 20 #[v30] w5 k) w5 fun v31 w6 =>
    Gd v28 true (fun k => PRun Try.prog (eqS .eql 3 (.tmp 31) (.const (Value.int .i64 4)) v31 (Value.int .i64 4)) k) fun v32 =>
    Pick v28 v32 (Value.bool false) fun v33 =>
    Gd v33 true (fun k => k v7) fun v35 =>
    GdE v33 true (fun k => CallF Try.prog 22 #[v35, (Value.int .i64 0)] w6 k) w6 fun v36 w7 =>
    Gd v33 true (fun k => PRun Try.prog (eqS .eql 3 (.tmp 36) (.const (Value.int .i64 4)) v36 (Value.int .i64 4)) k) fun v37 =>
    Pick v33 v37 (Value.bool false) fun v38 =>
    K v38 w7
  )
def H5 : Hints := { n := 39, reg := [(0, ⟨[.p], [0]⟩), (1, ⟨[.e, .p, .p, .p, .p, .p], [0, 1, 3, 3, 7, 31]⟩), (2, ⟨[.p, .p, .p, .p, .p, .p], [0, 1, 3, 7, 15, 31]⟩), (3, ⟨[.p], [0]⟩), (4, ⟨[.p, .e, .p, .e, .p], [0, 0, 2, 7, 15]⟩), (5, ⟨[.p, .e, .p, .e, .p], [0, 0, 2, 7, 15]⟩), (6, ⟨[.p, .p, .p, .p, .p, .p, .p, .p, .e, .p, .p, .p, .p, .e, .p, .p, .p], [0, 1, 3, 7, 15, 31, 63, 127, 255, 511, 1023, 2047, 4095, 8191, 16383, 32767, 65535]⟩)], loop := [], join := [] }
noncomputable def C5 : Code := Try.f5.body.getD .skip
theorem E5 (K : Value → World → Prop) (w : World) : F5  K w = lift Try.prog H5 C5 (envOf [] 0) w (fun E w => resV Try.prog H5.n E Try.f5.results.toList w fun vs => K (retV vs) w) [] (fun E w => resV Try.prog H5.n E Try.f5.results.toList w fun vs => K (retV vs) w) := by kernel_rfl
theorem R5 : regOk H5 C5 = true := by kernel_rfl
theorem B5 : Try.f5.body = some C5 := by kernel_rfl
theorem F5_ok (K : Value → World → Prop) (w : World) (h : F5  K w) : Calls Try.prog 5 #[] w (retK K) :=
  lift_call mixed Try.func5 B5 Try.ntmps5 R5 (Nat.le_of_ble_eq_true rfl) (Eq.mp (E5  K w) h)
/-- lattice/area.New -/
def F6 (a0 : Value) (a1 : Value) (K : Value → World → Prop) (w : World) : Prop :=
  PRun Try.prog (binOp .lss 3 a0 (Value.int .i64 1)) fun v7 =>
  Gd v7 false (fun k => k a0) fun v9 =>
  Gd v7 false (fun k => PRun Try.prog (binOp .gtr 3 v9 (Value.int .i64 1073741824)) k) fun v10 =>
  Pick v7 (Value.bool true) v10 fun v11 =>
  Gd v11 false (fun k => k a1) fun v13 =>
  Gd v11 false (fun k => PRun Try.prog (binOp .lss 3 v13 (Value.int .i64 1)) k) fun v14 =>
  Pick v11 (Value.bool true) v14 fun v15 =>
  Gd v15 false (fun k => k a1) fun v17 =>
  Gd v15 false (fun k => PRun Try.prog (binOp .gtr 3 v17 (Value.int .i64 1073741824)) k) fun v18 =>
  Pick v15 (Value.bool true) v18 fun v19 =>
  Branch v19 (
    K (Value.tuple #[(Value.pointer none), (Value.int .i64 1)]) w
  ) (
    Run Try.prog (Instr.makeMap 54 none) w fun v22 w1 =>
    Run Try.prog (Instr.makeMap 55 none) w1 fun v23 w2 =>
    PRun Try.prog (Instr.build 57 #[(1, a0), (2, a1), (3, v22), (4, v23)]) fun v24 =>
    Run Try.prog (Instr.box 57 v24) w2 fun v25 w3 =>
    K (Value.tuple #[v25, (Value.int .i64 0)]) w3
  )
def H6 : Hints := { n := 26, reg := [(0, ⟨[.p, .p], [0, 1]⟩), (1, ⟨[.p, .p, .p, .p, .p, .p, .p, .p, .p, .p, .p, .p, .p, .p], [0, 1, 3, 7, 15, 31, 63, 127, 255, 511, 1023, 2047, 4095, 8191]⟩), (2, ⟨[.p, .p], [0, 1]⟩), (3, ⟨[.p, .p, .e, .e, .p, .e, .p, .p], [0, 0, 0, 0, 15, 31, 63, 127]⟩)], loop := [], join := [] }
noncomputable def C6 : Code := Try.f6.body.getD .skip
theorem E6 (a0 : Value) (a1 : Value) (K : Value → World → Prop) (w : World) : F6 a0 a1 K w = lift Try.prog H6 C6 (envOf [a0, a1] 0) w (fun E w => resV Try.prog H6.n E Try.f6.results.toList w fun vs => K (retV vs) w) [] (fun E w => resV Try.prog H6.n E Try.f6.results.toList w fun vs => K (retV vs) w) := by kernel_rfl
theorem R6 : regOk H6 C6 = true := by kernel_rfl
theorem B6 : Try.f6.body = some C6 := by kernel_rfl
theorem F6_ok (a0 : Value) (a1 : Value) (K : Value → World → Prop) (w : World) (h : F6 a0 a1 K w) : Calls Try.prog 6 #[a0, a1] w (retK K) :=
  lift_call mixed Try.func6 B6 Try.ntmps6 R6 (Nat.le_of_ble_eq_true rfl) (Eq.mp (E6 a0 a1 K w) h)
/-- lattice/latticeref11.New -/
def F7 (a0 : Value) (a1 : Value) (K : Value → World → Prop) (w : World) : Prop :=
  PRun Try.prog (binOp .lss 3 a0 (Value.int .i64 1)) fun v7 =>
  Gd v7 false (fun k => k a0) fun v9 =>
  Gd v7 false (fun k => PRun Try.prog (binOp .gtr 3 v9 (Value.int .i64 1073741824)) k) fun v10 =>
  Pick v7 (Value.bool true) v10 fun v11 =>
  Gd v11 false (fun k => k a1) fun v13 =>
  Gd v11 false (fun k => PRun Try.prog (binOp .lss 3 v13 (Value.int .i64 1)) k) fun v14 =>
  Pick v11 (Value.bool true) v14 fun v15 =>
  Gd v15 false (fun k => k a1) fun v17 =>
  Gd v15 false (fun k => PRun Try.prog (binOp .gtr 3 v17 (Value.int .i64 1073741824)) k) fun v18 =>
  Pick v15 (Value.bool true) v18 fun v19 =>
  Branch v19 (
    K (Value.tuple #[(Value.pointer none), (Value.int .i64 1)]) w
  ) (
    PRun Try.prog (Instr.build 50 #[(0, a0), (1, a1)]) fun v22 =>
    Run Try.prog (Instr.box 50 v22) w fun v23 w1 =>
    K (Value.tuple #[v23, (Value.int .i64 0)]) w1
  )
def H7 : Hints := { n := 24, reg := [(0, ⟨[.p, .p], [0, 1]⟩), (1, ⟨[.p, .p, .p, .p, .p, .p, .p, .p, .p, .p, .p, .p, .p, .p], [0, 1, 3, 7, 15, 31, 63, 127, 255, 511, 1023, 2047, 4095, 8191]⟩), (2, ⟨[.p, .p], [0, 1]⟩), (3, ⟨[.p, .p, .p, .e, .p, .p], [0, 0, 3, 7, 15, 31]⟩)], loop := [], join := [] }
noncomputable def C7 : Code := Try.f7.body.getD .skip
theorem E7 (a0 : Value) (a1 : Value) (K : Value → World → Prop) (w : World) : F7 a0 a1 K w = lift Try.prog H7 C7 (envOf [a0, a1] 0) w (fun E w => resV Try.prog H7.n E Try.f7.results.toList w fun vs => K (retV vs) w) [] (fun E w => resV Try.prog H7.n E Try.f7.results.toList w fun vs => K (retV vs) w) := by kernel_rfl
theorem R7 : regOk H7 C7 = true := by kernel_rfl
theorem B7 : Try.f7.body = some C7 := by kernel_rfl
theorem F7_ok (a0 : Value) (a1 : Value) (K : Value → World → Prop) (w : World) (h : F7 a0 a1 K w) : Calls Try.prog 7 #[a0, a1] w (retK K) :=
  lift_call mixed Try.func7 B7 Try.ntmps7 R7 (Nat.le_of_ble_eq_true rfl) (Eq.mp (E7 a0 a1 K w) h)
/-- lattice/latticelaw11.within -/
def F8 (a0 : Value) (a1 : Value) (K : Value → World → Prop) (w : World) : Prop :=
  PRun Try.prog (binOp .rem 3 a0 a1) fun v8 =>
  PRun Try.prog (binOp .lss 3 v8 (Value.int .i64 0)) fun v10 =>
  Branch v10 (
    PRun Try.prog (binOp .add 3 v8 a1) fun v13 =>
    K v13 w
  ) (
    K v8 w
  )
def H8 : Hints := { n := 15, reg := [(0, ⟨[.p], [0]⟩), (1, ⟨[.p, .p, .p, .p], [0, 0, 3, 7]⟩), (2, ⟨[.p, .p], [0, 1]⟩), (3, ⟨[.p, .p, .p, .p], [0, 0, 3, 7]⟩), (4, ⟨[.p, .p], [0, 1]⟩)], loop := [], join := [] }
noncomputable def C8 : Code := Try.f8.body.getD .skip
theorem E8 (a0 : Value) (a1 : Value) (K : Value → World → Prop) (w : World) : F8 a0 a1 K w = lift Try.prog H8 C8 (envOf [a0, a1] 0) w (fun E w => resV Try.prog H8.n E Try.f8.results.toList w fun vs => K (retV vs) w) [] (fun E w => resV Try.prog H8.n E Try.f8.results.toList w fun vs => K (retV vs) w) := by kernel_rfl
theorem R8 : regOk H8 C8 = true := by kernel_rfl
theorem B8 : Try.f8.body = some C8 := by kernel_rfl
theorem F8_ok (a0 : Value) (a1 : Value) (K : Value → World → Prop) (w : World) (h : F8 a0 a1 K w) : Calls Try.prog 8 #[a0, a1] w (retK K) :=
  lift_call mixed Try.func8 B8 Try.ntmps8 R8 (Nat.le_of_ble_eq_true rfl) (Eq.mp (E8 a0 a1 K w) h)
/-- lattice/latticelaw11.key -/
def F9 (a0 : Value) (K : Value → World → Prop) (w : World) : Prop :=
  Run Try.prog (Instr.alloc 35 true (.tuple #[])) w fun v2 w1 =>
  Run Try.prog (Instr.alloc 35 true (.tuple #[])) w1 fun v3 w2 =>
  CallF Try.prog 8 #[a0, (Value.int .i64 3)] w2 fun v5 w3 =>
  PRun Try.prog (convert 3 5 v5) fun v6 =>
  PRun Try.prog (binOp .quo 3 a0 (Value.int .i64 3)) fun v8 =>
  CallF Try.prog 8 #[v8, (Value.int .i64 4)] w3 fun v9 w4 =>
  PRun Try.prog (convert 3 5 v9) fun v10 =>
  PRun Try.prog (Instr.indexAt 35 v3 (Value.int .i64 0)) fun v11 =>
  Run Try.prog (Instr.storeAt 5 v11 v6) w4 fun _ w5 =>
  PRun Try.prog (Instr.indexAt 35 v3 (Value.int .i64 31)) fun v12 =>
  Run Try.prog (Instr.storeAt 5 v12 v10) w5 fun _ w6 =>
  QRun Try.prog (Instr.loadAt 35 v3) w6 fun v13 =>
  Run Try.prog (Instr.storeAt 35 v2 v13) w6 fun _ w7 =>
  QRun Try.prog (Instr.loadAt 35 v2) w7 fun v2_2 =>
  K v2_2 w7
def H9 : Hints := { n := 14, reg := [(0, ⟨[.e], [0]⟩), (1, ⟨[.e], [0]⟩), (2, ⟨[.p, .e, .p, .p, .p, .e, .p, .p, .e, .p, .e], [0, 1, 3, 0, 8, 27, 59, 7, 191, 511, 1023]⟩), (3, ⟨[.q, .e], [0, 1]⟩)], loop := [], join := [] }
noncomputable def C9 : Code := Try.f9.body.getD .skip
theorem E9 (a0 : Value) (K : Value → World → Prop) (w : World) : F9 a0 K w = lift Try.prog H9 C9 (envOf [a0] 0) w (fun E w => resV Try.prog H9.n E Try.f9.results.toList w fun vs => K (retV vs) w) [] (fun E w => resV Try.prog H9.n E Try.f9.results.toList w fun vs => K (retV vs) w) := by kernel_rfl
theorem R9 : regOk H9 C9 = true := by kernel_rfl
theorem B9 : Try.f9.body = some C9 := by kernel_rfl
theorem F9_ok (a0 : Value) (K : Value → World → Prop) (w : World) (h : F9 a0 K w) : Calls Try.prog 9 #[a0] w (retK K) :=
  lift_call mixed Try.func9 B9 Try.ntmps9 R9 (Nat.le_of_ble_eq_true rfl) (Eq.mp (E9 a0 K w) h)
/-- (*lattice/area.Area).Get -/
def F12 (a0 : Value) (a1 : Value) (a2 : Value) (K : Value → World → Prop) (w : World) : Prop :=
  Run Try.prog (Instr.box 35 a1) w fun v4 w1 =>
  NilCk a0 fun v12 =>
  PRun Try.prog (Instr.fieldAt 57 v12 3) fun v13 =>
  QRun Try.prog (Instr.loadAt 54 v13) w1.drew fun v14 =>
  QRun Try.prog (Instr.loadAt 35 v4) w1.drew fun v15 =>
  QRun Try.prog (Instr.lookup 54 v14 v15 true) w1.drew fun v16 =>
  PRun Try.prog (Instr.extract v16 0) fun v17 =>
  PRun Try.prog (Instr.extract v16 1) fun v18 =>
  Run Try.prog (Instr.alloc 39 true (.tuple #[])) w1.drew fun v8 w2 =>
  (QRun Try.prog (Instr.lookup 54 v14 v15 true) w2 fun u => u = v16) ∧
  (QRun Try.prog (Instr.loadAt 35 v4) w2 fun u => u = v15) ∧
  (QRun Try.prog (Instr.loadAt 54 v13) w2 fun u => u = v14) ∧
  Run Try.prog (Instr.storeAt 39 v8 v17) w2 fun _ w3 =>
  PRun Try.prog (Op.unary .not v18) fun v20 =>
  Gd v20 false (fun k => PRun Try.prog (Instr.fieldAt 39 v8 3) k) fun v22 =>
  Gd v20 false (fun k => QRun Try.prog (Instr.loadAt 3 v22) w3 k) fun v23 =>
  Gd v20 false (fun k => k a2) fun v24 =>
  Gd v20 false (fun k => PRun Try.prog (binOp .leq 3 v23 v24) k) fun v25 =>
  Pick v20 (Value.bool true) v25 fun v26 =>
  Branch v26 (
    K (Value.tuple #[(Value.slice none 0 0), (Value.bool false)]) w3
  ) (
    PRun Try.prog (Instr.fieldAt 39 v8 1) fun v27 =>
    QRun Try.prog (Instr.loadAt 37 v27) w3 fun v28 =>
    CallF Try.prog 24 #[v28] w3 fun v29 w4 =>
    K (Value.tuple #[v29, (Value.bool true)]) w4
  )
def H12 : Hints := { n := 30, reg := [(0, ⟨[.e, .p, .p], [0, 0, 2]⟩), (1, ⟨[.p, .p, .p, .q, .q, .q, .p, .p, .p, .e, .e, .p], [0, 1, 3, 7, 0, 31, 63, 127, 127, 0, 767, 2047]⟩), (2, ⟨[.p, .p, .p, .p, .q, .p, .p, .p], [0, 1, 3, 7, 15, 7, 63, 127]⟩), (3, ⟨[.p, .p], [0, 1]⟩), (4, ⟨[.p, .q, .e, .p, .p], [0, 1, 3, 7, 15]⟩)], loop := [], join := [] }
noncomputable def C12 : Code := Try.f12.body.getD .skip
theorem E12 (a0 : Value) (a1 : Value) (a2 : Value) (K : Value → World → Prop) (w : World) : F12 a0 a1 a2 K w = lift Try.prog H12 C12 (envOf [a0, a1, a2] 0) w (fun E w => resV Try.prog H12.n E Try.f12.results.toList w fun vs => K (retV vs) w) [] (fun E w => resV Try.prog H12.n E Try.f12.results.toList w fun vs => K (retV vs) w) := by kernel_rfl
theorem R12 : regOk H12 C12 = true := by kernel_rfl
theorem B12 : Try.f12.body = some C12 := by kernel_rfl
theorem F12_ok (a0 : Value) (a1 : Value) (a2 : Value) (K : Value → World → Prop) (w : World) (h : F12 a0 a1 a2 K w) : Calls Try.prog 12 #[a0, a1, a2] w (retK K) :=
  lift_call mixed Try.func12 B12 Try.ntmps12 R12 (Nat.le_of_ble_eq_true rfl) (Eq.mp (E12 a0 a1 a2 K w) h)
/-- (*lattice/latticeref11.Area).Get -/
def F13 (a0 : Value) (a1 : Value) (a2 : Value) (K : Value → World → Prop) (w : World) : Prop :=
  Run Try.prog (Instr.box 35 a1) w fun v4 w1 =>
  LoopF 1 [(Value.int .i64 0)] w1 fun v8_2 w2 k1 => ∀ _ : Env,
  NilCk a0 fun v11 =>
  PRun Try.prog (Instr.fieldAt 50 v11 2) fun v12 =>
  QRun Try.prog (Instr.loadAt 47 v12) w2 fun v13 =>
  PRun Try.prog (Builtin.len_ #[47] 3 #[v13]) fun v14 =>
  PRun Try.prog (binOp .lss 3 v8_2 v14) fun v15 =>
  Branch v15 (
    NilCk a0 fun v19 =>
    PRun Try.prog (Instr.fieldAt 50 v19 2) fun v20 =>
    QRun Try.prog (Instr.loadAt 47 v20) w2.drew fun v21 =>
    PRun Try.prog (Instr.indexAt 47 v21 v8_2) fun v23 =>
    PRun Try.prog (Instr.fieldAt 39 v23 0) fun v24 =>
    QRun Try.prog (Instr.loadAt 35 v24) w2.drew fun v25 =>
    QRun Try.prog (Instr.loadAt 35 v4) w2.drew fun v26 =>
    PRun Try.prog (eqS .eql 35 (.tmp 25) (.tmp 26) v25 v26) fun v27 =>
    Gd v27 true (fun k => k a0) fun v29 =>
    Gd v27 true (fun k => NilCk v29 k) fun v30 =>
    Gd v27 true (fun k => PRun Try.prog (Instr.fieldAt 50 v30 2) k) fun v31 =>
    Gd v27 true (fun k => QRun Try.prog (Instr.loadAt 47 v31) w2.drew k) fun v32 =>
    Gd v27 true (fun k => k v8_2) fun v33 =>
    Gd v27 true (fun k => PRun Try.prog (Instr.indexAt 47 v32 v33) k) fun v34 =>
    Gd v27 true (fun k => PRun Try.prog (Instr.fieldAt 39 v34 3) k) fun v35 =>
    Gd v27 true (fun k => QRun Try.prog (Instr.loadAt 3 v35) w2.drew k) fun v36 =>
    Gd v27 true (fun k => k a2) fun v37 =>
    Gd v27 true (fun k => PRun Try.prog (binOp .gtr 3 v36 v37) k) fun v38 =>
    Pick v27 v38 (Value.bool false) fun v39 =>
    Branch v39 (
      NilCk a0 fun v41 =>
      PRun Try.prog (Instr.fieldAt 50 v41 2) fun v42 =>
      QRun Try.prog (Instr.loadAt 47 v42) w2.drew fun v43 =>
      PRun Try.prog (Instr.indexAt 47 v43 v8_2) fun v45 =>
      PRun Try.prog (Instr.fieldAt 39 v45 1) fun v46 =>
      QRun Try.prog (Instr.loadAt 37 v46) w2.drew fun v47 =>
      K (Value.tuple #[v47, (Value.bool true)]) w2.drew
    ) (
      PRun Try.prog (binOp .add 3 v8_2 (Value.int .i64 1)) fun v17 =>
      k1 v17 w2.drew
    )
  ) (
    K (Value.tuple #[(Value.slice none 0 0), (Value.bool false)]) w2
  )
def H13 : Hints := { n := 48, reg := [(0, ⟨[.e, .p, .p], [0, 0, 2]⟩), (1, ⟨[.p], [0]⟩), (2, ⟨[.p, .p, .p, .p, .q, .p, .p], [0, 0, 2, 6, 14, 30, 63]⟩), (4, ⟨[.p, .p, .p, .q, .p, .p, .p, .q, .q, .p, .p, .p, .p, .p, .q, .p, .p, .p, .q, .p, .p, .p], [0, 1, 3, 7, 0, 31, 63, 127, 0, 511, 1023, 2047, 4095, 8191, 16383, 2047, 65535, 131071, 262143, 2047, 1048575, 2097151]⟩), (5, ⟨[.p, .p, .p, .q, .p, .p, .p, .q, .p, .p], [0, 1, 3, 7, 0, 31, 63, 127, 255, 511]⟩), (3, ⟨[.p, .p, .p], [0, 1, 3]⟩), (6, ⟨[.p, .p], [0, 1]⟩)], loop := [(2, [8])], join := [] }
noncomputable def C13 : Code := Try.f13.body.getD .skip
theorem E13 (a0 : Value) (a1 : Value) (a2 : Value) (K : Value → World → Prop) (w : World) : F13 a0 a1 a2 K w = lift Try.prog H13 C13 (envOf [a0, a1, a2] 0) w (fun E w => resV Try.prog H13.n E Try.f13.results.toList w fun vs => K (retV vs) w) [] (fun E w => resV Try.prog H13.n E Try.f13.results.toList w fun vs => K (retV vs) w) := by kernel_rfl
theorem R13 : regOk H13 C13 = true := by kernel_rfl
theorem B13 : Try.f13.body = some C13 := by kernel_rfl
theorem F13_ok (a0 : Value) (a1 : Value) (a2 : Value) (K : Value → World → Prop) (w : World) (h : F13 a0 a1 a2 K w) : Calls Try.prog 13 #[a0, a1, a2] w (retK K) :=
  lift_call mixed Try.func13 B13 Try.ntmps13 R13 (Nat.le_of_ble_eq_true rfl) (Eq.mp (E13 a0 a1 a2 K w) h)
/-- (*lattice/area.Area).Drop -/
def F14 (a0 : Value) (a1 : Value) (K : Value → World → Prop) (w : World) : Prop :=
  Run Try.prog (Instr.box 35 a1) w fun v3 w1 =>
  NilCk a0 fun v9 =>
  PRun Try.prog (Instr.fieldAt 57 v9 3) fun v10 =>
  QRun Try.prog (Instr.loadAt 54 v10) w1.drew fun v11 =>
  QRun Try.prog (Instr.loadAt 35 v3) w1.drew fun v12 =>
  QRun Try.prog (Instr.lookup 54 v11 v12 true) w1.drew fun v13 =>
  PRun Try.prog (Instr.extract v13 0) fun v14 =>
  PRun Try.prog (Instr.extract v13 1) fun v15 =>
  Run Try.prog (Instr.alloc 39 true (.tuple #[])) w1.drew fun v5 w2 =>
  (QRun Try.prog (Instr.lookup 54 v11 v12 true) w2 fun u => u = v13) ∧
  (QRun Try.prog (Instr.loadAt 35 v3) w2 fun u => u = v12) ∧
  (QRun Try.prog (Instr.loadAt 54 v10) w2 fun u => u = v11) ∧
  Run Try.prog (Instr.storeAt 39 v5 v14) w2 fun _ w3 =>
  Branch v15 (
    NilCk a0 fun v18 =>
    PRun Try.prog (Instr.fieldAt 57 v18 3) fun v19 =>
    QRun Try.prog (Instr.loadAt 54 v19) w3.drew fun v20 =>
    QRun Try.prog (Instr.loadAt 35 v3) w3.drew fun v21 =>
    Run Try.prog (Builtin.delete_ #[54, 35] 0 #[v20, v21]) w3.drew fun _ w4 =>
    PRun Try.prog (Instr.fieldAt 39 v5 2) fun v23 =>
    QRun Try.prog (Instr.loadAt 3 v23) w4 fun v24 =>
    PRun Try.prog (Instr.fieldAt 39 v5 1) fun v25 =>
    QRun Try.prog (Instr.loadAt 37 v25) w4 fun v26 =>
    PRun Try.prog (Builtin.len_ #[37] 3 #[v26]) fun v27 =>
    PRun Try.prog (Op.unary .neg v27) fun v28 =>
    CallF Try.prog 25 #[a0, v24, v28] w4 fun v29 w5 =>
    K v15 w5
  ) (
    K v15 w3
  )
def H14 : Hints := { n := 31, reg := [(0, ⟨[.e, .p], [0, 0]⟩), (1, ⟨[.p, .p, .p, .q, .q, .q, .p, .p, .p, .e, .e, .p], [0, 1, 3, 7, 0, 31, 63, 127, 127, 0, 767, 2047]⟩), (2, ⟨[.p], [0]⟩), (3, ⟨[.p, .p, .p, .q, .q, .e], [0, 1, 3, 7, 0, 31]⟩), (4, ⟨[.p, .p, .q, .p, .q, .p, .p, .e], [0, 0, 2, 0, 8, 24, 56, 127]⟩), (5, ⟨[.p, .p], [0, 1]⟩)], loop := [], join := [] }
noncomputable def C14 : Code := Try.f14.body.getD .skip
theorem E14 (a0 : Value) (a1 : Value) (K : Value → World → Prop) (w : World) : F14 a0 a1 K w = lift Try.prog H14 C14 (envOf [a0, a1] 0) w (fun E w => resV Try.prog H14.n E Try.f14.results.toList w fun vs => K (retV vs) w) [] (fun E w => resV Try.prog H14.n E Try.f14.results.toList w fun vs => K (retV vs) w) := by kernel_rfl
theorem R14 : regOk H14 C14 = true := by kernel_rfl
theorem B14 : Try.f14.body = some C14 := by kernel_rfl
theorem F14_ok (a0 : Value) (a1 : Value) (K : Value → World → Prop) (w : World) (h : F14 a0 a1 K w) : Calls Try.prog 14 #[a0, a1] w (retK K) :=
  lift_call mixed Try.func14 B14 Try.ntmps14 R14 (Nat.le_of_ble_eq_true rfl) (Eq.mp (E14 a0 a1 K w) h)
/-- (*lattice/latticeref11.Area).Drop -/
def F15 (a0 : Value) (a1 : Value) (K : Value → World → Prop) (w : World) : Prop :=
  Run Try.prog (Instr.box 35 a1) w fun v3 w1 =>
  LoopF 2 [(Value.slice none 0 0), (Value.int .i64 0)] w1 fun v5_2 v6_2 w2 k1 => ∀ _ : Env,
  NilCk a0 fun v10 =>
  PRun Try.prog (Instr.fieldAt 50 v10 2) fun v11 =>
  QRun Try.prog (Instr.loadAt 47 v11) w2 fun v12 =>
  PRun Try.prog (Builtin.len_ #[47] 3 #[v12]) fun v13 =>
  PRun Try.prog (binOp .lss 3 v6_2 v13) fun v14 =>
  Branch v14 (
    LetJ 1 (fun k2 =>
      NilCk a0 fun v18 =>
      PRun Try.prog (Instr.fieldAt 50 v18 2) fun v19 =>
      QRun Try.prog (Instr.loadAt 47 v19) w2.drew fun v20 =>
      PRun Try.prog (Instr.indexAt 47 v20 v6_2) fun v22 =>
      PRun Try.prog (Instr.fieldAt 39 v22 0) fun v23 =>
      QRun Try.prog (Instr.loadAt 35 v23) w2.drew fun v24 =>
      QRun Try.prog (Instr.loadAt 35 v3) w2.drew fun v25 =>
      PRun Try.prog (eqS .neq 35 (.tmp 24) (.tmp 25) v24 v25) fun v26 =>
      Branch v26 (
        NilCk a0 fun v29 =>
        PRun Try.prog (Instr.fieldAt 50 v29 2) fun v30 =>
        QRun Try.prog (Instr.loadAt 47 v30) w2.drew fun v31 =>
        PRun Try.prog (Instr.indexAt 47 v31 v6_2) fun v33 =>
        QRun Try.prog (Instr.loadAt 39 v33) w2.drew fun v34 =>
        Run Try.prog (Instr.buildSlice 47 1 #[(0, v34)]) w2.drew fun v35 w3 =>
        Run Try.prog (Builtin.append_ #[47, 47] 47 #[v5_2, v35]) w3 fun v36 w4 =>
        k2 v36 w4
      ) (
        k2 v5_2 w2.drew
      )
    ) fun v5_4 w5 => ∀ _ : Env,
    PRun Try.prog (binOp .add 3 v6_2 (Value.int .i64 1)) fun v16 =>
    k1 v5_4 v16 w5
  ) (
    PRun Try.prog (Builtin.len_ #[47] 3 #[v5_2]) fun v38 =>
    NilCk a0 fun v40 =>
    PRun Try.prog (Instr.fieldAt 50 v40 2) fun v41 =>
    QRun Try.prog (Instr.loadAt 47 v41) w2 fun v42 =>
    PRun Try.prog (Builtin.len_ #[47] 3 #[v42]) fun v43 =>
    PRun Try.prog (binOp .lss 3 v38 v43) fun v44 =>
    NilCk a0 fun v47 =>
    PRun Try.prog (Instr.fieldAt 50 v47 2) fun v48 =>
    Run Try.prog (Instr.storeAt 47 v48 v5_2) w2 fun _ w6 =>
    K v44 w6
  )
def H15 : Hints := { n := 50, reg := [(0, ⟨[.e, .p], [0, 0]⟩), (1, ⟨[.p], [0]⟩), (2, ⟨[.p], [0]⟩), (3, ⟨[.p, .p, .p, .p, .q, .p, .p], [0, 0, 2, 6, 14, 30, 63]⟩), (5, ⟨[.p, .p, .p, .q, .p, .p, .p, .q, .q, .p], [0, 1, 3, 7, 0, 31, 63, 127, 0, 511]⟩), (6, ⟨[.p, .p, .p, .p, .q, .p, .p, .q, .e, .e, .p], [0, 0, 2, 6, 14, 0, 62, 126, 254, 511, 1023]⟩), (4, ⟨[.p, .p, .p], [0, 1, 3]⟩), (7, ⟨[.p, .p, .p, .p, .p, .q, .p, .p, .p], [0, 1, 0, 4, 12, 28, 60, 127, 255]⟩), (8, ⟨[.p, .p, .p, .p, .e], [0, 0, 3, 7, 15]⟩), (9, ⟨[.p, .p], [0, 1]⟩)], loop := [(3, [5, 6])], join := [(5, [5])] }
noncomputable def C15 : Code := Try.f15.body.getD .skip
theorem E15 (a0 : Value) (a1 : Value) (K : Value → World → Prop) (w : World) : F15 a0 a1 K w = lift Try.prog H15 C15 (envOf [a0, a1] 0) w (fun E w => resV Try.prog H15.n E Try.f15.results.toList w fun vs => K (retV vs) w) [] (fun E w => resV Try.prog H15.n E Try.f15.results.toList w fun vs => K (retV vs) w) := by kernel_rfl
theorem R15 : regOk H15 C15 = true := by kernel_rfl
theorem B15 : Try.f15.body = some C15 := by kernel_rfl
theorem F15_ok (a0 : Value) (a1 : Value) (K : Value → World → Prop) (w : World) (h : F15 a0 a1 K w) : Calls Try.prog 15 #[a0, a1] w (retK K) :=
  lift_call mixed Try.func15 B15 Try.ntmps15 R15 (Nat.le_of_ble_eq_true rfl) (Eq.mp (E15 a0 a1 K w) h)
/-- (*lattice/area.Area).Sweep -/
def F16 (a0 : Value) (a1 : Value) (K : Value → World → Prop) (w : World) : Prop :=
  NilCk a0 fun v10 =>
  PRun Try.prog (Instr.fieldAt 57 v10 0) fun v11 =>
  QRun Try.prog (Instr.loadAt 3 v11) w fun v12 =>
  PRun Try.prog (binOp .lss 3 a1 v12) fun v13 =>
  Branch v13 (
    K (Value.int .i64 0) w
  ) (
    NilCk a0 fun v16 =>
    PRun Try.prog (Instr.fieldAt 57 v16 0) fun v17 =>
    Run Try.prog (Instr.storeAt 3 v17 (Value.int .i64 9223372036854775807)) w fun _ w1 =>
    NilCk a0 fun v19 =>
    PRun Try.prog (Instr.fieldAt 57 v19 3) fun v20 =>
    QRun Try.prog (Instr.loadAt 54 v20) w1 fun v21 =>
    Run Try.prog (Instr.range 54 v21) w1 fun v22 w2 =>
    LoopF 1 [(Value.int .i64 0)] w2 fun v5_2 w3 k1 => ∀ _ : Env,
    Run Try.prog (Instr.next v22 false 0) w3 fun v23 w4 =>
    PRun Try.prog (Instr.extract v23 0) fun v24 =>
    Branch v24 (
      QRun Try.prog (Instr.entry v22) w4 fun v25 =>
      PRun Try.prog (Instr.extract v25 0) fun v26 =>
      PRun Try.prog (Instr.extract v25 1) fun v27 =>
      Run Try.prog (Instr.alloc 35 true (.tuple #[])) w4 fun v6 w5 =>
      Run Try.prog (Instr.alloc 39 true (.tuple #[])) w5 fun v7 w6 =>
      Run Try.prog (Instr.storeAt 35 v6 v26) w6 fun _ w7 =>
      Run Try.prog (Instr.storeAt 39 v7 v27) w7 fun _ w8 =>
      PRun Try.prog (Instr.fieldAt 39 v7 3) fun v28 =>
      QRun Try.prog (Instr.loadAt 3 v28) w8 fun v29 =>
      PRun Try.prog (binOp .leq 3 v29 a1) fun v31 =>
      Branch v31 (
        QRun Try.prog (Instr.loadAt 35 v6) w8 fun v33 =>
        CallF Try.prog 14 #[a0, v33] w8 fun v34 w9 =>
        PRun Try.prog (binOp .add 3 v5_2 (Value.int .i64 1)) fun v36 =>
        k1 v36 w9
      ) (
        NilCk a0 fun v39 =>
        PRun Try.prog (Instr.fieldAt 57 v39 0) fun v40 =>
        QRun Try.prog (Instr.loadAt 3 v40) w8.drew fun v41 =>
        PRun Try.prog (Instr.fieldAt 39 v7 3) fun v42 =>
        QRun Try.prog (Instr.loadAt 3 v42) w8.drew fun v43 =>
        PRun Try.prog (Builtin.min_ #[3, 3] 3 #[v41, v43]) fun v44 =>
        NilCk a0 fun v45 =>
        PRun Try.prog (Instr.fieldAt 57 v45 0) fun v46 =>
        Run Try.prog (Instr.storeAt 3 v46 v44) w8.drew fun _ w10 =>
        k1 v5_2 w10
      )
    ) (
      K v5_2 w4
    )
  )
def H16 : Hints := { n := 48, reg := [(0, ⟨[.p], [0]⟩), (1, ⟨[.p], [0]⟩), (2, ⟨[.p, .p, .p, .p, .q, .p], [0, 0, 2, 6, 14, 31]⟩), (3, ⟨[.p, .p], [0, 1]⟩), (4, ⟨[.p, .p, .p, .e], [0, 1, 3, 7]⟩), (5, ⟨[.p, .p, .p, .q, .e], [0, 1, 3, 7, 15]⟩), (6, ⟨[.e, .p], [0, 1]⟩), (7, ⟨[.q, .p, .p, .e, .e, .e, .e], [0, 1, 1, 0, 0, 27, 63]⟩), (8, ⟨[.p, .q, .p, .p], [0, 1, 0, 7]⟩), (9, ⟨[.p, .q, .e], [0, 0, 3]⟩), (10, ⟨[.p, .p, .p], [0, 1, 3]⟩), (11, ⟨[.p, .p, .p, .p, .q, .p, .q, .p, .p, .p, .e], [0, 0, 2, 6, 14, 0, 32, 126, 255, 511, 1023]⟩), (12, ⟨[.p, .p], [0, 1]⟩)], loop := [(6, [5])], join := [] }
noncomputable def C16 : Code := Try.f16.body.getD .skip
theorem E16 (a0 : Value) (a1 : Value) (K : Value → World → Prop) (w : World) : F16 a0 a1 K w = lift Try.prog H16 C16 (envOf [a0, a1] 0) w (fun E w => resV Try.prog H16.n E Try.f16.results.toList w fun vs => K (retV vs) w) [] (fun E w => resV Try.prog H16.n E Try.f16.results.toList w fun vs => K (retV vs) w) := by kernel_rfl
theorem R16 : regOk H16 C16 = true := by kernel_rfl
theorem B16 : Try.f16.body = some C16 := by kernel_rfl
theorem F16_ok (a0 : Value) (a1 : Value) (K : Value → World → Prop) (w : World) (h : F16 a0 a1 K w) : Calls Try.prog 16 #[a0, a1] w (retK K) :=
  lift_call mixed Try.func16 B16 Try.ntmps16 R16 (Nat.le_of_ble_eq_true rfl) (Eq.mp (E16 a0 a1 K w) h)
/-- (*lattice/latticeref11.Area).Sweep -/
def F17 (a0 : Value) (a1 : Value) (K : Value → World → Prop) (w : World) : Prop :=
  LoopF 2 [(Value.slice none 0 0), (Value.int .i64 0)] w fun v5_2 v6_2 w1 k1 => ∀ _ : Env,
  NilCk a0 fun v10 =>
  PRun Try.prog (Instr.fieldAt 50 v10 2) fun v11 =>
  QRun Try.prog (Instr.loadAt 47 v11) w1 fun v12 =>
  PRun Try.prog (Builtin.len_ #[47] 3 #[v12]) fun v13 =>
  PRun Try.prog (binOp .lss 3 v6_2 v13) fun v14 =>
  Branch v14 (
    LetJ 1 (fun k2 =>
      NilCk a0 fun v18 =>
      PRun Try.prog (Instr.fieldAt 50 v18 2) fun v19 =>
      QRun Try.prog (Instr.loadAt 47 v19) w1 fun v20 =>
      PRun Try.prog (Instr.indexAt 47 v20 v6_2) fun v22 =>
      PRun Try.prog (Instr.fieldAt 39 v22 3) fun v23 =>
      QRun Try.prog (Instr.loadAt 3 v23) w1 fun v24 =>
      PRun Try.prog (binOp .gtr 3 v24 a1) fun v26 =>
      Branch v26 (
        NilCk a0 fun v29 =>
        PRun Try.prog (Instr.fieldAt 50 v29 2) fun v30 =>
        QRun Try.prog (Instr.loadAt 47 v30) w1 fun v31 =>
        PRun Try.prog (Instr.indexAt 47 v31 v6_2) fun v33 =>
        QRun Try.prog (Instr.loadAt 39 v33) w1 fun v34 =>
        Run Try.prog (Instr.buildSlice 47 1 #[(0, v34)]) w1 fun v35 w2 =>
        Run Try.prog (Builtin.append_ #[47, 47] 47 #[v5_2, v35]) w2 fun v36 w3 =>
        k2 v36 w3
      ) (
        k2 v5_2 w1
      )
    ) fun v5_4 w4 => ∀ _ : Env,
    PRun Try.prog (binOp .add 3 v6_2 (Value.int .i64 1)) fun v16 =>
    k1 v5_4 v16 w4
  ) (
    NilCk a0 fun v38 =>
    PRun Try.prog (Instr.fieldAt 50 v38 2) fun v39 =>
    QRun Try.prog (Instr.loadAt 47 v39) w1 fun v40 =>
    PRun Try.prog (Builtin.len_ #[47] 3 #[v40]) fun v41 =>
    PRun Try.prog (Builtin.len_ #[47] 3 #[v5_2]) fun v43 =>
    PRun Try.prog (binOp .sub 3 v41 v43) fun v44 =>
    NilCk a0 fun v47 =>
    PRun Try.prog (Instr.fieldAt 50 v47 2) fun v48 =>
    Run Try.prog (Instr.storeAt 47 v48 v5_2) w1 fun _ w5 =>
    K v44 w5
  )
def H17 : Hints := { n := 50, reg := [(0, ⟨[.p], [0]⟩), (1, ⟨[.p], [0]⟩), (2, ⟨[.p], [0]⟩), (3, ⟨[.p, .p, .p, .p, .q, .p, .p], [0, 0, 2, 6, 14, 30, 63]⟩), (5, ⟨[.p, .p, .p, .q, .p, .p, .p, .q, .p, .p], [0, 1, 3, 7, 0, 31, 63, 127, 0, 511]⟩), (6, ⟨[.p, .p, .p, .p, .q, .p, .p, .q, .e, .e, .p], [0, 0, 2, 6, 14, 0, 62, 126, 254, 511, 1023]⟩), (4, ⟨[.p, .p, .p], [0, 1, 3]⟩), (7, ⟨[.p, .p, .p, .q, .p, .p, .p, .p, .p], [0, 1, 3, 7, 15, 0, 32, 127, 255]⟩), (8, ⟨[.p, .p, .p, .p, .e], [0, 0, 3, 7, 15]⟩), (9, ⟨[.p, .p], [0, 1]⟩)], loop := [(3, [5, 6])], join := [(5, [5])] }
noncomputable def C17 : Code := Try.f17.body.getD .skip
theorem E17 (a0 : Value) (a1 : Value) (K : Value → World → Prop) (w : World) : F17 a0 a1 K w = lift Try.prog H17 C17 (envOf [a0, a1] 0) w (fun E w => resV Try.prog H17.n E Try.f17.results.toList w fun vs => K (retV vs) w) [] (fun E w => resV Try.prog H17.n E Try.f17.results.toList w fun vs => K (retV vs) w) := by kernel_rfl
theorem R17 : regOk H17 C17 = true := by kernel_rfl
theorem B17 : Try.f17.body = some C17 := by kernel_rfl
theorem F17_ok (a0 : Value) (a1 : Value) (K : Value → World → Prop) (w : World) (h : F17 a0 a1 K w) : Calls Try.prog 17 #[a0, a1] w (retK K) :=
  lift_call mixed Try.func17 B17 Try.ntmps17 R17 (Nat.le_of_ble_eq_true rfl) (Eq.mp (E17 a0 a1 K w) h)
/-- lattice/latticelaw11.same -/
def F18 (a0 : Value) (a1 : Value) (K : Value → World → Prop) (w : World) : Prop :=
  PRun Try.prog (Builtin.len_ #[47] 3 #[a0]) fun v7 =>
  PRun Try.prog (Builtin.len_ #[47] 3 #[a1]) fun v9 =>
  PRun Try.prog (eqS .neq 3 (.tmp 7) (.tmp 9) v7 v9) fun v10 =>
  Branch v10 (
    K (Value.bool false) w
  ) (
    LoopF 1 [(Value.int .i64 0)] w fun v5_2 w1 k1 => ∀ _ : Env,
    PRun Try.prog (Builtin.len_ #[47] 3 #[a0]) fun v13 =>
    PRun Try.prog (binOp .lss 3 v5_2 v13) fun v14 =>
    Branch v14 (
      PRun Try.prog (Instr.indexAt 47 a0 v5_2) fun v19 =>
      PRun Try.prog (Instr.fieldAt 39 v19 0) fun v20 =>
      QRun Try.prog (Instr.loadAt 35 v20) w1.drew fun v21 =>
      PRun Try.prog (Instr.indexAt 47 a1 v5_2) fun v24 =>
      PRun Try.prog (Instr.fieldAt 39 v24 0) fun v25 =>
      QRun Try.prog (Instr.loadAt 35 v25) w1.drew fun v26 =>
      PRun Try.prog (eqS .neq 35 (.tmp 21) (.tmp 26) v21 v26) fun v27 =>
      Gd v27 false (fun k => k a0) fun v29 =>
      Gd v27 false (fun k => k v5_2) fun v30 =>
      Gd v27 false (fun k => PRun Try.prog (Instr.indexAt 47 v29 v30) k) fun v31 =>
      Gd v27 false (fun k => PRun Try.prog (Instr.fieldAt 39 v31 1) k) fun v32 =>
      Gd v27 false (fun k => QRun Try.prog (Instr.loadAt 37 v32) w1.drew k) fun v33 =>
      Gd v27 false (fun k => QRun Try.prog (convert 37 9 v33) w1.drew k) fun v34 =>
      Gd v27 false (fun k => k a1) fun v35 =>
      Gd v27 false (fun k => k v5_2) fun v36 =>
      Gd v27 false (fun k => PRun Try.prog (Instr.indexAt 47 v35 v36) k) fun v37 =>
      Gd v27 false (fun k => PRun Try.prog (Instr.fieldAt 39 v37 1) k) fun v38 =>
      Gd v27 false (fun k => QRun Try.prog (Instr.loadAt 37 v38) w1.drew k) fun v39 =>
      Gd v27 false (fun k => QRun Try.prog (convert 37 9 v39) w1.drew k) fun v40 =>
      Gd v27 false (fun k => PRun Try.prog (eqS .neq 9 (.tmp 34) (.tmp 40) v34 v40) k) fun v41 =>
      Pick v27 (Value.bool true) v41 fun v42 =>
      Gd v42 false (fun k => k a0) fun v44 =>
      Gd v42 false (fun k => k v5_2) fun v45 =>
      Gd v42 false (fun k => PRun Try.prog (Instr.indexAt 47 v44 v45) k) fun v46 =>
      Gd v42 false (fun k => PRun Try.prog (Instr.fieldAt 39 v46 2) k) fun v47 =>
      Gd v42 false (fun k => QRun Try.prog (Instr.loadAt 3 v47) w1.drew k) fun v48 =>
      Gd v42 false (fun k => k a1) fun v49 =>
      Gd v42 false (fun k => k v5_2) fun v50 =>
      Gd v42 false (fun k => PRun Try.prog (Instr.indexAt 47 v49 v50) k) fun v51 =>
      Gd v42 false (fun k => PRun Try.prog (Instr.fieldAt 39 v51 2) k) fun v52 =>
      Gd v42 false (fun k => QRun Try.prog (Instr.loadAt 3 v52) w1.drew k) fun v53 =>
      Gd v42 false (fun k => PRun Try.prog (eqS .neq 3 (.tmp 48) (.tmp 53) v48 v53) k) fun v54 =>
      Pick v42 (Value.bool true) v54 fun v55 =>
      Gd v55 false (fun k => k a0) fun v57 =>
      Gd v55 false (fun k => k v5_2) fun v58 =>
      Gd v55 false (fun k => PRun Try.prog (Instr.indexAt 47 v57 v58) k) fun v59 =>
      Gd v55 false (fun k => PRun Try.prog (Instr.fieldAt 39 v59 3) k) fun v60 =>
      Gd v55 false (fun k => QRun Try.prog (Instr.loadAt 3 v60) w1.drew k) fun v61 =>
      Gd v55 false (fun k => k a1) fun v62 =>
      Gd v55 false (fun k => k v5_2) fun v63 =>
      Gd v55 false (fun k => PRun Try.prog (Instr.indexAt 47 v62 v63) k) fun v64 =>
      Gd v55 false (fun k => PRun Try.prog (Instr.fieldAt 39 v64 3) k) fun v65 =>
      Gd v55 false (fun k => QRun Try.prog (Instr.loadAt 3 v65) w1.drew k) fun v66 =>
      Gd v55 false (fun k => PRun Try.prog (eqS .neq 3 (.tmp 61) (.tmp 66) v61 v66) k) fun v67 =>
      Pick v55 (Value.bool true) v67 fun v68 =>
      Branch v68 (
        K (Value.bool false) w1.drew
      ) (
        PRun Try.prog (binOp .add 3 v5_2 (Value.int .i64 1)) fun v16 =>
        k1 v16 w1.drew
      )
    ) (
      K (Value.bool true) w1
    )
  )
def H18 : Hints := { n := 69, reg := [(0, ⟨[.p], [0]⟩), (1, ⟨[.p, .p, .p, .p, .p], [0, 1, 0, 4, 15]⟩), (2, ⟨[.p], [0]⟩), (3, ⟨[.p], [0]⟩), (4, ⟨[.p, .p, .p, .p], [0, 0, 2, 7]⟩), (6, ⟨[.p, .p, .p, .p, .q, .p, .p, .p, .p, .q, .p, .p, .p, .p, .p, .p, .q, .q, .p, .p, .p, .p, .q, .q, .p, .p, .p, .p, .p, .p, .p, .q, .p, .p, .p, .p, .q, .p, .p, .p, .p, .p, .p, .p, .q, .p, .p, .p, .p, .q, .p, .p], [0, 0, 3, 7, 15, 0, 0, 96, 224, 480, 1023, 2047, 4095, 4095, 16383, 32767, 65535, 131071, 4095, 4095, 790527, 1839103, 3936255, 8130559, 16777215, 33554431, 67108863, 134217727, 134217727, 536870911, 1073741823, 2147483647, 134217727, 134217727, 13019119615, 30198988799, 64558727167, 137438953471, 274877906943, 549755813887, 1099511627775, 1099511627775, 4398046511103, 8796093022207, 17592186044415, 1099511627775, 1099511627775, 106652627894271, 247390116249599, 528865092960255, 1125899906842623, 2251799813685247]⟩), (7, ⟨[.p], [0]⟩), (5, ⟨[.p, .p, .p], [0, 1, 3]⟩), (8, ⟨[.p], [0]⟩)], loop := [(4, [5])], join := [] }
noncomputable def C18 : Code := Try.f18.body.getD .skip
theorem E18 (a0 : Value) (a1 : Value) (K : Value → World → Prop) (w : World) : F18 a0 a1 K w = lift Try.prog H18 C18 (envOf [a0, a1] 0) w (fun E w => resV Try.prog H18.n E Try.f18.results.toList w fun vs => K (retV vs) w) [] (fun E w => resV Try.prog H18.n E Try.f18.results.toList w fun vs => K (retV vs) w) := by kernel_rfl
theorem R18 : regOk H18 C18 = true := by kernel_rfl
theorem B18 : Try.f18.body = some C18 := by kernel_rfl
theorem F18_ok (a0 : Value) (a1 : Value) (K : Value → World → Prop) (w : World) (h : F18 a0 a1 K w) : Calls Try.prog 18 #[a0, a1] w (retK K) :=
  lift_call mixed Try.func18 B18 Try.ntmps18 R18 (Nat.le_of_ble_eq_true rfl) (Eq.mp (E18 a0 a1 K w) h)
/-- (*lattice/area.Area).All -/
def F19 (a0 : Value) (K : Value → World → Prop) (w : World) : Prop :=
  NilCk a0 fun v7 =>
  PRun Try.prog (Instr.fieldAt 57 v7 3) fun v8 =>
  QRun Try.prog (Instr.loadAt 54 v8) w fun v9 =>
  CallF Try.prog 28 #[v9] w fun v10 w1 =>
  CallF Try.prog 27 #[v10, (Value.func (.func 29) #[] #[])] w1 fun v11 w2 =>
  PRun Try.prog (Builtin.len_ #[47] 3 #[v11]) fun v13 =>
  LoopF 1 [(Value.int .i64 0)] w2 fun v14_2 w3 k1 => ∀ _ : Env,
  PRun Try.prog (binOp .lss 3 v14_2 v13) fun v15 =>
  Branch v15 (
    PRun Try.prog (Instr.indexAt 47 v11 v14_2) fun v17 =>
    QRun Try.prog (Instr.loadAt 39 v17) w3 fun v18 =>
    Run Try.prog (Instr.alloc 39 true (.tuple #[])) w3 fun v5 w4 =>
    Run Try.prog (Instr.storeAt 39 v5 v18) w4 fun _ w5 =>
    PRun Try.prog (Instr.fieldAt 39 v5 1) fun v21 =>
    QRun Try.prog (Instr.loadAt 37 v21) w5 fun v22 =>
    CallF Try.prog 24 #[v22] w5 fun v23 w6 =>
    PRun Try.prog (Instr.indexAt 47 v11 v14_2) fun v24 =>
    PRun Try.prog (Instr.fieldAt 39 v24 1) fun v25 =>
    Run Try.prog (Instr.storeAt 37 v25 v23) w6 fun _ w7 =>
    PRun Try.prog (binOp .add 3 v14_2 (Value.int .i64 1)) fun v26 =>
    k1 v26 w7
  ) (
    K v11 w3
  )
def H19 : Hints := { n := 28, reg := [(0, ⟨[.p], [0]⟩), (1, ⟨[.p, .p, .p, .q, .e, .e, .p], [0, 1, 3, 7, 15, 31, 63]⟩), (2, ⟨[.p, .p, .p], [0, 1, 0]⟩), (3, ⟨[.p], [0]⟩), (4, ⟨[.p, .p, .q, .e, .p, .e], [0, 0, 2, 0, 15, 31]⟩), (5, ⟨[.p, .p, .p, .q, .e, .p, .p, .e], [0, 0, 0, 4, 12, 31, 63, 127]⟩), (6, ⟨[.p, .p], [0, 1]⟩), (7, ⟨[.p, .p], [0, 1]⟩)], loop := [(3, [14])], join := [] }
noncomputable def C19 : Code := Try.f19.body.getD .skip
theorem E19 (a0 : Value) (K : Value → World → Prop) (w : World) : F19 a0 K w = lift Try.prog H19 C19 (envOf [a0] 0) w (fun E w => resV Try.prog H19.n E Try.f19.results.toList w fun vs => K (retV vs) w) [] (fun E w => resV Try.prog H19.n E Try.f19.results.toList w fun vs => K (retV vs) w) := by kernel_rfl
theorem R19 : regOk H19 C19 = true := by kernel_rfl
theorem B19 : Try.f19.body = some C19 := by kernel_rfl
theorem F19_ok (a0 : Value) (K : Value → World → Prop) (w : World) (h : F19 a0 K w) : Calls Try.prog 19 #[a0] w (retK K) :=
  lift_call mixed Try.func19 B19 Try.ntmps19 R19 (Nat.le_of_ble_eq_true rfl) (Eq.mp (E19 a0 K w) h)
/-- (*lattice/area.Area).Total -/
def F20 (a0 : Value) (K : Value → World → Prop) (w : World) : Prop :=
  NilCk a0 fun v4 =>
  PRun Try.prog (Instr.fieldAt 57 v4 5) fun v5 =>
  QRun Try.prog (Instr.loadAt 3 v5) w fun v6 =>
  K v6 w
def H20 : Hints := { n := 7, reg := [(0, ⟨[.p], [0]⟩), (1, ⟨[.p, .p, .p, .q, .p], [0, 1, 3, 7, 15]⟩)], loop := [], join := [] }
noncomputable def C20 : Code := Try.f20.body.getD .skip
theorem E20 (a0 : Value) (K : Value → World → Prop) (w : World) : F20 a0 K w = lift Try.prog H20 C20 (envOf [a0] 0) w (fun E w => resV Try.prog H20.n E Try.f20.results.toList w fun vs => K (retV vs) w) [] (fun E w => resV Try.prog H20.n E Try.f20.results.toList w fun vs => K (retV vs) w) := by kernel_rfl
theorem R20 : regOk H20 C20 = true := by kernel_rfl
theorem B20 : Try.f20.body = some C20 := by kernel_rfl
theorem F20_ok (a0 : Value) (K : Value → World → Prop) (w : World) (h : F20 a0 K w) : Calls Try.prog 20 #[a0] w (retK K) :=
  lift_call mixed Try.func20 B20 Try.ntmps20 R20 (Nat.le_of_ble_eq_true rfl) (Eq.mp (E20 a0 K w) h)
/-- (*lattice/latticeref11.Area).Total -/
def F21 (a0 : Value) (K : Value → World → Prop) (w : World) : Prop :=
  LoopF 2 [(Value.int .i64 0), (Value.int .i64 0)] w fun v3_2 v4_2 w1 k1 => ∀ _ : Env,
  NilCk a0 fun v7 =>
  PRun Try.prog (Instr.fieldAt 50 v7 2) fun v8 =>
  QRun Try.prog (Instr.loadAt 47 v8) w1 fun v9 =>
  PRun Try.prog (Builtin.len_ #[47] 3 #[v9]) fun v10 =>
  PRun Try.prog (binOp .lss 3 v4_2 v10) fun v11 =>
  Branch v11 (
    NilCk a0 fun v16 =>
    PRun Try.prog (Instr.fieldAt 50 v16 2) fun v17 =>
    QRun Try.prog (Instr.loadAt 47 v17) w1 fun v18 =>
    PRun Try.prog (Instr.indexAt 47 v18 v4_2) fun v20 =>
    PRun Try.prog (Instr.fieldAt 39 v20 1) fun v21 =>
    QRun Try.prog (Instr.loadAt 37 v21) w1 fun v22 =>
    PRun Try.prog (Builtin.len_ #[37] 3 #[v22]) fun v23 =>
    PRun Try.prog (binOp .add 3 v3_2 v23) fun v24 =>
    PRun Try.prog (binOp .add 3 v4_2 (Value.int .i64 1)) fun v13 =>
    k1 v24 v13 w1
  ) (
    K v3_2 w1
  )
def H21 : Hints := { n := 26, reg := [(0, ⟨[.p], [0]⟩), (1, ⟨[.p], [0]⟩), (2, ⟨[.p], [0]⟩), (3, ⟨[.p, .p, .p, .p, .q, .p, .p], [0, 0, 2, 6, 14, 30, 63]⟩), (5, ⟨[.p, .p, .p, .p, .q, .p, .p, .p, .q, .p, .p, .p], [0, 0, 2, 6, 14, 0, 62, 126, 254, 510, 1023, 2047]⟩), (4, ⟨[.p, .p, .p], [0, 1, 3]⟩), (6, ⟨[.p, .p], [0, 1]⟩)], loop := [(3, [3, 4])], join := [] }
noncomputable def C21 : Code := Try.f21.body.getD .skip
theorem E21 (a0 : Value) (K : Value → World → Prop) (w : World) : F21 a0 K w = lift Try.prog H21 C21 (envOf [a0] 0) w (fun E w => resV Try.prog H21.n E Try.f21.results.toList w fun vs => K (retV vs) w) [] (fun E w => resV Try.prog H21.n E Try.f21.results.toList w fun vs => K (retV vs) w) := by kernel_rfl
theorem R21 : regOk H21 C21 = true := by kernel_rfl
theorem B21 : Try.f21.body = some C21 := by kernel_rfl
theorem F21_ok (a0 : Value) (K : Value → World → Prop) (w : World) (h : F21 a0 K w) : Calls Try.prog 21 #[a0] w (retK K) :=
  lift_call mixed Try.func21 B21 Try.ntmps21 R21 (Nat.le_of_ble_eq_true rfl) (Eq.mp (E21 a0 K w) h)
/-- (*lattice/area.Area).Used -/
def F22 (a0 : Value) (a1 : Value) (K : Value → World → Prop) (w : World) : Prop :=
  NilCk a0 fun v6 =>
  PRun Try.prog (Instr.fieldAt 57 v6 4) fun v7 =>
  QRun Try.prog (Instr.loadAt 55 v7) w fun v8 =>
  QRun Try.prog (Instr.lookup 55 v8 a1 false) w fun v10 =>
  K v10 w
def H22 : Hints := { n := 11, reg := [(0, ⟨[.p], [0]⟩), (1, ⟨[.p, .p, .p, .q, .p, .q, .p], [0, 1, 3, 7, 0, 31, 63]⟩)], loop := [], join := [] }
noncomputable def C22 : Code := Try.f22.body.getD .skip
theorem E22 (a0 : Value) (a1 : Value) (K : Value → World → Prop) (w : World) : F22 a0 a1 K w = lift Try.prog H22 C22 (envOf [a0, a1] 0) w (fun E w => resV Try.prog H22.n E Try.f22.results.toList w fun vs => K (retV vs) w) [] (fun E w => resV Try.prog H22.n E Try.f22.results.toList w fun vs => K (retV vs) w) := by kernel_rfl
theorem R22 : regOk H22 C22 = true := by kernel_rfl
theorem B22 : Try.f22.body = some C22 := by kernel_rfl
theorem F22_ok (a0 : Value) (a1 : Value) (K : Value → World → Prop) (w : World) (h : F22 a0 a1 K w) : Calls Try.prog 22 #[a0, a1] w (retK K) :=
  lift_call mixed Try.func22 B22 Try.ntmps22 R22 (Nat.le_of_ble_eq_true rfl) (Eq.mp (E22 a0 a1 K w) h)
/-- (*lattice/latticeref11.Area).Used -/
def F23 (a0 : Value) (a1 : Value) (K : Value → World → Prop) (w : World) : Prop :=
  LoopF 2 [(Value.int .i64 0), (Value.int .i64 0)] w fun v5_2 v6_2 w1 k1 => ∀ _ : Env,
  NilCk a0 fun v9 =>
  PRun Try.prog (Instr.fieldAt 50 v9 2) fun v10 =>
  QRun Try.prog (Instr.loadAt 47 v10) w1 fun v11 =>
  PRun Try.prog (Builtin.len_ #[47] 3 #[v11]) fun v12 =>
  PRun Try.prog (binOp .lss 3 v6_2 v12) fun v13 =>
  Branch v13 (
    LetJ 1 (fun k2 =>
      NilCk a0 fun v17 =>
      PRun Try.prog (Instr.fieldAt 50 v17 2) fun v18 =>
      QRun Try.prog (Instr.loadAt 47 v18) w1 fun v19 =>
      PRun Try.prog (Instr.indexAt 47 v19 v6_2) fun v21 =>
      PRun Try.prog (Instr.fieldAt 39 v21 2) fun v22 =>
      QRun Try.prog (Instr.loadAt 3 v22) w1 fun v23 =>
      PRun Try.prog (eqS .eql 3 (.tmp 23) (.tmp 24) v23 a1) fun v25 =>
      Branch v25 (
        NilCk a0 fun v28 =>
        PRun Try.prog (Instr.fieldAt 50 v28 2) fun v29 =>
        QRun Try.prog (Instr.loadAt 47 v29) w1 fun v30 =>
        PRun Try.prog (Instr.indexAt 47 v30 v6_2) fun v32 =>
        PRun Try.prog (Instr.fieldAt 39 v32 1) fun v33 =>
        QRun Try.prog (Instr.loadAt 37 v33) w1 fun v34 =>
        PRun Try.prog (Builtin.len_ #[37] 3 #[v34]) fun v35 =>
        PRun Try.prog (binOp .add 3 v5_2 v35) fun v36 =>
        k2 v36 w1
      ) (
        k2 v5_2 w1
      )
    ) fun v5_4 w2 => ∀ _ : Env,
    PRun Try.prog (binOp .add 3 v6_2 (Value.int .i64 1)) fun v15 =>
    k1 v5_4 v15 w2
  ) (
    K v5_2 w1
  )
def H23 : Hints := { n := 38, reg := [(0, ⟨[.p], [0]⟩), (1, ⟨[.p], [0]⟩), (2, ⟨[.p], [0]⟩), (3, ⟨[.p, .p, .p, .p, .q, .p, .p], [0, 0, 2, 6, 14, 30, 63]⟩), (5, ⟨[.p, .p, .p, .q, .p, .p, .p, .q, .p, .p], [0, 1, 3, 7, 0, 31, 63, 127, 0, 511]⟩), (6, ⟨[.p, .p, .p, .p, .q, .p, .p, .p, .q, .p, .p, .p], [0, 0, 2, 6, 14, 0, 62, 126, 254, 510, 1023, 2047]⟩), (4, ⟨[.p, .p, .p], [0, 1, 3]⟩), (7, ⟨[.p, .p], [0, 1]⟩)], loop := [(3, [5, 6])], join := [(5, [5])] }
noncomputable def C23 : Code := Try.f23.body.getD .skip
theorem E23 (a0 : Value) (a1 : Value) (K : Value → World → Prop) (w : World) : F23 a0 a1 K w = lift Try.prog H23 C23 (envOf [a0, a1] 0) w (fun E w => resV Try.prog H23.n E Try.f23.results.toList w fun vs => K (retV vs) w) [] (fun E w => resV Try.prog H23.n E Try.f23.results.toList w fun vs => K (retV vs) w) := by kernel_rfl
theorem R23 : regOk H23 C23 = true := by kernel_rfl
theorem B23 : Try.f23.body = some C23 := by kernel_rfl
theorem F23_ok (a0 : Value) (a1 : Value) (K : Value → World → Prop) (w : World) (h : F23 a0 a1 K w) : Calls Try.prog 23 #[a0, a1] w (retK K) :=
  lift_call mixed Try.func23 B23 Try.ntmps23 R23 (Nat.le_of_ble_eq_true rfl) (Eq.mp (E23 a0 a1 K w) h)
/-- slices.Clone[[]byte,byte] -/
def F24 (a0 : Value) (K : Value → World → Prop) (w : World) : Prop :=
  PRun Try.prog (eqS .eql 37 (.tmp 3) (.const (Value.slice none 0 0)) a0 (Value.slice none 0 0)) fun v4 =>
  Branch v4 (
    K (Value.slice none 0 0) w
  ) (
    Run Try.prog (Instr.buildSlice 37 0 #[]) w fun v5 w1 =>
    Run Try.prog (Builtin.append_ #[37, 37] 37 #[v5, a0]) w1 fun v7 w2 =>
    K v7 w2
  )
def H24 : Hints := { n := 8, reg := [(0, ⟨[.p], [0]⟩), (1, ⟨[.p, .p], [0, 1]⟩), (2, ⟨[.p], [0]⟩), (3, ⟨[.e, .p, .e, .p], [0, 0, 3, 7]⟩)], loop := [], join := [] }
noncomputable def C24 : Code := Try.f24.body.getD .skip
theorem E24 (a0 : Value) (K : Value → World → Prop) (w : World) : F24 a0 K w = lift Try.prog H24 C24 (envOf [a0] 0) w (fun E w => resV Try.prog H24.n E Try.f24.results.toList w fun vs => K (retV vs) w) [] (fun E w => resV Try.prog H24.n E Try.f24.results.toList w fun vs => K (retV vs) w) := by kernel_rfl
theorem R24 : regOk H24 C24 = true := by kernel_rfl
theorem B24 : Try.f24.body = some C24 := by kernel_rfl
theorem F24_ok (a0 : Value) (K : Value → World → Prop) (w : World) (h : F24 a0 K w) : Calls Try.prog 24 #[a0] w (retK K) :=
  lift_call mixed Try.func24 B24 Try.ntmps24 R24 (Nat.le_of_ble_eq_true rfl) (Eq.mp (E24 a0 K w) h)
/-- (*lattice/area.Area).count -/
def F25 (a0 : Value) (a1 : Value) (a2 : Value) (K : Value → World → Prop) (w : World) : Prop :=
  NilCk a0 fun v7 =>
  PRun Try.prog (Instr.fieldAt 57 v7 4) fun v8 =>
  QRun Try.prog (Instr.loadAt 55 v8) w fun v9 =>
  QRun Try.prog (Instr.lookup 55 v9 a1 false) w fun v11 =>
  PRun Try.prog (binOp .add 3 v11 a2) fun v13 =>
  Run Try.prog (Instr.mapUpdate 55 v9 a1 v13) w fun _ w1 =>
  NilCk a0 fun v15 =>
  PRun Try.prog (Instr.fieldAt 57 v15 5) fun v16 =>
  QRun Try.prog (Instr.loadAt 3 v16) w1 fun v17 =>
  PRun Try.prog (binOp .add 3 v17 a2) fun v19 =>
  NilCk a0 fun v20 =>
  PRun Try.prog (Instr.fieldAt 57 v20 5) fun v21 =>
  Run Try.prog (Instr.storeAt 3 v21 v19) w1 fun _ w2 =>
  K (Value.tuple #[]) w2
def H25 : Hints := { n := 22, reg := [(0, ⟨[.p, .p, .p, .q, .p, .q, .p, .p, .e], [0, 1, 3, 7, 0, 31, 0, 127, 255]⟩), (1, ⟨[.p, .p, .p, .q, .p, .p, .p, .p, .e], [0, 1, 3, 7, 0, 31, 63, 127, 255]⟩)], loop := [], join := [] }
noncomputable def C25 : Code := Try.f25.body.getD .skip
theorem E25 (a0 : Value) (a1 : Value) (a2 : Value) (K : Value → World → Prop) (w : World) : F25 a0 a1 a2 K w = lift Try.prog H25 C25 (envOf [a0, a1, a2] 0) w (fun E w => resV Try.prog H25.n E Try.f25.results.toList w fun vs => K (retV vs) w) [] (fun E w => resV Try.prog H25.n E Try.f25.results.toList w fun vs => K (retV vs) w) := by kernel_rfl
theorem R25 : regOk H25 C25 = true := by kernel_rfl
theorem B25 : Try.f25.body = some C25 := by kernel_rfl
theorem F25_ok (a0 : Value) (a1 : Value) (a2 : Value) (K : Value → World → Prop) (w : World) (h : F25 a0 a1 a2 K w) : Calls Try.prog 25 #[a0, a1, a2] w (retK K) :=
  lift_call mixed Try.func25 B25 Try.ntmps25 R25 (Nat.le_of_ble_eq_true rfl) (Eq.mp (E25 a0 a1 a2 K w) h)
/-- lattice/latticeref11.Less -/
def F26 (a0 : Value) (a1 : Value) (K : Value → World → Prop) (w : World) : Prop :=
  Run Try.prog (Instr.box 35 a0) w fun v2 w1 =>
  Run Try.prog (Instr.box 35 a1) w1 fun v3 w2 =>
  LoopF 1 [(Value.int .i64 0)] w2 fun v5_2 w3 k1 => ∀ _ : Env,
  PRun Try.prog (binOp .lss 3 v5_2 (Value.int .i64 32)) fun v7 =>
  Branch v7 (
    PRun Try.prog (Instr.indexAt 35 v2 v5_2) fun v11 =>
    QRun Try.prog (Instr.loadAt 5 v11) w3.drew fun v12 =>
    PRun Try.prog (Instr.indexAt 35 v3 v5_2) fun v14 =>
    QRun Try.prog (Instr.loadAt 5 v14) w3.drew fun v15 =>
    PRun Try.prog (eqS .neq 5 (.tmp 12) (.tmp 15) v12 v15) fun v16 =>
    Branch v16 (
      PRun Try.prog (Instr.indexAt 35 v2 v5_2) fun v18 =>
      QRun Try.prog (Instr.loadAt 5 v18) w3.drew.drew fun v19 =>
      PRun Try.prog (Instr.indexAt 35 v3 v5_2) fun v21 =>
      QRun Try.prog (Instr.loadAt 5 v21) w3.drew.drew fun v22 =>
      PRun Try.prog (binOp .lss 5 v19 v22) fun v23 =>
      K v23 w3.drew.drew
    ) (
      PRun Try.prog (binOp .add 3 v5_2 (Value.int .i64 1)) fun v9 =>
      k1 v9 w3.drew
    )
  ) (
    K (Value.bool false) w3
  )
def H26 : Hints := { n := 24, reg := [(0, ⟨[.e, .e, .p], [0, 0, 0]⟩), (1, ⟨[.p], [0]⟩), (2, ⟨[.p, .p], [0, 1]⟩), (4, ⟨[.p, .p, .q, .p, .p, .q, .p], [0, 1, 3, 0, 8, 24, 63]⟩), (5, ⟨[.p, .p, .q, .p, .p, .q, .p, .p], [0, 1, 3, 0, 8, 24, 63, 127]⟩), (3, ⟨[.p, .p, .p], [0, 1, 3]⟩), (6, ⟨[.p], [0]⟩)], loop := [(2, [5])], join := [] }
noncomputable def C26 : Code := Try.f26.body.getD .skip
theorem E26 (a0 : Value) (a1 : Value) (K : Value → World → Prop) (w : World) : F26 a0 a1 K w = lift Try.prog H26 C26 (envOf [a0, a1] 0) w (fun E w => resV Try.prog H26.n E Try.f26.results.toList w fun vs => K (retV vs) w) [] (fun E w => resV Try.prog H26.n E Try.f26.results.toList w fun vs => K (retV vs) w) := by kernel_rfl
theorem R26 : regOk H26 C26 = true := by kernel_rfl
theorem B26 : Try.f26.body = some C26 := by kernel_rfl
theorem F26_ok (a0 : Value) (a1 : Value) (K : Value → World → Prop) (w : World) (h : F26 a0 a1 K w) : Calls Try.prog 26 #[a0, a1] w (retK K) :=
  lift_call mixed Try.func26 B26 Try.ntmps26 R26 (Nat.le_of_ble_eq_true rfl) (Eq.mp (E26 a0 a1 K w) h)
/-- slices.SortedFunc[lattice/api.Block] -/
def F27 (a0 : Value) (a1 : Value) (K : Value → World → Prop) (w : World) : Prop :=
  CallF Try.prog 31 #[a0] w fun v7 w1 =>
  CallF Try.prog 32 #[v7, a1] w1 fun v10 w2 =>
  K v7 w2
def H27 : Hints := { n := 12, reg := [(0, ⟨[.p], [0]⟩), (1, ⟨[.p, .e, .p], [0, 1, 3]⟩), (2, ⟨[.p, .p, .e], [0, 0, 3]⟩), (3, ⟨[.p, .p], [0, 1]⟩)], loop := [], join := [] }
noncomputable def C27 : Code := Try.f27.body.getD .skip
theorem E27 (a0 : Value) (a1 : Value) (K : Value → World → Prop) (w : World) : F27 a0 a1 K w = lift Try.prog H27 C27 (envOf [a0, a1] 0) w (fun E w => resV Try.prog H27.n E Try.f27.results.toList w fun vs => K (retV vs) w) [] (fun E w => resV Try.prog H27.n E Try.f27.results.toList w fun vs => K (retV vs) w) := by kernel_rfl
theorem R27 : regOk H27 C27 = true := by kernel_rfl
theorem B27 : Try.f27.body = some C27 := by kernel_rfl
theorem F27_ok (a0 : Value) (a1 : Value) (K : Value → World → Prop) (w : World) (h : F27 a0 a1 K w) : Calls Try.prog 27 #[a0, a1] w (retK K) :=
  lift_call mixed Try.func27 B27 Try.ntmps27 R27 (Nat.le_of_ble_eq_true rfl) (Eq.mp (E27 a0 a1 K w) h)
/-- maps.Values[map[lattice/api.Id]lattice/api.Block,lattice/api.Id,lattice/api.Block] -/
def F28 (a0 : Value) (K : Value → World → Prop) (w : World) : Prop :=
  Run Try.prog (Instr.box 54 a0) w fun v1 w1 =>
  PRun Try.prog (Instr.makeFunc (Fn.func 33) #[] #[v1]) fun v3 =>
  K v3 w1
def H28 : Hints := { n := 4, reg := [(0, ⟨[.e, .p], [0, 0]⟩), (1, ⟨[.p, .p], [0, 1]⟩)], loop := [], join := [] }
noncomputable def C28 : Code := Try.f28.body.getD .skip
theorem E28 (a0 : Value) (K : Value → World → Prop) (w : World) : F28 a0 K w = lift Try.prog H28 C28 (envOf [a0] 0) w (fun E w => resV Try.prog H28.n E Try.f28.results.toList w fun vs => K (retV vs) w) [] (fun E w => resV Try.prog H28.n E Try.f28.results.toList w fun vs => K (retV vs) w) := by kernel_rfl
theorem R28 : regOk H28 C28 = true := by kernel_rfl
theorem B28 : Try.f28.body = some C28 := by kernel_rfl
theorem F28_ok (a0 : Value) (K : Value → World → Prop) (w : World) (h : F28 a0 K w) : Calls Try.prog 28 #[a0] w (retK K) :=
  lift_call mixed Try.func28 B28 Try.ntmps28 R28 (Nat.le_of_ble_eq_true rfl) (Eq.mp (E28 a0 K w) h)
/-- (*lattice/area.Area).All$1 -/
def F29 (a0 : Value) (a1 : Value) (K : Value → World → Prop) (w : World) : Prop :=
  Run Try.prog (Instr.box 39 a0) w fun v2 w1 =>
  Run Try.prog (Instr.box 39 a1) w1 fun v3 w2 =>
  PRun Try.prog (Instr.fieldAt 39 v2 0) fun v5 =>
  PRun Try.prog (Instr.sliceAt 35 v5 none none none) fun v6 =>
  PRun Try.prog (Instr.fieldAt 39 v3 0) fun v7 =>
  PRun Try.prog (Instr.sliceAt 35 v7 none none none) fun v8 =>
  CallF Try.prog 30 #[v6, v8] w2.drew fun v9 w3 =>
  K v9 w3
def H29 : Hints := { n := 10, reg := [(0, ⟨[.e, .e, .p], [0, 0, 0]⟩), (1, ⟨[.p, .p, .p, .p, .e, .p], [0, 1, 0, 4, 15, 31]⟩)], loop := [], join := [] }
noncomputable def C29 : Code := Try.f29.body.getD .skip
theorem E29 (a0 : Value) (a1 : Value) (K : Value → World → Prop) (w : World) : F29 a0 a1 K w = lift Try.prog H29 C29 (envOf [a0, a1] 0) w (fun E w => resV Try.prog H29.n E Try.f29.results.toList w fun vs => K (retV vs) w) [] (fun E w => resV Try.prog H29.n E Try.f29.results.toList w fun vs => K (retV vs) w) := by kernel_rfl
theorem R29 : regOk H29 C29 = true := by kernel_rfl
theorem B29 : Try.f29.body = some C29 := by kernel_rfl
theorem F29_ok (a0 : Value) (a1 : Value) (K : Value → World → Prop) (w : World) (h : F29 a0 a1 K w) : Calls Try.prog 29 #[a0, a1] w (retK K) :=
  lift_call mixed Try.func29 B29 Try.ntmps29 R29 (Nat.le_of_ble_eq_true rfl) (Eq.mp (E29 a0 a1 K w) h)
/-- bytes.Compare -/
def F30 (a0 : Value) (a1 : Value) (K : Value → World → Prop) (w : World) : Prop :=
  CallF Try.prog 34 #[a0, a1] w fun v7 w1 =>
  K v7 w1
def H30 : Hints := { n := 8, reg := [(0, ⟨[.p], [0]⟩), (1, ⟨[.p, .p, .e, .p], [0, 0, 3, 7]⟩)], loop := [], join := [] }
noncomputable def C30 : Code := Try.f30.body.getD .skip
theorem E30 (a0 : Value) (a1 : Value) (K : Value → World → Prop) (w : World) : F30 a0 a1 K w = lift Try.prog H30 C30 (envOf [a0, a1] 0) w (fun E w => resV Try.prog H30.n E Try.f30.results.toList w fun vs => K (retV vs) w) [] (fun E w => resV Try.prog H30.n E Try.f30.results.toList w fun vs => K (retV vs) w) := by kernel_rfl
theorem R30 : regOk H30 C30 = true := by kernel_rfl
theorem B30 : Try.f30.body = some C30 := by kernel_rfl
theorem F30_ok (a0 : Value) (a1 : Value) (K : Value → World → Prop) (w : World) (h : F30 a0 a1 K w) : Calls Try.prog 30 #[a0, a1] w (retK K) :=
  lift_call mixed Try.func30 B30 Try.ntmps30 R30 (Nat.le_of_ble_eq_true rfl) (Eq.mp (E30 a0 a1 K w) h)
/-- slices.Collect[lattice/api.Block] -/
def F31 (a0 : Value) (K : Value → World → Prop) (w : World) : Prop :=
  CallF Try.prog 35 #[(Value.slice none 0 0), a0] w fun v4 w1 =>
  K v4 w1
def H31 : Hints := { n := 5, reg := [(0, ⟨[.p], [0]⟩), (1, ⟨[.p, .e, .p], [0, 1, 3]⟩)], loop := [], join := [] }
noncomputable def C31 : Code := Try.f31.body.getD .skip
theorem E31 (a0 : Value) (K : Value → World → Prop) (w : World) : F31 a0 K w = lift Try.prog H31 C31 (envOf [a0] 0) w (fun E w => resV Try.prog H31.n E Try.f31.results.toList w fun vs => K (retV vs) w) [] (fun E w => resV Try.prog H31.n E Try.f31.results.toList w fun vs => K (retV vs) w) := by kernel_rfl
theorem R31 : regOk H31 C31 = true := by kernel_rfl
theorem B31 : Try.f31.body = some C31 := by kernel_rfl
theorem F31_ok (a0 : Value) (K : Value → World → Prop) (w : World) (h : F31 a0 K w) : Calls Try.prog 31 #[a0] w (retK K) :=
  lift_call mixed Try.func31 B31 Try.ntmps31 R31 (Nat.le_of_ble_eq_true rfl) (Eq.mp (E31 a0 K w) h)
/-- slices.SortFunc[[]lattice/api.Block,lattice/api.Block] -/
def F32 (a0 : Value) (a1 : Value) (K : Value → World → Prop) (w : World) : Prop :=
  PRun Try.prog (Builtin.len_ #[47] 3 #[a0]) fun v6 =>
  PRun Try.prog (convert 3 74 v6) fun v10 =>
  CallF Try.prog 37 #[v10] w fun v11 w1 =>
  CallF Try.prog 36 #[a0, (Value.int .i64 0), v6, v11, a1] w1 fun v13 w2 =>
  K (Value.tuple #[]) w2
def H32 : Hints := { n := 14, reg := [(0, ⟨[.p, .p, .p], [0, 1, 3]⟩), (1, ⟨[.p, .p, .p, .p, .e, .p, .e], [0, 0, 0, 4, 12, 0, 63]⟩)], loop := [], join := [] }
noncomputable def C32 : Code := Try.f32.body.getD .skip
theorem E32 (a0 : Value) (a1 : Value) (K : Value → World → Prop) (w : World) : F32 a0 a1 K w = lift Try.prog H32 C32 (envOf [a0, a1] 0) w (fun E w => resV Try.prog H32.n E Try.f32.results.toList w fun vs => K (retV vs) w) [] (fun E w => resV Try.prog H32.n E Try.f32.results.toList w fun vs => K (retV vs) w) := by kernel_rfl
theorem R32 : regOk H32 C32 = true := by kernel_rfl
theorem B32 : Try.f32.body = some C32 := by kernel_rfl
theorem F32_ok (a0 : Value) (a1 : Value) (K : Value → World → Prop) (w : World) (h : F32 a0 a1 K w) : Calls Try.prog 32 #[a0, a1] w (retK K) :=
  lift_call mixed Try.func32 B32 Try.ntmps32 R32 (Nat.le_of_ble_eq_true rfl) (Eq.mp (E32 a0 a1 K w) h)
/-- maps.Values[map[lattice/api.Id]lattice/api.Block,lattice/api.Id,lattice/api.Block]$1 -/
def F33 (a0 : Value) (a1 : Value) (K : Value → World → Prop) (w : World) : Prop :=
  QRun Try.prog (Instr.loadAt 54 a1) w fun v5 =>
  Run Try.prog (Instr.range 54 v5) w fun v6 w1 =>
  LoopF 0 [] w1 fun w2 k1 => ∀ _ : Env,
  Run Try.prog (Instr.next v6 false 0) w2 fun v7 w3 =>
  PRun Try.prog (Instr.extract v7 0) fun v8 =>
  Branch v8 (
    QRun Try.prog (Instr.entry v6) w3 fun v9 =>
    PRun Try.prog (Instr.extract v9 1) fun v10 =>
    Run Try.prog (Instr.alloc 39 true (.tuple #[])) w3 fun v4 w4 =>
    Run Try.prog (Instr.storeAt 39 v4 v10) w4 fun _ w5 =>
    QRun Try.prog (Instr.loadAt 39 v4) w5 fun v12 =>
    CallV Try.prog a0 #[v12] w5 fun v13 w6 =>
    PRun Try.prog (Op.unary .not v13) fun v14 =>
    Branch v14 (
      K (Value.tuple #[]) w6
    ) (
      k1 w6
    )
  ) (
    K (Value.tuple #[]) w3
  )
def H33 : Hints := { n := 15, reg := [(0, ⟨[.q, .e], [0, 1]⟩), (1, ⟨[.e, .p], [0, 1]⟩), (2, ⟨[.q, .p, .e, .e], [0, 1, 0, 7]⟩), (3, ⟨[.p, .q, .e, .p], [0, 0, 3, 7]⟩)], loop := [(1, [])], join := [] }
noncomputable def C33 : Code := Try.f33.body.getD .skip
theorem E33 (a0 : Value) (a1 : Value) (K : Value → World → Prop) (w : World) : F33 a0 a1 K w = lift Try.prog H33 C33 (envOf [a0, a1] 0) w (fun E w => resV Try.prog H33.n E Try.f33.results.toList w fun vs => K (retV vs) w) [] (fun E w => resV Try.prog H33.n E Try.f33.results.toList w fun vs => K (retV vs) w) := by kernel_rfl
theorem R33 : regOk H33 C33 = true := by kernel_rfl
theorem B33 : Try.f33.body = some C33 := by kernel_rfl
theorem F33_ok (a0 : Value) (a1 : Value) (K : Value → World → Prop) (w : World) (h : F33 a0 a1 K w) : Calls Try.prog 33 #[a0, a1] w (retK K) :=
  lift_call mixed Try.func33 B33 Try.ntmps33 R33 (Nat.le_of_ble_eq_true rfl) (Eq.mp (E33 a0 a1 K w) h)
/-- slices.insertionSortCmpFunc[lattice/api.Block] -/
def F38 (a0 : Value) (a1 : Value) (a2 : Value) (a3 : Value) (K : Value → World → Prop) (w : World) : Prop :=
  PRun Try.prog (binOp .add 3 a1 (Value.int .i64 1)) fun v11 =>
  LoopF 1 [v11] w fun v8_2 w1 k1 => ∀ _ : Env,
  PRun Try.prog (binOp .lss 3 v8_2 a2) fun v14 =>
  Branch v14 (
    LoopF 1 [v8_2] w1 fun v9_2 w2 k2 => ∀ _ : Env,
    PRun Try.prog (binOp .gtr 3 v9_2 a1) fun v20 =>
    Gd v20 true (fun k => k a3) fun v22 =>
    Gd v20 true (fun k => k a0) fun v23 =>
    Gd v20 true (fun k => k v9_2) fun v24 =>
    Gd v20 true (fun k => PRun Try.prog (Instr.indexAt 47 v23 v24) k) fun v25 =>
    Gd v20 true (fun k => QRun Try.prog (Instr.loadAt 39 v25) w2.drew k) fun v26 =>
    Gd v20 true (fun k => k a0) fun v27 =>
    Gd v20 true (fun k => k v9_2) fun v28 =>
    Gd v20 true (fun k => PRun Try.prog (binOp .sub 3 v28 (Value.int .i64 1)) k) fun v29 =>
    Gd v20 true (fun k => PRun Try.prog (Instr.indexAt 47 v27 v29) k) fun v30 =>
    Gd v20 true (fun k => QRun Try.prog (Instr.loadAt 39 v30) w2.drew k) fun v31 =>
    GdE v20 true (fun k => CallV Try.prog v22 #[v26, v31] w2.drew k) w2.drew fun v32 w3 =>
    Gd v20 true (fun k => PRun Try.prog (binOp .lss 3 v32 (Value.int .i64 0)) k) fun v33 =>
    Pick v20 v33 (Value.bool false) fun v34 =>
    Branch v34 (
      PRun Try.prog (binOp .sub 3 v9_2 (Value.int .i64 1)) fun v41 =>
      PRun Try.prog (binOp .sub 3 v9_2 (Value.int .i64 1)) fun v44 =>
      PRun Try.prog (Instr.indexAt 47 a0 v44) fun v45 =>
      QRun Try.prog (Instr.loadAt 39 v45) w3.drew fun v46 =>
      PRun Try.prog (Instr.indexAt 47 a0 v9_2) fun v49 =>
      QRun Try.prog (Instr.loadAt 39 v49) w3.drew fun v50 =>
      PRun Try.prog (Instr.indexAt 47 a0 v9_2) fun v51 =>
      Run Try.prog (Instr.storeAt 39 v51 v46) w3.drew fun _ w4 =>
      PRun Try.prog (Instr.indexAt 47 a0 v41) fun v52 =>
      Run Try.prog (Instr.storeAt 39 v52 v50) w4 fun _ w5 =>
      PRun Try.prog (binOp .sub 3 v9_2 (Value.int .i64 1)) fun v36 =>
      k2 v36 w5
    ) (
      PRun Try.prog (binOp .add 3 v8_2 (Value.int .i64 1)) fun v16 =>
      k1 v16 w3
    )
  ) (
    K (Value.tuple #[]) w1
  )
def H38 : Hints := { n := 53, reg := [(0, ⟨[.p, .p, .p], [0, 1, 3]⟩), (1, ⟨[.p, .p, .p], [0, 0, 3]⟩), (3, ⟨[.p, .p], [0, 1]⟩), (4, ⟨[.p, .p, .p, .p, .p, .p, .p, .p, .q, .p, .p, .p, .p, .q, .e, .p, .p], [0, 0, 3, 7, 15, 15, 15, 111, 239, 15, 15, 1039, 3599, 7695, 16383, 32767, 65535]⟩), (6, ⟨[.p, .p, .p, .p, .p, .p, .p, .p, .p, .q, .p, .p, .p, .q, .p, .e, .p, .e], [0, 0, 0, 0, 8, 0, 0, 64, 224, 480, 0, 0, 3072, 7168, 16355, 32739, 65535, 131071]⟩), (5, ⟨[.p, .p, .p], [0, 1, 3]⟩), (2, ⟨[.p, .p, .p], [0, 1, 3]⟩)], loop := [(1, [8]), (4, [9])], join := [] }
noncomputable def C38 : Code := Try.f38.body.getD .skip
theorem E38 (a0 : Value) (a1 : Value) (a2 : Value) (a3 : Value) (K : Value → World → Prop) (w : World) : F38 a0 a1 a2 a3 K w = lift Try.prog H38 C38 (envOf [a0, a1, a2, a3] 0) w (fun E w => resV Try.prog H38.n E Try.f38.results.toList w fun vs => K (retV vs) w) [] (fun E w => resV Try.prog H38.n E Try.f38.results.toList w fun vs => K (retV vs) w) := by kernel_rfl
theorem R38 : regOk H38 C38 = true := by kernel_rfl
theorem B38 : Try.f38.body = some C38 := by kernel_rfl
theorem F38_ok (a0 : Value) (a1 : Value) (a2 : Value) (a3 : Value) (K : Value → World → Prop) (w : World) (h : F38 a0 a1 a2 a3 K w) : Calls Try.prog 38 #[a0, a1, a2, a3] w (retK K) :=
  lift_call mixed Try.func38 B38 Try.ntmps38 R38 (Nat.le_of_ble_eq_true rfl) (Eq.mp (E38 a0 a1 a2 a3 K w) h)
end Go.Proofs
