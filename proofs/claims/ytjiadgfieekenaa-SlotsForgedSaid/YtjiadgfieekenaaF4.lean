/- Parts of the proof: S.F4. -/
import Derived.Test.YtjiadgfieekenaaL2
import Derived.Test.YtjiadgfieekenaaTy
set_option linter.unusedVariables false
set_option linter.unusedSimpArgs false
set_option linter.unusedSectionVars false
namespace Go.Proofs
open Go Go.Lf
set_option maxRecDepth 100000
/-- slices.Clone[[]byte,byte] -/
def F23 (a0 : Value) (K : Value → World → Prop) (w : World) : Prop :=
  PRun Try.prog (eqS .eql 30 (.tmp 3) (.const (Value.slice none 0 0)) a0 (Value.slice none 0 0)) fun v4 =>
  Branch v4 (
    K (Value.slice none 0 0) w
  ) (
    Run Try.prog (Instr.buildSlice 30 0 #[]) w fun v5 w1 =>
    Run Try.prog (Builtin.append_ #[30, 30] 30 #[v5, a0]) w1 fun v7 w2 =>
    K v7 w2
  )
def H23 : Hints := { n := 8, reg := [(0, ⟨[.p], [0]⟩), (1, ⟨[.p, .p], [0, 1]⟩), (2, ⟨[.p], [0]⟩), (3, ⟨[.e, .p, .e, .p], [0, 0, 3, 7]⟩)], loop := [], join := [] }
noncomputable def C23 : Code := Try.f23.body.getD .skip
theorem E23 (a0 : Value) (K : Value → World → Prop) (w : World) : F23 a0 K w = lift Try.prog H23 C23 (envOf [a0] 0) w (fun E w => resV Try.prog H23.n E Try.f23.results.toList w fun vs => K (retV vs) w) [] (fun E w => resV Try.prog H23.n E Try.f23.results.toList w fun vs => K (retV vs) w) := by kernel_rfl
theorem R23 : regOk H23 C23 = true := by kernel_rfl
theorem B23 : Try.f23.body = some C23 := by kernel_rfl
theorem F23_ok (a0 : Value) (K : Value → World → Prop) (w : World) (h : F23 a0 K w) : Calls Try.prog 23 #[a0] w (retK K) :=
  lift_call mixed Try.func23 B23 Try.ntmps23 R23 (Nat.le_of_ble_eq_true rfl) (Eq.mp (E23 a0 K w) h)
/-- slices.SortedFunc[lattice/slots.Slot] -/
def F24 (a0 : Value) (a1 : Value) (K : Value → World → Prop) (w : World) : Prop :=
  CallF Try.prog 43 #[a0] w fun v7 w1 =>
  CallF Try.prog 44 #[v7, a1] w1 fun v10 w2 =>
  K v7 w2
def H24 : Hints := { n := 12, reg := [(0, ⟨[.p], [0]⟩), (1, ⟨[.p, .e, .p], [0, 1, 3]⟩), (2, ⟨[.p, .p, .e], [0, 0, 3]⟩), (3, ⟨[.p, .p], [0, 1]⟩)], loop := [], join := [] }
noncomputable def C24 : Code := Try.f24.body.getD .skip
theorem E24 (a0 : Value) (a1 : Value) (K : Value → World → Prop) (w : World) : F24 a0 a1 K w = lift Try.prog H24 C24 (envOf [a0, a1] 0) w (fun E w => resV Try.prog H24.n E Try.f24.results.toList w fun vs => K (retV vs) w) [] (fun E w => resV Try.prog H24.n E Try.f24.results.toList w fun vs => K (retV vs) w) := by kernel_rfl
theorem R24 : regOk H24 C24 = true := by kernel_rfl
theorem B24 : Try.f24.body = some C24 := by kernel_rfl
theorem F24_ok (a0 : Value) (a1 : Value) (K : Value → World → Prop) (w : World) (h : F24 a0 a1 K w) : Calls Try.prog 24 #[a0, a1] w (retK K) :=
  lift_call mixed Try.func24 B24 Try.ntmps24 R24 (Nat.le_of_ble_eq_true rfl) (Eq.mp (E24 a0 a1 K w) h)
/-- maps.Values[map[lattice/api.Id]lattice/slots.Slot,lattice/api.Id,lattice/slots.Slot] -/
def F25 (a0 : Value) (K : Value → World → Prop) (w : World) : Prop :=
  Run Try.prog (Instr.box 46 a0) w fun v1 w1 =>
  PRun Try.prog (Instr.makeFunc (Fn.func 45) #[] #[v1]) fun v3 =>
  K v3 w1
def H25 : Hints := { n := 4, reg := [(0, ⟨[.e, .p], [0, 0]⟩), (1, ⟨[.p, .p], [0, 1]⟩)], loop := [], join := [] }
noncomputable def C25 : Code := Try.f25.body.getD .skip
theorem E25 (a0 : Value) (K : Value → World → Prop) (w : World) : F25 a0 K w = lift Try.prog H25 C25 (envOf [a0] 0) w (fun E w => resV Try.prog H25.n E Try.f25.results.toList w fun vs => K (retV vs) w) [] (fun E w => resV Try.prog H25.n E Try.f25.results.toList w fun vs => K (retV vs) w) := by kernel_rfl
theorem R25 : regOk H25 C25 = true := by kernel_rfl
theorem B25 : Try.f25.body = some C25 := by kernel_rfl
theorem F25_ok (a0 : Value) (K : Value → World → Prop) (w : World) (h : F25 a0 K w) : Calls Try.prog 25 #[a0] w (retK K) :=
  lift_call mixed Try.func25 B25 Try.ntmps25 R25 (Nat.le_of_ble_eq_true rfl) (Eq.mp (E25 a0 K w) h)
/-- (*lattice/slots.Slots).All$1 -/
def F26 (a0 : Value) (a1 : Value) (K : Value → World → Prop) (w : World) : Prop :=
  Run Try.prog (Instr.box 36 a0) w fun v2 w1 =>
  Run Try.prog (Instr.box 36 a1) w1 fun v3 w2 =>
  PRun Try.prog (Instr.fieldAt 36 v2 0) fun v5 =>
  PRun Try.prog (Instr.sliceAt 25 v5 none none none) fun v6 =>
  PRun Try.prog (Instr.fieldAt 36 v3 0) fun v7 =>
  PRun Try.prog (Instr.sliceAt 25 v7 none none none) fun v8 =>
  CallF Try.prog 27 #[v6, v8] w2.drew fun v9 w3 =>
  K v9 w3
def H26 : Hints := { n := 10, reg := [(0, ⟨[.e, .e, .p], [0, 0, 0]⟩), (1, ⟨[.p, .p, .p, .p, .e, .p], [0, 1, 0, 4, 15, 31]⟩)], loop := [], join := [] }
noncomputable def C26 : Code := Try.f26.body.getD .skip
theorem E26 (a0 : Value) (a1 : Value) (K : Value → World → Prop) (w : World) : F26 a0 a1 K w = lift Try.prog H26 C26 (envOf [a0, a1] 0) w (fun E w => resV Try.prog H26.n E Try.f26.results.toList w fun vs => K (retV vs) w) [] (fun E w => resV Try.prog H26.n E Try.f26.results.toList w fun vs => K (retV vs) w) := by kernel_rfl
theorem R26 : regOk H26 C26 = true := by kernel_rfl
theorem B26 : Try.f26.body = some C26 := by kernel_rfl
theorem F26_ok (a0 : Value) (a1 : Value) (K : Value → World → Prop) (w : World) (h : F26 a0 a1 K w) : Calls Try.prog 26 #[a0, a1] w (retK K) :=
  lift_call mixed Try.func26 B26 Try.ntmps26 R26 (Nat.le_of_ble_eq_true rfl) (Eq.mp (E26 a0 a1 K w) h)
/-- bytes.Compare -/
def F27 (a0 : Value) (a1 : Value) (K : Value → World → Prop) (w : World) : Prop :=
  CallF Try.prog 46 #[a0, a1] w fun v7 w1 =>
  K v7 w1
def H27 : Hints := { n := 8, reg := [(0, ⟨[.p], [0]⟩), (1, ⟨[.p, .p, .e, .p], [0, 0, 3, 7]⟩)], loop := [], join := [] }
noncomputable def C27 : Code := Try.f27.body.getD .skip
theorem E27 (a0 : Value) (a1 : Value) (K : Value → World → Prop) (w : World) : F27 a0 a1 K w = lift Try.prog H27 C27 (envOf [a0, a1] 0) w (fun E w => resV Try.prog H27.n E Try.f27.results.toList w fun vs => K (retV vs) w) [] (fun E w => resV Try.prog H27.n E Try.f27.results.toList w fun vs => K (retV vs) w) := by kernel_rfl
theorem R27 : regOk H27 C27 = true := by kernel_rfl
theorem B27 : Try.f27.body = some C27 := by kernel_rfl
theorem F27_ok (a0 : Value) (a1 : Value) (K : Value → World → Prop) (w : World) (h : F27 a0 a1 K w) : Calls Try.prog 27 #[a0, a1] w (retK K) :=
  lift_call mixed Try.func27 B27 Try.ntmps27 R27 (Nat.le_of_ble_eq_true rfl) (Eq.mp (E27 a0 a1 K w) h)
/-- slices.Collect[lattice/slots.Slot] -/
def F43 (a0 : Value) (K : Value → World → Prop) (w : World) : Prop :=
  CallF Try.prog 65 #[(Value.slice none 0 0), a0] w fun v4 w1 =>
  K v4 w1
def H43 : Hints := { n := 5, reg := [(0, ⟨[.p], [0]⟩), (1, ⟨[.p, .e, .p], [0, 1, 3]⟩)], loop := [], join := [] }
noncomputable def C43 : Code := Try.f43.body.getD .skip
theorem E43 (a0 : Value) (K : Value → World → Prop) (w : World) : F43 a0 K w = lift Try.prog H43 C43 (envOf [a0] 0) w (fun E w => resV Try.prog H43.n E Try.f43.results.toList w fun vs => K (retV vs) w) [] (fun E w => resV Try.prog H43.n E Try.f43.results.toList w fun vs => K (retV vs) w) := by kernel_rfl
theorem R43 : regOk H43 C43 = true := by kernel_rfl
theorem B43 : Try.f43.body = some C43 := by kernel_rfl
theorem F43_ok (a0 : Value) (K : Value → World → Prop) (w : World) (h : F43 a0 K w) : Calls Try.prog 43 #[a0] w (retK K) :=
  lift_call mixed Try.func43 B43 Try.ntmps43 R43 (Nat.le_of_ble_eq_true rfl) (Eq.mp (E43 a0 K w) h)
/-- slices.SortFunc[[]lattice/slots.Slot,lattice/slots.Slot] -/
def F44 (a0 : Value) (a1 : Value) (K : Value → World → Prop) (w : World) : Prop :=
  PRun Try.prog (Builtin.len_ #[33] 3 #[a0]) fun v6 =>
  PRun Try.prog (convert 3 69 v6) fun v10 =>
  CallF Try.prog 67 #[v10] w fun v11 w1 =>
  CallF Try.prog 66 #[a0, (Value.int .i64 0), v6, v11, a1] w1 fun v13 w2 =>
  K (Value.tuple #[]) w2
def H44 : Hints := { n := 14, reg := [(0, ⟨[.p, .p, .p], [0, 1, 3]⟩), (1, ⟨[.p, .p, .p, .p, .e, .p, .e], [0, 0, 0, 4, 12, 0, 63]⟩)], loop := [], join := [] }
noncomputable def C44 : Code := Try.f44.body.getD .skip
theorem E44 (a0 : Value) (a1 : Value) (K : Value → World → Prop) (w : World) : F44 a0 a1 K w = lift Try.prog H44 C44 (envOf [a0, a1] 0) w (fun E w => resV Try.prog H44.n E Try.f44.results.toList w fun vs => K (retV vs) w) [] (fun E w => resV Try.prog H44.n E Try.f44.results.toList w fun vs => K (retV vs) w) := by kernel_rfl
theorem R44 : regOk H44 C44 = true := by kernel_rfl
theorem B44 : Try.f44.body = some C44 := by kernel_rfl
theorem F44_ok (a0 : Value) (a1 : Value) (K : Value → World → Prop) (w : World) (h : F44 a0 a1 K w) : Calls Try.prog 44 #[a0, a1] w (retK K) :=
  lift_call mixed Try.func44 B44 Try.ntmps44 R44 (Nat.le_of_ble_eq_true rfl) (Eq.mp (E44 a0 a1 K w) h)
def F45x1 (v6 : Value) (w3 : World) (a0 : Value) (K : Value → World → Prop) (k1 : World → Prop) : Prop :=
  QRun Try.prog (Instr.entry v6) w3 fun v9 =>
  PRun Try.prog (Instr.extract v9 1) fun v10 =>
  Run Try.prog (Instr.alloc 36 true (.tuple #[])) w3 fun v4 w4 =>
  Run Try.prog (Instr.storeAt 36 v4 v10) w4 fun _ w5 =>
  QRun Try.prog (Instr.loadAt 36 v4) w5 fun v12 =>
  CallV Try.prog a0 #[v12] w5 fun v13 w6 =>
  PRun Try.prog (Op.unary .not v13) fun v14 =>
  Branch v14 (
    K (Value.tuple #[]) w6
  ) (
    k1 w6
  )
/-- maps.Values[map[lattice/api.Id]lattice/slots.Slot,lattice/api.Id,lattice/slots.Slot]$1 -/
def F45 (a0 : Value) (a1 : Value) (K : Value → World → Prop) (w : World) : Prop :=
  QRun Try.prog (Instr.loadAt 46 a1) w fun v5 =>
  Run Try.prog (Instr.range 46 v5) w fun v6 w1 =>
  LoopF 0 [] w1 fun w2 k1 => ∀ _ : Env,
  Run Try.prog (Instr.next v6 false 0) w2 fun v7 w3 =>
  PRun Try.prog (Instr.extract v7 0) fun v8 =>
  Branch v8 (
    F45x1 v6 w3 a0 K k1
  ) (
    K (Value.tuple #[]) w3
  )
def H45 : Hints := { n := 15, reg := [(0, ⟨[.q, .e], [0, 1]⟩), (1, ⟨[.e, .p], [0, 1]⟩), (2, ⟨[.q, .p, .e, .e], [0, 1, 0, 7]⟩), (3, ⟨[.p, .q, .e, .p], [0, 0, 3, 7]⟩)], loop := [(1, [])], join := [] }
noncomputable def C45 : Code := Try.f45.body.getD .skip
theorem E45 (a0 : Value) (a1 : Value) (K : Value → World → Prop) (w : World) : F45 a0 a1 K w = lift Try.prog H45 C45 (envOf [a0, a1] 0) w (fun E w => resV Try.prog H45.n E Try.f45.results.toList w fun vs => K (retV vs) w) [] (fun E w => resV Try.prog H45.n E Try.f45.results.toList w fun vs => K (retV vs) w) := by kernel_rfl
theorem R45 : regOk H45 C45 = true := by kernel_rfl
theorem B45 : Try.f45.body = some C45 := by kernel_rfl
theorem F45_ok (a0 : Value) (a1 : Value) (K : Value → World → Prop) (w : World) (h : F45 a0 a1 K w) : Calls Try.prog 45 #[a0, a1] w (retK K) :=
  lift_call mixed Try.func45 B45 Try.ntmps45 R45 (Nat.le_of_ble_eq_true rfl) (Eq.mp (E45 a0 a1 K w) h)
def F66x1 (a0 : Value) (v1 : Value) (v2 : Value) (v13_3 : Value) (a4 : Value) (w11 : World) (v23 : Value) (v3_3 : Value) (k1 : Value → Value → Value → Value → Value → World → Prop) : Prop :=
  CallF Try.prog 85 #[a0, v1, v2, v13_3, a4] w11 fun v111 w13 =>
  PRun Try.prog (Instr.extract v111 0) fun v112 =>
  PRun Try.prog (Instr.extract v111 1) fun v113 =>
  PRun Try.prog (binOp .sub 3 v112 v1) fun v117 =>
  PRun Try.prog (binOp .sub 3 v2 v112) fun v120 =>
  PRun Try.prog (binOp .quo 3 v23 (Value.int .i64 8)) fun v122 =>
  PRun Try.prog (binOp .lss 3 v117 v120) fun v125 =>
  Branch v125 (
    PRun Try.prog (binOp .geq 3 v117 v122) fun v128 =>
    CallF Try.prog 66 #[a0, v1, v112, v3_3, a4] w13 fun v134 w14 =>
    PRun Try.prog (binOp .add 3 v112 (Value.int .i64 1)) fun v136 =>
    k1 v136 v2 v3_3 v128 v113 w14
  ) (
    PRun Try.prog (binOp .geq 3 v120 v122) fun v139 =>
    PRun Try.prog (binOp .add 3 v112 (Value.int .i64 1)) fun v142 =>
    CallF Try.prog 66 #[a0, v142, v2, v3_3, a4] w13 fun v146 w15 =>
    k1 v1 v112 v3_3 v139 v113 w15
  )
def F66x2 (v10_2 : Value) (v11_2 : Value) (v14_3 : Value) (a0 : Value) (v1 : Value) (v2 : Value) (a4 : Value) (w8 : World) (K : Value → World → Prop) (k4 : World → Prop) : Prop :=
  Gd v10_2 true (fun k => k v11_2) fun v70 =>
  Pick v10_2 v70 (Value.bool false) fun v71 =>
  Gd v71 true (fun k => k v14_3) fun v73 =>
  Gd v71 true (fun k => PRun Try.prog (eqS .eql 119 (.tmp 73) (.const (Value.int .i64 1)) v73 (Value.int .i64 1)) k) fun v74 =>
  Pick v71 v74 (Value.bool false) fun v75 =>
  Branch v75 (
    CallF Try.prog 83 #[a0, v1, v2, a4] w8 fun v80 w9 =>
    Branch v80 (
      K (Value.tuple #[]) w9
    ) (
      k4 w9
    )
  ) (
    k4 w8
  )
def F66x3 (v1 : Value) (a4 : Value) (a0 : Value) (w10 : World) (v13_3 : Value) (v2 : Value) (k1 : Value → Value → Value → Value → Value → World → Prop) (v3_3 : Value) (v10_2 : Value) (v11_2 : Value) (v23 : Value) : Prop :=
  PRun Try.prog (binOp .gtr 3 v1 (Value.int .i64 0)) fun v82 =>
  Gd v82 true (fun k => k a4) fun v84 =>
  Gd v82 true (fun k => k a0) fun v85 =>
  Gd v82 true (fun k => k v1) fun v86 =>
  Gd v82 true (fun k => PRun Try.prog (binOp .sub 3 v86 (Value.int .i64 1)) k) fun v87 =>
  Gd v82 true (fun k => PRun Try.prog (Instr.indexAt 33 v85 v87) k) fun v88 =>
  Gd v82 true (fun k => QRun Try.prog (Instr.loadAt 36 v88) w10.drew k) fun v89 =>
  Gd v82 true (fun k => k a0) fun v90 =>
  Gd v82 true (fun k => k v13_3) fun v91 =>
  Gd v82 true (fun k => PRun Try.prog (Instr.indexAt 33 v90 v91) k) fun v92 =>
  Gd v82 true (fun k => QRun Try.prog (Instr.loadAt 36 v92) w10.drew k) fun v93 =>
  GdE v82 true (fun k => CallV Try.prog v84 #[v89, v93] w10.drew k) w10.drew fun v94 w11 =>
  Gd v82 true (fun k => PRun Try.prog (binOp .lss 3 v94 (Value.int .i64 0)) k) fun v95 =>
  Gd v82 true (fun k => PRun Try.prog (Op.unary .not v95) k) fun v96 =>
  Pick v82 v96 (Value.bool false) fun v97 =>
  Branch v97 (
    CallF Try.prog 84 #[a0, v1, v2, v13_3, a4] w11 fun v103 w12 =>
    k1 v103 v2 v3_3 v10_2 v11_2 w12
  ) (
    F66x1 a0 v1 v2 v13_3 a4 w11 v23 v3_3 k1
  )
def F66x4 (a0 : Value) (v1 : Value) (v2 : Value) (a4 : Value) (w5 : World) (v10_2 : Value) (v11_2 : Value) (K : Value → World → Prop) (k1 : Value → Value → Value → Value → Value → World → Prop) (v3_3 : Value) (v23 : Value) : Prop :=
  CallF Try.prog 81 #[a0, v1, v2, a4] w5 fun v52 w6 =>
  PRun Try.prog (Instr.extract v52 0) fun v53 =>
  PRun Try.prog (Instr.extract v52 1) fun v54 =>
  LetJ 2 (fun k3 =>
    PRun Try.prog (eqS .eql 119 (.tmp 55) (.const (Value.int .i64 2)) v54 (Value.int .i64 2)) fun v56 =>
    Branch v56 (
      CallF Try.prog 82 #[a0, v1, v2, a4] w6 fun v61 w7 =>
      PRun Try.prog (binOp .sub 3 v2 (Value.int .i64 1)) fun v63 =>
      PRun Try.prog (binOp .sub 3 v53 v1) fun v66 =>
      PRun Try.prog (binOp .sub 3 v63 v66) fun v67 =>
      k3 v67 (Value.int .i64 1) w7
    ) (
      k3 v53 v54 w6
    )
  ) fun v13_3 v14_3 w8 => ∀ _ : Env,
  LetJ 0 (fun k4 =>
    F66x2 v10_2 v11_2 v14_3 a0 v1 v2 a4 w8 K k4
  ) fun w10 => ∀ _ : Env,
  F66x3 v1 a4 a0 w10 v13_3 v2 k1 v3_3 v10_2 v11_2 v23
def F66x5 (v3 : Value) (a0 : Value) (v1 : Value) (v2 : Value) (a4 : Value) (w1 : World) (K : Value → World → Prop) (v10_2 : Value) (v11_2 : Value) (k1 : Value → Value → Value → Value → Value → World → Prop) (v23 : Value) : Prop :=
  PRun Try.prog (eqS .eql 3 (.tmp 31) (.const (Value.int .i64 0)) v3 (Value.int .i64 0)) fun v32 =>
  Branch v32 (
    CallF Try.prog 79 #[a0, v1, v2, a4] w1 fun v37 w3 =>
    K (Value.tuple #[]) w3
  ) (
    LetJ 1 (fun k2 =>
      PRun Try.prog (Op.unary .not v10_2) fun v39 =>
      Branch v39 (
        CallF Try.prog 80 #[a0, v1, v2, a4] w1 fun v44 w4 =>
        PRun Try.prog (binOp .sub 3 v3 (Value.int .i64 1)) fun v46 =>
        k2 v46 w4
      ) (
        k2 v3 w1
      )
    ) fun v3_3 w5 => ∀ _ : Env,
    F66x4 a0 v1 v2 a4 w5 v10_2 v11_2 K k1 v3_3 v23
  )
/-- slices.pdqsortCmpFunc[lattice/slots.Slot] -/
def F66 (a0 : Value) (a1 : Value) (a2 : Value) (a3 : Value) (a4 : Value) (K : Value → World → Prop) (w : World) : Prop :=
  LoopF 5 [a1, a2, a3, (Value.bool true), (Value.bool true)] w fun v1 v2 v3 v10_2 v11_2 w1 k1 => ∀ _ : Env,
  PRun Try.prog (binOp .sub 3 v2 v1) fun v23 =>
  PRun Try.prog (binOp .leq 3 v23 (Value.int .i64 12)) fun v25 =>
  Branch v25 (
    CallF Try.prog 78 #[a0, v1, v2, a4] w1 fun v30 w2 =>
    K (Value.tuple #[]) w2
  ) (
    F66x5 v3 a0 v1 v2 a4 w1 K v10_2 v11_2 k1 v23
  )
def H66 : Hints := { n := 148, reg := [(0, ⟨[.p], [0]⟩), (1, ⟨[.p], [0]⟩), (2, ⟨[.p, .p, .p, .p], [0, 0, 3, 7]⟩), (3, ⟨[.p, .p], [0, 1]⟩), (4, ⟨[.p, .p, .p, .p, .e], [0, 0, 0, 0, 15]⟩), (5, ⟨[.p, .p], [0, 1]⟩), (6, ⟨[.p, .p, .p, .p, .e], [0, 0, 0, 0, 15]⟩), (7, ⟨[.p, .p], [0, 1]⟩), (8, ⟨[.p, .p, .p, .p, .e], [0, 0, 0, 0, 15]⟩), (9, ⟨[.p, .p, .p], [0, 1, 3]⟩), (10, ⟨[.p, .p, .p, .p, .e, .p, .p, .p, .p, .p], [0, 0, 0, 0, 15, 31, 63, 63, 127, 511]⟩), (11, ⟨[.p, .p], [0, 1]⟩), (12, ⟨[.p, .p, .p, .p, .e], [0, 0, 0, 0, 15]⟩), (13, ⟨[.p, .p, .p, .p, .p, .p, .p], [0, 1, 0, 0, 12, 31, 63]⟩), (14, ⟨[.p], [0]⟩), (15, ⟨[.p, .p, .p, .p, .p, .p, .p, .p], [0, 1, 3, 7, 15, 31, 63, 127]⟩), (16, ⟨[.p, .p, .p, .p, .e], [0, 0, 0, 0, 15]⟩), (17, ⟨[.p, .p, .p, .p, .p, .p, .p, .p, .q, .p, .p, .p, .q, .e, .p, .p, .p], [0, 1, 3, 7, 7, 7, 39, 119, 247, 7, 7, 1543, 3591, 8191, 16383, 32767, 65535]⟩), (18, ⟨[.p, .p, .p, .p, .p, .e, .p], [0, 0, 0, 0, 0, 31, 63]⟩), (19, ⟨[.p, .p], [0, 1]⟩), (20, ⟨[.p, .p, .p, .p, .p, .e, .p, .p, .p, .p, .p], [0, 0, 0, 0, 0, 31, 63, 127, 127, 255, 1023]⟩), (21, ⟨[.p, .p], [0, 1]⟩), (22, ⟨[.p, .p, .p, .p, .p, .p, .p, .p], [0, 0, 3, 0, 0, 24, 7, 127]⟩), (23, ⟨[.p, .p, .p], [0, 1, 3]⟩), (24, ⟨[.p, .p, .p], [0, 0, 3]⟩), (25, ⟨[.p, .p, .p, .p], [0, 0, 3, 7]⟩), (26, ⟨[.p, .p, .p, .p, .p, .e], [0, 0, 0, 0, 0, 31]⟩), (27, ⟨[.p, .p, .p], [0, 1, 3]⟩), (28, ⟨[.p, .p, .p, .p], [0, 0, 3, 7]⟩), (29, ⟨[.p, .p, .p, .p, .p, .p, .e], [0, 0, 2, 0, 0, 0, 63]⟩), (30, ⟨[.p, .p], [0, 1]⟩)], loop := [(2, [1, 2, 3, 10, 11])], join := [(80, [3]), (114, [13, 14]), (152, [])] }
noncomputable def C66 : Code := Try.f66.body.getD .skip
theorem E66 (a0 : Value) (a1 : Value) (a2 : Value) (a3 : Value) (a4 : Value) (K : Value → World → Prop) (w : World) : F66 a0 a1 a2 a3 a4 K w = lift Try.prog H66 C66 (envOf [a0, a1, a2, a3, a4] 0) w (fun E w => resV Try.prog H66.n E Try.f66.results.toList w fun vs => K (retV vs) w) [] (fun E w => resV Try.prog H66.n E Try.f66.results.toList w fun vs => K (retV vs) w) := by kernel_rfl
theorem R66 : regOk H66 C66 = true := by kernel_rfl
theorem B66 : Try.f66.body = some C66 := by kernel_rfl
theorem F66_ok (a0 : Value) (a1 : Value) (a2 : Value) (a3 : Value) (a4 : Value) (K : Value → World → Prop) (w : World) (h : F66 a0 a1 a2 a3 a4 K w) : Calls Try.prog 66 #[a0, a1, a2, a3, a4] w (retK K) :=
  lift_call mixed Try.func66 B66 Try.ntmps66 R66 (Nat.le_of_ble_eq_true rfl) (Eq.mp (E66 a0 a1 a2 a3 a4 K w) h)
/-- math/bits.Len -/
def F67 (a0 : Value) (K : Value → World → Prop) (w : World) : Prop :=
  Branch (Value.bool false) (
    PRun Try.prog (convert 69 104 a0) fun v4 =>
    CallF Try.prog 86 #[v4] w fun v5 w1 =>
    K v5 w1
  ) (
    CallF Try.prog 87 #[a0] w fun v7 w2 =>
    K v7 w2
  )
def H67 : Hints := { n := 8, reg := [(0, ⟨[.p], [0]⟩), (1, ⟨[.p, .p, .e, .p], [0, 1, 3, 7]⟩), (2, ⟨[.p, .e, .p], [0, 1, 3]⟩)], loop := [], join := [] }
noncomputable def C67 : Code := Try.f67.body.getD .skip
theorem E67 (a0 : Value) (K : Value → World → Prop) (w : World) : F67 a0 K w = lift Try.prog H67 C67 (envOf [a0] 0) w (fun E w => resV Try.prog H67.n E Try.f67.results.toList w fun vs => K (retV vs) w) [] (fun E w => resV Try.prog H67.n E Try.f67.results.toList w fun vs => K (retV vs) w) := by kernel_rfl
theorem R67 : regOk H67 C67 = true := by kernel_rfl
theorem B67 : Try.f67.body = some C67 := by kernel_rfl
theorem F67_ok (a0 : Value) (K : Value → World → Prop) (w : World) (h : F67 a0 K w) : Calls Try.prog 67 #[a0] w (retK K) :=
  lift_call mixed Try.func67 B67 Try.ntmps67 R67 (Nat.le_of_ble_eq_true rfl) (Eq.mp (E67 a0 K w) h)
noncomputable def big87 : ByteArray := (bigOf (Try.f87.body.getD .skip)).getD .empty
def F87x1 (v0_4 : Value) (v2_5 : Value) (w2 : World) (K : Value → World → Prop) : Prop :=
  LetJ 2 (fun k3 =>
    PRun Try.prog (binOp .geq 103 v0_4 (Value.int .u64 256)) fun v14 =>
    Branch v14 (
      PRun Try.prog (binOp .shr 103 v0_4 (Value.int .u64 8)) fun v16 =>
      PRun Try.prog (binOp .add 3 v2_5 (Value.int .i64 8)) fun v18 =>
      k3 v16 v18 w2
    ) (
      k3 v0_4 v2_5 w2
    )
  ) fun v0_6 v2_7 w3 => ∀ _ : Env,
  PRun Try.prog (convert 103 5 v0_6) fun v21 =>
  PRun Try.prog (Instr.index 9 (Value.string big87) v21) fun v22 =>
  PRun Try.prog (convert 5 3 v22) fun v23 =>
  PRun Try.prog (binOp .add 3 v2_7 v23) fun v24 =>
  K v24 w3
/-- math/bits.Len64 -/
def F87 (a0 : Value) (K : Value → World → Prop) (w : World) : Prop :=
  LetJ 2 (fun k1 =>
    PRun Try.prog (binOp .geq 103 a0 (Value.int .u64 4294967296)) fun v4 =>
    Branch v4 (
      PRun Try.prog (binOp .shr 103 a0 (Value.int .u64 32)) fun v6 =>
      k1 v6 (Value.int .i64 32) w
    ) (
      k1 a0 (Value.int .i64 0) w
    )
  ) fun v0_2 v2_3 w1 => ∀ _ : Env,
  LetJ 2 (fun k2 =>
    PRun Try.prog (binOp .geq 103 v0_2 (Value.int .u64 65536)) fun v8 =>
    Branch v8 (
      PRun Try.prog (binOp .shr 103 v0_2 (Value.int .u64 16)) fun v10 =>
      PRun Try.prog (binOp .add 3 v2_3 (Value.int .i64 16)) fun v12 =>
      k2 v10 v12 w1
    ) (
      k2 v0_2 v2_3 w1
    )
  ) fun v0_4 v2_5 w2 => ∀ _ : Env,
  F87x1 v0_4 v2_5 w2 K
def H87 : Hints := { n := 25, reg := [(0, ⟨[.p], [0]⟩), (1, ⟨[.p, .p], [0, 1]⟩), (2, ⟨[.p, .p, .p], [0, 1, 3]⟩), (3, ⟨[.p], [0]⟩), (4, ⟨[.p, .p], [0, 1]⟩), (5, ⟨[.p, .p, .p], [0, 1, 3]⟩), (6, ⟨[.p, .p, .p], [0, 1, 3]⟩), (7, ⟨[.p, .p], [0, 1]⟩), (8, ⟨[.p, .p, .p], [0, 1, 3]⟩), (9, ⟨[.p, .p, .p], [0, 1, 3]⟩), (10, ⟨[.p, .p, .p, .p, .p, .p, .p], [0, 0, 2, 6, 14, 31, 63]⟩)], loop := [], join := [(10, [0, 2]), (18, [0, 2]), (30, [0, 2])] }
noncomputable def C87 : Code := Try.f87.body.getD .skip
theorem E87 (a0 : Value) (K : Value → World → Prop) (w : World) : F87 a0 K w = lift Try.prog H87 C87 (envOf [a0] 0) w (fun E w => resV Try.prog H87.n E Try.f87.results.toList w fun vs => K (retV vs) w) [] (fun E w => resV Try.prog H87.n E Try.f87.results.toList w fun vs => K (retV vs) w) := by kernel_rfl
theorem R87 : regOk H87 C87 = true := by kernel_rfl
theorem B87 : Try.f87.body = some C87 := by kernel_rfl
theorem F87_ok (a0 : Value) (K : Value → World → Prop) (w : World) (h : F87 a0 K w) : Calls Try.prog 87 #[a0] w (retK K) :=
  lift_call mixed Try.func87 B87 Try.ntmps87 R87 (Nat.le_of_ble_eq_true rfl) (Eq.mp (E87 a0 K w) h)
def F78x1 (v9_2 : Value) (a0 : Value) (w3 : World) (k2 : Value → World → Prop) : Prop :=
  PRun Try.prog (binOp .sub 3 v9_2 (Value.int .i64 1)) fun v41 =>
  PRun Try.prog (binOp .sub 3 v9_2 (Value.int .i64 1)) fun v44 =>
  PRun Try.prog (Instr.indexAt 33 a0 v44) fun v45 =>
  QRun Try.prog (Instr.loadAt 36 v45) w3.drew fun v46 =>
  PRun Try.prog (Instr.indexAt 33 a0 v9_2) fun v49 =>
  QRun Try.prog (Instr.loadAt 36 v49) w3.drew fun v50 =>
  PRun Try.prog (Instr.indexAt 33 a0 v9_2) fun v51 =>
  Run Try.prog (Instr.storeAt 36 v51 v46) w3.drew fun _ w4 =>
  PRun Try.prog (Instr.indexAt 33 a0 v41) fun v52 =>
  Run Try.prog (Instr.storeAt 36 v52 v50) w4 fun _ w5 =>
  PRun Try.prog (binOp .sub 3 v9_2 (Value.int .i64 1)) fun v36 =>
  k2 v36 w5
def F78x2 (v9_2 : Value) (a1 : Value) (a3 : Value) (a0 : Value) (w2 : World) (k2 : Value → World → Prop) (v8_2 : Value) (k1 : Value → World → Prop) : Prop :=
  PRun Try.prog (binOp .gtr 3 v9_2 a1) fun v20 =>
  Gd v20 true (fun k => k a3) fun v22 =>
  Gd v20 true (fun k => k a0) fun v23 =>
  Gd v20 true (fun k => k v9_2) fun v24 =>
  Gd v20 true (fun k => PRun Try.prog (Instr.indexAt 33 v23 v24) k) fun v25 =>
  Gd v20 true (fun k => QRun Try.prog (Instr.loadAt 36 v25) w2.drew k) fun v26 =>
  Gd v20 true (fun k => k a0) fun v27 =>
  Gd v20 true (fun k => k v9_2) fun v28 =>
  Gd v20 true (fun k => PRun Try.prog (binOp .sub 3 v28 (Value.int .i64 1)) k) fun v29 =>
  Gd v20 true (fun k => PRun Try.prog (Instr.indexAt 33 v27 v29) k) fun v30 =>
  Gd v20 true (fun k => QRun Try.prog (Instr.loadAt 36 v30) w2.drew k) fun v31 =>
  GdE v20 true (fun k => CallV Try.prog v22 #[v26, v31] w2.drew k) w2.drew fun v32 w3 =>
  Gd v20 true (fun k => PRun Try.prog (binOp .lss 3 v32 (Value.int .i64 0)) k) fun v33 =>
  Pick v20 v33 (Value.bool false) fun v34 =>
  Branch v34 (
    F78x1 v9_2 a0 w3 k2
  ) (
    PRun Try.prog (binOp .add 3 v8_2 (Value.int .i64 1)) fun v16 =>
    k1 v16 w3
  )
/-- slices.insertionSortCmpFunc[lattice/slots.Slot] -/
def F78 (a0 : Value) (a1 : Value) (a2 : Value) (a3 : Value) (K : Value → World → Prop) (w : World) : Prop :=
  PRun Try.prog (binOp .add 3 a1 (Value.int .i64 1)) fun v11 =>
  LoopF 1 [v11] w fun v8_2 w1 k1 => ∀ _ : Env,
  PRun Try.prog (binOp .lss 3 v8_2 a2) fun v14 =>
  Branch v14 (
    LoopF 1 [v8_2] w1 fun v9_2 w2 k2 => ∀ _ : Env,
    F78x2 v9_2 a1 a3 a0 w2 k2 v8_2 k1
  ) (
    K (Value.tuple #[]) w1
  )
def H78 : Hints := { n := 53, reg := [(0, ⟨[.p, .p, .p], [0, 1, 3]⟩), (1, ⟨[.p, .p, .p], [0, 0, 3]⟩), (3, ⟨[.p, .p], [0, 1]⟩), (4, ⟨[.p, .p, .p, .p, .p, .p, .p, .p, .q, .p, .p, .p, .p, .q, .e, .p, .p], [0, 0, 3, 7, 15, 15, 15, 111, 239, 15, 15, 1039, 3599, 7695, 16383, 32767, 65535]⟩), (6, ⟨[.p, .p, .p, .p, .p, .p, .p, .p, .p, .q, .p, .p, .p, .q, .p, .e, .p, .e], [0, 0, 0, 0, 8, 0, 0, 64, 224, 480, 0, 0, 3072, 7168, 16355, 32739, 65535, 131071]⟩), (5, ⟨[.p, .p, .p], [0, 1, 3]⟩), (2, ⟨[.p, .p, .p], [0, 1, 3]⟩)], loop := [(1, [8]), (4, [9])], join := [] }
noncomputable def C78 : Code := Try.f78.body.getD .skip
theorem E78 (a0 : Value) (a1 : Value) (a2 : Value) (a3 : Value) (K : Value → World → Prop) (w : World) : F78 a0 a1 a2 a3 K w = lift Try.prog H78 C78 (envOf [a0, a1, a2, a3] 0) w (fun E w => resV Try.prog H78.n E Try.f78.results.toList w fun vs => K (retV vs) w) [] (fun E w => resV Try.prog H78.n E Try.f78.results.toList w fun vs => K (retV vs) w) := by kernel_rfl
theorem R78 : regOk H78 C78 = true := by kernel_rfl
theorem B78 : Try.f78.body = some C78 := by kernel_rfl
theorem F78_ok (a0 : Value) (a1 : Value) (a2 : Value) (a3 : Value) (K : Value → World → Prop) (w : World) (h : F78 a0 a1 a2 a3 K w) : Calls Try.prog 78 #[a0, a1, a2, a3] w (retK K) :=
  lift_call mixed Try.func78 B78 Try.ntmps78 R78 (Nat.le_of_ble_eq_true rfl) (Eq.mp (E78 a0 a1 a2 a3 K w) h)
def F9x1 (v67 : Value) (a0 : Value) (w14 : World) (K : Value → World → Prop) (k1 : World → Prop) : Prop :=
  PRun Try.prog (Op.unary .not v67) fun v94 =>
  Gd v94 true (fun k => k a0) fun v96 =>
  Gd v94 true (fun k => NilCk v96 k) fun v97 =>
  Gd v94 true (fun k => PRun Try.prog (Instr.fieldAt 48 v97 1) k) fun v98 =>
  Gd v94 true (fun k => QRun Try.prog (Instr.loadAt 46 v98) w14.drew k) fun v99 =>
  Gd v94 true (fun k => QRun Try.prog (Builtin.len_ #[46] 3 #[v99]) w14.drew k) fun v100 =>
  Gd v94 true (fun k => k a0) fun v101 =>
  Gd v94 true (fun k => NilCk v101 k) fun v102 =>
  Gd v94 true (fun k => PRun Try.prog (Instr.fieldAt 48 v102 0) k) fun v103 =>
  Gd v94 true (fun k => QRun Try.prog (Instr.loadAt 3 v103) w14.drew k) fun v104 =>
  Gd v94 true (fun k => PRun Try.prog (binOp .geq 3 v100 v104) k) fun v105 =>
  Pick v94 v105 (Value.bool false) fun v106 =>
  Branch v106 (
    K (Value.int .i64 16) w14.drew
  ) (
    k1 w14.drew
  )
def F9x2 (v67 : Value) (v15 : Value) (w14 : World) (v11 : Value) (a3 : Value) (v14 : Value) (k1 : World → Prop) (a0 : Value) (K : Value → World → Prop) : Prop :=
  Gd v67 true (fun k => PRun Try.prog (Instr.fieldAt 36 v15 1) k) fun v80 =>
  Gd v67 true (fun k => QRun Try.prog (Instr.loadAt 3 v80) w14 k) fun v81 =>
  Gd v67 true (fun k => PRun Try.prog (Instr.fieldAt 39 v11 1) k) fun v82 =>
  Gd v67 true (fun k => QRun Try.prog (Instr.loadAt 3 v82) w14 k) fun v83 =>
  Gd v67 true (fun k => PRun Try.prog (eqS .eql 3 (.tmp 81) (.tmp 83) v81 v83) k) fun v84 =>
  Pick v67 v84 (Value.bool false) fun v85 =>
  Branch v85 (
    PRun Try.prog (Instr.fieldAt 36 v15 4) fun v86 =>
    QRun Try.prog (Instr.loadAt 3 v86) w14 fun v87 =>
    PRun Try.prog (Builtin.max_ #[3, 3] 3 #[v87, a3]) fun v89 =>
    PRun Try.prog (Instr.fieldAt 36 v15 4) fun v90 =>
    Run Try.prog (Instr.storeAt 3 v90 v89) w14 fun _ w15 =>
    QRun Try.prog (Instr.loadAt 36 v15) w15 fun v91 =>
    Run Try.prog (Instr.storeAt 36 v14 v91) w15 fun _ w16 =>
    k1 w16
  ) (
    F9x1 v67 a0 w14 K k1
  )
def F9x3 (a0 : Value) (w12 : World) (v14 : Value) (v11 : Value) (K : Value → World → Prop) (a3 : Value) : Prop :=
  NilCk a0 fun v60 =>
  PRun Try.prog (Instr.fieldAt 48 v60 1) fun v61 =>
  QRun Try.prog (Instr.loadAt 46 v61) w12.drew fun v62 =>
  PRun Try.prog (Instr.fieldAt 36 v14 0) fun v63 =>
  QRun Try.prog (Instr.loadAt 25 v63) w12.drew fun v64 =>
  QRun Try.prog (Instr.lookup 46 v62 v64 true) w12.drew fun v65 =>
  PRun Try.prog (Instr.extract v65 0) fun v66 =>
  PRun Try.prog (Instr.extract v65 1) fun v67 =>
  Run Try.prog (Instr.alloc 36 true (.tuple #[])) w12.drew fun v15 w13 =>
  (QRun Try.prog (Instr.lookup 46 v62 v64 true) w13 fun u => u = v65) ∧
  (QRun Try.prog (Instr.loadAt 25 v63) w13 fun u => u = v64) ∧
  (QRun Try.prog (Instr.loadAt 46 v61) w13 fun u => u = v62) ∧
  Run Try.prog (Instr.storeAt 36 v15 v66) w13 fun _ w14 =>
  LetJ 0 (fun k1 =>
    Gd v67 true (fun k => PRun Try.prog (Instr.fieldAt 36 v15 1) k) fun v71 =>
    Gd v67 true (fun k => QRun Try.prog (Instr.loadAt 3 v71) w14 k) fun v72 =>
    Gd v67 true (fun k => PRun Try.prog (Instr.fieldAt 39 v11 1) k) fun v73 =>
    Gd v67 true (fun k => QRun Try.prog (Instr.loadAt 3 v73) w14 k) fun v74 =>
    Gd v67 true (fun k => PRun Try.prog (binOp .gtr 3 v72 v74) k) fun v75 =>
    Pick v67 v75 (Value.bool false) fun v76 =>
    Branch v76 (
      K (Value.int .i64 14) w14
    ) (
      F9x2 v67 v15 w14 v11 a3 v14 k1 a0 K
    )
  ) fun w17 => ∀ _ : Env,
  NilCk a0 fun v108 =>
  PRun Try.prog (Instr.fieldAt 48 v108 1) fun v109 =>
  QRun Try.prog (Instr.loadAt 46 v109) w17.drew fun v110 =>
  PRun Try.prog (Instr.fieldAt 36 v14 0) fun v111 =>
  QRun Try.prog (Instr.loadAt 25 v111) w17.drew fun v112 =>
  QRun Try.prog (Instr.loadAt 36 v14) w17.drew fun v113 =>
  Run Try.prog (Instr.mapUpdate 46 v110 v112 v113) w17.drew fun _ w18 =>
  K (Value.int .i64 0) w18
def F9x4 (v49 : Value) (w7 : World) (v51 : Value) (v52 : Value) (a1 : Value) (a2 : Value) (a3 : Value) (a0 : Value) (v11 : Value) (K : Value → World → Prop) (v48 : Value) : Prop :=
  (
    CallF Try.prog 22 #[v49] w7 fun v50 w8 =>
    (QRun Try.prog (Instr.loadAt 3 v51) w8 fun u => u = v52) ∧
    (
      CallF Try.prog 23 #[a1] w8 fun v54 w9 =>
      (QRun Try.prog (Instr.loadAt 3 v51) w9 fun u => u = v52) ∧
      PRun Try.prog (Instr.build 36 #[(0, v50), (1, v52), (2, v54), (3, a2), (4, a3)]) fun v57 =>
      Run Try.prog (Instr.alloc 36 true (.tuple #[])) w9 fun v14 w10 =>
      (QRun Try.prog (Instr.loadAt 3 v51) w10 fun u => u = v52) ∧
      Run Try.prog (Instr.storeAt 36 v14 v57) w10 fun _ w11 =>
      F9x3 a0 w11 v14 v11 K a3
    ) ∧
    (
      Run Try.prog (Instr.alloc 36 true (.tuple #[])) w8 fun v14_2 w19 =>
      (QRun Try.prog (Instr.loadAt 3 v51) w19 fun u => u = v52) ∧
      CallF Try.prog 23 #[a1] w19 fun v54_2 w20 =>
      (QRun Try.prog (Instr.loadAt 3 v51) w20 fun u => u = v52) ∧
      PRun Try.prog (Instr.build 36 #[(0, v50), (1, v52), (2, v54_2), (3, a2), (4, a3)]) fun v57_2 =>
      Run Try.prog (Instr.storeAt 36 v14_2 v57_2) w20 fun _ w21 =>
      F9x3 a0 w21 v14_2 v11 K a3
    )
  ) ∧
  (
    Run Try.prog (Instr.alloc 36 true (.tuple #[])) w7 fun v14_3 w29 =>
    (QRun Try.prog (Instr.loadAt 3 v51) w29 fun u => u = v52) ∧
    (QRun Try.prog (Instr.loadAt 30 v48) w29 fun u => u = v49) ∧
    CallF Try.prog 22 #[v49] w29 fun v50_2 w30 =>
    (QRun Try.prog (Instr.loadAt 3 v51) w30 fun u => u = v52) ∧
    CallF Try.prog 23 #[a1] w30 fun v54_3 w31 =>
    (QRun Try.prog (Instr.loadAt 3 v51) w31 fun u => u = v52) ∧
    PRun Try.prog (Instr.build 36 #[(0, v50_2), (1, v52), (2, v54_3), (3, a2), (4, a3)]) fun v57_3 =>
    Run Try.prog (Instr.storeAt 36 v14_3 v57_3) w31 fun _ w32 =>
    F9x3 a0 w32 v14_3 v11 K a3
  )
def F9x5 (v11 : Value) (w3 : World) (K : Value → World → Prop) (a0 : Value) (a4 : Value) (a1 : Value) (a2 : Value) (a3 : Value) : Prop :=
  PRun Try.prog (Instr.fieldAt 39 v11 0) fun v32 =>
  QRun Try.prog (Instr.loadAt 30 v32) w3.drew fun v33 =>
  PRun Try.prog (Instr.fieldAt 39 v11 1) fun v34 =>
  QRun Try.prog (Instr.loadAt 3 v34) w3.drew fun v35 =>
  PRun Try.prog (Instr.fieldAt 39 v11 2) fun v36 =>
  QRun Try.prog (Instr.loadAt 25 v36) w3.drew fun v37 =>
  PRun Try.prog (Instr.fieldAt 39 v11 3) fun v39 =>
  QRun Try.prog (Instr.loadAt 30 v39) w3.drew fun v40 =>
  CallF Try.prog 20 #[v35, v37] w3.drew fun v38 w4 =>
  (QRun Try.prog (Instr.loadAt 30 v39) w4 fun u => u = v40) ∧
  (QRun Try.prog (Instr.loadAt 30 v32) w4 fun u => u = v33) ∧
  CallF Try.prog 19 #[v33, v38, v40] w4 fun v41 w5 =>
  PRun Try.prog (eqS .neq 27 (.tmp 42) (.const (Value.int .i64 0)) v41 (Value.int .i64 0)) fun v43 =>
  Branch v43 (
    K v41 w5
  ) (
    CallF Try.prog 21 #[a0, a4] w5 fun v47 w6 =>
    PRun Try.prog (Instr.fieldAt 39 v11 0) fun v48 =>
    QRun Try.prog (Instr.loadAt 30 v48) w6.drew fun v49 =>
    PRun Try.prog (Instr.fieldAt 39 v11 1) fun v51 =>
    QRun Try.prog (Instr.loadAt 3 v51) w6.drew fun v52 =>
    F9x4 v49 w6.drew v51 v52 a1 a2 a3 a0 v11 K v48
  )
/-- (*lattice/slots.Slots).Set -/
def F9 (a0 : Value) (a1 : Value) (a2 : Value) (a3 : Value) (a4 : Value) (K : Value → World → Prop) (w : World) : Prop :=
  PRun Try.prog (binOp .lss 3 a2 (Value.int .i64 0)) fun v18 =>
  Gd v18 false (fun k => k a3) fun v20 =>
  Gd v18 false (fun k => k a4) fun v21 =>
  Gd v18 false (fun k => PRun Try.prog (binOp .leq 3 v20 v21) k) fun v22 =>
  Pick v18 (Value.bool true) v22 fun v23 =>
  Branch v23 (
    K (Value.int .i64 1) w
  ) (
    CallF Try.prog 18 #[a1] w fun v26 w1 =>
    PRun Try.prog (Instr.extract v26 0) fun v27 =>
    PRun Try.prog (Instr.extract v26 1) fun v28 =>
    Run Try.prog (Instr.alloc 39 true (.tuple #[])) w1 fun v11 w2 =>
    Run Try.prog (Instr.storeAt 39 v11 v27) w2 fun _ w3 =>
    PRun Try.prog (eqS .neq 27 (.tmp 29) (.const (Value.int .i64 0)) v28 (Value.int .i64 0)) fun v30 =>
    Branch v30 (
      K v28 w3
    ) (
      F9x5 v11 w3 K a0 a4 a1 a2 a3
    )
  )
def H9 : Hints := { n := 114, reg := [(0, ⟨[.p], [0]⟩), (1, ⟨[.p, .p, .p, .p, .p, .p, .p], [0, 1, 3, 7, 7, 31, 63]⟩), (2, ⟨[.p], [0]⟩), (3, ⟨[.p, .e, .p, .p, .p, .e, .e, .p], [0, 1, 3, 7, 7, 0, 47, 127]⟩), (4, ⟨[.p, .p], [0, 1]⟩), (5, ⟨[.p, .p], [0, 1]⟩), (6, ⟨[.p, .q, .p, .q, .p, .q, .e, .p, .q, .e, .p], [0, 1, 0, 4, 0, 16, 60, 0, 128, 511, 1023]⟩), (7, ⟨[.p, .p], [0, 1]⟩), (8, ⟨[.p, .p], [0, 1]⟩), (9, ⟨[.p, .p, .e], [0, 0, 3]⟩), (10, ⟨[.p, .q, .e, .p, .q, .p, .e, .p, .p, .p, .e, .e], [0, 1, 3, 0, 8, 0, 39, 0, 0, 511, 0, 2047]⟩), (11, ⟨[.p, .p, .p, .q, .p, .q, .q, .p, .p, .p, .e, .e, .p], [0, 1, 3, 7, 0, 16, 63, 127, 255, 255, 0, 1535, 4095]⟩), (12, ⟨[.p, .p, .p, .q, .p, .q, .p, .p, .p], [0, 1, 3, 7, 3, 19, 63, 127, 255]⟩), (13, ⟨[.p], [0]⟩), (14, ⟨[.p, .p, .p, .q, .p, .q, .p, .p, .p], [0, 1, 3, 7, 3, 19, 63, 127, 255]⟩), (15, ⟨[.p, .q, .p, .p, .p, .e], [0, 1, 0, 7, 15, 31]⟩), (16, ⟨[.q, .e], [0, 1]⟩), (17, ⟨[.p, .p, .p, .p, .p, .p, .q, .q, .p, .p, .p, .q, .p, .p, .p], [0, 1, 3, 7, 15, 31, 63, 127, 7, 263, 775, 1799, 4095, 8191, 16383]⟩), (18, ⟨[.p], [0]⟩), (19, ⟨[.p, .p, .p, .q, .p, .q, .q, .e], [0, 1, 3, 7, 0, 16, 0, 127]⟩), (20, ⟨[.p], [0]⟩)], loop := [], join := [(3, [])] }
noncomputable def C9 : Code := Try.f9.body.getD .skip
theorem E9 (a0 : Value) (a1 : Value) (a2 : Value) (a3 : Value) (a4 : Value) (K : Value → World → Prop) (w : World) : F9 a0 a1 a2 a3 a4 K w = lift Try.prog H9 C9 (envOf [a0, a1, a2, a3, a4] 0) w (fun E w => resV Try.prog H9.n E Try.f9.results.toList w fun vs => K (retV vs) w) [] (fun E w => resV Try.prog H9.n E Try.f9.results.toList w fun vs => K (retV vs) w) := by kernel_rfl
theorem R9 : regOk H9 C9 = true := by kernel_rfl
theorem B9 : Try.f9.body = some C9 := by kernel_rfl
theorem F9_ok (a0 : Value) (a1 : Value) (a2 : Value) (a3 : Value) (a4 : Value) (K : Value → World → Prop) (w : World) (h : F9 a0 a1 a2 a3 a4 K w) : Calls Try.prog 9 #[a0, a1, a2, a3, a4] w (retK K) :=
  lift_call mixed Try.func9 B9 Try.ntmps9 R9 (Nat.le_of_ble_eq_true rfl) (Eq.mp (E9 a0 a1 a2 a3 a4 K w) h)
def F10x1 (v11 : Value) (v14_2 : Value) (w3 : World) (k1 : Value → World → Prop) : Prop :=
  PRun Try.prog (Instr.indexAt 33 v11 v14_2) fun v17 =>
  QRun Try.prog (Instr.loadAt 36 v17) w3 fun v18 =>
  Run Try.prog (Instr.alloc 36 true (.tuple #[])) w3 fun v5 w4 =>
  Run Try.prog (Instr.storeAt 36 v5 v18) w4 fun _ w5 =>
  PRun Try.prog (Instr.fieldAt 36 v5 2) fun v21 =>
  QRun Try.prog (Instr.loadAt 30 v21) w5 fun v22 =>
  CallF Try.prog 23 #[v22] w5 fun v23 w6 =>
  PRun Try.prog (Instr.indexAt 33 v11 v14_2) fun v24 =>
  PRun Try.prog (Instr.fieldAt 36 v24 2) fun v25 =>
  Run Try.prog (Instr.storeAt 30 v25 v23) w6 fun _ w7 =>
  PRun Try.prog (binOp .add 3 v14_2 (Value.int .i64 1)) fun v26 =>
  k1 v26 w7
/-- (*lattice/slots.Slots).All -/
def F10 (a0 : Value) (K : Value → World → Prop) (w : World) : Prop :=
  NilCk a0 fun v7 =>
  PRun Try.prog (Instr.fieldAt 48 v7 1) fun v8 =>
  QRun Try.prog (Instr.loadAt 46 v8) w fun v9 =>
  CallF Try.prog 25 #[v9] w fun v10 w1 =>
  CallF Try.prog 24 #[v10, (Value.func (.func 26) #[] #[])] w1 fun v11 w2 =>
  PRun Try.prog (Builtin.len_ #[33] 3 #[v11]) fun v13 =>
  LoopF 1 [(Value.int .i64 0)] w2 fun v14_2 w3 k1 => ∀ _ : Env,
  PRun Try.prog (binOp .lss 3 v14_2 v13) fun v15 =>
  Branch v15 (
    F10x1 v11 v14_2 w3 k1
  ) (
    K v11 w3
  )
def H10 : Hints := { n := 28, reg := [(0, ⟨[.p], [0]⟩), (1, ⟨[.p, .p, .p, .q, .e, .e, .p], [0, 1, 3, 7, 15, 31, 63]⟩), (2, ⟨[.p, .p, .p], [0, 1, 0]⟩), (3, ⟨[.p], [0]⟩), (4, ⟨[.p, .p, .q, .e, .p, .e], [0, 0, 2, 0, 15, 31]⟩), (5, ⟨[.p, .p, .p, .q, .e, .p, .p, .e], [0, 0, 0, 4, 12, 31, 63, 127]⟩), (6, ⟨[.p, .p], [0, 1]⟩), (7, ⟨[.p, .p], [0, 1]⟩)], loop := [(3, [14])], join := [] }
noncomputable def C10 : Code := Try.f10.body.getD .skip
theorem E10 (a0 : Value) (K : Value → World → Prop) (w : World) : F10 a0 K w = lift Try.prog H10 C10 (envOf [a0] 0) w (fun E w => resV Try.prog H10.n E Try.f10.results.toList w fun vs => K (retV vs) w) [] (fun E w => resV Try.prog H10.n E Try.f10.results.toList w fun vs => K (retV vs) w) := by kernel_rfl
theorem R10 : regOk H10 C10 = true := by kernel_rfl
theorem B10 : Try.f10.body = some C10 := by kernel_rfl
theorem F10_ok (a0 : Value) (K : Value → World → Prop) (w : World) (h : F10 a0 K w) : Calls Try.prog 10 #[a0] w (retK K) :=
  lift_call mixed Try.func10 B10 Try.ntmps10 R10 (Nat.le_of_ble_eq_true rfl) (Eq.mp (E10 a0 K w) h)
/-- (*lattice/slots.Slots).Sweep -/
def F21 (a0 : Value) (a1 : Value) (K : Value → World → Prop) (w : World) : Prop :=
  Run Try.prog (Instr.box 3 a1) w fun v3 w1 =>
  NilCk a0 fun v7 =>
  PRun Try.prog (Instr.fieldAt 48 v7 1) fun v8 =>
  QRun Try.prog (Instr.loadAt 46 v8) w1 fun v9 =>
  QRun Try.prog (Builtin.len_ #[46] 3 #[v9]) w1 fun v10 =>
  NilCk a0 fun v12 =>
  PRun Try.prog (Instr.fieldAt 48 v12 1) fun v13 =>
  QRun Try.prog (Instr.loadAt 46 v13) w1 fun v14 =>
  PRun Try.prog (Instr.makeFunc (Fn.func 41) #[] #[v3]) fun v15 =>
  CallF Try.prog 40 #[v14, v15] w1 fun v16 w2 =>
  NilCk a0 fun v19 =>
  PRun Try.prog (Instr.fieldAt 48 v19 1) fun v20 =>
  QRun Try.prog (Instr.loadAt 46 v20) w2 fun v21 =>
  QRun Try.prog (Builtin.len_ #[46] 3 #[v21]) w2 fun v22 =>
  PRun Try.prog (binOp .sub 3 v10 v22) fun v23 =>
  K v23 w2
def H21 : Hints := { n := 24, reg := [(0, ⟨[.e, .p], [0, 0]⟩), (1, ⟨[.p, .p, .p, .q, .q, .p], [0, 1, 3, 7, 15, 31]⟩), (2, ⟨[.p, .p, .p, .q, .p, .e], [0, 1, 3, 7, 0, 31]⟩), (3, ⟨[.p, .p, .p, .p, .q, .q, .p, .p], [0, 0, 2, 6, 14, 30, 63, 127]⟩)], loop := [], join := [] }
noncomputable def C21 : Code := Try.f21.body.getD .skip
theorem E21 (a0 : Value) (a1 : Value) (K : Value → World → Prop) (w : World) : F21 a0 a1 K w = lift Try.prog H21 C21 (envOf [a0, a1] 0) w (fun E w => resV Try.prog H21.n E Try.f21.results.toList w fun vs => K (retV vs) w) [] (fun E w => resV Try.prog H21.n E Try.f21.results.toList w fun vs => K (retV vs) w) := by kernel_rfl
theorem R21 : regOk H21 C21 = true := by kernel_rfl
theorem B21 : Try.f21.body = some C21 := by kernel_rfl
theorem F21_ok (a0 : Value) (a1 : Value) (K : Value → World → Prop) (w : World) (h : F21 a0 a1 K w) : Calls Try.prog 21 #[a0, a1] w (retK K) :=
  lift_call mixed Try.func21 B21 Try.ntmps21 R21 (Nat.le_of_ble_eq_true rfl) (Eq.mp (E21 a0 a1 K w) h)
/-- (*lattice/slots.Slots).Sweep$1 -/
def F41 (a0 : Value) (a1 : Value) (a2 : Value) (K : Value → World → Prop) (w : World) : Prop :=
  Run Try.prog (Instr.box 25 a0) w fun v3 w1 =>
  Run Try.prog (Instr.box 36 a1) w1 fun v4 w2 =>
  PRun Try.prog (Instr.fieldAt 36 v4 4) fun v6 =>
  QRun Try.prog (Instr.loadAt 3 v6) w2 fun v7 =>
  QRun Try.prog (Instr.loadAt 3 a2) w2 fun v8 =>
  PRun Try.prog (binOp .leq 3 v7 v8) fun v9 =>
  K v9 w2
def H41 : Hints := { n := 10, reg := [(0, ⟨[.e, .e, .p], [0, 0, 0]⟩), (1, ⟨[.p, .q, .q, .p, .p], [0, 1, 0, 7, 15]⟩)], loop := [], join := [] }
noncomputable def C41 : Code := Try.f41.body.getD .skip
theorem E41 (a0 : Value) (a1 : Value) (a2 : Value) (K : Value → World → Prop) (w : World) : F41 a0 a1 a2 K w = lift Try.prog H41 C41 (envOf [a0, a1, a2] 0) w (fun E w => resV Try.prog H41.n E Try.f41.results.toList w fun vs => K (retV vs) w) [] (fun E w => resV Try.prog H41.n E Try.f41.results.toList w fun vs => K (retV vs) w) := by kernel_rfl
theorem R41 : regOk H41 C41 = true := by kernel_rfl
theorem B41 : Try.f41.body = some C41 := by kernel_rfl
theorem F41_ok (a0 : Value) (a1 : Value) (a2 : Value) (K : Value → World → Prop) (w : World) (h : F41 a0 a1 a2 K w) : Calls Try.prog 41 #[a0, a1, a2] w (retK K) :=
  lift_call mixed Try.func41 B41 Try.ntmps41 R41 (Nat.le_of_ble_eq_true rfl) (Eq.mp (E41 a0 a1 a2 K w) h)
def F5x1 (w1 : World) (v6 : Value) (K : Value → World → Prop) : Prop :=
  PRun Try.prog (Instr.build 25 #[]) fun v14 =>
  CallF Try.prog 8 #[(Value.int .i64 0), (Value.int .i64 1), v14] w1 fun v15 w2 =>
  CallF Try.prog 9 #[v6, (Value.slice none 0 0), (Value.int .i64 0), (Value.int .i64 1), (Value.int .i64 0)] w2 fun v17 w3 =>
  PRun Try.prog (eqS .eql 27 (.tmp 17) (.const (Value.int .i64 8)) v17 (Value.int .i64 8)) fun v18 =>
  Gd v18 true (fun k => k v6) fun v20 =>
  Gd v18 true (fun k => k v15) fun v21 =>
  GdE v18 true (fun k => CallF Try.prog 9 #[v20, v21, (Value.int .i64 0), (Value.int .i64 9), (Value.int .i64 0)] w3 k) w3 fun v22 w4 =>
  Gd v18 true (fun k => PRun Try.prog (eqS .eql 27 (.tmp 22) (.const (Value.int .i64 0)) v22 (Value.int .i64 0)) k) fun v23 =>
  Pick v18 v23 (Value.bool false) fun v24 =>
  Gd v24 true (fun k => k v6) fun v26 =>
  GdE v24 true (fun k => CallF Try.prog 10 #[v26] w4 k) w4 fun v27 w5 =>
  Gd v24 true (fun k => PRun Try.prog (Builtin.len_ #[33] 3 #[v27]) k) fun v28 =>
  Gd v24 true (fun k => PRun Try.prog (eqS .eql 3 (.tmp 28) (.const (Value.int .i64 1)) v28 (Value.int .i64 1)) k) fun v29 =>
  Pick v24 v29 (Value.bool false) fun v30 =>
  K v30 w5
/-- lattice/latticelaw13.known -/
def F5 (K : Value → World → Prop) (w : World) : Prop :=
  CallF Try.prog 7 #[(Value.int .i64 2)] w fun v5 w1 =>
  PRun Try.prog (Instr.extract v5 0) fun v6 =>
  PRun Try.prog (Instr.extract v5 1) fun v7 =>
  PRun Try.prog (eqS .neq 27 (.tmp 8) (.const (Value.int .i64 0)) v7 (Value.int .i64 0)) fun v9 =>
  Gd v9 false (fun k => k v6) fun v11 =>
  Gd v9 false (fun k => PRun Try.prog (eqS .eql 26 (.tmp 11) (.const (Value.pointer none)) v11 (Value.pointer none)) k) fun v12 =>
  Pick v9 (Value.bool true) v12 fun v13 =>
  Branch v13 (
    K (Value.bool false) w1
  ) (
    F5x1 w1 v6 K
  )
def H5 : Hints := { n := 31, reg := [(0, ⟨[.p], [0]⟩), (1, ⟨[.e, .p, .p, .p, .p, .p], [0, 1, 3, 3, 7, 31]⟩), (2, ⟨[.p, .p, .p, .p, .p, .p], [0, 1, 3, 7, 15, 31]⟩), (3, ⟨[.p], [0]⟩), (4, ⟨[.p, .e, .p], [0, 1, 3]⟩), (5, ⟨[.p, .e, .p, .p, .p, .p, .e, .p, .p, .p, .p, .e, .p, .p, .p, .p], [0, 1, 3, 7, 15, 15, 63, 127, 255, 511, 1023, 2047, 4095, 8191, 16383, 32767]⟩)], loop := [], join := [] }
noncomputable def C5 : Code := Try.f5.body.getD .skip
theorem E5 (K : Value → World → Prop) (w : World) : F5  K w = lift Try.prog H5 C5 (envOf [] 0) w (fun E w => resV Try.prog H5.n E Try.f5.results.toList w fun vs => K (retV vs) w) [] (fun E w => resV Try.prog H5.n E Try.f5.results.toList w fun vs => K (retV vs) w) := by kernel_rfl
theorem R5 : regOk H5 C5 = true := by kernel_rfl
theorem B5 : Try.f5.body = some C5 := by kernel_rfl
theorem F5_ok (K : Value → World → Prop) (w : World) (h : F5  K w) : Calls Try.prog 5 #[] w (retK K) :=
  lift_call mixed Try.func5 B5 Try.ntmps5 R5 (Nat.le_of_ble_eq_true rfl) (Eq.mp (E5  K w) h)
def F3x1 (v46 : Value) (w15 : World) (v12_3 : Value) (v23 : Value) (v28 : Value) (v31 : Value) (K : Value → World → Prop) : Prop :=
  PRun Try.prog (Instr.indexAt 33 v46 (Value.int .i64 0)) fun v60 =>
  PRun Try.prog (Instr.fieldAt 36 v60 2) fun v61 =>
  QRun Try.prog (Instr.loadAt 30 v61) w15.drew fun v62 =>
  QRun Try.prog (convert 30 9 v62) w15.drew fun v63 =>
  QRun Try.prog (convert 30 9 v12_3) w15.drew fun v65 =>
  PRun Try.prog (eqS .eql 9 (.tmp 63) (.tmp 65) v63 v65) fun v66 =>
  Gd v66 true (fun k => k v46) fun v68 =>
  Gd v66 true (fun k => PRun Try.prog (Instr.indexAt 33 v68 (Value.int .i64 0)) k) fun v69 =>
  Gd v66 true (fun k => PRun Try.prog (Instr.fieldAt 36 v69 1) k) fun v70 =>
  Gd v66 true (fun k => QRun Try.prog (Instr.loadAt 3 v70) w15.drew k) fun v71 =>
  Gd v66 true (fun k => PRun Try.prog (eqS .eql 3 (.tmp 71) (.const (Value.int .i64 2)) v71 (Value.int .i64 2)) k) fun v72 =>
  Pick v66 v72 (Value.bool false) fun v73 =>
  Gd v73 true (fun k => k v46) fun v75 =>
  Gd v73 true (fun k => PRun Try.prog (Instr.indexAt 33 v75 (Value.int .i64 0)) k) fun v76 =>
  Gd v73 true (fun k => PRun Try.prog (Instr.fieldAt 36 v76 3) k) fun v77 =>
  Gd v73 true (fun k => QRun Try.prog (Instr.loadAt 3 v77) w15.drew k) fun v78 =>
  Gd v73 true (fun k => PRun Try.prog (eqS .eql 3 (.tmp 78) (.const (Value.int .i64 4)) v78 (Value.int .i64 4)) k) fun v79 =>
  Pick v73 v79 (Value.bool false) fun v80 =>
  Gd v80 true (fun k => k v46) fun v82 =>
  Gd v80 true (fun k => PRun Try.prog (Instr.indexAt 33 v82 (Value.int .i64 0)) k) fun v83 =>
  Gd v80 true (fun k => PRun Try.prog (Instr.fieldAt 36 v83 4) k) fun v84 =>
  Gd v80 true (fun k => QRun Try.prog (Instr.loadAt 3 v84) w15.drew k) fun v85 =>
  Gd v80 true (fun k => k v23) fun v86 =>
  Gd v80 true (fun k => PRun Try.prog (eqS .eql 3 (.tmp 85) (.tmp 86) v85 v86) k) fun v87 =>
  Pick v80 v87 (Value.bool false) fun v88 =>
  Gd v88 true (fun k => k v28) fun v90 =>
  Gd v88 true (fun k => k v31) fun v91 =>
  GdE v88 true (fun k => CallF Try.prog 9 #[v90, v91, (Value.int .i64 3), (Value.int .i64 90), (Value.int .i64 0)] w15.drew k) w15.drew fun v92 w16 =>
  Gd v88 true (fun k => PRun Try.prog (eqS .eql 27 (.tmp 92) (.const (Value.int .i64 14)) v92 (Value.int .i64 14)) k) fun v93 =>
  Pick v88 v93 (Value.bool false) fun v94 =>
  K v94 w16
def F3x2 (v46 : Value) (w15 : World) (v31 : Value) (v20 : Value) (v23 : Value) (K : Value → World → Prop) : Prop :=
  PRun Try.prog (Instr.indexAt 33 v46 (Value.int .i64 0)) fun v96 =>
  PRun Try.prog (Instr.fieldAt 36 v96 2) fun v97 =>
  QRun Try.prog (Instr.loadAt 30 v97) w15.drew fun v98 =>
  QRun Try.prog (convert 30 9 v98) w15.drew fun v99 =>
  QRun Try.prog (convert 30 9 v31) w15.drew fun v101 =>
  PRun Try.prog (eqS .eql 9 (.tmp 99) (.tmp 101) v99 v101) fun v102 =>
  Gd v102 true (fun k => k v46) fun v104 =>
  Gd v102 true (fun k => PRun Try.prog (Instr.indexAt 33 v104 (Value.int .i64 0)) k) fun v105 =>
  Gd v102 true (fun k => PRun Try.prog (Instr.fieldAt 36 v105 1) k) fun v106 =>
  Gd v102 true (fun k => QRun Try.prog (Instr.loadAt 3 v106) w15.drew k) fun v107 =>
  Gd v102 true (fun k => PRun Try.prog (eqS .eql 3 (.tmp 107) (.const (Value.int .i64 1)) v107 (Value.int .i64 1)) k) fun v108 =>
  Pick v102 v108 (Value.bool false) fun v109 =>
  Gd v109 true (fun k => k v46) fun v111 =>
  Gd v109 true (fun k => PRun Try.prog (Instr.indexAt 33 v111 (Value.int .i64 0)) k) fun v112 =>
  Gd v109 true (fun k => PRun Try.prog (Instr.fieldAt 36 v112 3) k) fun v113 =>
  Gd v109 true (fun k => QRun Try.prog (Instr.loadAt 3 v113) w15.drew k) fun v114 =>
  Gd v109 true (fun k => PRun Try.prog (eqS .eql 3 (.tmp 114) (.const (Value.int .i64 3)) v114 (Value.int .i64 3)) k) fun v115 =>
  Pick v109 v115 (Value.bool false) fun v116 =>
  Gd v116 true (fun k => k v46) fun v118 =>
  Gd v116 true (fun k => PRun Try.prog (Instr.indexAt 33 v118 (Value.int .i64 0)) k) fun v119 =>
  Gd v116 true (fun k => PRun Try.prog (Instr.fieldAt 36 v119 4) k) fun v120 =>
  Gd v116 true (fun k => QRun Try.prog (Instr.loadAt 3 v120) w15.drew k) fun v121 =>
  Gd v116 true (fun k => k v20) fun v122 =>
  Gd v116 true (fun k => k v23) fun v123 =>
  Gd v116 true (fun k => PRun Try.prog (Builtin.max_ #[3, 3] 3 #[v122, v123]) k) fun v124 =>
  Gd v116 true (fun k => PRun Try.prog (eqS .eql 3 (.tmp 121) (.tmp 124) v121 v124) k) fun v125 =>
  Pick v116 v125 (Value.bool false) fun v126 =>
  K v126 w15.drew
def F3x3 (v28 : Value) (v31 : Value) (v20 : Value) (w12 : World) (v12_3 : Value) (v23 : Value) (K : Value → World → Prop) (a2 : Value) : Prop :=
  CallF Try.prog 9 #[v28, v31, (Value.int .i64 3), v20, (Value.int .i64 0)] w12 fun v40 w13 =>
  CallF Try.prog 9 #[v28, v12_3, (Value.int .i64 4), v23, (Value.int .i64 0)] w13 fun v44 w14 =>
  CallF Try.prog 10 #[v28] w14 fun v46 w15 =>
  PRun Try.prog (eqS .neq 27 (.tmp 47) (.const (Value.int .i64 0)) v40 (Value.int .i64 0)) fun v48 =>
  Gd v48 false (fun k => k v44) fun v50 =>
  Gd v48 false (fun k => PRun Try.prog (eqS .neq 27 (.tmp 50) (.const (Value.int .i64 0)) v50 (Value.int .i64 0)) k) fun v51 =>
  Pick v48 (Value.bool true) v51 fun v52 =>
  Gd v52 false (fun k => k v46) fun v54 =>
  Gd v52 false (fun k => PRun Try.prog (Builtin.len_ #[33] 3 #[v54]) k) fun v55 =>
  Gd v52 false (fun k => PRun Try.prog (eqS .neq 3 (.tmp 55) (.const (Value.int .i64 1)) v55 (Value.int .i64 1)) k) fun v56 =>
  Pick v52 (Value.bool true) v56 fun v57 =>
  Branch v57 (
    K (Value.bool false) w15
  ) (
    Branch a2 (
      F3x1 v46 w15 v12_3 v23 v28 v31 K
    ) (
      F3x2 v46 w15 v31 v20 v23 K
    )
  )
def F3x4 (a0 : Value) (w1 : World) (a1 : Value) (a2 : Value) (K : Value → World → Prop) : Prop :=
  CallF Try.prog 6 #[a0, (Value.int .i64 50)] w1 fun v19 w2 =>
  PRun Try.prog (binOp .add 3 (Value.int .i64 1) v19) fun v20 =>
  CallF Try.prog 6 #[a1, (Value.int .i64 50)] w2 fun v22 w3 =>
  PRun Try.prog (binOp .add 3 (Value.int .i64 1) v22) fun v23 =>
  Run Try.prog (Instr.alloc 25 true (.tuple #[])) w3 fun v7 w4 =>
  Run Try.prog (Instr.alloc 25 true (.tuple #[])) w4 fun v8 w5 =>
  PRun Try.prog (Instr.indexAt 25 v7 (Value.int .i64 0)) fun v24 =>
  Run Try.prog (Instr.storeAt 5 v24 (Value.int .u8 1)) w5 fun _ w6 =>
  PRun Try.prog (Instr.indexAt 25 v8 (Value.int .i64 0)) fun v25 =>
  Run Try.prog (Instr.storeAt 5 v25 (Value.int .u8 2)) w6 fun _ w7 =>
  CallF Try.prog 7 #[(Value.int .i64 2)] w7 fun v27 w8 =>
  PRun Try.prog (Instr.extract v27 0) fun v28 =>
  PRun Try.prog (Instr.extract v27 1) fun v29 =>
  QRun Try.prog (Instr.loadAt 25 v7) w8 fun v30 =>
  CallF Try.prog 8 #[(Value.int .i64 2), (Value.int .i64 1), v30] w8 fun v31 w9 =>
  QRun Try.prog (Instr.loadAt 25 v8) w9 fun v32 =>
  CallF Try.prog 8 #[(Value.int .i64 2), (Value.int .i64 1), v32] w9 fun v33 w10 =>
  LetJ 1 (fun k1 =>
    Branch a2 (
      QRun Try.prog (Instr.loadAt 25 v8) w10 fun v35 =>
      CallF Try.prog 8 #[(Value.int .i64 2), (Value.int .i64 2), v35] w10 fun v36 w11 =>
      k1 v36 w11
    ) (
      k1 v33 w10
    )
  ) fun v12_3 w12 => ∀ _ : Env,
  F3x3 v28 v31 v20 w12 v12_3 v23 K a2
/-- lattice/latticelaw13.SlotsSame -/
def F3 (a0 : Value) (a1 : Value) (a2 : Value) (K : Value → World → Prop) (w : World) : Prop :=
  CallF Try.prog 5 #[] w fun v16 w1 =>
  PRun Try.prog (Op.unary .not v16) fun v17 =>
  Branch v17 (
    K (Value.bool false) w1
  ) (
    F3x4 a0 w1 a1 a2 K
  )
def H3 : Hints := { n := 127, reg := [(0, ⟨[.p], [0]⟩), (1, ⟨[.e, .p], [0, 1]⟩), (2, ⟨[.p], [0]⟩), (3, ⟨[.p, .e, .p, .p, .e, .p, .p, .p], [0, 1, 3, 0, 11, 27, 31, 127]⟩), (4, ⟨[.e, .e], [0, 0]⟩), (5, ⟨[.p, .e, .p, .e], [0, 1, 3, 7]⟩), (6, ⟨[.e, .p, .p, .p, .p, .p], [0, 1, 3, 3, 7, 31]⟩), (7, ⟨[.q, .e, .p], [0, 1, 3]⟩), (8, ⟨[.q, .e, .p], [0, 1, 3]⟩), (9, ⟨[.p], [0]⟩), (10, ⟨[.q, .e, .p], [0, 1, 3]⟩), (11, ⟨[.p, .p, .p, .e, .p, .p, .p, .e, .p, .p], [0, 0, 0, 7, 0, 0, 0, 127, 255, 511]⟩), (12, ⟨[.p, .e, .p], [0, 1, 3]⟩), (13, ⟨[.p, .p, .p, .p, .p, .p, .p, .p, .p, .p, .p], [0, 1, 3, 7, 15, 31, 63, 127, 255, 511, 1023]⟩), (14, ⟨[.p], [0]⟩), (15, ⟨[.p], [0]⟩), (16, ⟨[.p, .p, .p, .q, .q, .p, .q, .p, .p, .p, .p, .p, .q, .p, .p, .p, .p, .p, .p, .q, .p, .p, .p, .p, .p, .p, .q, .p, .p, .p, .p, .p, .p, .e, .p, .p, .p], [0, 1, 3, 7, 15, 0, 32, 127, 255, 511, 1023, 2047, 4095, 8191, 16383, 32767, 65535, 131071, 262143, 524287, 1048575, 2097151, 4194303, 8388607, 16777215, 33554431, 67108863, 8388607, 268435455, 536870911, 1073741823, 2147483647, 2147483647, 8589934591, 17179869183, 34359738367, 68719476735]⟩), (17, ⟨[.p, .p, .p, .q, .q, .p, .q, .p, .p, .p, .p, .p, .q, .p, .p, .p, .p, .p, .p, .q, .p, .p, .p, .p, .p, .p, .q, .p, .p, .p, .p, .p, .p], [0, 1, 3, 7, 15, 0, 32, 127, 255, 511, 1023, 2047, 4095, 8191, 16383, 32767, 65535, 131071, 262143, 524287, 1048575, 2097151, 4194303, 8388607, 16777215, 33554431, 67108863, 8388607, 8388607, 411041791, 1073741823, 2147483647, 4294967295]⟩)], loop := [], join := [(70, [12])] }
noncomputable def C3 : Code := Try.f3.body.getD .skip
theorem E3 (a0 : Value) (a1 : Value) (a2 : Value) (K : Value → World → Prop) (w : World) : F3 a0 a1 a2 K w = lift Try.prog H3 C3 (envOf [a0, a1, a2] 0) w (fun E w => resV Try.prog H3.n E Try.f3.results.toList w fun vs => K (retV vs) w) [] (fun E w => resV Try.prog H3.n E Try.f3.results.toList w fun vs => K (retV vs) w) := by kernel_rfl
theorem R3 : regOk H3 C3 = true := by kernel_rfl
theorem B3 : Try.f3.body = some C3 := by kernel_rfl
theorem F3_ok (a0 : Value) (a1 : Value) (a2 : Value) (K : Value → World → Prop) (w : World) (h : F3 a0 a1 a2 K w) : Calls Try.prog 3 #[a0, a1, a2] w (retK K) :=
  lift_call mixed Try.func3 B3 Try.ntmps3 R3 (Nat.le_of_ble_eq_true rfl) (Eq.mp (E3 a0 a1 a2 K w) h)
def F4x1 (v24 : Value) (v7 : Value) (w6 : World) (a1 : Value) (a2 : Value) (k1 : World → Prop) : Prop :=
  PRun Try.prog (eqS .eql 3 (.tmp 24) (.const (Value.int .i64 3)) v24 (Value.int .i64 3)) fun v55 =>
  Branch v55 (
    PRun Try.prog (Instr.fieldAt 39 v7 3) fun v56 =>
    QRun Try.prog (Instr.loadAt 30 v56) w6.drew fun v57 =>
    CallF Try.prog 6 #[a1, (Value.int .i64 4000)] w6.drew fun v59 w12 =>
    (QRun Try.prog (Instr.loadAt 30 v56) w12 fun u => u = v57) ∧
    PRun Try.prog (binOp .add 3 (Value.int .i64 36) v59) fun v60 =>
    PRun Try.prog (Instr.indexAt 30 v57 v60) fun v61 =>
    QRun Try.prog (Instr.loadAt 5 v61) w12 fun v62 =>
    PRun Try.prog (binOp .xor 5 v62 a2) fun v64 =>
    PRun Try.prog (Instr.indexAt 30 v57 v60) fun v65 =>
    Run Try.prog (Instr.storeAt 5 v65 v64) w12 fun _ w13 =>
    k1 w13
  ) (
    k1 w6
  )
def F4x2 (v24 : Value) (v7 : Value) (w6 : World) (a1 : Value) (a2 : Value) (k1 : World → Prop) : Prop :=
  PRun Try.prog (eqS .eql 3 (.tmp 24) (.const (Value.int .i64 2)) v24 (Value.int .i64 2)) fun v43 =>
  Branch v43 (
    PRun Try.prog (Instr.fieldAt 39 v7 0) fun v44 =>
    QRun Try.prog (Instr.loadAt 30 v44) w6.drew fun v45 =>
    CallF Try.prog 6 #[a1, (Value.int .i64 48)] w6.drew fun v47 w10 =>
    (QRun Try.prog (Instr.loadAt 30 v44) w10 fun u => u = v45) ∧
    PRun Try.prog (binOp .add 3 (Value.int .i64 8) v47) fun v48 =>
    PRun Try.prog (Instr.indexAt 30 v45 v48) fun v49 =>
    QRun Try.prog (Instr.loadAt 5 v49) w10 fun v50 =>
    PRun Try.prog (binOp .xor 5 v50 a2) fun v52 =>
    PRun Try.prog (Instr.indexAt 30 v45 v48) fun v53 =>
    Run Try.prog (Instr.storeAt 5 v53 v52) w10 fun _ w11 =>
    k1 w11
  ) (
    F4x1 v24 v7 w6 a1 a2 k1
  )
def F4x3 (v24 : Value) (a1 : Value) (w6 : World) (v7 : Value) (a2 : Value) (k1 : World → Prop) : Prop :=
  PRun Try.prog (eqS .eql 3 (.tmp 24) (.const (Value.int .i64 1)) v24 (Value.int .i64 1)) fun v32 =>
  Branch v32 (
    CallF Try.prog 6 #[a1, (Value.int .i64 32)] w6 fun v34 w8 =>
    PRun Try.prog (Instr.fieldAt 39 v7 2) fun v35 =>
    PRun Try.prog (Instr.indexAt 25 v35 v34) fun v36 =>
    QRun Try.prog (Instr.loadAt 5 v36) w8 fun v37 =>
    PRun Try.prog (binOp .xor 5 v37 a2) fun v39 =>
    PRun Try.prog (Instr.fieldAt 39 v7 2) fun v40 =>
    PRun Try.prog (Instr.indexAt 25 v40 v34) fun v41 =>
    Run Try.prog (Instr.storeAt 5 v41 v39) w8 fun _ w9 =>
    k1 w9
  ) (
    F4x2 v24 v7 w6 a1 a2 k1
  )
def F4x4 (v7 : Value) (w15 : World) (K : Value → World → Prop) : Prop :=
  QRun Try.prog (Instr.loadAt 39 v7) w15 fun v70 =>
  CallF Try.prog 13 #[v70] w15 fun v71 w16 =>
  PRun Try.prog (Instr.extract v71 0) fun v72 =>
  PRun Try.prog (Instr.extract v71 1) fun v73 =>
  CallF Try.prog 7 #[(Value.int .i64 2)] w16 fun v75 w17 =>
  PRun Try.prog (Instr.extract v75 0) fun v76 =>
  PRun Try.prog (Instr.extract v75 1) fun v77 =>
  PRun Try.prog (eqS .eql 3 (.tmp 78) (.const (Value.int .i64 0)) v73 (Value.int .i64 0)) fun v79 =>
  Gd v79 true (fun k => k v76) fun v81 =>
  Gd v79 true (fun k => k v72) fun v82 =>
  GdE v79 true (fun k => CallF Try.prog 9 #[v81, v82, (Value.int .i64 0), (Value.int .i64 9), (Value.int .i64 0)] w17 k) w17 fun v83 w18 =>
  Gd v79 true (fun k => PRun Try.prog (eqS .eql 27 (.tmp 83) (.const (Value.int .i64 12)) v83 (Value.int .i64 12)) k) fun v84 =>
  Pick v79 v84 (Value.bool false) fun v85 =>
  Gd v85 true (fun k => k v76) fun v87 =>
  GdE v85 true (fun k => CallF Try.prog 10 #[v87] w18 k) w18 fun v88 w19 =>
  Gd v85 true (fun k => PRun Try.prog (Builtin.len_ #[33] 3 #[v88]) k) fun v89 =>
  Gd v85 true (fun k => PRun Try.prog (eqS .eql 3 (.tmp 89) (.const (Value.int .i64 0)) v89 (Value.int .i64 0)) k) fun v90 =>
  Pick v85 v90 (Value.bool false) fun v91 =>
  K v91 w19
def F4x5 (w1 : World) (a0 : Value) (a2 : Value) (a1 : Value) (K : Value → World → Prop) : Prop :=
  PRun Try.prog (Instr.build 25 #[]) fun v18 =>
  CallF Try.prog 8 #[(Value.int .i64 1), (Value.int .i64 1), v18] w1 fun v19 w2 =>
  CallF Try.prog 11 #[v19] w2 fun v20 w3 =>
  PRun Try.prog (Instr.extract v20 0) fun v21 =>
  PRun Try.prog (Instr.extract v20 1) fun v22 =>
  Run Try.prog (Instr.alloc 39 true (.tuple #[])) w3 fun v7 w4 =>
  Run Try.prog (Instr.storeAt 39 v7 v21) w4 fun _ w5 =>
  LetJ 0 (fun k1 =>
    CallF Try.prog 6 #[a0, (Value.int .i64 4)] w5 fun v24 w6 =>
    PRun Try.prog (eqS .eql 3 (.tmp 24) (.const (Value.int .i64 0)) v24 (Value.int .i64 0)) fun v26 =>
    Branch v26 (
      PRun Try.prog (convert 5 3 a2) fun v28 =>
      PRun Try.prog (binOp .add 3 (Value.int .i64 2) v28) fun v29 =>
      PRun Try.prog (Instr.fieldAt 39 v7 1) fun v30 =>
      Run Try.prog (Instr.storeAt 3 v30 v29) w6 fun _ w7 =>
      k1 w7
    ) (
      F4x3 v24 a1 w6 v7 a2 k1
    )
  ) fun w14 => ∀ _ : Env,
  QRun Try.prog (Instr.loadAt 39 v7) w14 fun v66 =>
  CallF Try.prog 12 #[v66] w14 fun v67 w15 =>
  PRun Try.prog (eqS .eql 3 (.tmp 67) (.const (Value.int .i64 0)) v67 (Value.int .i64 0)) fun v68 =>
  Branch v68 (
    K (Value.bool true) w15
  ) (
    F4x4 v7 w15 K
  )
/-- lattice/latticelaw13.SlotsForged -/
def F4 (a0 : Value) (a1 : Value) (a2 : Value) (K : Value → World → Prop) (w : World) : Prop :=
  CallF Try.prog 5 #[] w fun v13 w1 =>
  PRun Try.prog (Op.unary .not v13) fun v14 =>
  Branch v14 (
    K (Value.bool false) w1
  ) (
    PRun Try.prog (eqS .eql 5 (.tmp 15) (.const (Value.int .u8 0)) a2 (Value.int .u8 0)) fun v16 =>
    Branch v16 (
      K (Value.bool true) w1
    ) (
      F4x5 w1 a0 a2 a1 K
    )
  )
def H4 : Hints := { n := 92, reg := [(0, ⟨[.p], [0]⟩), (1, ⟨[.e, .p], [0, 1]⟩), (2, ⟨[.p], [0]⟩), (3, ⟨[.p, .p], [0, 1]⟩), (4, ⟨[.p], [0]⟩), (5, ⟨[.p, .e, .e, .p, .p, .p, .e, .e, .p], [0, 1, 3, 7, 15, 15, 0, 95, 255]⟩), (6, ⟨[.p, .e], [0, 1]⟩), (7, ⟨[.p, .p], [0, 1]⟩), (8, ⟨[.p, .p, .p, .p, .e], [0, 1, 3, 7, 15]⟩), (9, ⟨[.p, .p], [0, 1]⟩), (10, ⟨[.p, .e, .p, .p, .q, .p, .p, .p, .p, .e], [0, 1, 0, 7, 15, 0, 63, 0, 255, 511]⟩), (11, ⟨[.p, .p], [0, 1]⟩), (12, ⟨[.p, .q, .p, .e, .p, .p, .q, .p, .p, .p, .e], [0, 1, 0, 4, 12, 31, 63, 0, 255, 511, 1023]⟩), (13, ⟨[.p, .p], [0, 1]⟩), (14, ⟨[.p, .q, .p, .e, .p, .p, .q, .p, .p, .p, .e], [0, 1, 0, 4, 12, 31, 63, 0, 255, 511, 1023]⟩), (15, ⟨[.q, .e, .p], [0, 1, 3]⟩), (16, ⟨[.p], [0]⟩), (17, ⟨[.q, .e, .p, .p, .p, .p, .p], [0, 1, 3, 7, 7, 15, 63]⟩), (18, ⟨[.e, .p, .p, .p, .p, .p], [0, 1, 3, 3, 7, 31]⟩), (19, ⟨[.p, .p, .p, .p, .p, .e, .p, .p, .p, .p, .e, .p, .p, .p, .p], [0, 1, 3, 7, 7, 31, 63, 127, 255, 511, 1023, 2047, 4095, 8191, 16383]⟩)], loop := [], join := [(3, [])] }
noncomputable def C4 : Code := Try.f4.body.getD .skip
theorem E4 (a0 : Value) (a1 : Value) (a2 : Value) (K : Value → World → Prop) (w : World) : F4 a0 a1 a2 K w = lift Try.prog H4 C4 (envOf [a0, a1, a2] 0) w (fun E w => resV Try.prog H4.n E Try.f4.results.toList w fun vs => K (retV vs) w) [] (fun E w => resV Try.prog H4.n E Try.f4.results.toList w fun vs => K (retV vs) w) := by kernel_rfl
theorem R4 : regOk H4 C4 = true := by kernel_rfl
theorem B4 : Try.f4.body = some C4 := by kernel_rfl
theorem F4_ok (a0 : Value) (a1 : Value) (a2 : Value) (K : Value → World → Prop) (w : World) (h : F4 a0 a1 a2 K w) : Calls Try.prog 4 #[a0, a1, a2] w (retK K) :=
  lift_call mixed Try.func4 B4 Try.ntmps4 R4 (Nat.le_of_ble_eq_true rfl) (Eq.mp (E4 a0 a1 a2 K w) h)
end Go.Proofs
