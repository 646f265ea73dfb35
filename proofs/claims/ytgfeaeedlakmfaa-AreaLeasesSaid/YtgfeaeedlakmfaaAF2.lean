/- A part of the proof: A.F2. -/
import Derived.Test.YtgfeaeedlakmfaaATy
set_option linter.unusedVariables false
set_option linter.unusedSimpArgs false
set_option linter.unusedSectionVars false
namespace Go.Proofs
open Go Go.Lf
/-- slices.pdqsortCmpFunc[lattice/api.Block] -/
def F36 (a0 : Value) (a1 : Value) (a2 : Value) (a3 : Value) (a4 : Value) (K : Value → World → Prop) (w : World) : Prop :=
  LoopF 5 [a1, a2, a3, (Value.bool true), (Value.bool true)] w fun v1 v2 v3 v10_2 v11_2 w1 k1 => ∀ _ : Env,
  PRun Try.prog (binOp .sub 3 v2 v1) fun v23 =>
  PRun Try.prog (binOp .leq 3 v23 (Value.int .i64 12)) fun v25 =>
  Branch v25 (
    CallF Try.prog 38 #[a0, v1, v2, a4] w1 fun v30 w2 =>
    K (Value.tuple #[]) w2
  ) (
    PRun Try.prog (eqS .eql 3 (.tmp 31) (.const (Value.int .i64 0)) v3 (Value.int .i64 0)) fun v32 =>
    Branch v32 (
      CallF Try.prog 39 #[a0, v1, v2, a4] w1 fun v37 w3 =>
      K (Value.tuple #[]) w3
    ) (
      LetJ 1 (fun k2 =>
        PRun Try.prog (Op.unary .not v10_2) fun v39 =>
        Branch v39 (
          CallF Try.prog 40 #[a0, v1, v2, a4] w1 fun v44 w4 =>
          PRun Try.prog (binOp .sub 3 v3 (Value.int .i64 1)) fun v46 =>
          k2 v46 w4
        ) (
          k2 v3 w1
        )
      ) fun v3_3 w5 => ∀ _ : Env,
      CallF Try.prog 41 #[a0, v1, v2, a4] w5 fun v52 w6 =>
      PRun Try.prog (Instr.extract v52 0) fun v53 =>
      PRun Try.prog (Instr.extract v52 1) fun v54 =>
      LetJ 2 (fun k3 =>
        PRun Try.prog (eqS .eql 76 (.tmp 55) (.const (Value.int .i64 2)) v54 (Value.int .i64 2)) fun v56 =>
        Branch v56 (
          CallF Try.prog 42 #[a0, v1, v2, a4] w6 fun v61 w7 =>
          PRun Try.prog (binOp .sub 3 v2 (Value.int .i64 1)) fun v63 =>
          PRun Try.prog (binOp .sub 3 v53 v1) fun v66 =>
          PRun Try.prog (binOp .sub 3 v63 v66) fun v67 =>
          k3 v67 (Value.int .i64 1) w7
        ) (
          k3 v53 v54 w6
        )
      ) fun v13_3 v14_3 w8 => ∀ _ : Env,
      LetJ 0 (fun k4 =>
        Gd v10_2 true (fun k => k v11_2) fun v70 =>
        Pick v10_2 v70 (Value.bool false) fun v71 =>
        Gd v71 true (fun k => k v14_3) fun v73 =>
        Gd v71 true (fun k => PRun Try.prog (eqS .eql 76 (.tmp 73) (.const (Value.int .i64 1)) v73 (Value.int .i64 1)) k) fun v74 =>
        Pick v71 v74 (Value.bool false) fun v75 =>
        Branch v75 (
          CallF Try.prog 43 #[a0, v1, v2, a4] w8 fun v80 w9 =>
          Branch v80 (
            K (Value.tuple #[]) w9
          ) (
            k4 w9
          )
        ) (
          k4 w8
        )
      ) fun w10 => ∀ _ : Env,
      PRun Try.prog (binOp .gtr 3 v1 (Value.int .i64 0)) fun v82 =>
      Gd v82 true (fun k => k a4) fun v84 =>
      Gd v82 true (fun k => k a0) fun v85 =>
      Gd v82 true (fun k => k v1) fun v86 =>
      Gd v82 true (fun k => PRun Try.prog (binOp .sub 3 v86 (Value.int .i64 1)) k) fun v87 =>
      Gd v82 true (fun k => PRun Try.prog (Instr.indexAt 47 v85 v87) k) fun v88 =>
      Gd v82 true (fun k => QRun Try.prog (Instr.loadAt 39 v88) w10.drew k) fun v89 =>
      Gd v82 true (fun k => k a0) fun v90 =>
      Gd v82 true (fun k => k v13_3) fun v91 =>
      Gd v82 true (fun k => PRun Try.prog (Instr.indexAt 47 v90 v91) k) fun v92 =>
      Gd v82 true (fun k => QRun Try.prog (Instr.loadAt 39 v92) w10.drew k) fun v93 =>
      GdE v82 true (fun k => CallV Try.prog v84 #[v89, v93] w10.drew k) w10.drew fun v94 w11 =>
      Gd v82 true (fun k => PRun Try.prog (binOp .lss 3 v94 (Value.int .i64 0)) k) fun v95 =>
      Gd v82 true (fun k => PRun Try.prog (Op.unary .not v95) k) fun v96 =>
      Pick v82 v96 (Value.bool false) fun v97 =>
      Branch v97 (
        CallF Try.prog 44 #[a0, v1, v2, v13_3, a4] w11 fun v103 w12 =>
        k1 v103 v2 v3_3 v10_2 v11_2 w12
      ) (
        CallF Try.prog 45 #[a0, v1, v2, v13_3, a4] w11 fun v111 w13 =>
        PRun Try.prog (Instr.extract v111 0) fun v112 =>
        PRun Try.prog (Instr.extract v111 1) fun v113 =>
        PRun Try.prog (binOp .sub 3 v112 v1) fun v117 =>
        PRun Try.prog (binOp .sub 3 v2 v112) fun v120 =>
        PRun Try.prog (binOp .quo 3 v23 (Value.int .i64 8)) fun v122 =>
        PRun Try.prog (binOp .lss 3 v117 v120) fun v125 =>
        Branch v125 (
          PRun Try.prog (binOp .geq 3 v117 v122) fun v128 =>
          CallF Try.prog 36 #[a0, v1, v112, v3_3, a4] w13 fun v134 w14 =>
          PRun Try.prog (binOp .add 3 v112 (Value.int .i64 1)) fun v136 =>
          k1 v136 v2 v3_3 v128 v113 w14
        ) (
          PRun Try.prog (binOp .geq 3 v120 v122) fun v139 =>
          PRun Try.prog (binOp .add 3 v112 (Value.int .i64 1)) fun v142 =>
          CallF Try.prog 36 #[a0, v142, v2, v3_3, a4] w13 fun v146 w15 =>
          k1 v1 v112 v3_3 v139 v113 w15
        )
      )
    )
  )
def H36 : Hints := { n := 148, reg := [(0, ⟨[.p], [0]⟩), (1, ⟨[.p], [0]⟩), (2, ⟨[.p, .p, .p, .p], [0, 0, 3, 7]⟩), (3, ⟨[.p, .p], [0, 1]⟩), (4, ⟨[.p, .p, .p, .p, .e], [0, 0, 0, 0, 15]⟩), (5, ⟨[.p, .p], [0, 1]⟩), (6, ⟨[.p, .p, .p, .p, .e], [0, 0, 0, 0, 15]⟩), (7, ⟨[.p, .p], [0, 1]⟩), (8, ⟨[.p, .p, .p, .p, .e], [0, 0, 0, 0, 15]⟩), (9, ⟨[.p, .p, .p], [0, 1, 3]⟩), (10, ⟨[.p, .p, .p, .p, .e, .p, .p, .p, .p, .p], [0, 0, 0, 0, 15, 31, 63, 63, 127, 511]⟩), (11, ⟨[.p, .p], [0, 1]⟩), (12, ⟨[.p, .p, .p, .p, .e], [0, 0, 0, 0, 15]⟩), (13, ⟨[.p, .p, .p, .p, .p, .p, .p], [0, 1, 0, 0, 12, 31, 63]⟩), (14, ⟨[.p], [0]⟩), (15, ⟨[.p, .p, .p, .p, .p, .p, .p, .p], [0, 1, 3, 7, 15, 31, 63, 127]⟩), (16, ⟨[.p, .p, .p, .p, .e], [0, 0, 0, 0, 15]⟩), (17, ⟨[.p, .p, .p, .p, .p, .p, .p, .p, .q, .p, .p, .p, .q, .e, .p, .p, .p], [0, 1, 3, 7, 7, 7, 39, 119, 247, 7, 7, 1543, 3591, 8191, 16383, 32767, 65535]⟩), (18, ⟨[.p, .p, .p, .p, .p, .e, .p], [0, 0, 0, 0, 0, 31, 63]⟩), (19, ⟨[.p, .p], [0, 1]⟩), (20, ⟨[.p, .p, .p, .p, .p, .e, .p, .p, .p, .p, .p], [0, 0, 0, 0, 0, 31, 63, 127, 127, 255, 1023]⟩), (21, ⟨[.p, .p], [0, 1]⟩), (22, ⟨[.p, .p, .p, .p, .p, .p, .p, .p], [0, 0, 3, 0, 0, 24, 7, 127]⟩), (23, ⟨[.p, .p, .p], [0, 1, 3]⟩), (24, ⟨[.p, .p, .p], [0, 0, 3]⟩), (25, ⟨[.p, .p, .p, .p], [0, 0, 3, 7]⟩), (26, ⟨[.p, .p, .p, .p, .p, .e], [0, 0, 0, 0, 0, 31]⟩), (27, ⟨[.p, .p, .p], [0, 1, 3]⟩), (28, ⟨[.p, .p, .p, .p], [0, 0, 3, 7]⟩), (29, ⟨[.p, .p, .p, .p, .p, .p, .e], [0, 0, 2, 0, 0, 0, 63]⟩), (30, ⟨[.p, .p], [0, 1]⟩)], loop := [(2, [1, 2, 3, 10, 11])], join := [(80, [3]), (114, [13, 14]), (152, [])] }
noncomputable def C36 : Code := Try.f36.body.getD .skip
theorem E36 (a0 : Value) (a1 : Value) (a2 : Value) (a3 : Value) (a4 : Value) (K : Value → World → Prop) (w : World) : F36 a0 a1 a2 a3 a4 K w = lift Try.prog H36 C36 (envOf [a0, a1, a2, a3, a4] 0) w (fun E w => resV Try.prog H36.n E Try.f36.results.toList w fun vs => K (retV vs) w) [] (fun E w => resV Try.prog H36.n E Try.f36.results.toList w fun vs => K (retV vs) w) := by kernel_rfl
theorem R36 : regOk H36 C36 = true := by kernel_rfl
theorem B36 : Try.f36.body = some C36 := by kernel_rfl
theorem F36_ok (a0 : Value) (a1 : Value) (a2 : Value) (a3 : Value) (a4 : Value) (K : Value → World → Prop) (w : World) (h : F36 a0 a1 a2 a3 a4 K w) : Calls Try.prog 36 #[a0, a1, a2, a3, a4] w (retK K) :=
  lift_call mixed Try.func36 B36 Try.ntmps36 R36 (Nat.le_of_ble_eq_true rfl) (Eq.mp (E36 a0 a1 a2 a3 a4 K w) h)
/-- math/bits.Len -/
def F37 (a0 : Value) (K : Value → World → Prop) (w : World) : Prop :=
  Branch (Value.bool false) (
    PRun Try.prog (convert 74 84 a0) fun v4 =>
    CallF Try.prog 46 #[v4] w fun v5 w1 =>
    K v5 w1
  ) (
    CallF Try.prog 47 #[a0] w fun v7 w2 =>
    K v7 w2
  )
def H37 : Hints := { n := 8, reg := [(0, ⟨[.p], [0]⟩), (1, ⟨[.p, .p, .e, .p], [0, 1, 3, 7]⟩), (2, ⟨[.p, .e, .p], [0, 1, 3]⟩)], loop := [], join := [] }
noncomputable def C37 : Code := Try.f37.body.getD .skip
theorem E37 (a0 : Value) (K : Value → World → Prop) (w : World) : F37 a0 K w = lift Try.prog H37 C37 (envOf [a0] 0) w (fun E w => resV Try.prog H37.n E Try.f37.results.toList w fun vs => K (retV vs) w) [] (fun E w => resV Try.prog H37.n E Try.f37.results.toList w fun vs => K (retV vs) w) := by kernel_rfl
theorem R37 : regOk H37 C37 = true := by kernel_rfl
theorem B37 : Try.f37.body = some C37 := by kernel_rfl
theorem F37_ok (a0 : Value) (K : Value → World → Prop) (w : World) (h : F37 a0 K w) : Calls Try.prog 37 #[a0] w (retK K) :=
  lift_call mixed Try.func37 B37 Try.ntmps37 R37 (Nat.le_of_ble_eq_true rfl) (Eq.mp (E37 a0 K w) h)
noncomputable def big47 : ByteArray := (bigOf (Try.f47.body.getD .skip)).getD .empty
/-- math/bits.Len64 -/
def F47 (a0 : Value) (K : Value → World → Prop) (w : World) : Prop :=
  LetJ 2 (fun k1 =>
    PRun Try.prog (binOp .geq 86 a0 (Value.int .u64 4294967296)) fun v4 =>
    Branch v4 (
      PRun Try.prog (binOp .shr 86 a0 (Value.int .u64 32)) fun v6 =>
      k1 v6 (Value.int .i64 32) w
    ) (
      k1 a0 (Value.int .i64 0) w
    )
  ) fun v0_2 v2_3 w1 => ∀ _ : Env,
  LetJ 2 (fun k2 =>
    PRun Try.prog (binOp .geq 86 v0_2 (Value.int .u64 65536)) fun v8 =>
    Branch v8 (
      PRun Try.prog (binOp .shr 86 v0_2 (Value.int .u64 16)) fun v10 =>
      PRun Try.prog (binOp .add 3 v2_3 (Value.int .i64 16)) fun v12 =>
      k2 v10 v12 w1
    ) (
      k2 v0_2 v2_3 w1
    )
  ) fun v0_4 v2_5 w2 => ∀ _ : Env,
  LetJ 2 (fun k3 =>
    PRun Try.prog (binOp .geq 86 v0_4 (Value.int .u64 256)) fun v14 =>
    Branch v14 (
      PRun Try.prog (binOp .shr 86 v0_4 (Value.int .u64 8)) fun v16 =>
      PRun Try.prog (binOp .add 3 v2_5 (Value.int .i64 8)) fun v18 =>
      k3 v16 v18 w2
    ) (
      k3 v0_4 v2_5 w2
    )
  ) fun v0_6 v2_7 w3 => ∀ _ : Env,
  PRun Try.prog (convert 86 5 v0_6) fun v21 =>
  PRun Try.prog (Instr.index 9 (Value.string big47) v21) fun v22 =>
  PRun Try.prog (convert 5 3 v22) fun v23 =>
  PRun Try.prog (binOp .add 3 v2_7 v23) fun v24 =>
  K v24 w3
def H47 : Hints := { n := 25, reg := [(0, ⟨[.p], [0]⟩), (1, ⟨[.p, .p], [0, 1]⟩), (2, ⟨[.p, .p, .p], [0, 1, 3]⟩), (3, ⟨[.p], [0]⟩), (4, ⟨[.p, .p], [0, 1]⟩), (5, ⟨[.p, .p, .p], [0, 1, 3]⟩), (6, ⟨[.p, .p, .p], [0, 1, 3]⟩), (7, ⟨[.p, .p], [0, 1]⟩), (8, ⟨[.p, .p, .p], [0, 1, 3]⟩), (9, ⟨[.p, .p, .p], [0, 1, 3]⟩), (10, ⟨[.p, .p, .p, .p, .p, .p, .p], [0, 0, 2, 6, 14, 31, 63]⟩)], loop := [], join := [(10, [0, 2]), (18, [0, 2]), (30, [0, 2])] }
noncomputable def C47 : Code := Try.f47.body.getD .skip
theorem E47 (a0 : Value) (K : Value → World → Prop) (w : World) : F47 a0 K w = lift Try.prog H47 C47 (envOf [a0] 0) w (fun E w => resV Try.prog H47.n E Try.f47.results.toList w fun vs => K (retV vs) w) [] (fun E w => resV Try.prog H47.n E Try.f47.results.toList w fun vs => K (retV vs) w) := by kernel_rfl
theorem R47 : regOk H47 C47 = true := by kernel_rfl
theorem B47 : Try.f47.body = some C47 := by kernel_rfl
theorem F47_ok (a0 : Value) (K : Value → World → Prop) (w : World) (h : F47 a0 K w) : Calls Try.prog 47 #[a0] w (retK K) :=
  lift_call mixed Try.func47 B47 Try.ntmps47 R47 (Nat.le_of_ble_eq_true rfl) (Eq.mp (E47 a0 K w) h)
end Go.Proofs
