/- Parts of the proof: S.F1. -/
import Derived.Test.YtjiadgfieekenaaL2
import Derived.Test.YtjiadgfieekenaaTy
set_option linter.unusedVariables false
set_option linter.unusedSimpArgs false
set_option linter.unusedSectionVars false
namespace Go.Proofs
open Go Go.Lf
set_option maxRecDepth 100000
/-- lattice/sha.Sum -/
def F22 (a0 : Value) (K : Value → World → Prop) (w : World) : Prop :=
  Run Try.prog (Instr.alloc 25 true (.tuple #[])) w fun v2 w1 =>
  CallF Try.prog 42 #[a0, (Value.slice none 0 0)] w1 fun v4 w2 =>
  Run Try.prog (Instr.storeAt 25 v2 v4) w2 fun _ w3 =>
  QRun Try.prog (Instr.loadAt 25 v2) w3 fun v2_2 =>
  K v2_2 w3
def H22 : Hints := { n := 5, reg := [(0, ⟨[.e], [0]⟩), (1, ⟨[.p, .e, .e], [0, 1, 3]⟩)], loop := [], join := [] }
noncomputable def C22 : Code := Try.f22.body.getD .skip
theorem E22 (a0 : Value) (K : Value → World → Prop) (w : World) : F22 a0 K w = lift Try.prog H22 C22 (envOf [a0] 0) w (fun E w => resV Try.prog H22.n E Try.f22.results.toList w fun vs => K (retV vs) w) [] (fun E w => resV Try.prog H22.n E Try.f22.results.toList w fun vs => K (retV vs) w) := by kernel_rfl
theorem R22 : regOk H22 C22 = true := by kernel_rfl
theorem B22 : Try.f22.body = some C22 := by kernel_rfl
theorem F22_ok (a0 : Value) (K : Value → World → Prop) (w : World) (h : F22 a0 K w) : Calls Try.prog 22 #[a0] w (retK K) :=
  lift_call mixed Try.func22 B22 Try.ntmps22 R22 (Nat.le_of_ble_eq_true rfl) (Eq.mp (E22 a0 K w) h)
def F42x1 (v12 : Value) (v79_2 : Value) (v82 : Value) (v83_2 : Value) (k4 : Value → World → Prop) (k5 : Value → World → Prop) (w18 : World) : Prop :=
  PRun Try.prog (binOp .lss 3 v83_2 (Value.int .i64 4)) fun v84 =>
  Branch v84 (
    PRun Try.prog (binOp .mul 3 (Value.int .i64 4) v79_2) fun v87 =>
    PRun Try.prog (binOp .add 3 v87 v83_2) fun v89 =>
    PRun Try.prog (binOp .mul 3 (Value.int .i64 8) v83_2) fun v92 =>
    PRun Try.prog (binOp .sub 3 (Value.int .i64 24) v92) fun v93 =>
    PRun Try.prog (binOp .shr 104 v82 v93) fun v94 =>
    PRun Try.prog (convert 104 5 v94) fun v95 =>
    PRun Try.prog (Instr.indexAt 25 v12 v89) fun v96 =>
    Run Try.prog (Instr.storeAt 5 v96 v95) w18 fun _ w19 =>
    PRun Try.prog (binOp .add 3 v83_2 (Value.int .i64 1)) fun v97 =>
    k5 v97 w19
  ) (
    PRun Try.prog (binOp .add 3 v79_2 (Value.int .i64 1)) fun v98 =>
    k4 v98 w18
  )
def F42x2 (v4 : Value) (v10 : Value) (w13 : World) (K : Value → World → Prop) : Prop :=
  Run Try.prog (Instr.alloc 25 true (.tuple #[])) w13 fun v12 w16 =>
  QRun Try.prog (Instr.loadAt 105 v10) w16 fun v78 =>
  LoopF 1 [(Value.int .i64 0)] w16 fun v79_2 w17 k4 => ∀ _ : Env,
  PRun Try.prog (binOp .lss 3 v79_2 (Value.int .i64 8)) fun v80 =>
  Branch v80 (
    PRun Try.prog (Instr.index 105 v78 v79_2) fun v82 =>
    LoopF 1 [(Value.int .i64 0)] w17 fun v83_2 w18 k5 => ∀ _ : Env,
    F42x1 v12 v79_2 v82 v83_2 k4 k5 w18
  ) (
    QRun Try.prog (Instr.loadAt 25 v12) w17 fun v99 =>
    Run Try.prog (Instr.storeAt 25 v4 v99) w17 fun _ w20 =>
    QRun Try.prog (Instr.loadAt 25 v4) w20 fun v4_2 =>
    K v4_2 w20
  )
def F42x3 (v4 : Value) (v7_4 : Value) (v10 : Value) (v11_2 : Value) (k3 : Value → World → Prop) (w13 : World) (K : Value → World → Prop) : Prop :=
  PRun Try.prog (Builtin.len_ #[30] 3 #[v7_4]) fun v67 =>
  PRun Try.prog (binOp .lss 3 v11_2 v67) fun v68 =>
  Branch v68 (
    QRun Try.prog (Instr.loadAt 105 v10) w13.drew fun v71 =>
    PRun Try.prog (binOp .add 3 v11_2 (Value.int .i64 64)) fun v75 =>
    PRun Try.prog (Instr.sliceAt 30 v7_4 (some v11_2) (some v75) none) fun v76 =>
    CallF Try.prog 64 #[v71, v76] w13.drew fun v77 w14 =>
    Run Try.prog (Instr.storeAt 105 v10 v77) w14 fun _ w15 =>
    PRun Try.prog (binOp .add 3 v11_2 (Value.int .i64 64)) fun v70 =>
    k3 v70 w15
  ) (
    F42x2 v4 v10 w13 K
  )
def F42x4 (v7_4 : Value) (v20 : Value) (v46_2 : Value) (k2 : Value → World → Prop) (w8 : World) : Prop :=
  PRun Try.prog (Builtin.len_ #[30] 3 #[v7_4]) fun v51 =>
  PRun Try.prog (binOp .sub 3 v51 (Value.int .i64 1)) fun v52 =>
  PRun Try.prog (binOp .sub 3 v52 v46_2) fun v54 =>
  PRun Try.prog (convert 3 103 v20) fun v56 =>
  PRun Try.prog (binOp .mul 103 v56 (Value.int .u64 8)) fun v57 =>
  PRun Try.prog (binOp .mul 3 (Value.int .i64 8) v46_2) fun v59 =>
  PRun Try.prog (binOp .shr 103 v57 v59) fun v60 =>
  PRun Try.prog (convert 103 5 v60) fun v61 =>
  PRun Try.prog (Instr.indexAt 30 v7_4 v54) fun v62 =>
  Run Try.prog (Instr.storeAt 5 v62 v61) w8 fun _ w9 =>
  PRun Try.prog (binOp .add 3 v46_2 (Value.int .i64 1)) fun v63 =>
  k2 v63 w9
def F42x5 (v20 : Value) (v21 : Value) (k1 : Value → World → Prop) (w2 : World) : Prop :=
  PRun Try.prog (binOp .add 3 v20 (Value.int .i64 8)) fun v23 =>
  PRun Try.prog (binOp .quo 3 v23 (Value.int .i64 64)) fun v24 =>
  PRun Try.prog (binOp .mul 3 v24 (Value.int .i64 64)) fun v25 =>
  PRun Try.prog (binOp .add 3 v25 (Value.int .i64 64)) fun v26 =>
  PRun Try.prog (Builtin.len_ #[30] 3 #[v21]) fun v29 =>
  PRun Try.prog (binOp .leq 3 v26 v29) fun v30 =>
  Branch v30 (
    PRun Try.prog (Instr.sliceAt 30 v21 none (some v26) none) fun v33 =>
    k1 v33 w2
  ) (
    Run Try.prog (Instr.makeSlice 30 v26 v26) w2 fun v35 w3 =>
    k1 v35 w3
  )
def F42x6 (a0 : Value) (a1 : Value) (v4 : Value) (v7_4 : Value) (v20 : Value) (w4 : World) (K : Value → World → Prop) : Prop :=
  Run Try.prog (Builtin.copy_ #[30, 30] 3 #[v7_4, a0]) w4 fun v39 w5 =>
  PRun Try.prog (Instr.sliceAt 30 v7_4 (some v39) none none) fun v40 =>
  Run Try.prog (Builtin.copy_ #[30, 30] 3 #[v40, a1]) w5 fun v42 w6 =>
  PRun Try.prog (Instr.indexAt 30 v7_4 v20) fun v45 =>
  Run Try.prog (Instr.storeAt 5 v45 (Value.int .u8 128)) w6 fun _ w7 =>
  LoopF 1 [(Value.int .i64 0)] w7 fun v46_2 w8 k2 => ∀ _ : Env,
  PRun Try.prog (binOp .lss 3 v46_2 (Value.int .i64 8)) fun v47 =>
  Branch v47 (
    F42x4 v7_4 v20 v46_2 k2 w8
  ) (
    CallF Try.prog 63 #[] w8 fun v64 w10 =>
    Run Try.prog (Instr.alloc 105 true (.tuple #[])) w10 fun v10 w11 =>
    Run Try.prog (Instr.storeAt 105 v10 v64) w11 fun _ w12 =>
    LoopF 1 [(Value.int .i64 0)] w12 fun v11_2 w13 k3 => ∀ _ : Env,
    F42x3 v4 v7_4 v10 v11_2 k3 w13 K
  )
/-- lattice/sha.Pair -/
def F42 (a0 : Value) (a1 : Value) (K : Value → World → Prop) (w : World) : Prop :=
  Run Try.prog (Instr.alloc 25 true (.tuple #[])) w fun v4 w1 =>
  PRun Try.prog (Builtin.len_ #[30] 3 #[a0]) fun v17 =>
  PRun Try.prog (Builtin.len_ #[30] 3 #[a1]) fun v19 =>
  PRun Try.prog (binOp .add 3 v17 v19) fun v20 =>
  Run Try.prog (Instr.alloc 102 true (.tuple #[])) w1 fun v6 w2 =>
  PRun Try.prog (Instr.sliceAt 102 v6 none none none) fun v21 =>
  LetJ 1 (fun k1 =>
    F42x5 v20 v21 k1 w2
  ) fun v7_4 w4 => ∀ _ : Env,
  F42x6 a0 a1 v4 v7_4 v20 w4 K
def H42 : Hints := { n := 100, reg := [(0, ⟨[.e], [0]⟩), (1, ⟨[.p, .p, .p, .p, .p, .p], [0, 1, 0, 4, 15, 31]⟩), (2, ⟨[.e], [0]⟩), (3, ⟨[.p, .p], [0, 1]⟩), (4, ⟨[.p, .p, .p, .p, .p, .p], [0, 1, 3, 7, 15, 31]⟩), (5, ⟨[.p, .p, .p, .p], [0, 0, 2, 7]⟩), (6, ⟨[.p, .p, .p, .p], [0, 0, 3, 7]⟩), (7, ⟨[.p, .e, .p], [0, 1, 3]⟩), (8, ⟨[.p, .p, .p, .e, .p, .p, .e], [0, 0, 0, 6, 15, 0, 63]⟩), (9, ⟨[.p, .p, .p, .e], [0, 0, 3, 7]⟩), (10, ⟨[.p], [0]⟩), (11, ⟨[.p], [0]⟩), (12, ⟨[.p, .p], [0, 1]⟩), (13, ⟨[.p, .p, .p, .p, .p, .p, .p, .p, .p, .p, .p, .p, .p, .p, .e], [0, 0, 2, 6, 0, 30, 0, 64, 192, 0, 512, 1984, 4032, 8191, 16383]⟩), (14, ⟨[.p, .p], [0, 1]⟩), (15, ⟨[.e, .e, .e], [0, 0, 3]⟩), (16, ⟨[.p], [0]⟩), (17, ⟨[.p, .p, .p, .p], [0, 0, 2, 7]⟩), (19, ⟨[.q, .p, .p, .p, .p, .p, .e, .e], [0, 0, 0, 0, 8, 30, 63, 127]⟩), (18, ⟨[.p, .p, .p], [0, 1, 3]⟩), (20, ⟨[.e], [0]⟩), (21, ⟨[.q, .p], [0, 0]⟩), (22, ⟨[.p], [0]⟩), (23, ⟨[.p, .p, .p, .p], [0, 0, 3, 7]⟩), (24, ⟨[.p], [0]⟩), (25, ⟨[.p], [0]⟩), (26, ⟨[.p, .p], [0, 1]⟩), (27, ⟨[.p, .p, .p, .p, .p, .p, .p, .p, .p, .p, .p, .e], [0, 1, 0, 7, 0, 0, 32, 96, 240, 496, 1023, 2047]⟩), (28, ⟨[.p, .p], [0, 1]⟩), (29, ⟨[.p, .p], [0, 1]⟩), (30, ⟨[.q, .e], [0, 1]⟩)], loop := [(11, [46]), (17, [11]), (22, [79]), (25, [83])], join := [(62, [7])] }
noncomputable def C42 : Code := Try.f42.body.getD .skip
theorem E42 (a0 : Value) (a1 : Value) (K : Value → World → Prop) (w : World) : F42 a0 a1 K w = lift Try.prog H42 C42 (envOf [a0, a1] 0) w (fun E w => resV Try.prog H42.n E Try.f42.results.toList w fun vs => K (retV vs) w) [] (fun E w => resV Try.prog H42.n E Try.f42.results.toList w fun vs => K (retV vs) w) := by kernel_rfl
theorem R42 : regOk H42 C42 = true := by kernel_rfl
theorem B42 : Try.f42.body = some C42 := by kernel_rfl
theorem F42_ok (a0 : Value) (a1 : Value) (K : Value → World → Prop) (w : World) (h : F42 a0 a1 K w) : Calls Try.prog 42 #[a0, a1] w (retK K) :=
  lift_call mixed Try.func42 B42 Try.ntmps42 R42 (Nat.le_of_ble_eq_true rfl) (Eq.mp (E42 a0 a1 K w) h)
/-- lattice/sha.begin -/
def F63 (K : Value → World → Prop) (w : World) : Prop :=
  Run Try.prog (Instr.alloc 105 true (.tuple #[])) w fun v0 w1 =>
  PRun Try.prog (Instr.build 105 #[(0, (Value.int .u32 1779033703)), (1, (Value.int .u32 3144134277)), (2, (Value.int .u32 1013904242)), (3, (Value.int .u32 2773480762)), (4, (Value.int .u32 1359893119)), (5, (Value.int .u32 2600822924)), (6, (Value.int .u32 528734635)), (7, (Value.int .u32 1541459225))]) fun v1 =>
  Run Try.prog (Instr.storeAt 105 v0 v1) w1 fun _ w2 =>
  QRun Try.prog (Instr.loadAt 105 v0) w2 fun v0_2 =>
  K v0_2 w2
def H63 : Hints := { n := 2, reg := [(0, ⟨[.e], [0]⟩), (1, ⟨[.p, .e], [0, 1]⟩)], loop := [], join := [] }
noncomputable def C63 : Code := Try.f63.body.getD .skip
theorem E63 (K : Value → World → Prop) (w : World) : F63  K w = lift Try.prog H63 C63 (envOf [] 0) w (fun E w => resV Try.prog H63.n E Try.f63.results.toList w fun vs => K (retV vs) w) [] (fun E w => resV Try.prog H63.n E Try.f63.results.toList w fun vs => K (retV vs) w) := by kernel_rfl
theorem R63 : regOk H63 C63 = true := by kernel_rfl
theorem B63 : Try.f63.body = some C63 := by kernel_rfl
theorem F63_ok (K : Value → World → Prop) (w : World) (h : F63  K w) : Calls Try.prog 63 #[] w (retK K) :=
  lift_call mixed Try.func63 B63 Try.ntmps63 R63 (Nat.le_of_ble_eq_true rfl) (Eq.mp (E63  K w) h)
def F64x1 (v8 : Value) (v9_2 : Value) (v10_2 : Value) (v11_2 : Value) (v12_2 : Value) (v13_2 : Value) (v14_2 : Value) (v15_2 : Value) (v16_2 : Value) (v106 : Value) (v107_2 : Value) (k3 : Value → Value → Value → Value → Value → Value → Value → Value → Value → World → Prop) (w13 : World) : Prop :=
  PRun Try.prog (Instr.index 111 v106 v107_2) fun v110 =>
  PRun Try.prog (binOp .and 104 v13_2 v14_2) fun v117 =>
  PRun Try.prog (Op.unary .xor v13_2) fun v119 =>
  PRun Try.prog (binOp .and 104 v119 v15_2) fun v121 =>
  PRun Try.prog (binOp .xor 104 v117 v121) fun v122 =>
  PRun Try.prog (Instr.indexAt 111 v8 v107_2) fun v125 =>
  QRun Try.prog (Instr.loadAt 104 v125) w13.drew fun v126 =>
  CallF Try.prog 76 #[v13_2] w13.drew fun v113 w14 =>
  (QRun Try.prog (Instr.loadAt 104 v125) w14 fun u => u = v126) ∧
  PRun Try.prog (binOp .add 104 v16_2 v113) fun v114 =>
  PRun Try.prog (binOp .add 104 v114 v122) fun v123 =>
  PRun Try.prog (binOp .add 104 v123 v126) fun v127 =>
  PRun Try.prog (binOp .add 104 v127 v110) fun v129 =>
  CallF Try.prog 77 #[v9_2] w14 fun v131 w15 =>
  PRun Try.prog (binOp .and 104 v9_2 v10_2) fun v134 =>
  PRun Try.prog (binOp .and 104 v9_2 v11_2) fun v137 =>
  PRun Try.prog (binOp .xor 104 v134 v137) fun v138 =>
  PRun Try.prog (binOp .and 104 v10_2 v11_2) fun v141 =>
  PRun Try.prog (binOp .xor 104 v138 v141) fun v142 =>
  PRun Try.prog (binOp .add 104 v131 v142) fun v143 =>
  PRun Try.prog (binOp .add 104 v12_2 v129) fun v149 =>
  PRun Try.prog (binOp .add 104 v129 v143) fun v155 =>
  PRun Try.prog (binOp .add 3 v107_2 (Value.int .i64 1)) fun v156 =>
  k3 v155 v9_2 v10_2 v11_2 v149 v13_2 v14_2 v15_2 v156 w15
def F64x2 (v2 : Value) (v4 : Value) (v9_2 : Value) (v10_2 : Value) (v11_2 : Value) (v12_2 : Value) (v13_2 : Value) (v14_2 : Value) (v15_2 : Value) (v16_2 : Value) (w13 : World) (K : Value → World → Prop) : Prop :=
  PRun Try.prog (Instr.indexAt 105 v2 (Value.int .i64 0)) fun v157 =>
  QRun Try.prog (Instr.loadAt 104 v157) w13 fun v158 =>
  PRun Try.prog (binOp .add 104 v158 v9_2) fun v160 =>
  PRun Try.prog (Instr.indexAt 105 v2 (Value.int .i64 1)) fun v161 =>
  QRun Try.prog (Instr.loadAt 104 v161) w13 fun v162 =>
  PRun Try.prog (binOp .add 104 v162 v10_2) fun v164 =>
  PRun Try.prog (Instr.indexAt 105 v2 (Value.int .i64 2)) fun v165 =>
  QRun Try.prog (Instr.loadAt 104 v165) w13 fun v166 =>
  PRun Try.prog (binOp .add 104 v166 v11_2) fun v168 =>
  PRun Try.prog (Instr.indexAt 105 v2 (Value.int .i64 3)) fun v169 =>
  QRun Try.prog (Instr.loadAt 104 v169) w13 fun v170 =>
  PRun Try.prog (binOp .add 104 v170 v12_2) fun v172 =>
  PRun Try.prog (Instr.indexAt 105 v2 (Value.int .i64 4)) fun v173 =>
  QRun Try.prog (Instr.loadAt 104 v173) w13 fun v174 =>
  PRun Try.prog (binOp .add 104 v174 v13_2) fun v176 =>
  PRun Try.prog (Instr.indexAt 105 v2 (Value.int .i64 5)) fun v177 =>
  QRun Try.prog (Instr.loadAt 104 v177) w13 fun v178 =>
  PRun Try.prog (binOp .add 104 v178 v14_2) fun v180 =>
  PRun Try.prog (Instr.indexAt 105 v2 (Value.int .i64 6)) fun v181 =>
  QRun Try.prog (Instr.loadAt 104 v181) w13 fun v182 =>
  PRun Try.prog (binOp .add 104 v182 v15_2) fun v184 =>
  PRun Try.prog (Instr.indexAt 105 v2 (Value.int .i64 7)) fun v185 =>
  QRun Try.prog (Instr.loadAt 104 v185) w13 fun v186 =>
  PRun Try.prog (binOp .add 104 v186 v16_2) fun v188 =>
  PRun Try.prog (Instr.build 105 #[(0, v160), (1, v164), (2, v168), (3, v172), (4, v176), (5, v180), (6, v184), (7, v188)]) fun v189 =>
  Run Try.prog (Instr.storeAt 105 v4 v189) w13 fun _ w16 =>
  QRun Try.prog (Instr.loadAt 105 v4) w16 fun v4_2 =>
  K v4_2 w16
def F64x3 (v5 : Value) (v7_2 : Value) (k2 : Value → World → Prop) (w6 : World) : Prop :=
  PRun Try.prog (binOp .sub 3 v7_2 (Value.int .i64 2)) fun v68 =>
  PRun Try.prog (Instr.indexAt 111 v5 v68) fun v69 =>
  QRun Try.prog (Instr.loadAt 104 v69) w6.drew fun v70 =>
  PRun Try.prog (binOp .sub 3 v7_2 (Value.int .i64 7)) fun v73 =>
  PRun Try.prog (Instr.indexAt 111 v5 v73) fun v74 =>
  QRun Try.prog (Instr.loadAt 104 v74) w6.drew fun v75 =>
  PRun Try.prog (binOp .sub 3 v7_2 (Value.int .i64 15)) fun v78 =>
  PRun Try.prog (Instr.indexAt 111 v5 v78) fun v79 =>
  QRun Try.prog (Instr.loadAt 104 v79) w6.drew fun v80 =>
  PRun Try.prog (binOp .sub 3 v7_2 (Value.int .i64 16)) fun v84 =>
  PRun Try.prog (Instr.indexAt 111 v5 v84) fun v85 =>
  QRun Try.prog (Instr.loadAt 104 v85) w6.drew fun v86 =>
  CallF Try.prog 73 #[v70] w6.drew fun v71 w7 =>
  (QRun Try.prog (Instr.loadAt 104 v85) w7 fun u => u = v86) ∧
  (QRun Try.prog (Instr.loadAt 104 v79) w7 fun u => u = v80) ∧
  (QRun Try.prog (Instr.loadAt 104 v74) w7 fun u => u = v75) ∧
  PRun Try.prog (binOp .add 104 v71 v75) fun v76 =>
  CallF Try.prog 74 #[v80] w7 fun v81 w8 =>
  (QRun Try.prog (Instr.loadAt 104 v85) w8 fun u => u = v86) ∧
  (QRun Try.prog (Instr.loadAt 104 v74) w8 fun u => u = v75) ∧
  PRun Try.prog (binOp .add 104 v76 v81) fun v82 =>
  PRun Try.prog (binOp .add 104 v82 v86) fun v87 =>
  PRun Try.prog (Instr.indexAt 111 v5 v7_2) fun v88 =>
  Run Try.prog (Instr.storeAt 104 v88 v87) w8 fun _ w9 =>
  PRun Try.prog (binOp .add 3 v7_2 (Value.int .i64 1)) fun v65 =>
  k2 v65 w9
def F64x4 (v2 : Value) (v4 : Value) (v5 : Value) (w6 : World) (K : Value → World → Prop) : Prop :=
  CallF Try.prog 75 #[] w6 fun v89 w10 =>
  Run Try.prog (Instr.alloc 111 true (.tuple #[])) w10 fun v8 w11 =>
  Run Try.prog (Instr.storeAt 111 v8 v89) w11 fun _ w12 =>
  PRun Try.prog (Instr.indexAt 105 v2 (Value.int .i64 0)) fun v90 =>
  QRun Try.prog (Instr.loadAt 104 v90) w12.drew fun v91 =>
  PRun Try.prog (Instr.indexAt 105 v2 (Value.int .i64 1)) fun v92 =>
  QRun Try.prog (Instr.loadAt 104 v92) w12.drew fun v93 =>
  PRun Try.prog (Instr.indexAt 105 v2 (Value.int .i64 2)) fun v94 =>
  QRun Try.prog (Instr.loadAt 104 v94) w12.drew fun v95 =>
  PRun Try.prog (Instr.indexAt 105 v2 (Value.int .i64 3)) fun v96 =>
  QRun Try.prog (Instr.loadAt 104 v96) w12.drew fun v97 =>
  PRun Try.prog (Instr.indexAt 105 v2 (Value.int .i64 4)) fun v98 =>
  QRun Try.prog (Instr.loadAt 104 v98) w12.drew fun v99 =>
  PRun Try.prog (Instr.indexAt 105 v2 (Value.int .i64 5)) fun v100 =>
  QRun Try.prog (Instr.loadAt 104 v100) w12.drew fun v101 =>
  PRun Try.prog (Instr.indexAt 105 v2 (Value.int .i64 6)) fun v102 =>
  QRun Try.prog (Instr.loadAt 104 v102) w12.drew fun v103 =>
  PRun Try.prog (Instr.indexAt 105 v2 (Value.int .i64 7)) fun v104 =>
  QRun Try.prog (Instr.loadAt 104 v104) w12.drew fun v105 =>
  QRun Try.prog (Instr.loadAt 111 v5) w12.drew fun v106 =>
  LoopF 9 [v91, v93, v95, v97, v99, v101, v103, v105, (Value.int .i64 0)] w12.drew fun v9_2 v10_2 v11_2 v12_2 v13_2 v14_2 v15_2 v16_2 v107_2 w13 k3 => ∀ _ : Env,
  PRun Try.prog (binOp .lss 3 v107_2 (Value.int .i64 64)) fun v108 =>
  Branch v108 (
    F64x1 v8 v9_2 v10_2 v11_2 v12_2 v13_2 v14_2 v15_2 v16_2 v106 v107_2 k3 w13
  ) (
    F64x2 v2 v4 v9_2 v10_2 v11_2 v12_2 v13_2 v14_2 v15_2 v16_2 w13 K
  )
def F64x5 (a1 : Value) (v5 : Value) (v23_2 : Value) (k1 : Value → World → Prop) (w4 : World) : Prop :=
  PRun Try.prog (binOp .mul 3 (Value.int .i64 4) v23_2) fun v29 =>
  PRun Try.prog (Instr.indexAt 30 a1 v29) fun v30 =>
  QRun Try.prog (Instr.loadAt 5 v30) w4.drew fun v31 =>
  PRun Try.prog (convert 5 104 v31) fun v32 =>
  PRun Try.prog (binOp .shl 104 v32 (Value.int .u64 24)) fun v33 =>
  PRun Try.prog (binOp .mul 3 (Value.int .i64 4) v23_2) fun v36 =>
  PRun Try.prog (binOp .add 3 v36 (Value.int .i64 1)) fun v37 =>
  PRun Try.prog (Instr.indexAt 30 a1 v37) fun v38 =>
  QRun Try.prog (Instr.loadAt 5 v38) w4.drew fun v39 =>
  PRun Try.prog (convert 5 104 v39) fun v40 =>
  PRun Try.prog (binOp .shl 104 v40 (Value.int .u64 16)) fun v41 =>
  PRun Try.prog (binOp .or 104 v33 v41) fun v42 =>
  PRun Try.prog (binOp .mul 3 (Value.int .i64 4) v23_2) fun v45 =>
  PRun Try.prog (binOp .add 3 v45 (Value.int .i64 2)) fun v46 =>
  PRun Try.prog (Instr.indexAt 30 a1 v46) fun v47 =>
  QRun Try.prog (Instr.loadAt 5 v47) w4.drew fun v48 =>
  PRun Try.prog (convert 5 104 v48) fun v49 =>
  PRun Try.prog (binOp .shl 104 v49 (Value.int .u64 8)) fun v50 =>
  PRun Try.prog (binOp .or 104 v42 v50) fun v51 =>
  PRun Try.prog (binOp .mul 3 (Value.int .i64 4) v23_2) fun v54 =>
  PRun Try.prog (binOp .add 3 v54 (Value.int .i64 3)) fun v55 =>
  PRun Try.prog (Instr.indexAt 30 a1 v55) fun v56 =>
  QRun Try.prog (Instr.loadAt 5 v56) w4.drew fun v57 =>
  PRun Try.prog (convert 5 104 v57) fun v58 =>
  PRun Try.prog (binOp .or 104 v51 v58) fun v59 =>
  PRun Try.prog (Instr.indexAt 111 v5 v23_2) fun v60 =>
  Run Try.prog (Instr.storeAt 104 v60 v59) w4.drew fun _ w5 =>
  PRun Try.prog (binOp .add 3 v23_2 (Value.int .i64 1)) fun v61 =>
  k1 v61 w5
def F64x6 (a1 : Value) (v2 : Value) (v4 : Value) (v5 : Value) (v22 : Value) (v23_2 : Value) (k1 : Value → World → Prop) (w4 : World) (K : Value → World → Prop) : Prop :=
  PRun Try.prog (binOp .lss 3 v23_2 v22) fun v24 =>
  Branch v24 (
    F64x5 a1 v5 v23_2 k1 w4
  ) (
    LoopF 1 [(Value.int .i64 16)] w4 fun v7_2 w6 k2 => ∀ _ : Env,
    PRun Try.prog (binOp .lss 3 v7_2 (Value.int .i64 64)) fun v63 =>
    Branch v63 (
      F64x3 v5 v7_2 k2 w6
    ) (
      F64x4 v2 v4 v5 w6 K
    )
  )
/-- lattice/sha.mix -/
def F64 (a0 : Value) (a1 : Value) (K : Value → World → Prop) (w : World) : Prop :=
  Run Try.prog (Instr.box 105 a0) w fun v2 w1 =>
  Run Try.prog (Instr.alloc 105 true (.tuple #[])) w1 fun v4 w2 =>
  Run Try.prog (Instr.alloc 111 true (.tuple #[])) w2 fun v5 w3 =>
  PRun Try.prog (Instr.sliceAt 111 v5 none (some (Value.int .i64 16)) none) fun v21 =>
  PRun Try.prog (Builtin.len_ #[116] 3 #[v21]) fun v22 =>
  LoopF 1 [(Value.int .i64 0)] w3 fun v23_2 w4 k1 => ∀ _ : Env,
  F64x6 a1 v2 v4 v5 v22 v23_2 k1 w4 K
def H64 : Hints := { n := 190, reg := [(0, ⟨[.e, .e], [0, 0]⟩), (1, ⟨[.e], [0]⟩), (2, ⟨[.p, .p, .p], [0, 1, 0]⟩), (3, ⟨[.p], [0]⟩), (4, ⟨[.p, .p], [0, 1]⟩), (5, ⟨[.p, .p, .p, .p, .p, .q, .p, .p, .p, .p, .p, .p, .p, .q, .p, .p, .p, .p, .p, .p, .p, .p, .q, .p, .p, .p, .p, .p, .p, .p, .p, .q, .p, .p, .p, .e], [0, 0, 0, 4, 14, 30, 62, 126, 0, 0, 512, 1536, 3840, 7936, 16128, 32512, 65534, 0, 0, 262144, 786432, 1966080, 4063232, 8257536, 16646144, 33554430, 0, 0, 134217728, 402653184, 1006632960, 2080374784, 4227858432, 8589934590, 17179869183, 34359738367]⟩), (6, ⟨[.p, .p], [0, 1]⟩), (7, ⟨[.p], [0]⟩), (8, ⟨[.p, .p], [0, 1]⟩), (10, ⟨[.p, .p, .p, .p, .q, .e, .p, .p, .p, .q, .p, .p, .p, .p, .q, .e, .p, .p, .p, .p, .q, .p, .p, .e], [0, 0, 2, 6, 14, 30, 0, 64, 192, 448, 1022, 0, 2048, 6144, 14336, 30782, 65534, 0, 131072, 393216, 917504, 2097150, 4194303, 8388607]⟩), (9, ⟨[.p, .p, .p], [0, 1, 3]⟩), (11, ⟨[.e, .e, .e], [0, 0, 3]⟩), (12, ⟨[.p, .q, .p, .q, .p, .q, .p, .q, .p, .q, .p, .q, .p, .q, .p, .q, .p, .p, .p, .p, .p, .p, .p, .p], [0, 1, 0, 4, 0, 16, 0, 64, 0, 256, 0, 1024, 0, 4096, 0, 16384, 3, 65551, 196671, 459007, 984063, 2035711, 4145151, 8388607]⟩), (13, ⟨[.q, .p], [0, 0]⟩), (14, ⟨[.p], [0]⟩), (15, ⟨[.p, .p, .p, .p], [0, 0, 3, 7]⟩), (16, ⟨[.p, .p, .e, .p, .p, .p, .p, .p, .p, .p, .p, .p, .p, .p, .p, .q, .p, .p, .p, .p], [0, 0, 2, 7, 0, 0, 48, 0, 128, 0, 896, 2032, 4095, 0, 8192, 24576, 65535, 0, 262143, 524287]⟩), (17, ⟨[.p, .e, .p, .p, .p, .p, .p, .p, .p, .p, .p, .p, .p, .p, .p], [0, 1, 0, 0, 12, 0, 0, 96, 252, 0, 0, 1536, 4092, 8191, 16383]⟩), (18, ⟨[.p, .p, .p, .p, .p, .p, .p, .p, .p, .p], [0, 0, 0, 0, 0, 24, 1, 67, 199, 511]⟩), (19, ⟨[.p, .p, .p, .p, .p, .p, .p, .p, .p, .p], [0, 0, 0, 0, 0, 24, 1, 67, 199, 511]⟩), (20, ⟨[.p, .p], [0, 1]⟩), (21, ⟨[.p, .q, .p, .p, .p, .q, .p, .p, .p, .q, .p, .p, .p, .q, .p, .p, .p, .q, .p, .p, .p, .q, .p, .p, .p, .q, .p, .p, .p, .q, .p, .p, .p, .e], [0, 1, 0, 7, 0, 16, 0, 112, 0, 256, 0, 1792, 0, 4096, 0, 28672, 0, 65536, 0, 458752, 0, 1048576, 0, 7340032, 0, 16777216, 0, 117440512, 0, 268435456, 0, 1879048192, 4294967295, 8589934591]⟩)], loop := [(3, [23]), (8, [7]), (14, [9, 10, 11, 12, 13, 14, 15, 16, 107])], join := [] }
noncomputable def C64 : Code := Try.f64.body.getD .skip
theorem E64 (a0 : Value) (a1 : Value) (K : Value → World → Prop) (w : World) : F64 a0 a1 K w = lift Try.prog H64 C64 (envOf [a0, a1] 0) w (fun E w => resV Try.prog H64.n E Try.f64.results.toList w fun vs => K (retV vs) w) [] (fun E w => resV Try.prog H64.n E Try.f64.results.toList w fun vs => K (retV vs) w) := by kernel_rfl
theorem R64 : regOk H64 C64 = true := by kernel_rfl
theorem B64 : Try.f64.body = some C64 := by kernel_rfl
theorem F64_ok (a0 : Value) (a1 : Value) (K : Value → World → Prop) (w : World) (h : F64 a0 a1 K w) : Calls Try.prog 64 #[a0, a1] w (retK K) :=
  lift_call mixed Try.func64 B64 Try.ntmps64 R64 (Nat.le_of_ble_eq_true rfl) (Eq.mp (E64 a0 a1 K w) h)
/-- lattice/sha.small1 -/
def F73 (a0 : Value) (K : Value → World → Prop) (w : World) : Prop :=
  CallF Try.prog 88 #[a0, (Value.int .i64 (-17))] w fun v4 w1 =>
  CallF Try.prog 88 #[a0, (Value.int .i64 (-19))] w1 fun v6 w2 =>
  PRun Try.prog (binOp .xor 104 v4 v6) fun v7 =>
  PRun Try.prog (binOp .shr 104 a0 (Value.int .u64 10)) fun v9 =>
  PRun Try.prog (binOp .xor 104 v7 v9) fun v10 =>
  K v10 w2
def H73 : Hints := { n := 11, reg := [(0, ⟨[.p], [0]⟩), (1, ⟨[.p, .e, .p, .e, .p, .p, .p, .p, .p], [0, 1, 0, 7, 15, 0, 32, 127, 255]⟩)], loop := [], join := [] }
noncomputable def C73 : Code := Try.f73.body.getD .skip
theorem E73 (a0 : Value) (K : Value → World → Prop) (w : World) : F73 a0 K w = lift Try.prog H73 C73 (envOf [a0] 0) w (fun E w => resV Try.prog H73.n E Try.f73.results.toList w fun vs => K (retV vs) w) [] (fun E w => resV Try.prog H73.n E Try.f73.results.toList w fun vs => K (retV vs) w) := by kernel_rfl
theorem R73 : regOk H73 C73 = true := by kernel_rfl
theorem B73 : Try.f73.body = some C73 := by kernel_rfl
theorem F73_ok (a0 : Value) (K : Value → World → Prop) (w : World) (h : F73 a0 K w) : Calls Try.prog 73 #[a0] w (retK K) :=
  lift_call mixed Try.func73 B73 Try.ntmps73 R73 (Nat.le_of_ble_eq_true rfl) (Eq.mp (E73 a0 K w) h)
/-- lattice/sha.small0 -/
def F74 (a0 : Value) (K : Value → World → Prop) (w : World) : Prop :=
  CallF Try.prog 88 #[a0, (Value.int .i64 (-7))] w fun v4 w1 =>
  CallF Try.prog 88 #[a0, (Value.int .i64 (-18))] w1 fun v6 w2 =>
  PRun Try.prog (binOp .xor 104 v4 v6) fun v7 =>
  PRun Try.prog (binOp .shr 104 a0 (Value.int .u64 3)) fun v9 =>
  PRun Try.prog (binOp .xor 104 v7 v9) fun v10 =>
  K v10 w2
def H74 : Hints := { n := 11, reg := [(0, ⟨[.p], [0]⟩), (1, ⟨[.p, .e, .p, .e, .p, .p, .p, .p, .p], [0, 1, 0, 7, 15, 0, 32, 127, 255]⟩)], loop := [], join := [] }
noncomputable def C74 : Code := Try.f74.body.getD .skip
theorem E74 (a0 : Value) (K : Value → World → Prop) (w : World) : F74 a0 K w = lift Try.prog H74 C74 (envOf [a0] 0) w (fun E w => resV Try.prog H74.n E Try.f74.results.toList w fun vs => K (retV vs) w) [] (fun E w => resV Try.prog H74.n E Try.f74.results.toList w fun vs => K (retV vs) w) := by kernel_rfl
theorem R74 : regOk H74 C74 = true := by kernel_rfl
theorem B74 : Try.f74.body = some C74 := by kernel_rfl
theorem F74_ok (a0 : Value) (K : Value → World → Prop) (w : World) (h : F74 a0 K w) : Calls Try.prog 74 #[a0] w (retK K) :=
  lift_call mixed Try.func74 B74 Try.ntmps74 R74 (Nat.le_of_ble_eq_true rfl) (Eq.mp (E74 a0 K w) h)
/-- lattice/sha.consts -/
def F75 (K : Value → World → Prop) (w : World) : Prop :=
  Run Try.prog (Instr.alloc 111 true (.tuple #[])) w fun v0 w1 =>
  PRun Try.prog (Instr.build 111 #[(0, (Value.int .u32 1116352408)), (1, (Value.int .u32 1899447441)), (2, (Value.int .u32 3049323471)), (3, (Value.int .u32 3921009573)), (4, (Value.int .u32 961987163)), (5, (Value.int .u32 1508970993)), (6, (Value.int .u32 2453635748)), (7, (Value.int .u32 2870763221)), (8, (Value.int .u32 3624381080)), (9, (Value.int .u32 310598401)), (10, (Value.int .u32 607225278)), (11, (Value.int .u32 1426881987)), (12, (Value.int .u32 1925078388)), (13, (Value.int .u32 2162078206)), (14, (Value.int .u32 2614888103)), (15, (Value.int .u32 3248222580)), (16, (Value.int .u32 3835390401)), (17, (Value.int .u32 4022224774)), (18, (Value.int .u32 264347078)), (19, (Value.int .u32 604807628)), (20, (Value.int .u32 770255983)), (21, (Value.int .u32 1249150122)), (22, (Value.int .u32 1555081692)), (23, (Value.int .u32 1996064986)), (24, (Value.int .u32 2554220882)), (25, (Value.int .u32 2821834349)), (26, (Value.int .u32 2952996808)), (27, (Value.int .u32 3210313671)), (28, (Value.int .u32 3336571891)), (29, (Value.int .u32 3584528711)), (30, (Value.int .u32 113926993)), (31, (Value.int .u32 338241895)), (32, (Value.int .u32 666307205)), (33, (Value.int .u32 773529912)), (34, (Value.int .u32 1294757372)), (35, (Value.int .u32 1396182291)), (36, (Value.int .u32 1695183700)), (37, (Value.int .u32 1986661051)), (38, (Value.int .u32 2177026350)), (39, (Value.int .u32 2456956037)), (40, (Value.int .u32 2730485921)), (41, (Value.int .u32 2820302411)), (42, (Value.int .u32 3259730800)), (43, (Value.int .u32 3345764771)), (44, (Value.int .u32 3516065817)), (45, (Value.int .u32 3600352804)), (46, (Value.int .u32 4094571909)), (47, (Value.int .u32 275423344)), (48, (Value.int .u32 430227734)), (49, (Value.int .u32 506948616)), (50, (Value.int .u32 659060556)), (51, (Value.int .u32 883997877)), (52, (Value.int .u32 958139571)), (53, (Value.int .u32 1322822218)), (54, (Value.int .u32 1537002063)), (55, (Value.int .u32 1747873779)), (56, (Value.int .u32 1955562222)), (57, (Value.int .u32 2024104815)), (58, (Value.int .u32 2227730452)), (59, (Value.int .u32 2361852424)), (60, (Value.int .u32 2428436474)), (61, (Value.int .u32 2756734187)), (62, (Value.int .u32 3204031479)), (63, (Value.int .u32 3329325298))]) fun v1 =>
  Run Try.prog (Instr.storeAt 111 v0 v1) w1 fun _ w2 =>
  QRun Try.prog (Instr.loadAt 111 v0) w2 fun v0_2 =>
  K v0_2 w2
def H75 : Hints := { n := 2, reg := [(0, ⟨[.e], [0]⟩), (1, ⟨[.p, .e], [0, 1]⟩)], loop := [], join := [] }
noncomputable def C75 : Code := Try.f75.body.getD .skip
theorem E75 (K : Value → World → Prop) (w : World) : F75  K w = lift Try.prog H75 C75 (envOf [] 0) w (fun E w => resV Try.prog H75.n E Try.f75.results.toList w fun vs => K (retV vs) w) [] (fun E w => resV Try.prog H75.n E Try.f75.results.toList w fun vs => K (retV vs) w) := by kernel_rfl
theorem R75 : regOk H75 C75 = true := by kernel_rfl
theorem B75 : Try.f75.body = some C75 := by kernel_rfl
theorem F75_ok (K : Value → World → Prop) (w : World) (h : F75  K w) : Calls Try.prog 75 #[] w (retK K) :=
  lift_call mixed Try.func75 B75 Try.ntmps75 R75 (Nat.le_of_ble_eq_true rfl) (Eq.mp (E75  K w) h)
/-- lattice/sha.great1 -/
def F76 (a0 : Value) (K : Value → World → Prop) (w : World) : Prop :=
  CallF Try.prog 88 #[a0, (Value.int .i64 (-6))] w fun v4 w1 =>
  CallF Try.prog 88 #[a0, (Value.int .i64 (-11))] w1 fun v6 w2 =>
  PRun Try.prog (binOp .xor 104 v4 v6) fun v7 =>
  CallF Try.prog 88 #[a0, (Value.int .i64 (-25))] w2 fun v9 w3 =>
  PRun Try.prog (binOp .xor 104 v7 v9) fun v10 =>
  K v10 w3
def H76 : Hints := { n := 11, reg := [(0, ⟨[.p], [0]⟩), (1, ⟨[.p, .e, .p, .e, .p, .p, .e, .p, .p], [0, 1, 0, 7, 15, 0, 47, 127, 255]⟩)], loop := [], join := [] }
noncomputable def C76 : Code := Try.f76.body.getD .skip
theorem E76 (a0 : Value) (K : Value → World → Prop) (w : World) : F76 a0 K w = lift Try.prog H76 C76 (envOf [a0] 0) w (fun E w => resV Try.prog H76.n E Try.f76.results.toList w fun vs => K (retV vs) w) [] (fun E w => resV Try.prog H76.n E Try.f76.results.toList w fun vs => K (retV vs) w) := by kernel_rfl
theorem R76 : regOk H76 C76 = true := by kernel_rfl
theorem B76 : Try.f76.body = some C76 := by kernel_rfl
theorem F76_ok (a0 : Value) (K : Value → World → Prop) (w : World) (h : F76 a0 K w) : Calls Try.prog 76 #[a0] w (retK K) :=
  lift_call mixed Try.func76 B76 Try.ntmps76 R76 (Nat.le_of_ble_eq_true rfl) (Eq.mp (E76 a0 K w) h)
/-- lattice/sha.great0 -/
def F77 (a0 : Value) (K : Value → World → Prop) (w : World) : Prop :=
  CallF Try.prog 88 #[a0, (Value.int .i64 (-2))] w fun v4 w1 =>
  CallF Try.prog 88 #[a0, (Value.int .i64 (-13))] w1 fun v6 w2 =>
  PRun Try.prog (binOp .xor 104 v4 v6) fun v7 =>
  CallF Try.prog 88 #[a0, (Value.int .i64 (-22))] w2 fun v9 w3 =>
  PRun Try.prog (binOp .xor 104 v7 v9) fun v10 =>
  K v10 w3
def H77 : Hints := { n := 11, reg := [(0, ⟨[.p], [0]⟩), (1, ⟨[.p, .e, .p, .e, .p, .p, .e, .p, .p], [0, 1, 0, 7, 15, 0, 47, 127, 255]⟩)], loop := [], join := [] }
noncomputable def C77 : Code := Try.f77.body.getD .skip
theorem E77 (a0 : Value) (K : Value → World → Prop) (w : World) : F77 a0 K w = lift Try.prog H77 C77 (envOf [a0] 0) w (fun E w => resV Try.prog H77.n E Try.f77.results.toList w fun vs => K (retV vs) w) [] (fun E w => resV Try.prog H77.n E Try.f77.results.toList w fun vs => K (retV vs) w) := by kernel_rfl
theorem R77 : regOk H77 C77 = true := by kernel_rfl
theorem B77 : Try.f77.body = some C77 := by kernel_rfl
theorem F77_ok (a0 : Value) (K : Value → World → Prop) (w : World) (h : F77 a0 K w) : Calls Try.prog 77 #[a0] w (retK K) :=
  lift_call mixed Try.func77 B77 Try.ntmps77 R77 (Nat.le_of_ble_eq_true rfl) (Eq.mp (E77 a0 K w) h)
/-- math/bits.RotateLeft32 -/
def F88 (a0 : Value) (a1 : Value) (K : Value → World → Prop) (w : World) : Prop :=
  PRun Try.prog (convert 3 69 a1) fun v7 =>
  PRun Try.prog (binOp .and 69 v7 (Value.int .u64 31)) fun v8 =>
  PRun Try.prog (binOp .shl 104 a0 v8) fun v11 =>
  PRun Try.prog (binOp .sub 69 (Value.int .u64 32) v8) fun v14 =>
  PRun Try.prog (binOp .shr 104 a0 v14) fun v15 =>
  PRun Try.prog (binOp .or 104 v11 v15) fun v16 =>
  K v16 w
def H88 : Hints := { n := 17, reg := [(0, ⟨[.p], [0]⟩), (1, ⟨[.p, .p, .p, .p], [0, 1, 3, 7]⟩), (2, ⟨[.p, .p, .p, .p, .p, .p, .p, .p, .p], [0, 0, 3, 0, 0, 16, 56, 127, 255]⟩)], loop := [], join := [] }
noncomputable def C88 : Code := Try.f88.body.getD .skip
theorem E88 (a0 : Value) (a1 : Value) (K : Value → World → Prop) (w : World) : F88 a0 a1 K w = lift Try.prog H88 C88 (envOf [a0, a1] 0) w (fun E w => resV Try.prog H88.n E Try.f88.results.toList w fun vs => K (retV vs) w) [] (fun E w => resV Try.prog H88.n E Try.f88.results.toList w fun vs => K (retV vs) w) := by kernel_rfl
theorem R88 : regOk H88 C88 = true := by kernel_rfl
theorem B88 : Try.f88.body = some C88 := by kernel_rfl
theorem F88_ok (a0 : Value) (a1 : Value) (K : Value → World → Prop) (w : World) (h : F88 a0 a1 K w) : Calls Try.prog 88 #[a0, a1] w (retK K) :=
  lift_call mixed Try.func88 B88 Try.ntmps88 R88 (Nat.le_of_ble_eq_true rfl) (Eq.mp (E88 a0 a1 K w) h)
/-- lattice/latticeref1.words -/
def F68 (K : Value → World → Prop) (w : World) : Prop :=
  Run Try.prog (Instr.alloc 111 true (.tuple #[])) w fun v0 w1 =>
  PRun Try.prog (Instr.build 111 #[(0, (Value.int .u32 1116352408)), (1, (Value.int .u32 1899447441)), (2, (Value.int .u32 3049323471)), (3, (Value.int .u32 3921009573)), (4, (Value.int .u32 961987163)), (5, (Value.int .u32 1508970993)), (6, (Value.int .u32 2453635748)), (7, (Value.int .u32 2870763221)), (8, (Value.int .u32 3624381080)), (9, (Value.int .u32 310598401)), (10, (Value.int .u32 607225278)), (11, (Value.int .u32 1426881987)), (12, (Value.int .u32 1925078388)), (13, (Value.int .u32 2162078206)), (14, (Value.int .u32 2614888103)), (15, (Value.int .u32 3248222580)), (16, (Value.int .u32 3835390401)), (17, (Value.int .u32 4022224774)), (18, (Value.int .u32 264347078)), (19, (Value.int .u32 604807628)), (20, (Value.int .u32 770255983)), (21, (Value.int .u32 1249150122)), (22, (Value.int .u32 1555081692)), (23, (Value.int .u32 1996064986)), (24, (Value.int .u32 2554220882)), (25, (Value.int .u32 2821834349)), (26, (Value.int .u32 2952996808)), (27, (Value.int .u32 3210313671)), (28, (Value.int .u32 3336571891)), (29, (Value.int .u32 3584528711)), (30, (Value.int .u32 113926993)), (31, (Value.int .u32 338241895)), (32, (Value.int .u32 666307205)), (33, (Value.int .u32 773529912)), (34, (Value.int .u32 1294757372)), (35, (Value.int .u32 1396182291)), (36, (Value.int .u32 1695183700)), (37, (Value.int .u32 1986661051)), (38, (Value.int .u32 2177026350)), (39, (Value.int .u32 2456956037)), (40, (Value.int .u32 2730485921)), (41, (Value.int .u32 2820302411)), (42, (Value.int .u32 3259730800)), (43, (Value.int .u32 3345764771)), (44, (Value.int .u32 3516065817)), (45, (Value.int .u32 3600352804)), (46, (Value.int .u32 4094571909)), (47, (Value.int .u32 275423344)), (48, (Value.int .u32 430227734)), (49, (Value.int .u32 506948616)), (50, (Value.int .u32 659060556)), (51, (Value.int .u32 883997877)), (52, (Value.int .u32 958139571)), (53, (Value.int .u32 1322822218)), (54, (Value.int .u32 1537002063)), (55, (Value.int .u32 1747873779)), (56, (Value.int .u32 1955562222)), (57, (Value.int .u32 2024104815)), (58, (Value.int .u32 2227730452)), (59, (Value.int .u32 2361852424)), (60, (Value.int .u32 2428436474)), (61, (Value.int .u32 2756734187)), (62, (Value.int .u32 3204031479)), (63, (Value.int .u32 3329325298))]) fun v1 =>
  Run Try.prog (Instr.storeAt 111 v0 v1) w1 fun _ w2 =>
  QRun Try.prog (Instr.loadAt 111 v0) w2 fun v0_2 =>
  K v0_2 w2
def H68 : Hints := { n := 2, reg := [(0, ⟨[.e], [0]⟩), (1, ⟨[.p, .e], [0, 1]⟩)], loop := [], join := [] }
noncomputable def C68 : Code := Try.f68.body.getD .skip
theorem E68 (K : Value → World → Prop) (w : World) : F68  K w = lift Try.prog H68 C68 (envOf [] 0) w (fun E w => resV Try.prog H68.n E Try.f68.results.toList w fun vs => K (retV vs) w) [] (fun E w => resV Try.prog H68.n E Try.f68.results.toList w fun vs => K (retV vs) w) := by kernel_rfl
theorem R68 : regOk H68 C68 = true := by kernel_rfl
theorem B68 : Try.f68.body = some C68 := by kernel_rfl
theorem F68_ok (K : Value → World → Prop) (w : World) (h : F68  K w) : Calls Try.prog 68 #[] w (retK K) :=
  lift_call mixed Try.func68 B68 Try.ntmps68 R68 (Nat.le_of_ble_eq_true rfl) (Eq.mp (E68  K w) h)
/-- lattice/latticeref1.rot -/
def F69 (a0 : Value) (a1 : Value) (K : Value → World → Prop) (w : World) : Prop :=
  PRun Try.prog (binOp .shr 104 a0 a1) fun v7 =>
  PRun Try.prog (binOp .sub 69 (Value.int .u64 32) a1) fun v10 =>
  PRun Try.prog (binOp .shl 104 a0 v10) fun v11 =>
  PRun Try.prog (binOp .or 104 v7 v11) fun v12 =>
  K v12 w
def H69 : Hints := { n := 13, reg := [(0, ⟨[.p], [0]⟩), (1, ⟨[.p, .p, .p, .p, .p, .p, .p, .p, .p], [0, 0, 3, 0, 0, 16, 56, 127, 255]⟩)], loop := [], join := [] }
noncomputable def C69 : Code := Try.f69.body.getD .skip
theorem E69 (a0 : Value) (a1 : Value) (K : Value → World → Prop) (w : World) : F69 a0 a1 K w = lift Try.prog H69 C69 (envOf [a0, a1] 0) w (fun E w => resV Try.prog H69.n E Try.f69.results.toList w fun vs => K (retV vs) w) [] (fun E w => resV Try.prog H69.n E Try.f69.results.toList w fun vs => K (retV vs) w) := by kernel_rfl
theorem R69 : regOk H69 C69 = true := by kernel_rfl
theorem B69 : Try.f69.body = some C69 := by kernel_rfl
theorem F69_ok (a0 : Value) (a1 : Value) (K : Value → World → Prop) (w : World) (h : F69 a0 a1 K w) : Calls Try.prog 69 #[a0, a1] w (retK K) :=
  lift_call mixed Try.func69 B69 Try.ntmps69 R69 (Nat.le_of_ble_eq_true rfl) (Eq.mp (E69 a0 a1 K w) h)
end Go.Proofs
