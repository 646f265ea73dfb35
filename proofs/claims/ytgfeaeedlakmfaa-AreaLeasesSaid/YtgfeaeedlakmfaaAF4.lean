/- A part of the proof: A.F4. -/
import Derived.Test.YtgfeaeedlakmfaaATy
set_option linter.unusedVariables false
set_option linter.unusedSimpArgs false
set_option linter.unusedSectionVars false
namespace Go.Proofs
open Go Go.Lf
def F11x1 (a0 : Value) (v4 : Value) (v7_2 : Value) (v55 : Value) (w15 : World) (K : Value → World → Prop) : Prop :=
  Run Try.prog (Instr.buildSlice 37 0 #[]) w15 fun v128 w16 =>
  PRun Try.prog (Instr.fieldAt 39 v4 1) fun v129 =>
  QRun Try.prog (Instr.loadAt 37 v129) w16 fun v130 =>
  Run Try.prog (Builtin.append_ #[37, 37] 37 #[v128, v130]) w16 fun v131 w17 =>
  PRun Try.prog (Instr.fieldAt 39 v4 1) fun v132 =>
  Run Try.prog (Instr.storeAt 37 v132 v131) w17 fun _ w18 =>
  QRun Try.prog (Instr.loadAt 39 v4) w18.drew fun v135 =>
  NilCk a0 fun v139 =>
  PRun Try.prog (Instr.fieldAt 50 v139 2) fun v140 =>
  QRun Try.prog (Instr.loadAt 47 v140) w18.drew fun v141 =>
  PRun Try.prog (Instr.sliceAt 47 v141 (some v7_2) none none) fun v143 =>
  Run Try.prog (Instr.buildSlice 47 1 #[(0, v135)]) w18.drew fun v136 w19 =>
  (QRun Try.prog (Instr.loadAt 47 v140) w19 fun u => u = v141) ∧
  Run Try.prog (Builtin.append_ #[47, 47] 47 #[v55, v136]) w19 fun v137 w20 =>
  (QRun Try.prog (Instr.loadAt 47 v140) w20 fun u => u = v141) ∧
  Run Try.prog (Builtin.append_ #[47, 47] 47 #[v137, v143]) w20 fun v144 w21 =>
  NilCk a0 fun v145 =>
  PRun Try.prog (Instr.fieldAt 50 v145 2) fun v146 =>
  Run Try.prog (Instr.storeAt 47 v146 v144) w21 fun _ w22 =>
  K (Value.int .i64 0) w22
def F11x2 (a0 : Value) (v4 : Value) (v7_2 : Value) (v55 : Value) (w14 : World) (K : Value → World → Prop) : Prop :=
  PRun Try.prog (Instr.fieldAt 39 v4 1) fun v119 =>
  QRun Try.prog (Instr.loadAt 37 v119) w14.drew fun v120 =>
  PRun Try.prog (Builtin.len_ #[37] 3 #[v120]) fun v121 =>
  NilCk a0 fun v124 =>
  PRun Try.prog (Instr.fieldAt 50 v124 0) fun v125 =>
  QRun Try.prog (Instr.loadAt 3 v125) w14.drew fun v126 =>
  CallF Try.prog 21 #[a0] w14.drew fun v118 w15 =>
  (QRun Try.prog (Instr.loadAt 3 v125) w15 fun u => u = v126) ∧
  (QRun Try.prog (Instr.loadAt 37 v119) w15 fun u => u = v120) ∧
  PRun Try.prog (binOp .add 3 v118 v121) fun v122 =>
  PRun Try.prog (binOp .gtr 3 v122 v126) fun v127 =>
  Branch v127 (
    K (Value.int .i64 16) w15
  ) (
    F11x1 a0 v4 v7_2 v55 w15 K
  )
def F11x3 (a0 : Value) (v4 : Value) (v7_2 : Value) (v55 : Value) (w6 : World) (K : Value → World → Prop) : Prop :=
  NilCk a0 fun v77 =>
  PRun Try.prog (Instr.fieldAt 50 v77 2) fun v78 =>
  QRun Try.prog (Instr.loadAt 47 v78) w6.drew fun v79 =>
  PRun Try.prog (Instr.indexAt 47 v79 v7_2) fun v81 =>
  QRun Try.prog (Instr.loadAt 39 v81) w6.drew fun v82 =>
  Run Try.prog (Instr.alloc 39 true (.tuple #[])) w6.drew fun v9 w7 =>
  Run Try.prog (Instr.storeAt 39 v9 v82) w7 fun _ w8 =>
  PRun Try.prog (Instr.fieldAt 39 v9 3) fun v83 =>
  QRun Try.prog (Instr.loadAt 3 v83) w8 fun v84 =>
  PRun Try.prog (Instr.fieldAt 39 v4 3) fun v85 =>
  QRun Try.prog (Instr.loadAt 3 v85) w8 fun v86 =>
  PRun Try.prog (Builtin.max_ #[3, 3] 3 #[v84, v86]) fun v87 =>
  PRun Try.prog (Instr.fieldAt 39 v9 3) fun v88 =>
  Run Try.prog (Instr.storeAt 3 v88 v87) w8 fun _ w9 =>
  QRun Try.prog (Instr.loadAt 39 v9) w9.drew fun v91 =>
  NilCk a0 fun v95 =>
  PRun Try.prog (Instr.fieldAt 50 v95 2) fun v96 =>
  QRun Try.prog (Instr.loadAt 47 v96) w9.drew fun v97 =>
  PRun Try.prog (binOp .add 3 v7_2 (Value.int .i64 1)) fun v99 =>
  PRun Try.prog (Instr.sliceAt 47 v97 (some v99) none none) fun v100 =>
  Run Try.prog (Instr.buildSlice 47 1 #[(0, v91)]) w9.drew fun v92 w10 =>
  (QRun Try.prog (Instr.loadAt 47 v96) w10 fun u => u = v97) ∧
  Run Try.prog (Builtin.append_ #[47, 47] 47 #[v55, v92]) w10 fun v93 w11 =>
  (QRun Try.prog (Instr.loadAt 47 v96) w11 fun u => u = v97) ∧
  Run Try.prog (Builtin.append_ #[47, 47] 47 #[v93, v100]) w11 fun v101 w12 =>
  NilCk a0 fun v102 =>
  PRun Try.prog (Instr.fieldAt 50 v102 2) fun v103 =>
  Run Try.prog (Instr.storeAt 47 v103 v101) w12 fun _ w13 =>
  K (Value.int .i64 0) w13
def F11x4 (a0 : Value) (v4 : Value) (v7_2 : Value) (v55 : Value) (w6 : World) (K : Value → World → Prop) : Prop :=
  PRun Try.prog (Instr.fieldAt 39 v4 2) fun v105 =>
  QRun Try.prog (Instr.loadAt 3 v105) w6.drew.drew fun v106 =>
  PRun Try.prog (Instr.fieldAt 39 v4 1) fun v108 =>
  QRun Try.prog (Instr.loadAt 37 v108) w6.drew.drew fun v109 =>
  PRun Try.prog (Builtin.len_ #[37] 3 #[v109]) fun v110 =>
  NilCk a0 fun v113 =>
  PRun Try.prog (Instr.fieldAt 50 v113 1) fun v114 =>
  QRun Try.prog (Instr.loadAt 3 v114) w6.drew.drew fun v115 =>
  CallF Try.prog 23 #[a0, v106] w6.drew.drew fun v107 w14 =>
  (QRun Try.prog (Instr.loadAt 3 v114) w14 fun u => u = v115) ∧
  (QRun Try.prog (Instr.loadAt 37 v108) w14 fun u => u = v109) ∧
  PRun Try.prog (binOp .add 3 v107 v110) fun v111 =>
  PRun Try.prog (binOp .gtr 3 v111 v115) fun v116 =>
  Branch v116 (
    K (Value.int .i64 15) w14
  ) (
    F11x2 a0 v4 v7_2 v55 w14 K
  )
def F11x5 (a0 : Value) (v4 : Value) (v7_2 : Value) (w4 : World) (K : Value → World → Prop) : Prop :=
  Run Try.prog (Instr.buildSlice 47 0 #[]) w4 fun v48 w5 =>
  NilCk a0 fun v50 =>
  PRun Try.prog (Instr.fieldAt 50 v50 2) fun v51 =>
  QRun Try.prog (Instr.loadAt 47 v51) w5 fun v52 =>
  PRun Try.prog (Instr.sliceAt 47 v52 none (some v7_2) none) fun v54 =>
  Run Try.prog (Builtin.append_ #[47, 47] 47 #[v48, v54]) w5 fun v55 w6 =>
  NilCk a0 fun v58 =>
  PRun Try.prog (Instr.fieldAt 50 v58 2) fun v59 =>
  QRun Try.prog (Instr.loadAt 47 v59) w6.drew fun v60 =>
  PRun Try.prog (Builtin.len_ #[47] 3 #[v60]) fun v61 =>
  PRun Try.prog (binOp .lss 3 v7_2 v61) fun v62 =>
  Gd v62 true (fun k => k a0) fun v64 =>
  Gd v62 true (fun k => NilCk v64 k) fun v65 =>
  Gd v62 true (fun k => PRun Try.prog (Instr.fieldAt 50 v65 2) k) fun v66 =>
  Gd v62 true (fun k => QRun Try.prog (Instr.loadAt 47 v66) w6.drew k) fun v67 =>
  Gd v62 true (fun k => k v7_2) fun v68 =>
  Gd v62 true (fun k => PRun Try.prog (Instr.indexAt 47 v67 v68) k) fun v69 =>
  Gd v62 true (fun k => PRun Try.prog (Instr.fieldAt 39 v69 0) k) fun v70 =>
  Gd v62 true (fun k => QRun Try.prog (Instr.loadAt 35 v70) w6.drew k) fun v71 =>
  Gd v62 true (fun k => PRun Try.prog (Instr.fieldAt 39 v4 0) k) fun v72 =>
  Gd v62 true (fun k => QRun Try.prog (Instr.loadAt 35 v72) w6.drew k) fun v73 =>
  Gd v62 true (fun k => PRun Try.prog (eqS .eql 35 (.tmp 71) (.tmp 73) v71 v73) k) fun v74 =>
  Pick v62 v74 (Value.bool false) fun v75 =>
  Branch v75 (
    F11x3 a0 v4 v7_2 v55 w6 K
  ) (
    F11x4 a0 v4 v7_2 v55 w6 K
  )
def F11x6 (a0 : Value) (v4 : Value) (v7_2 : Value) (k1 : Value → World → Prop) (w3 : World) (K : Value → World → Prop) : Prop :=
  NilCk a0 fun v28 =>
  PRun Try.prog (Instr.fieldAt 50 v28 2) fun v29 =>
  QRun Try.prog (Instr.loadAt 47 v29) w3.drew fun v30 =>
  PRun Try.prog (Builtin.len_ #[47] 3 #[v30]) fun v31 =>
  PRun Try.prog (binOp .lss 3 v7_2 v31) fun v32 =>
  Gd v32 true (fun k => k a0) fun v34 =>
  Gd v32 true (fun k => NilCk v34 k) fun v35 =>
  Gd v32 true (fun k => PRun Try.prog (Instr.fieldAt 50 v35 2) k) fun v36 =>
  Gd v32 true (fun k => QRun Try.prog (Instr.loadAt 47 v36) w3.drew k) fun v37 =>
  Gd v32 true (fun k => k v7_2) fun v38 =>
  Gd v32 true (fun k => PRun Try.prog (Instr.indexAt 47 v37 v38) k) fun v39 =>
  Gd v32 true (fun k => PRun Try.prog (Instr.fieldAt 39 v39 0) k) fun v40 =>
  Gd v32 true (fun k => QRun Try.prog (Instr.loadAt 35 v40) w3.drew k) fun v41 =>
  Gd v32 true (fun k => PRun Try.prog (Instr.fieldAt 39 v4 0) k) fun v42 =>
  Gd v32 true (fun k => QRun Try.prog (Instr.loadAt 35 v42) w3.drew k) fun v43 =>
  GdE v32 true (fun k => CallF Try.prog 26 #[v41, v43] w3.drew k) w3.drew fun v44 w4 =>
  Pick v32 v44 (Value.bool false) fun v45 =>
  Branch v45 (
    PRun Try.prog (binOp .add 3 v7_2 (Value.int .i64 1)) fun v47 =>
    k1 v47 w4
  ) (
    F11x5 a0 v4 v7_2 w4 K
  )
def F11x7 (a0 : Value) (a2 : Value) (v4 : Value) (w1 : World) (K : Value → World → Prop) : Prop :=
  PRun Try.prog (Instr.fieldAt 39 v4 1) fun v19 =>
  QRun Try.prog (Instr.loadAt 37 v19) w1 fun v20 =>
  PRun Try.prog (Builtin.len_ #[37] 3 #[v20]) fun v21 =>
  PRun Try.prog (binOp .gtr 3 v21 (Value.int .i64 6000)) fun v22 =>
  Branch v22 (
    K (Value.int .i64 5) w1
  ) (
    CallF Try.prog 17 #[a0, a2] w1 fun v25 w2 =>
    LoopF 1 [(Value.int .i64 0)] w2 fun v7_2 w3 k1 => ∀ _ : Env,
    F11x6 a0 v4 v7_2 k1 w3 K
  )
/-- (*lattice/latticeref11.Area).Put -/
def F11 (a0 : Value) (a1 : Value) (a2 : Value) (K : Value → World → Prop) (w : World) : Prop :=
  Run Try.prog (Instr.box 39 a1) w fun v4 w1 =>
  PRun Try.prog (Instr.fieldAt 39 v4 2) fun v10 =>
  QRun Try.prog (Instr.loadAt 3 v10) w1 fun v11 =>
  PRun Try.prog (binOp .lss 3 v11 (Value.int .i64 0)) fun v12 =>
  Gd v12 false (fun k => PRun Try.prog (Instr.fieldAt 39 v4 3) k) fun v14 =>
  Gd v12 false (fun k => QRun Try.prog (Instr.loadAt 3 v14) w1 k) fun v15 =>
  Gd v12 false (fun k => k a2) fun v16 =>
  Gd v12 false (fun k => PRun Try.prog (binOp .leq 3 v15 v16) k) fun v17 =>
  Pick v12 (Value.bool true) v17 fun v18 =>
  Branch v18 (
    K (Value.int .i64 1) w1
  ) (
    F11x7 a0 a2 v4 w1 K
  )
def H11 : Hints := { n := 147, reg := [(0, ⟨[.e, .p], [0, 0]⟩), (1, ⟨[.p, .q, .p, .p, .p, .q, .p, .p, .p], [0, 1, 3, 7, 15, 31, 15, 127, 255]⟩), (2, ⟨[.p], [0]⟩), (3, ⟨[.p, .q, .p, .p], [0, 1, 3, 7]⟩), (4, ⟨[.p], [0]⟩), (5, ⟨[.p, .p, .e], [0, 0, 3]⟩), (6, ⟨[.p], [0]⟩), (7, ⟨[.p, .p, .p, .p, .q, .p, .p, .p, .p, .p, .p, .q, .p, .p, .p, .q, .p, .q, .e, .p], [0, 0, 2, 6, 14, 30, 63, 127, 255, 511, 1023, 2047, 255, 8191, 16383, 32767, 255, 65791, 262143, 524287]⟩), (8, ⟨[.p, .p, .p], [0, 1, 3]⟩), (9, ⟨[.e, .p, .p, .p, .q, .p, .p, .e, .p], [0, 0, 2, 6, 14, 0, 62, 127, 255]⟩), (10, ⟨[.p, .p, .p, .p, .q, .p, .p, .p, .p, .p, .p, .q, .p, .p, .p, .q, .p, .q, .p, .p], [0, 0, 2, 6, 14, 30, 63, 127, 255, 511, 1023, 2047, 255, 8191, 16383, 32767, 255, 65791, 262143, 524287]⟩), (11, ⟨[.p, .p, .p, .q, .p, .p, .q, .e, .e], [0, 1, 3, 7, 0, 31, 63, 0, 255]⟩), (12, ⟨[.p, .q, .p, .q, .p, .p, .e], [0, 1, 0, 4, 15, 31, 63]⟩), (13, ⟨[.p, .p, .q, .e, .e, .p, .p, .p, .q, .p, .p, .p, .e, .p, .p, .e], [0, 0, 0, 4, 14, 0, 32, 96, 224, 0, 512, 2016, 4094, 8191, 16383, 32767]⟩), (14, ⟨[.p], [0]⟩), (15, ⟨[.p, .p, .q, .e, .p, .q, .p, .p, .p, .p, .p, .q, .p], [0, 0, 2, 7, 0, 16, 48, 127, 0, 256, 768, 1792, 4095]⟩), (16, ⟨[.p], [0]⟩), (17, ⟨[.p, .e, .p, .q, .p, .p, .p, .p, .p, .q, .p], [0, 1, 0, 4, 12, 31, 0, 64, 192, 448, 1023]⟩), (18, ⟨[.p], [0]⟩), (19, ⟨[.e, .p, .q, .e, .p, .e], [0, 0, 2, 7, 15, 31]⟩), (20, ⟨[.p, .p, .q, .e, .e, .p, .p, .p, .q, .p, .p, .e, .p, .p, .e], [0, 0, 0, 4, 14, 0, 32, 96, 224, 0, 992, 2046, 4095, 8191, 16383]⟩), (21, ⟨[.p], [0]⟩)], loop := [(7, [7])], join := [] }
noncomputable def C11 : Code := Try.f11.body.getD .skip
theorem E11 (a0 : Value) (a1 : Value) (a2 : Value) (K : Value → World → Prop) (w : World) : F11 a0 a1 a2 K w = lift Try.prog H11 C11 (envOf [a0, a1, a2] 0) w (fun E w => resV Try.prog H11.n E Try.f11.results.toList w fun vs => K (retV vs) w) [] (fun E w => resV Try.prog H11.n E Try.f11.results.toList w fun vs => K (retV vs) w) := by kernel_rfl
theorem R11 : regOk H11 C11 = true := by kernel_rfl
theorem B11 : Try.f11.body = some C11 := by kernel_rfl
theorem F11_ok (a0 : Value) (a1 : Value) (a2 : Value) (K : Value → World → Prop) (w : World) (h : F11 a0 a1 a2 K w) : Calls Try.prog 11 #[a0, a1, a2] w (retK K) :=
  lift_call mixed Try.func11 B11 Try.ntmps11 R11 (Nat.le_of_ble_eq_true rfl) (Eq.mp (E11 a0 a1 a2 K w) h)
end Go.Proofs
