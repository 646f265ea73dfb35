/- A part of the proof: A.F3. -/
import Derived.Test.YtgfeaeedlakmfaaATy
set_option linter.unusedVariables false
set_option linter.unusedSimpArgs false
set_option linter.unusedSectionVars false
namespace Go.Proofs
open Go Go.Lf
def F3x1 (v15_2 : Value) (v21 : Value) (v22_2 : Value) (k2 : Value → World → Prop) (k5 : Value → World → Prop) (w32 : World) : Prop :=
  PRun Try.prog (Instr.fieldAt 39 v21 1) fun v132 =>
  QRun Try.prog (Instr.loadAt 37 v132) w32 fun v133 =>
  PRun Try.prog (Builtin.len_ #[37] 3 #[v133]) fun v134 =>
  PRun Try.prog (binOp .lss 3 v22_2 v134) fun v135 =>
  Branch v135 (
    PRun Try.prog (Instr.fieldAt 39 v21 1) fun v138 =>
    QRun Try.prog (Instr.loadAt 37 v138) w32 fun v139 =>
    PRun Try.prog (Instr.indexAt 37 v139 v22_2) fun v141 =>
    Run Try.prog (Instr.storeAt 5 v141 (Value.int .u8 238)) w32 fun _ w33 =>
    PRun Try.prog (binOp .add 3 v22_2 (Value.int .i64 1)) fun v137 =>
    k5 v137 w33
  ) (
    k2 v15_2 w32
  )
def F3x2 (v16_2 : Value) (v19 : Value) (v20_2 : Value) (k4 : Value → World → Prop) (w21 : World) : Prop :=
  PRun Try.prog (Instr.fieldAt 39 v19 1) fun v107 =>
  QRun Try.prog (Instr.loadAt 37 v107) w21 fun v108 =>
  PRun Try.prog (binOp .add 3 v16_2 v20_2) fun v111 =>
  PRun Try.prog (convert 3 5 v111) fun v112 =>
  Run Try.prog (Instr.buildSlice 37 1 #[(0, v112)]) w21 fun v113 w22 =>
  Run Try.prog (Builtin.append_ #[37, 37] 37 #[v108, v113]) w22 fun v114 w23 =>
  PRun Try.prog (Instr.fieldAt 39 v19 1) fun v115 =>
  Run Try.prog (Instr.storeAt 37 v115 v114) w23 fun _ w24 =>
  PRun Try.prog (binOp .add 3 v20_2 (Value.int .i64 1)) fun v106 =>
  k4 v106 w24
def F3x3 (v15_2 : Value) (v19 : Value) (v54 : Value) (v60 : Value) (k2 : Value → World → Prop) (w21 : World) (K : Value → World → Prop) : Prop :=
  QRun Try.prog (Instr.loadAt 39 v19) w21 fun v116 =>
  Run Try.prog (Instr.alloc 39 true (.tuple #[])) w21 fun v21 w25 =>
  Run Try.prog (Instr.storeAt 39 v21 v116) w25 fun _ w26 =>
  Run Try.prog (Instr.buildSlice 37 0 #[]) w26 fun v117 w27 =>
  PRun Try.prog (Instr.fieldAt 39 v19 1) fun v118 =>
  QRun Try.prog (Instr.loadAt 37 v118) w27 fun v119 =>
  Run Try.prog (Builtin.append_ #[37, 37] 37 #[v117, v119]) w27 fun v120 w28 =>
  PRun Try.prog (Instr.fieldAt 39 v21 1) fun v121 =>
  Run Try.prog (Instr.storeAt 37 v121 v120) w28 fun _ w29 =>
  QRun Try.prog (Instr.loadAt 39 v21) w29.drew fun v123 =>
  QRun Try.prog (Instr.loadAt 39 v19) w29.drew fun v127 =>
  CallF Try.prog 10 #[v54, v123, v15_2] w29.drew fun v125 w30 =>
  (QRun Try.prog (Instr.loadAt 39 v19) w30 fun u => u = v127) ∧
  CallF Try.prog 11 #[v60, v127, v15_2] w30 fun v129 w31 =>
  PRun Try.prog (eqS .neq 3 (.tmp 125) (.tmp 129) v125 v129) fun v130 =>
  Branch v130 (
    K (Value.bool false) w31
  ) (
    LoopF 1 [(Value.int .i64 0)] w31 fun v22_2 w32 k5 => ∀ _ : Env,
    F3x1 v15_2 v21 v22_2 k2 k5 w32
  )
def F3x4 (v15_2 : Value) (v16_2 : Value) (v17 : Value) (v19 : Value) (v20_2 : Value) (v54 : Value) (v60 : Value) (k2 : Value → World → Prop) (k4 : Value → World → Prop) (w20 : World) (K : Value → World → Prop) : Prop :=
  PRun Try.prog (Instr.fieldAt 33 v17 2) fun v101 =>
  QRun Try.prog (Instr.loadAt 3 v101) w20 fun v102 =>
  CallF Try.prog 8 #[v102, (Value.int .i64 80)] w20 fun v103 w21 =>
  PRun Try.prog (binOp .lss 3 v20_2 v103) fun v104 =>
  Branch v104 (
    F3x2 v16_2 v19 v20_2 k4 w21
  ) (
    F3x3 v15_2 v19 v54 v60 k2 w21 K
  )
def F3x5 (v15_2 : Value) (v21_2 : Value) (v22_5 : Value) (k2 : Value → World → Prop) (k7 : Value → World → Prop) (w49 : World) : Prop :=
  PRun Try.prog (Instr.fieldAt 39 v21_2 1) fun v132_2 =>
  QRun Try.prog (Instr.loadAt 37 v132_2) w49 fun v133_2 =>
  PRun Try.prog (Builtin.len_ #[37] 3 #[v133_2]) fun v134_2 =>
  PRun Try.prog (binOp .lss 3 v22_5 v134_2) fun v135_2 =>
  Branch v135_2 (
    PRun Try.prog (Instr.fieldAt 39 v21_2 1) fun v138_2 =>
    QRun Try.prog (Instr.loadAt 37 v138_2) w49 fun v139_2 =>
    PRun Try.prog (Instr.indexAt 37 v139_2 v22_5) fun v141_2 =>
    Run Try.prog (Instr.storeAt 5 v141_2 (Value.int .u8 238)) w49 fun _ w50 =>
    PRun Try.prog (binOp .add 3 v22_5 (Value.int .i64 1)) fun v137_2 =>
    k7 v137_2 w50
  ) (
    k2 v15_2 w49
  )
def F3x6 (v16_2 : Value) (v19_2 : Value) (v20_5 : Value) (k6 : Value → World → Prop) (w38 : World) : Prop :=
  PRun Try.prog (Instr.fieldAt 39 v19_2 1) fun v107_2 =>
  QRun Try.prog (Instr.loadAt 37 v107_2) w38 fun v108_2 =>
  PRun Try.prog (binOp .add 3 v16_2 v20_5) fun v111_2 =>
  PRun Try.prog (convert 3 5 v111_2) fun v112_2 =>
  Run Try.prog (Instr.buildSlice 37 1 #[(0, v112_2)]) w38 fun v113_2 w39 =>
  Run Try.prog (Builtin.append_ #[37, 37] 37 #[v108_2, v113_2]) w39 fun v114_2 w40 =>
  PRun Try.prog (Instr.fieldAt 39 v19_2 1) fun v115_2 =>
  Run Try.prog (Instr.storeAt 37 v115_2 v114_2) w40 fun _ w41 =>
  PRun Try.prog (binOp .add 3 v20_5 (Value.int .i64 1)) fun v106_2 =>
  k6 v106_2 w41
def F3x7 (v15_2 : Value) (v19_2 : Value) (v54 : Value) (v60 : Value) (k2 : Value → World → Prop) (w38 : World) (K : Value → World → Prop) : Prop :=
  QRun Try.prog (Instr.loadAt 39 v19_2) w38 fun v116_2 =>
  Run Try.prog (Instr.alloc 39 true (.tuple #[])) w38 fun v21_2 w42 =>
  Run Try.prog (Instr.storeAt 39 v21_2 v116_2) w42 fun _ w43 =>
  Run Try.prog (Instr.buildSlice 37 0 #[]) w43 fun v117_2 w44 =>
  PRun Try.prog (Instr.fieldAt 39 v19_2 1) fun v118_2 =>
  QRun Try.prog (Instr.loadAt 37 v118_2) w44 fun v119_2 =>
  Run Try.prog (Builtin.append_ #[37, 37] 37 #[v117_2, v119_2]) w44 fun v120_2 w45 =>
  PRun Try.prog (Instr.fieldAt 39 v21_2 1) fun v121_2 =>
  Run Try.prog (Instr.storeAt 37 v121_2 v120_2) w45 fun _ w46 =>
  QRun Try.prog (Instr.loadAt 39 v21_2) w46.drew fun v123_2 =>
  QRun Try.prog (Instr.loadAt 39 v19_2) w46.drew fun v127_2 =>
  CallF Try.prog 10 #[v54, v123_2, v15_2] w46.drew fun v125_2 w47 =>
  (QRun Try.prog (Instr.loadAt 39 v19_2) w47 fun u => u = v127_2) ∧
  CallF Try.prog 11 #[v60, v127_2, v15_2] w47 fun v129_2 w48 =>
  PRun Try.prog (eqS .neq 3 (.tmp 125) (.tmp 129) v125_2 v129_2) fun v130_2 =>
  Branch v130_2 (
    K (Value.bool false) w48
  ) (
    LoopF 1 [(Value.int .i64 0)] w48 fun v22_5 w49 k7 => ∀ _ : Env,
    F3x5 v15_2 v21_2 v22_5 k2 k7 w49
  )
def F3x8 (v15_2 : Value) (v16_2 : Value) (v17 : Value) (v19_2 : Value) (v20_5 : Value) (v54 : Value) (v60 : Value) (k2 : Value → World → Prop) (k6 : Value → World → Prop) (w37 : World) (K : Value → World → Prop) : Prop :=
  PRun Try.prog (Instr.fieldAt 33 v17 2) fun v101_2 =>
  QRun Try.prog (Instr.loadAt 3 v101_2) w37 fun v102_2 =>
  CallF Try.prog 8 #[v102_2, (Value.int .i64 80)] w37 fun v103_2 w38 =>
  PRun Try.prog (binOp .lss 3 v20_5 v103_2) fun v104_2 =>
  Branch v104_2 (
    F3x6 v16_2 v19_2 v20_5 k6 w38
  ) (
    F3x7 v15_2 v19_2 v54 v60 k2 w38 K
  )
def F3x9 (v15_2 : Value) (v21_3 : Value) (v22_8 : Value) (k2 : Value → World → Prop) (k9 : Value → World → Prop) (w67 : World) : Prop :=
  PRun Try.prog (Instr.fieldAt 39 v21_3 1) fun v132_3 =>
  QRun Try.prog (Instr.loadAt 37 v132_3) w67 fun v133_3 =>
  PRun Try.prog (Builtin.len_ #[37] 3 #[v133_3]) fun v134_3 =>
  PRun Try.prog (binOp .lss 3 v22_8 v134_3) fun v135_3 =>
  Branch v135_3 (
    PRun Try.prog (Instr.fieldAt 39 v21_3 1) fun v138_3 =>
    QRun Try.prog (Instr.loadAt 37 v138_3) w67 fun v139_3 =>
    PRun Try.prog (Instr.indexAt 37 v139_3 v22_8) fun v141_3 =>
    Run Try.prog (Instr.storeAt 5 v141_3 (Value.int .u8 238)) w67 fun _ w68 =>
    PRun Try.prog (binOp .add 3 v22_8 (Value.int .i64 1)) fun v137_3 =>
    k9 v137_3 w68
  ) (
    k2 v15_2 w67
  )
def F3x10 (v16_2 : Value) (v19_3 : Value) (v20_8 : Value) (k8 : Value → World → Prop) (w56 : World) : Prop :=
  PRun Try.prog (Instr.fieldAt 39 v19_3 1) fun v107_3 =>
  QRun Try.prog (Instr.loadAt 37 v107_3) w56 fun v108_3 =>
  PRun Try.prog (binOp .add 3 v16_2 v20_8) fun v111_3 =>
  PRun Try.prog (convert 3 5 v111_3) fun v112_3 =>
  Run Try.prog (Instr.buildSlice 37 1 #[(0, v112_3)]) w56 fun v113_3 w57 =>
  Run Try.prog (Builtin.append_ #[37, 37] 37 #[v108_3, v113_3]) w57 fun v114_3 w58 =>
  PRun Try.prog (Instr.fieldAt 39 v19_3 1) fun v115_3 =>
  Run Try.prog (Instr.storeAt 37 v115_3 v114_3) w58 fun _ w59 =>
  PRun Try.prog (binOp .add 3 v20_8 (Value.int .i64 1)) fun v106_3 =>
  k8 v106_3 w59
def F3x11 (v15_2 : Value) (v19_3 : Value) (v54 : Value) (v60 : Value) (k2 : Value → World → Prop) (w56 : World) (K : Value → World → Prop) : Prop :=
  QRun Try.prog (Instr.loadAt 39 v19_3) w56 fun v116_3 =>
  Run Try.prog (Instr.alloc 39 true (.tuple #[])) w56 fun v21_3 w60 =>
  Run Try.prog (Instr.storeAt 39 v21_3 v116_3) w60 fun _ w61 =>
  Run Try.prog (Instr.buildSlice 37 0 #[]) w61 fun v117_3 w62 =>
  PRun Try.prog (Instr.fieldAt 39 v19_3 1) fun v118_3 =>
  QRun Try.prog (Instr.loadAt 37 v118_3) w62 fun v119_3 =>
  Run Try.prog (Builtin.append_ #[37, 37] 37 #[v117_3, v119_3]) w62 fun v120_3 w63 =>
  PRun Try.prog (Instr.fieldAt 39 v21_3 1) fun v121_3 =>
  Run Try.prog (Instr.storeAt 37 v121_3 v120_3) w63 fun _ w64 =>
  QRun Try.prog (Instr.loadAt 39 v21_3) w64.drew fun v123_3 =>
  QRun Try.prog (Instr.loadAt 39 v19_3) w64.drew fun v127_3 =>
  CallF Try.prog 10 #[v54, v123_3, v15_2] w64.drew fun v125_3 w65 =>
  (QRun Try.prog (Instr.loadAt 39 v19_3) w65 fun u => u = v127_3) ∧
  CallF Try.prog 11 #[v60, v127_3, v15_2] w65 fun v129_3 w66 =>
  PRun Try.prog (eqS .neq 3 (.tmp 125) (.tmp 129) v125_3 v129_3) fun v130_3 =>
  Branch v130_3 (
    K (Value.bool false) w66
  ) (
    LoopF 1 [(Value.int .i64 0)] w66 fun v22_8 w67 k9 => ∀ _ : Env,
    F3x9 v15_2 v21_3 v22_8 k2 k9 w67
  )
def F3x12 (v15_2 : Value) (v16_2 : Value) (v17 : Value) (v19_3 : Value) (v20_8 : Value) (v54 : Value) (v60 : Value) (k2 : Value → World → Prop) (k8 : Value → World → Prop) (w55 : World) (K : Value → World → Prop) : Prop :=
  PRun Try.prog (Instr.fieldAt 33 v17 2) fun v101_3 =>
  QRun Try.prog (Instr.loadAt 3 v101_3) w55 fun v102_3 =>
  CallF Try.prog 8 #[v102_3, (Value.int .i64 80)] w55 fun v103_3 w56 =>
  PRun Try.prog (binOp .lss 3 v20_8 v103_3) fun v104_3 =>
  Branch v104_3 (
    F3x10 v16_2 v19_3 v20_8 k8 w56
  ) (
    F3x11 v15_2 v19_3 v54 v60 k2 w56 K
  )
def F3x13 (v15_2 : Value) (v54 : Value) (v60 : Value) (k2 : Value → World → Prop) (w15 : World) (K : Value → World → Prop) : Prop :=
  CallF Try.prog 16 #[v54, v15_2] w15 fun v181 w73 =>
  CallF Try.prog 17 #[v60, v15_2] w73 fun v184 w74 =>
  PRun Try.prog (eqS .neq 3 (.tmp 181) (.tmp 184) v181 v184) fun v185 =>
  Branch v185 (
    K (Value.bool false) w74
  ) (
    k2 v15_2 w74
  )
def F3x14 (v15_2 : Value) (v17 : Value) (v81 : Value) (k2 : Value → World → Prop) (w15 : World) : Prop :=
  PRun Try.prog (eqS .eql 3 (.tmp 81) (.const (Value.int .i64 6)) v81 (Value.int .i64 6)) fun v187 =>
  Branch v187 (
    PRun Try.prog (Instr.fieldAt 33 v17 4) fun v189 =>
    QRun Try.prog (Instr.loadAt 3 v189) w15 fun v190 =>
    CallF Try.prog 8 #[v190, (Value.int .i64 6)] w15 fun v191 w75 =>
    PRun Try.prog (binOp .add 3 v15_2 v191) fun v192 =>
    k2 v192 w75
  ) (
    k2 v15_2 w15
  )
def F3x15 (v15_2 : Value) (v18 : Value) (v54 : Value) (v60 : Value) (k2 : Value → World → Prop) (w15 : World) (K : Value → World → Prop) : Prop :=
  QRun Try.prog (Instr.loadAt 35 v18) w15.drew fun v171 =>
  QRun Try.prog (Instr.loadAt 35 v18) w15.drew fun v174 =>
  CallF Try.prog 14 #[v54, v171] w15.drew fun v172 w71 =>
  (QRun Try.prog (Instr.loadAt 35 v18) w71 fun u => u = v174) ∧
  CallF Try.prog 15 #[v60, v174] w71 fun v175 w72 =>
  PRun Try.prog (eqS .neq 4 (.tmp 172) (.tmp 175) v172 v175) fun v176 =>
  Branch v176 (
    K (Value.bool false) w72
  ) (
    k2 v15_2 w72
  )
def F3x16 (v15_2 : Value) (v18 : Value) (v54 : Value) (v60 : Value) (k2 : Value → World → Prop) (w15 : World) (K : Value → World → Prop) : Prop :=
  QRun Try.prog (Instr.loadAt 35 v18) w15 fun v146 =>
  CallF Try.prog 12 #[v54, v146, v15_2] w15 fun v148 w69 =>
  PRun Try.prog (Instr.extract v148 0) fun v149 =>
  PRun Try.prog (Instr.extract v148 1) fun v150 =>
  QRun Try.prog (Instr.loadAt 35 v18) w69 fun v153 =>
  CallF Try.prog 13 #[v60, v153, v15_2] w69 fun v155 w70 =>
  PRun Try.prog (Instr.extract v155 0) fun v156 =>
  PRun Try.prog (Instr.extract v155 1) fun v157 =>
  QRun Try.prog (convert 37 9 v149) w70 fun v159 =>
  QRun Try.prog (convert 37 9 v156) w70 fun v161 =>
  PRun Try.prog (eqS .neq 9 (.tmp 159) (.tmp 161) v159 v161) fun v162 =>
  Gd v162 false (fun k => k v150) fun v164 =>
  Gd v162 false (fun k => k v157) fun v165 =>
  Gd v162 false (fun k => PRun Try.prog (eqS .neq 4 (.tmp 164) (.tmp 165) v164 v165) k) fun v166 =>
  Pick v162 (Value.bool true) v166 fun v167 =>
  Branch v167 (
    K (Value.bool false) w70
  ) (
    k2 v15_2 w70
  )
def F3x17 (v15_2 : Value) (v17 : Value) (v18 : Value) (v54 : Value) (v60 : Value) (v81 : Value) (k2 : Value → World → Prop) (w15 : World) (K : Value → World → Prop) : Prop :=
  PRun Try.prog (eqS .eql 3 (.tmp 81) (.const (Value.int .i64 4)) v81 (Value.int .i64 4)) fun v169 =>
  Branch v169 (
    F3x15 v15_2 v18 v54 v60 k2 w15 K
  ) (
    PRun Try.prog (eqS .eql 3 (.tmp 81) (.const (Value.int .i64 5)) v81 (Value.int .i64 5)) fun v178 =>
    Branch v178 (
      F3x13 v15_2 v54 v60 k2 w15 K
    ) (
      F3x14 v15_2 v17 v81 k2 w15
    )
  )
def F3x18 (v15_2 : Value) (v16_2 : Value) (v17 : Value) (v18 : Value) (v54 : Value) (v60 : Value) (k2 : Value → World → Prop) (w15 : World) (K : Value → World → Prop) : Prop :=
  QRun Try.prog (Instr.loadAt 35 v18) w15.drew fun v86 =>
  PRun Try.prog (Instr.fieldAt 33 v17 3) fun v87 =>
  QRun Try.prog (Instr.loadAt 3 v87) w15.drew fun v88 =>
  PRun Try.prog (binOp .rem 3 v16_2 (Value.int .i64 9)) fun v91 =>
  PRun Try.prog (binOp .quo 3 v91 (Value.int .i64 8)) fun v92 =>
  PRun Try.prog (Instr.fieldAt 33 v17 4) fun v95 =>
  QRun Try.prog (Instr.loadAt 3 v95) w15.drew fun v96 =>
  (
    CallF Try.prog 8 #[v88, (Value.int .i64 4)] w15.drew fun v89 w16 =>
    (QRun Try.prog (Instr.loadAt 3 v95) w16 fun u => u = v96) ∧
    (QRun Try.prog (Instr.loadAt 35 v18) w16 fun u => u = v86) ∧
    PRun Try.prog (binOp .sub 3 v89 v92) fun v93 =>
    (
      CallF Try.prog 8 #[v96, (Value.int .i64 12)] w16 fun v97 w17 =>
      (QRun Try.prog (Instr.loadAt 35 v18) w17 fun u => u = v86) ∧
      PRun Try.prog (binOp .add 3 v15_2 v97) fun v98 =>
      PRun Try.prog (Instr.build 39 #[(0, v86), (2, v93), (3, v98)]) fun v99 =>
      Run Try.prog (Instr.alloc 39 true (.tuple #[])) w17 fun v19 w18 =>
      (QRun Try.prog (Instr.loadAt 35 v18) w18 fun u => u = v86) ∧
      Run Try.prog (Instr.storeAt 39 v19 v99) w18 fun _ w19 =>
      LoopF 1 [(Value.int .i64 0)] w19 fun v20_2 w20 k4 => ∀ _ : Env,
      F3x4 v15_2 v16_2 v17 v19 v20_2 v54 v60 k2 k4 w20 K
    ) ∧
    (
      Run Try.prog (Instr.alloc 39 true (.tuple #[])) w16 fun v19_2 w34 =>
      (QRun Try.prog (Instr.loadAt 3 v95) w34 fun u => u = v96) ∧
      (QRun Try.prog (Instr.loadAt 35 v18) w34 fun u => u = v86) ∧
      CallF Try.prog 8 #[v96, (Value.int .i64 12)] w34 fun v97_2 w35 =>
      (QRun Try.prog (Instr.loadAt 35 v18) w35 fun u => u = v86) ∧
      PRun Try.prog (binOp .add 3 v15_2 v97_2) fun v98_2 =>
      PRun Try.prog (Instr.build 39 #[(0, v86), (2, v93), (3, v98_2)]) fun v99_2 =>
      Run Try.prog (Instr.storeAt 39 v19_2 v99_2) w35 fun _ w36 =>
      LoopF 1 [(Value.int .i64 0)] w36 fun v20_5 w37 k6 => ∀ _ : Env,
      F3x8 v15_2 v16_2 v17 v19_2 v20_5 v54 v60 k2 k6 w37 K
    )
  ) ∧
  (
    Run Try.prog (Instr.alloc 39 true (.tuple #[])) w15.drew fun v19_3 w51 =>
    (QRun Try.prog (Instr.loadAt 3 v95) w51 fun u => u = v96) ∧
    (QRun Try.prog (Instr.loadAt 3 v87) w51 fun u => u = v88) ∧
    (QRun Try.prog (Instr.loadAt 35 v18) w51 fun u => u = v86) ∧
    CallF Try.prog 8 #[v88, (Value.int .i64 4)] w51 fun v89_2 w52 =>
    (QRun Try.prog (Instr.loadAt 3 v95) w52 fun u => u = v96) ∧
    (QRun Try.prog (Instr.loadAt 35 v18) w52 fun u => u = v86) ∧
    PRun Try.prog (binOp .sub 3 v89_2 v92) fun v93_2 =>
    CallF Try.prog 8 #[v96, (Value.int .i64 12)] w52 fun v97_3 w53 =>
    (QRun Try.prog (Instr.loadAt 35 v18) w53 fun u => u = v86) ∧
    PRun Try.prog (binOp .add 3 v15_2 v97_3) fun v98_3 =>
    PRun Try.prog (Instr.build 39 #[(0, v86), (2, v93_2), (3, v98_3)]) fun v99_3 =>
    Run Try.prog (Instr.storeAt 39 v19_3 v99_3) w53 fun _ w54 =>
    LoopF 1 [(Value.int .i64 0)] w54 fun v20_8 w55 k8 => ∀ _ : Env,
    F3x12 v15_2 v16_2 v17 v19_3 v20_8 v54 v60 k2 k8 w55 K
  )
def F3x19 (v81 : Value) (k3 : Value → World → Prop) (w14 : World) : Prop :=
  PRun Try.prog (eqS .eql 3 (.tmp 81) (.const (Value.int .i64 0)) v81 (Value.int .i64 0)) fun v83 =>
  Branch v83 (
    k3 v83 w14
  ) (
    PRun Try.prog (eqS .eql 3 (.tmp 81) (.const (Value.int .i64 1)) v81 (Value.int .i64 1)) fun v84 =>
    Branch v84 (
      k3 v84 w14
    ) (
      PRun Try.prog (eqS .eql 3 (.tmp 81) (.const (Value.int .i64 2)) v81 (Value.int .i64 2)) fun v85 =>
      k3 v85 w14
    )
  )
def F3x20 (v15_2 : Value) (v16_2 : Value) (v17 : Value) (v18 : Value) (v54 : Value) (v60 : Value) (v81 : Value) (v82_4 : Value) (k2 : Value → World → Prop) (w15 : World) (K : Value → World → Prop) : Prop :=
  Branch v82_4 (
    F3x18 v15_2 v16_2 v17 v18 v54 v60 k2 w15 K
  ) (
    PRun Try.prog (eqS .eql 3 (.tmp 81) (.const (Value.int .i64 3)) v81 (Value.int .i64 3)) fun v143 =>
    Branch v143 (
      F3x16 v15_2 v18 v54 v60 k2 w15 K
    ) (
      F3x17 v15_2 v17 v18 v54 v60 v81 k2 w15 K
    )
  )
def F3x21 (v15_4 : Value) (v16_2 : Value) (v17 : Value) (v54 : Value) (v60 : Value) (k1 : Value → Value → World → Prop) (w76 : World) (K : Value → World → Prop) : Prop :=
  NilCk v60 fun v196 =>
  PRun Try.prog (Instr.fieldAt 50 v196 2) fun v197 =>
  QRun Try.prog (Instr.loadAt 47 v197) w76.drew fun v198 =>
  CallF Try.prog 19 #[v54] w76.drew fun v194 w77 =>
  (QRun Try.prog (Instr.loadAt 47 v197) w77 fun u => u = v198) ∧
  CallF Try.prog 18 #[v194, v198] w77 fun v199 w78 =>
  PRun Try.prog (Op.unary .not v199) fun v200 =>
  Gd v200 false (fun k => k v54) fun v202 =>
  Gd v200 false (fun k => k v60) fun v204 =>
  GdE v200 false (fun k => CallF Try.prog 20 #[v202] w78 k) w78 fun v203 w79 =>
  GdE v200 false (fun k => CallF Try.prog 21 #[v204] w79 k) w79 fun v205 w80 =>
  Gd v200 false (fun k => PRun Try.prog (eqS .neq 3 (.tmp 203) (.tmp 205) v203 v205) k) fun v206 =>
  Pick v200 (Value.bool true) v206 fun v207 =>
  Gd v207 false (fun k => k v54) fun v209 =>
  Gd v207 false (fun k => PRun Try.prog (Instr.fieldAt 33 v17 3) k) fun v210 =>
  Gd v207 false (fun k => QRun Try.prog (Instr.loadAt 3 v210) w80 k) fun v211 =>
  Gd v207 false (fun k => k v60) fun v214 =>
  Gd v207 false (fun k => PRun Try.prog (Instr.fieldAt 33 v17 3) k) fun v215 =>
  Gd v207 false (fun k => QRun Try.prog (Instr.loadAt 3 v215) w80 k) fun v216 =>
  GdE v207 false (fun k => CallF Try.prog 8 #[v211, (Value.int .i64 4)] w80 k) w80 fun v212 w81 =>
  (v207 = .bool false → (QRun Try.prog (Instr.loadAt 3 v215) w81 fun u => u = v216)) ∧
  GdE v207 false (fun k => CallF Try.prog 22 #[v209, v212] w81 k) w81 fun v213 w82 =>
  (v207 = .bool false → (QRun Try.prog (Instr.loadAt 3 v215) w82 fun u => u = v216)) ∧
  GdE v207 false (fun k => CallF Try.prog 8 #[v216, (Value.int .i64 4)] w82 k) w82 fun v217 w83 =>
  GdE v207 false (fun k => CallF Try.prog 23 #[v214, v217] w83 k) w83 fun v218 w84 =>
  Gd v207 false (fun k => PRun Try.prog (eqS .neq 3 (.tmp 213) (.tmp 218) v213 v218) k) fun v219 =>
  Pick v207 (Value.bool true) v219 fun v220 =>
  Branch v220 (
    K (Value.bool false) w84
  ) (
    PRun Try.prog (binOp .add 3 v16_2 (Value.int .i64 1)) fun v71 =>
    k1 v15_4 v71 w84
  )
def F3x22 (a2 : Value) (v15_2 : Value) (v16_2 : Value) (v54 : Value) (v60 : Value) (k1 : Value → Value → World → Prop) (w8 : World) (K : Value → World → Prop) : Prop :=
  PRun Try.prog (Instr.indexAt 22 a2 v16_2) fun v74 =>
  QRun Try.prog (Instr.loadAt 33 v74) w8 fun v75 =>
  Run Try.prog (Instr.alloc 33 true (.tuple #[])) w8 fun v17 w9 =>
  Run Try.prog (Instr.storeAt 33 v17 v75) w9 fun _ w10 =>
  PRun Try.prog (Instr.fieldAt 33 v17 1) fun v76 =>
  QRun Try.prog (Instr.loadAt 3 v76) w10 fun v77 =>
  CallF Try.prog 9 #[v77] w10 fun v78 w11 =>
  Run Try.prog (Instr.alloc 35 true (.tuple #[])) w11 fun v18 w12 =>
  Run Try.prog (Instr.storeAt 35 v18 v78) w12 fun _ w13 =>
  LetJ 1 (fun k2 =>
    PRun Try.prog (Instr.fieldAt 33 v17 0) fun v79 =>
    QRun Try.prog (Instr.loadAt 3 v79) w13 fun v80 =>
    CallF Try.prog 8 #[v80, (Value.int .i64 7)] w13 fun v81 w14 =>
    LetJ 1 (fun k3 =>
      F3x19 v81 k3 w14
    ) fun v82_4 w15 => ∀ _ : Env,
    F3x20 v15_2 v16_2 v17 v18 v54 v60 v81 v82_4 k2 w15 K
  ) fun v15_4 w76 => ∀ _ : Env,
  F3x21 v15_4 v16_2 v17 v54 v60 k1 w76 K
def F3x23 (a2 : Value) (v15_2 : Value) (v16_2 : Value) (v54 : Value) (v60 : Value) (k1 : Value → Value → World → Prop) (w8 : World) (K : Value → World → Prop) : Prop :=
  PRun Try.prog (Builtin.len_ #[22] 3 #[a2]) fun v64 =>
  PRun Try.prog (binOp .lss 3 v16_2 v64) fun v65 =>
  Gd v65 true (fun k => k v16_2) fun v67 =>
  Gd v65 true (fun k => PRun Try.prog (binOp .lss 3 v67 (Value.int .i64 80)) k) fun v68 =>
  Pick v65 v68 (Value.bool false) fun v69 =>
  Branch v69 (
    F3x22 a2 v15_2 v16_2 v54 v60 k1 w8 K
  ) (
    K (Value.bool true) w8
  )
def F3x24 (a0 : Value) (a1 : Value) (a2 : Value) (w3 : World) (K : Value → World → Prop) : Prop :=
  CallF Try.prog 8 #[a0, (Value.int .i64 300)] w3 fun v45 w4 =>
  PRun Try.prog (binOp .add 3 (Value.int .i64 1) v45) fun v46 =>
  CallF Try.prog 8 #[a1, (Value.int .i64 200)] w4 fun v48 w5 =>
  PRun Try.prog (binOp .add 3 (Value.int .i64 1) v48) fun v49 =>
  CallF Try.prog 6 #[v46, v49] w5 fun v53 w6 =>
  PRun Try.prog (Instr.extract v53 0) fun v54 =>
  PRun Try.prog (Instr.extract v53 1) fun v55 =>
  CallF Try.prog 7 #[v46, v49] w6 fun v59 w7 =>
  PRun Try.prog (Instr.extract v59 0) fun v60 =>
  PRun Try.prog (Instr.extract v59 1) fun v61 =>
  LoopF 2 [(Value.int .i64 0), (Value.int .i64 0)] w7 fun v15_2 v16_2 w8 k1 => ∀ _ : Env,
  F3x23 a2 v15_2 v16_2 v54 v60 k1 w8 K
def F3x25 (a0 : Value) (a1 : Value) (a2 : Value) (w1 : World) (K : Value → World → Prop) : Prop :=
  CallF Try.prog 6 #[a0, a1] w1 fun v32 w2 =>
  PRun Try.prog (Instr.extract v32 0) fun v33 =>
  PRun Try.prog (Instr.extract v32 1) fun v34 =>
  CallF Try.prog 7 #[a0, a1] w2 fun v38 w3 =>
  PRun Try.prog (Instr.extract v38 0) fun v39 =>
  PRun Try.prog (Instr.extract v38 1) fun v40 =>
  PRun Try.prog (eqS .neq 3 (.tmp 41) (.tmp 42) v34 v40) fun v43 =>
  Branch v43 (
    K (Value.bool false) w3
  ) (
    F3x24 a0 a1 a2 w3 K
  )
/-- lattice/latticelaw11.AreaPlays -/
def F3 (a0 : Value) (a1 : Value) (a2 : Value) (K : Value → World → Prop) (w : World) : Prop :=
  CallF Try.prog 5 #[] w fun v27 w1 =>
  PRun Try.prog (Op.unary .not v27) fun v28 =>
  Branch v28 (
    K (Value.bool false) w1
  ) (
    F3x25 a0 a1 a2 w1 K
  )
def H3 : Hints := { n := 221, reg := [(0, ⟨[.p], [0]⟩), (1, ⟨[.e, .p], [0, 1]⟩), (2, ⟨[.p], [0]⟩), (3, ⟨[.p, .p, .e, .p, .p, .p, .p, .p], [0, 0, 3, 7, 15, 15, 31, 127]⟩), (4, ⟨[.p, .p, .e, .p, .p, .p, .p, .p], [0, 0, 3, 7, 15, 15, 31, 127]⟩), (5, ⟨[.p, .p, .p], [0, 0, 3]⟩), (6, ⟨[.p], [0]⟩), (7, ⟨[.p, .e, .p, .p, .e, .p, .p, .p], [0, 1, 3, 0, 11, 27, 31, 127]⟩), (8, ⟨[.p, .p, .e, .p, .p, .p, .p, .p], [0, 0, 3, 7, 15, 15, 31, 127]⟩), (9, ⟨[.p, .p, .e, .p, .p, .p, .p, .p], [0, 0, 3, 7, 15, 15, 31, 127]⟩), (10, ⟨[.p], [0]⟩), (11, ⟨[.p], [0]⟩), (12, ⟨[.p, .p, .p, .p, .p, .p, .p, .p], [0, 0, 2, 7, 15, 31, 63, 127]⟩), (14, ⟨[.p, .p, .p, .q, .e, .e], [0, 0, 3, 7, 0, 31]⟩), (15, ⟨[.p, .q, .e, .e, .e], [0, 1, 3, 0, 15]⟩), (16, ⟨[.p, .q, .e], [0, 1, 3]⟩), (17, ⟨[.p, .p], [0, 1]⟩), (18, ⟨[.p, .p], [0, 1]⟩), (19, ⟨[.p, .p], [0, 1]⟩), (20, ⟨[.q, .p, .q, .e, .p, .p, .p, .p, .p, .p, .q, .e, .p, .p, .e, .e], [0, 0, 2, 6, 0, 16, 48, 126, 0, 0, 512, 1550, 3854, 8191, 0, 32767]⟩), (21, ⟨[.p], [0]⟩), (22, ⟨[.p, .p, .q, .e, .p], [0, 0, 2, 6, 15]⟩), (24, ⟨[.p, .q, .p, .p, .p, .p, .e, .e, .p, .e], [0, 1, 0, 0, 12, 28, 60, 127, 255, 511]⟩), (23, ⟨[.p, .p, .p], [0, 1, 3]⟩), (25, ⟨[.q, .e, .e], [0, 0, 3]⟩), (26, ⟨[.e, .p, .q, .e, .p, .e], [0, 0, 2, 7, 15, 31]⟩), (27, ⟨[.p, .q, .p, .e, .p, .q, .p, .e, .p], [0, 0, 0, 7, 0, 0, 0, 127, 255]⟩), (28, ⟨[.p], [0]⟩), (29, ⟨[.p], [0]⟩), (30, ⟨[.p, .p, .q, .p, .p], [0, 0, 2, 6, 15]⟩), (32, ⟨[.p, .q, .p, .p, .e], [0, 1, 0, 7, 15]⟩), (31, ⟨[.p, .p, .p], [0, 1, 3]⟩), (33, ⟨[.p, .p], [0, 1]⟩), (34, ⟨[.p, .q, .p, .e, .p, .p, .p, .p, .p], [0, 0, 0, 7, 15, 31, 31, 63, 255]⟩), (35, ⟨[.p, .q, .p, .e, .p, .p, .p, .p, .p], [0, 0, 0, 7, 15, 31, 31, 63, 255]⟩), (36, ⟨[.p, .q, .p, .q, .p, .p, .p, .p, .p, .p], [0, 1, 0, 4, 15, 31, 63, 63, 255, 511]⟩), (37, ⟨[.p], [0]⟩), (38, ⟨[.p, .p], [0, 1]⟩), (39, ⟨[.p, .q, .e, .p, .q, .e, .p], [0, 0, 3, 0, 0, 31, 63]⟩), (40, ⟨[.p], [0]⟩), (41, ⟨[.p, .p], [0, 1]⟩), (42, ⟨[.p, .p, .e, .p, .p, .e, .p], [0, 0, 3, 0, 0, 31, 63]⟩), (43, ⟨[.p], [0]⟩), (44, ⟨[.p, .p], [0, 1]⟩), (45, ⟨[.p, .p, .q, .e, .p, .p], [0, 0, 2, 6, 15, 31]⟩), (46, ⟨[.p, .e, .p, .p, .p, .q, .e, .p, .p, .p, .e, .p, .e, .p, .p, .p, .p, .p, .q, .e, .e, .p, .p, .q, .e, .e, .p, .p], [0, 1, 0, 4, 12, 28, 63, 127, 255, 511, 1023, 511, 4095, 8191, 16383, 32767, 65535, 65535, 196607, 458751, 1048575, 65535, 65535, 4259839, 14680063, 33554431, 67108863, 134217727]⟩), (47, ⟨[.p], [0]⟩), (13, ⟨[.p, .p, .p], [0, 1, 3]⟩), (48, ⟨[.p], [0]⟩)], loop := [(12, [15, 16]), (22, [20]), (30, [22])], join := [(7, [15]), (166, [82])] }
noncomputable def C3 : Code := Try.f3.body.getD .skip
theorem E3 (a0 : Value) (a1 : Value) (a2 : Value) (K : Value → World → Prop) (w : World) : F3 a0 a1 a2 K w = lift Try.prog H3 C3 (envOf [a0, a1, a2] 0) w (fun E w => resV Try.prog H3.n E Try.f3.results.toList w fun vs => K (retV vs) w) [] (fun E w => resV Try.prog H3.n E Try.f3.results.toList w fun vs => K (retV vs) w) := by kernel_rfl
theorem R3 : regOk H3 C3 = true := by kernel_rfl
theorem B3 : Try.f3.body = some C3 := by kernel_rfl
theorem F3_ok (a0 : Value) (a1 : Value) (a2 : Value) (K : Value → World → Prop) (w : World) (h : F3 a0 a1 a2 K w) : Calls Try.prog 3 #[a0, a1, a2] w (retK K) :=
  lift_call mixed Try.func3 B3 Try.ntmps3 R3 (Nat.le_of_ble_eq_true rfl) (Eq.mp (E3 a0 a1 a2 K w) h)
def F4x1 (a0 : Value) (a1 : Value) (a2 : Value) (a3 : Value) (w1 : World) (K : Value → World → Prop) : Prop :=
  CallF Try.prog 8 #[a0, (Value.int .i64 50)] w1 fun v23 w2 =>
  PRun Try.prog (binOp .add 3 (Value.int .i64 1) v23) fun v24 =>
  CallF Try.prog 8 #[a1, (Value.int .i64 50)] w2 fun v26 w3 =>
  PRun Try.prog (binOp .add 3 (Value.int .i64 1) v26) fun v27 =>
  CallF Try.prog 6 #[(Value.int .i64 100), (Value.int .i64 100)] w3 fun v29 w4 =>
  PRun Try.prog (Instr.extract v29 0) fun v30 =>
  PRun Try.prog (Instr.extract v29 1) fun v31 =>
  CallF Try.prog 9 #[(Value.int .i64 7)] w4 fun v32 w5 =>
  Run Try.prog (Instr.alloc 35 true (.tuple #[])) w5 fun v11 w6 =>
  Run Try.prog (Instr.storeAt 35 v11 v32) w6 fun _ w7 =>
  QRun Try.prog (Instr.loadAt 35 v11) w7 fun v34 =>
  Run Try.prog (Instr.buildSlice 37 3 #[(0, (Value.int .u8 1)), (1, (Value.int .u8 2)), (2, (Value.int .u8 3))]) w7 fun v35 w8 =>
  PRun Try.prog (Instr.build 39 #[(0, v34), (1, v35), (2, (Value.int .i64 2)), (3, v24)]) fun v37 =>
  CallF Try.prog 10 #[v30, v37, (Value.int .i64 0)] w8 fun v38 w9 =>
  CallF Try.prog 8 #[a2, v24] w9 fun v41 w10 =>
  QRun Try.prog (Instr.loadAt 35 v11) w10 fun v43 =>
  Run Try.prog (Instr.buildSlice 37 1 #[(0, a3)]) w10 fun v45 w11 =>
  PRun Try.prog (binOp .add 3 v41 v27) fun v48 =>
  PRun Try.prog (Instr.build 39 #[(0, v43), (1, v45), (2, (Value.int .i64 3)), (3, v48)]) fun v49 =>
  CallF Try.prog 10 #[v30, v49, v41] w11 fun v51 w12 =>
  PRun Try.prog (binOp .add 3 v41 v27) fun v55 =>
  PRun Try.prog (Builtin.max_ #[3, 3] 3 #[v24, v55]) fun v56 =>
  QRun Try.prog (Instr.loadAt 35 v11) w12 fun v59 =>
  PRun Try.prog (binOp .sub 3 v56 (Value.int .i64 1)) fun v61 =>
  CallF Try.prog 12 #[v30, v59, v61] w12 fun v62 w13 =>
  PRun Try.prog (Instr.extract v62 0) fun v63 =>
  PRun Try.prog (Instr.extract v62 1) fun v64 =>
  QRun Try.prog (Instr.loadAt 35 v11) w13 fun v67 =>
  CallF Try.prog 12 #[v30, v67, v56] w13 fun v69 w14 =>
  PRun Try.prog (Instr.extract v69 0) fun v70 =>
  PRun Try.prog (Instr.extract v69 1) fun v71 =>
  CallF Try.prog 19 #[v30] w14 fun v73 w15 =>
  PRun Try.prog (eqS .eql 25 (.tmp 74) (.const (Value.int .i64 0)) v38 (Value.int .i64 0)) fun v75 =>
  Gd v75 true (fun k => k v51) fun v77 =>
  Gd v75 true (fun k => PRun Try.prog (eqS .eql 25 (.tmp 77) (.const (Value.int .i64 0)) v77 (Value.int .i64 0)) k) fun v78 =>
  Pick v75 v78 (Value.bool false) fun v79 =>
  Gd v79 true (fun k => k v64) fun v81 =>
  Pick v79 v81 (Value.bool false) fun v82 =>
  Gd v82 true (fun k => k v63) fun v84 =>
  Gd v82 true (fun k => QRun Try.prog (convert 37 9 v84) w15 k) fun v85 =>
  Gd v82 true (fun k => PRun Try.prog (eqS .eql 9 (.tmp 85) (.const (Value.string (ByteArray.mk #[1, 2, 3]))) v85 (Value.string (ByteArray.mk #[1, 2, 3]))) k) fun v86 =>
  Pick v82 v86 (Value.bool false) fun v87 =>
  Gd v87 true (fun k => k v71) fun v89 =>
  Gd v87 true (fun k => PRun Try.prog (Op.unary .not v89) k) fun v90 =>
  Pick v87 v90 (Value.bool false) fun v91 =>
  Gd v91 true (fun k => k v73) fun v93 =>
  Gd v91 true (fun k => PRun Try.prog (Builtin.len_ #[47] 3 #[v93]) k) fun v94 =>
  Gd v91 true (fun k => PRun Try.prog (eqS .eql 3 (.tmp 94) (.const (Value.int .i64 1)) v94 (Value.int .i64 1)) k) fun v95 =>
  Pick v91 v95 (Value.bool false) fun v96 =>
  Gd v96 true (fun k => k v73) fun v98 =>
  Gd v96 true (fun k => PRun Try.prog (Instr.indexAt 47 v98 (Value.int .i64 0)) k) fun v99 =>
  Gd v96 true (fun k => PRun Try.prog (Instr.fieldAt 39 v99 2) k) fun v100 =>
  Gd v96 true (fun k => QRun Try.prog (Instr.loadAt 3 v100) w15 k) fun v101 =>
  Gd v96 true (fun k => PRun Try.prog (eqS .eql 3 (.tmp 101) (.const (Value.int .i64 2)) v101 (Value.int .i64 2)) k) fun v102 =>
  Pick v96 v102 (Value.bool false) fun v103 =>
  Gd v103 true (fun k => k v73) fun v105 =>
  Gd v103 true (fun k => PRun Try.prog (Instr.indexAt 47 v105 (Value.int .i64 0)) k) fun v106 =>
  Gd v103 true (fun k => PRun Try.prog (Instr.fieldAt 39 v106 3) k) fun v107 =>
  Gd v103 true (fun k => QRun Try.prog (Instr.loadAt 3 v107) w15 k) fun v108 =>
  Gd v103 true (fun k => k v56) fun v109 =>
  Gd v103 true (fun k => PRun Try.prog (eqS .eql 3 (.tmp 108) (.tmp 109) v108 v109) k) fun v110 =>
  Pick v103 v110 (Value.bool false) fun v111 =>
  Gd v111 true (fun k => k v30) fun v113 =>
  GdE v111 true (fun k => CallF Try.prog 22 #[v113, (Value.int .i64 3)] w15 k) w15 fun v114 w16 =>
  Gd v111 true (fun k => PRun Try.prog (eqS .eql 3 (.tmp 114) (.const (Value.int .i64 0)) v114 (Value.int .i64 0)) k) fun v115 =>
  Pick v111 v115 (Value.bool false) fun v116 =>
  Gd v116 true (fun k => k v30) fun v118 =>
  Gd v116 true (fun k => k v56) fun v119 =>
  Gd v116 true (fun k => PRun Try.prog (binOp .sub 3 v119 (Value.int .i64 1)) k) fun v120 =>
  GdE v116 true (fun k => CallF Try.prog 16 #[v118, v120] w16 k) w16 fun v121 w17 =>
  Gd v116 true (fun k => PRun Try.prog (eqS .eql 3 (.tmp 121) (.const (Value.int .i64 0)) v121 (Value.int .i64 0)) k) fun v122 =>
  Pick v116 v122 (Value.bool false) fun v123 =>
  Gd v123 true (fun k => k v30) fun v125 =>
  Gd v123 true (fun k => k v56) fun v126 =>
  GdE v123 true (fun k => CallF Try.prog 16 #[v125, v126] w17 k) w17 fun v127 w18 =>
  Gd v123 true (fun k => PRun Try.prog (eqS .eql 3 (.tmp 127) (.const (Value.int .i64 1)) v127 (Value.int .i64 1)) k) fun v128 =>
  Pick v123 v128 (Value.bool false) fun v129 =>
  Gd v129 true (fun k => k v30) fun v131 =>
  GdE v129 true (fun k => CallF Try.prog 20 #[v131] w18 k) w18 fun v132 w19 =>
  Gd v129 true (fun k => PRun Try.prog (eqS .eql 3 (.tmp 132) (.const (Value.int .i64 0)) v132 (Value.int .i64 0)) k) fun v133 =>
  Pick v129 v133 (Value.bool false) fun v134 =>
  K v134 w19
/-- lattice/latticelaw11.AreaLeases -/
def F4 (a0 : Value) (a1 : Value) (a2 : Value) (a3 : Value) (K : Value → World → Prop) (w : World) : Prop :=
  CallF Try.prog 5 #[] w fun v20 w1 =>
  PRun Try.prog (Op.unary .not v20) fun v21 =>
  Branch v21 (
    K (Value.bool false) w1
  ) (
    F4x1 a0 a1 a2 a3 w1 K
  )
def H4 : Hints := { n := 135, reg := [(0, ⟨[.p], [0]⟩), (1, ⟨[.e, .p], [0, 1]⟩), (2, ⟨[.p], [0]⟩), (3, ⟨[.p, .e, .p, .p, .e, .p, .p, .p], [0, 1, 3, 0, 11, 27, 31, 127]⟩), (4, ⟨[.e, .p, .p, .p, .p, .p], [0, 1, 3, 3, 7, 31]⟩), (5, ⟨[.e, .e, .e], [0, 0, 3]⟩), (6, ⟨[.p, .q, .e, .p, .p, .e, .p], [0, 0, 0, 0, 14, 31, 63]⟩), (7, ⟨[.p, .p, .e, .p], [0, 0, 3, 7]⟩), (8, ⟨[.p, .q, .p, .e, .p, .p, .p, .p, .p, .e, .p], [0, 0, 0, 4, 0, 0, 48, 126, 0, 511, 1023]⟩), (9, ⟨[.p, .p, .p, .p, .p, .p], [0, 0, 0, 6, 15, 31]⟩), (10, ⟨[.p, .q, .p, .p, .e, .p, .p, .p, .p, .p], [0, 0, 0, 4, 15, 31, 63, 63, 127, 511]⟩), (11, ⟨[.p, .q, .p, .e, .p, .p, .p, .p, .p], [0, 0, 0, 7, 15, 31, 31, 63, 255]⟩), (12, ⟨[.p, .e, .p], [0, 1, 3]⟩), (13, ⟨[.p, .p, .p, .p, .p, .p, .p, .p, .p, .p, .p, .q, .p, .p, .p, .p, .p, .p, .p, .p, .p, .p, .p, .p, .p, .p, .p, .q, .p, .p, .p, .p, .p, .p, .q, .p, .p, .p, .p, .p, .e, .p, .p, .p, .p, .p, .p, .e, .p, .p, .p, .p, .p, .e, .p, .p, .p, .p, .e, .p, .p, .p], [0, 1, 3, 7, 15, 31, 63, 127, 255, 511, 1023, 2047, 4095, 8191, 16383, 32767, 65535, 131071, 262143, 524287, 1048575, 2097151, 4194303, 8388607, 16777215, 33554431, 67108863, 134217727, 268435455, 536870911, 1073741823, 2147483647, 4294967295, 8589934591, 17179869183, 2147483647, 68719476735, 137438953471, 274877906943, 549755813887, 1099511627775, 2199023255551, 4398046511103, 8796093022207, 17592186044415, 17592186044415, 52776558133247, 140737488355327, 281474976710655, 562949953421311, 1125899906842623, 2251799813685247, 2251799813685247, 9007199254740991, 18014398509481983, 36028797018963967, 72057594037927935, 144115188075855871, 288230376151711743, 576460752303423487, 1152921504606846975, 2305843009213693951]⟩)], loop := [], join := [] }
noncomputable def C4 : Code := Try.f4.body.getD .skip
theorem E4 (a0 : Value) (a1 : Value) (a2 : Value) (a3 : Value) (K : Value → World → Prop) (w : World) : F4 a0 a1 a2 a3 K w = lift Try.prog H4 C4 (envOf [a0, a1, a2, a3] 0) w (fun E w => resV Try.prog H4.n E Try.f4.results.toList w fun vs => K (retV vs) w) [] (fun E w => resV Try.prog H4.n E Try.f4.results.toList w fun vs => K (retV vs) w) := by kernel_rfl
theorem R4 : regOk H4 C4 = true := by kernel_rfl
theorem B4 : Try.f4.body = some C4 := by kernel_rfl
theorem F4_ok (a0 : Value) (a1 : Value) (a2 : Value) (a3 : Value) (K : Value → World → Prop) (w : World) (h : F4 a0 a1 a2 a3 K w) : Calls Try.prog 4 #[a0, a1, a2, a3] w (retK K) :=
  lift_call mixed Try.func4 B4 Try.ntmps4 R4 (Nat.le_of_ble_eq_true rfl) (Eq.mp (E4 a0 a1 a2 a3 K w) h)
def F10x1 (a0 : Value) (v4 : Value) (w4 : World) (K : Value → World → Prop) : Prop :=
  PRun Try.prog (Instr.fieldAt 39 v4 1) fun v83 =>
  QRun Try.prog (Instr.loadAt 37 v83) w4.drew.drew fun v84 =>
  CallF Try.prog 24 #[v84] w4.drew.drew fun v85 w7 =>
  PRun Try.prog (Instr.fieldAt 39 v4 1) fun v86 =>
  Run Try.prog (Instr.storeAt 37 v86 v85) w7 fun _ w8 =>
  NilCk a0 fun v88 =>
  PRun Try.prog (Instr.fieldAt 57 v88 3) fun v89 =>
  QRun Try.prog (Instr.loadAt 54 v89) w8.drew fun v90 =>
  PRun Try.prog (Instr.fieldAt 39 v4 0) fun v91 =>
  QRun Try.prog (Instr.loadAt 35 v91) w8.drew fun v92 =>
  QRun Try.prog (Instr.loadAt 39 v4) w8.drew fun v93 =>
  Run Try.prog (Instr.mapUpdate 54 v90 v92 v93) w8.drew fun _ w9 =>
  NilCk a0 fun v96 =>
  PRun Try.prog (Instr.fieldAt 57 v96 0) fun v97 =>
  QRun Try.prog (Instr.loadAt 3 v97) w9.drew fun v98 =>
  PRun Try.prog (Instr.fieldAt 39 v4 3) fun v99 =>
  QRun Try.prog (Instr.loadAt 3 v99) w9.drew fun v100 =>
  PRun Try.prog (Builtin.min_ #[3, 3] 3 #[v98, v100]) fun v101 =>
  NilCk a0 fun v102 =>
  PRun Try.prog (Instr.fieldAt 57 v102 0) fun v103 =>
  Run Try.prog (Instr.storeAt 3 v103 v101) w9.drew fun _ w10 =>
  PRun Try.prog (Instr.fieldAt 39 v4 2) fun v105 =>
  QRun Try.prog (Instr.loadAt 3 v105) w10 fun v106 =>
  PRun Try.prog (Instr.fieldAt 39 v4 1) fun v107 =>
  QRun Try.prog (Instr.loadAt 37 v107) w10 fun v108 =>
  PRun Try.prog (Builtin.len_ #[37] 3 #[v108]) fun v109 =>
  CallF Try.prog 25 #[a0, v106, v109] w10 fun v110 w11 =>
  K (Value.int .i64 0) w11
def F10x2 (a0 : Value) (v4 : Value) (w4 : World) (K : Value → World → Prop) : Prop :=
  PRun Try.prog (Instr.fieldAt 39 v4 1) fun v70 =>
  QRun Try.prog (Instr.loadAt 37 v70) w4.drew.drew fun v71 =>
  PRun Try.prog (Builtin.len_ #[37] 3 #[v71]) fun v72 =>
  NilCk a0 fun v74 =>
  PRun Try.prog (Instr.fieldAt 57 v74 1) fun v75 =>
  QRun Try.prog (Instr.loadAt 3 v75) w4.drew.drew fun v76 =>
  NilCk a0 fun v78 =>
  PRun Try.prog (Instr.fieldAt 57 v78 5) fun v79 =>
  QRun Try.prog (Instr.loadAt 3 v79) w4.drew.drew fun v80 =>
  PRun Try.prog (binOp .sub 3 v76 v80) fun v81 =>
  PRun Try.prog (binOp .gtr 3 v72 v81) fun v82 =>
  Branch v82 (
    K (Value.int .i64 16) w4.drew.drew
  ) (
    F10x1 a0 v4 w4 K
  )
def F10x3 (a0 : Value) (v4 : Value) (v7 : Value) (w4 : World) (K : Value → World → Prop) : Prop :=
  PRun Try.prog (Instr.fieldAt 39 v7 3) fun v39 =>
  QRun Try.prog (Instr.loadAt 3 v39) w4 fun v40 =>
  PRun Try.prog (Instr.fieldAt 39 v4 3) fun v41 =>
  QRun Try.prog (Instr.loadAt 3 v41) w4 fun v42 =>
  PRun Try.prog (Builtin.max_ #[3, 3] 3 #[v40, v42]) fun v43 =>
  PRun Try.prog (Instr.fieldAt 39 v7 3) fun v44 =>
  Run Try.prog (Instr.storeAt 3 v44 v43) w4 fun _ w5 =>
  NilCk a0 fun v46 =>
  PRun Try.prog (Instr.fieldAt 57 v46 3) fun v47 =>
  QRun Try.prog (Instr.loadAt 54 v47) w5.drew fun v48 =>
  PRun Try.prog (Instr.fieldAt 39 v4 0) fun v49 =>
  QRun Try.prog (Instr.loadAt 35 v49) w5.drew fun v50 =>
  QRun Try.prog (Instr.loadAt 39 v7) w5.drew fun v51 =>
  Run Try.prog (Instr.mapUpdate 54 v48 v50 v51) w5.drew fun _ w6 =>
  K (Value.int .i64 0) w6
def F10x4 (a0 : Value) (v4 : Value) (w4 : World) (K : Value → World → Prop) : Prop :=
  PRun Try.prog (Instr.fieldAt 39 v4 1) fun v53 =>
  QRun Try.prog (Instr.loadAt 37 v53) w4.drew fun v54 =>
  PRun Try.prog (Builtin.len_ #[37] 3 #[v54]) fun v55 =>
  NilCk a0 fun v57 =>
  PRun Try.prog (Instr.fieldAt 57 v57 2) fun v58 =>
  QRun Try.prog (Instr.loadAt 3 v58) w4.drew fun v59 =>
  NilCk a0 fun v61 =>
  PRun Try.prog (Instr.fieldAt 57 v61 4) fun v62 =>
  QRun Try.prog (Instr.loadAt 55 v62) w4.drew fun v63 =>
  PRun Try.prog (Instr.fieldAt 39 v4 2) fun v64 =>
  QRun Try.prog (Instr.loadAt 3 v64) w4.drew fun v65 =>
  QRun Try.prog (Instr.lookup 55 v63 v65 false) w4.drew fun v66 =>
  PRun Try.prog (binOp .sub 3 v59 v66) fun v67 =>
  PRun Try.prog (binOp .gtr 3 v55 v67) fun v68 =>
  Branch v68 (
    K (Value.int .i64 15) w4.drew
  ) (
    F10x2 a0 v4 w4 K
  )
def F10x5 (a0 : Value) (a2 : Value) (v4 : Value) (w1 : World) (K : Value → World → Prop) : Prop :=
  CallF Try.prog 16 #[a0, a2] w1 fun v26 w2 =>
  NilCk a0 fun v29 =>
  PRun Try.prog (Instr.fieldAt 57 v29 3) fun v30 =>
  QRun Try.prog (Instr.loadAt 54 v30) w2.drew fun v31 =>
  PRun Try.prog (Instr.fieldAt 39 v4 0) fun v32 =>
  QRun Try.prog (Instr.loadAt 35 v32) w2.drew fun v33 =>
  QRun Try.prog (Instr.lookup 54 v31 v33 true) w2.drew fun v34 =>
  PRun Try.prog (Instr.extract v34 0) fun v35 =>
  PRun Try.prog (Instr.extract v34 1) fun v36 =>
  Run Try.prog (Instr.alloc 39 true (.tuple #[])) w2.drew fun v7 w3 =>
  (QRun Try.prog (Instr.lookup 54 v31 v33 true) w3 fun u => u = v34) ∧
  (QRun Try.prog (Instr.loadAt 35 v32) w3 fun u => u = v33) ∧
  (QRun Try.prog (Instr.loadAt 54 v30) w3 fun u => u = v31) ∧
  Run Try.prog (Instr.storeAt 39 v7 v35) w3 fun _ w4 =>
  Branch v36 (
    F10x3 a0 v4 v7 w4 K
  ) (
    F10x4 a0 v4 w4 K
  )
def F10x6 (a0 : Value) (a2 : Value) (v4 : Value) (w1 : World) (K : Value → World → Prop) : Prop :=
  PRun Try.prog (Instr.fieldAt 39 v4 1) fun v20 =>
  QRun Try.prog (Instr.loadAt 37 v20) w1 fun v21 =>
  PRun Try.prog (Builtin.len_ #[37] 3 #[v21]) fun v22 =>
  PRun Try.prog (binOp .gtr 3 v22 (Value.int .i64 6000)) fun v23 =>
  Branch v23 (
    K (Value.int .i64 5) w1
  ) (
    F10x5 a0 a2 v4 w1 K
  )
/-- (*lattice/area.Area).Put -/
def F10 (a0 : Value) (a1 : Value) (a2 : Value) (K : Value → World → Prop) (w : World) : Prop :=
  Run Try.prog (Instr.box 39 a1) w fun v4 w1 =>
  PRun Try.prog (Instr.fieldAt 39 v4 2) fun v10 =>
  QRun Try.prog (Instr.loadAt 3 v10) w1 fun v11 =>
  PRun Try.prog (binOp .lss 3 v11 (Value.int .i64 0)) fun v12 =>
  Gd v12 false (fun k => PRun Try.prog (Instr.fieldAt 39 v4 3) k) fun v14 =>
  Gd v12 false (fun k => QRun Try.prog (Instr.loadAt 3 v14) w1 k) fun v15 =>
  Gd v12 false (fun k => k a2) fun v16 =>
  Gd v12 false (fun k => PRun Try.prog (binOp .leq 3 v15 v16) k) fun v17 =>
  Pick v12 (Value.bool true) v17 fun v18 =>
  Branch v18 (
    K (Value.int .i64 1) w1
  ) (
    F10x6 a0 a2 v4 w1 K
  )
def H10 : Hints := { n := 111, reg := [(0, ⟨[.e, .p], [0, 0]⟩), (1, ⟨[.p, .q, .p, .p, .p, .q, .p, .p, .p, .p], [0, 1, 3, 7, 15, 31, 15, 127, 255, 511]⟩), (2, ⟨[.p], [0]⟩), (3, ⟨[.p, .q, .p, .p, .p], [0, 1, 3, 7, 15]⟩), (4, ⟨[.p], [0]⟩), (5, ⟨[.p, .p, .e], [0, 0, 3]⟩), (6, ⟨[.p, .p, .p, .q, .p, .q, .q, .p, .p, .p, .e, .e, .p], [0, 1, 3, 7, 0, 16, 63, 127, 255, 255, 0, 1535, 4095]⟩), (7, ⟨[.p, .p], [0, 1]⟩), (8, ⟨[.p, .q, .p, .q, .p, .p, .e], [0, 1, 0, 4, 15, 31, 63]⟩), (9, ⟨[.p, .p, .p, .q, .p, .q, .q, .e], [0, 1, 3, 7, 0, 16, 0, 127]⟩), (10, ⟨[.p], [0]⟩), (11, ⟨[.p, .q, .p, .p, .p, .p, .q, .p, .p, .p, .q, .p, .q, .q, .p, .p, .p], [0, 1, 3, 0, 8, 24, 56, 0, 128, 384, 896, 0, 2048, 8064, 16376, 32767, 65535]⟩), (12, ⟨[.p], [0]⟩), (13, ⟨[.p, .q, .p, .p, .p, .p, .q, .p, .p, .p, .q, .p, .p, .p], [0, 1, 3, 0, 8, 24, 56, 0, 128, 384, 896, 2040, 4095, 8191]⟩), (14, ⟨[.p], [0]⟩), (15, ⟨[.p, .q, .e, .p, .e], [0, 1, 3, 7, 15]⟩), (16, ⟨[.p, .p, .p, .q, .p, .q, .q, .e], [0, 1, 3, 7, 0, 16, 0, 127]⟩), (17, ⟨[.p, .p, .p, .p, .q, .p, .q, .p, .p, .p, .e], [0, 0, 2, 6, 14, 0, 32, 126, 255, 511, 1023]⟩), (18, ⟨[.p, .p, .q, .p, .q, .p, .e], [0, 0, 2, 0, 8, 24, 63]⟩), (19, ⟨[.p], [0]⟩)], loop := [], join := [] }
noncomputable def C10 : Code := Try.f10.body.getD .skip
theorem E10 (a0 : Value) (a1 : Value) (a2 : Value) (K : Value → World → Prop) (w : World) : F10 a0 a1 a2 K w = lift Try.prog H10 C10 (envOf [a0, a1, a2] 0) w (fun E w => resV Try.prog H10.n E Try.f10.results.toList w fun vs => K (retV vs) w) [] (fun E w => resV Try.prog H10.n E Try.f10.results.toList w fun vs => K (retV vs) w) := by kernel_rfl
theorem R10 : regOk H10 C10 = true := by kernel_rfl
theorem B10 : Try.f10.body = some C10 := by kernel_rfl
theorem F10_ok (a0 : Value) (a1 : Value) (a2 : Value) (K : Value → World → Prop) (w : World) (h : F10 a0 a1 a2 K w) : Calls Try.prog 10 #[a0, a1, a2] w (retK K) :=
  lift_call mixed Try.func10 B10 Try.ntmps10 R10 (Nat.le_of_ble_eq_true rfl) (Eq.mp (E10 a0 a1 a2 K w) h)
end Go.Proofs
