/- Parts of the proof: S.F2. -/
import Derived.Test.YtjiadgfieekenaaL2
import Derived.Test.YtjiadgfieekenaaTy
set_option linter.unusedVariables false
set_option linter.unusedSimpArgs false
set_option linter.unusedSectionVars false
namespace Go.Proofs
open Go Go.Lf
set_option maxRecDepth 100000
def F51x1 (v4 : Value) (v9_2 : Value) (v15 : Value) (v20_2 : Value) (k3 : Value → World → Prop) (k7 : Value → World → Prop) (w37 : World) : Prop :=
  PRun Try.prog (binOp .lss 3 v20_2 (Value.int .i64 8)) fun v228 =>
  Branch v228 (
    PRun Try.prog (Instr.indexAt 105 v4 v20_2) fun v232 =>
    QRun Try.prog (Instr.loadAt 104 v232) w37.drew fun v233 =>
    PRun Try.prog (Instr.indexAt 105 v15 v20_2) fun v235 =>
    QRun Try.prog (Instr.loadAt 104 v235) w37.drew fun v236 =>
    PRun Try.prog (binOp .add 104 v233 v236) fun v237 =>
    PRun Try.prog (Instr.indexAt 105 v4 v20_2) fun v238 =>
    Run Try.prog (Instr.storeAt 104 v238 v237) w37.drew fun _ w38 =>
    PRun Try.prog (binOp .add 3 v20_2 (Value.int .i64 1)) fun v230 =>
    k7 v230 w38
  ) (
    PRun Try.prog (binOp .add 3 v9_2 (Value.int .i64 64)) fun v60 =>
    k3 v60 w37
  )
def F51x2 (v3 : Value) (v8 : Value) (v15 : Value) (v16_2 : Value) (k6 : Value → World → Prop) (w29 : World) : Prop :=
  PRun Try.prog (Instr.indexAt 105 v15 (Value.int .i64 4)) fun v146 =>
  QRun Try.prog (Instr.loadAt 104 v146) w29 fun v147 =>
  PRun Try.prog (Instr.indexAt 105 v15 (Value.int .i64 7)) fun v148 =>
  QRun Try.prog (Instr.loadAt 104 v148) w29.drew fun v149 =>
  PRun Try.prog (Instr.indexAt 105 v15 (Value.int .i64 5)) fun v160 =>
  QRun Try.prog (Instr.loadAt 104 v160) w29.drew fun v161 =>
  PRun Try.prog (binOp .and 104 v147 v161) fun v162 =>
  PRun Try.prog (Op.unary .xor v147) fun v164 =>
  PRun Try.prog (Instr.indexAt 105 v15 (Value.int .i64 6)) fun v165 =>
  QRun Try.prog (Instr.loadAt 104 v165) w29.drew fun v166 =>
  PRun Try.prog (binOp .and 104 v164 v166) fun v167 =>
  PRun Try.prog (binOp .xor 104 v162 v167) fun v168 =>
  PRun Try.prog (Instr.indexAt 111 v3 v16_2) fun v171 =>
  QRun Try.prog (Instr.loadAt 104 v171) w29.drew fun v172 =>
  PRun Try.prog (Instr.indexAt 111 v8 v16_2) fun v175 =>
  QRun Try.prog (Instr.loadAt 104 v175) w29.drew fun v176 =>
  CallF Try.prog 69 #[v147, (Value.int .u64 6)] w29.drew fun v151 w30 =>
  (QRun Try.prog (Instr.loadAt 104 v175) w30 fun u => u = v176) ∧
  (QRun Try.prog (Instr.loadAt 104 v171) w30 fun u => u = v172) ∧
  (QRun Try.prog (Instr.loadAt 104 v165) w30 fun u => u = v166) ∧
  (QRun Try.prog (Instr.loadAt 104 v160) w30 fun u => u = v161) ∧
  (QRun Try.prog (Instr.loadAt 104 v148) w30 fun u => u = v149) ∧
  CallF Try.prog 69 #[v147, (Value.int .u64 11)] w30 fun v153 w31 =>
  (QRun Try.prog (Instr.loadAt 104 v175) w31 fun u => u = v176) ∧
  (QRun Try.prog (Instr.loadAt 104 v171) w31 fun u => u = v172) ∧
  (QRun Try.prog (Instr.loadAt 104 v165) w31 fun u => u = v166) ∧
  (QRun Try.prog (Instr.loadAt 104 v160) w31 fun u => u = v161) ∧
  (QRun Try.prog (Instr.loadAt 104 v148) w31 fun u => u = v149) ∧
  PRun Try.prog (binOp .xor 104 v151 v153) fun v154 =>
  CallF Try.prog 69 #[v147, (Value.int .u64 25)] w31 fun v156 w32 =>
  (QRun Try.prog (Instr.loadAt 104 v175) w32 fun u => u = v176) ∧
  (QRun Try.prog (Instr.loadAt 104 v171) w32 fun u => u = v172) ∧
  (QRun Try.prog (Instr.loadAt 104 v165) w32 fun u => u = v166) ∧
  (QRun Try.prog (Instr.loadAt 104 v160) w32 fun u => u = v161) ∧
  (QRun Try.prog (Instr.loadAt 104 v148) w32 fun u => u = v149) ∧
  PRun Try.prog (binOp .xor 104 v154 v156) fun v157 =>
  PRun Try.prog (binOp .add 104 v149 v157) fun v158 =>
  PRun Try.prog (binOp .add 104 v158 v168) fun v169 =>
  PRun Try.prog (binOp .add 104 v169 v172) fun v173 =>
  PRun Try.prog (binOp .add 104 v173 v176) fun v177 =>
  PRun Try.prog (Instr.indexAt 105 v15 (Value.int .i64 0)) fun v178 =>
  QRun Try.prog (Instr.loadAt 104 v178) w32.drew fun v179 =>
  PRun Try.prog (Instr.indexAt 105 v15 (Value.int .i64 0)) fun v181 =>
  QRun Try.prog (Instr.loadAt 104 v181) w32.drew fun v182 =>
  PRun Try.prog (Instr.indexAt 105 v15 (Value.int .i64 0)) fun v185 =>
  QRun Try.prog (Instr.loadAt 104 v185) w32.drew fun v186 =>
  PRun Try.prog (Instr.indexAt 105 v15 (Value.int .i64 0)) fun v189 =>
  QRun Try.prog (Instr.loadAt 104 v189) w32.drew fun v190 =>
  PRun Try.prog (Instr.indexAt 105 v15 (Value.int .i64 1)) fun v191 =>
  QRun Try.prog (Instr.loadAt 104 v191) w32.drew fun v192 =>
  PRun Try.prog (binOp .and 104 v190 v192) fun v193 =>
  PRun Try.prog (Instr.indexAt 105 v15 (Value.int .i64 0)) fun v194 =>
  QRun Try.prog (Instr.loadAt 104 v194) w32.drew fun v195 =>
  PRun Try.prog (Instr.indexAt 105 v15 (Value.int .i64 2)) fun v196 =>
  QRun Try.prog (Instr.loadAt 104 v196) w32.drew fun v197 =>
  PRun Try.prog (binOp .and 104 v195 v197) fun v198 =>
  PRun Try.prog (binOp .xor 104 v193 v198) fun v199 =>
  PRun Try.prog (Instr.indexAt 105 v15 (Value.int .i64 1)) fun v200 =>
  QRun Try.prog (Instr.loadAt 104 v200) w32.drew fun v201 =>
  PRun Try.prog (Instr.indexAt 105 v15 (Value.int .i64 2)) fun v202 =>
  QRun Try.prog (Instr.loadAt 104 v202) w32.drew fun v203 =>
  PRun Try.prog (binOp .and 104 v201 v203) fun v204 =>
  PRun Try.prog (binOp .xor 104 v199 v204) fun v205 =>
  CallF Try.prog 69 #[v179, (Value.int .u64 2)] w32.drew fun v180 w33 =>
  (QRun Try.prog (Instr.loadAt 104 v202) w33 fun u => u = v203) ∧
  (QRun Try.prog (Instr.loadAt 104 v200) w33 fun u => u = v201) ∧
  (QRun Try.prog (Instr.loadAt 104 v196) w33 fun u => u = v197) ∧
  (QRun Try.prog (Instr.loadAt 104 v194) w33 fun u => u = v195) ∧
  (QRun Try.prog (Instr.loadAt 104 v191) w33 fun u => u = v192) ∧
  (QRun Try.prog (Instr.loadAt 104 v189) w33 fun u => u = v190) ∧
  (QRun Try.prog (Instr.loadAt 104 v185) w33 fun u => u = v186) ∧
  (QRun Try.prog (Instr.loadAt 104 v181) w33 fun u => u = v182) ∧
  CallF Try.prog 69 #[v182, (Value.int .u64 13)] w33 fun v183 w34 =>
  (QRun Try.prog (Instr.loadAt 104 v202) w34 fun u => u = v203) ∧
  (QRun Try.prog (Instr.loadAt 104 v200) w34 fun u => u = v201) ∧
  (QRun Try.prog (Instr.loadAt 104 v196) w34 fun u => u = v197) ∧
  (QRun Try.prog (Instr.loadAt 104 v194) w34 fun u => u = v195) ∧
  (QRun Try.prog (Instr.loadAt 104 v191) w34 fun u => u = v192) ∧
  (QRun Try.prog (Instr.loadAt 104 v189) w34 fun u => u = v190) ∧
  (QRun Try.prog (Instr.loadAt 104 v185) w34 fun u => u = v186) ∧
  PRun Try.prog (binOp .xor 104 v180 v183) fun v184 =>
  CallF Try.prog 69 #[v186, (Value.int .u64 22)] w34 fun v187 w35 =>
  (QRun Try.prog (Instr.loadAt 104 v202) w35 fun u => u = v203) ∧
  (QRun Try.prog (Instr.loadAt 104 v200) w35 fun u => u = v201) ∧
  (QRun Try.prog (Instr.loadAt 104 v196) w35 fun u => u = v197) ∧
  (QRun Try.prog (Instr.loadAt 104 v194) w35 fun u => u = v195) ∧
  (QRun Try.prog (Instr.loadAt 104 v191) w35 fun u => u = v192) ∧
  (QRun Try.prog (Instr.loadAt 104 v189) w35 fun u => u = v190) ∧
  PRun Try.prog (binOp .xor 104 v184 v187) fun v188 =>
  PRun Try.prog (binOp .add 104 v188 v205) fun v206 =>
  PRun Try.prog (binOp .add 104 v177 v206) fun v209 =>
  PRun Try.prog (Instr.indexAt 105 v15 (Value.int .i64 0)) fun v210 =>
  QRun Try.prog (Instr.loadAt 104 v210) w35 fun v211 =>
  PRun Try.prog (Instr.indexAt 105 v15 (Value.int .i64 1)) fun v212 =>
  QRun Try.prog (Instr.loadAt 104 v212) w35 fun v213 =>
  PRun Try.prog (Instr.indexAt 105 v15 (Value.int .i64 2)) fun v214 =>
  QRun Try.prog (Instr.loadAt 104 v214) w35 fun v215 =>
  PRun Try.prog (Instr.indexAt 105 v15 (Value.int .i64 3)) fun v216 =>
  QRun Try.prog (Instr.loadAt 104 v216) w35 fun v217 =>
  PRun Try.prog (binOp .add 104 v217 v177) fun v219 =>
  PRun Try.prog (Instr.indexAt 105 v15 (Value.int .i64 4)) fun v220 =>
  QRun Try.prog (Instr.loadAt 104 v220) w35 fun v221 =>
  PRun Try.prog (Instr.indexAt 105 v15 (Value.int .i64 5)) fun v222 =>
  QRun Try.prog (Instr.loadAt 104 v222) w35 fun v223 =>
  PRun Try.prog (Instr.indexAt 105 v15 (Value.int .i64 6)) fun v224 =>
  QRun Try.prog (Instr.loadAt 104 v224) w35 fun v225 =>
  PRun Try.prog (Instr.build 105 #[(0, v209), (1, v211), (2, v213), (3, v215), (4, v219), (5, v221), (6, v223), (7, v225)]) fun v226 =>
  Run Try.prog (Instr.storeAt 105 v15 v226) w35 fun _ w36 =>
  PRun Try.prog (binOp .add 3 v16_2 (Value.int .i64 1)) fun v145 =>
  k6 v145 w36
def F51x3 (v8 : Value) (v12_2 : Value) (k5 : Value → World → Prop) (w21 : World) : Prop :=
  PRun Try.prog (binOp .sub 3 v12_2 (Value.int .i64 15)) fun v105 =>
  PRun Try.prog (Instr.indexAt 111 v8 v105) fun v106 =>
  QRun Try.prog (Instr.loadAt 104 v106) w21.drew fun v107 =>
  PRun Try.prog (binOp .sub 3 v12_2 (Value.int .i64 2)) fun v109 =>
  PRun Try.prog (Instr.indexAt 111 v8 v109) fun v110 =>
  QRun Try.prog (Instr.loadAt 104 v110) w21.drew fun v111 =>
  PRun Try.prog (binOp .shr 104 v111 (Value.int .u64 10)) fun v119 =>
  PRun Try.prog (binOp .sub 3 v12_2 (Value.int .i64 7)) fun v122 =>
  PRun Try.prog (Instr.indexAt 111 v8 v122) fun v123 =>
  QRun Try.prog (Instr.loadAt 104 v123) w21.drew.drew fun v124 =>
  PRun Try.prog (binOp .shr 104 v107 (Value.int .u64 3)) fun v132 =>
  PRun Try.prog (binOp .sub 3 v12_2 (Value.int .i64 16)) fun v136 =>
  PRun Try.prog (Instr.indexAt 111 v8 v136) fun v137 =>
  QRun Try.prog (Instr.loadAt 104 v137) w21.drew.drew fun v138 =>
  CallF Try.prog 69 #[v111, (Value.int .u64 17)] w21.drew.drew fun v114 w22 =>
  (QRun Try.prog (Instr.loadAt 104 v137) w22 fun u => u = v138) ∧
  (QRun Try.prog (Instr.loadAt 104 v123) w22 fun u => u = v124) ∧
  CallF Try.prog 69 #[v111, (Value.int .u64 19)] w22 fun v116 w23 =>
  (QRun Try.prog (Instr.loadAt 104 v137) w23 fun u => u = v138) ∧
  (QRun Try.prog (Instr.loadAt 104 v123) w23 fun u => u = v124) ∧
  PRun Try.prog (binOp .xor 104 v114 v116) fun v117 =>
  PRun Try.prog (binOp .xor 104 v117 v119) fun v120 =>
  PRun Try.prog (binOp .add 104 v120 v124) fun v125 =>
  CallF Try.prog 69 #[v107, (Value.int .u64 7)] w23 fun v127 w24 =>
  (QRun Try.prog (Instr.loadAt 104 v137) w24 fun u => u = v138) ∧
  (QRun Try.prog (Instr.loadAt 104 v123) w24 fun u => u = v124) ∧
  CallF Try.prog 69 #[v107, (Value.int .u64 18)] w24 fun v129 w25 =>
  (QRun Try.prog (Instr.loadAt 104 v137) w25 fun u => u = v138) ∧
  (QRun Try.prog (Instr.loadAt 104 v123) w25 fun u => u = v124) ∧
  PRun Try.prog (binOp .xor 104 v127 v129) fun v130 =>
  PRun Try.prog (binOp .xor 104 v130 v132) fun v133 =>
  PRun Try.prog (binOp .add 104 v125 v133) fun v134 =>
  PRun Try.prog (binOp .add 104 v134 v138) fun v139 =>
  PRun Try.prog (Instr.indexAt 111 v8 v12_2) fun v140 =>
  Run Try.prog (Instr.storeAt 104 v140 v139) w25 fun _ w26 =>
  PRun Try.prog (binOp .add 3 v12_2 (Value.int .i64 1)) fun v103 =>
  k5 v103 w26
def F51x4 (v3 : Value) (v4 : Value) (v8 : Value) (v9_2 : Value) (v12_2 : Value) (k3 : Value → World → Prop) (k5 : Value → World → Prop) (w21 : World) : Prop :=
  PRun Try.prog (binOp .lss 3 v12_2 (Value.int .i64 64)) fun v101 =>
  Branch v101 (
    F51x3 v8 v12_2 k5 w21
  ) (
    QRun Try.prog (Instr.loadAt 105 v4) w21 fun v141 =>
    Run Try.prog (Instr.alloc 105 true (.tuple #[])) w21 fun v15 w27 =>
    Run Try.prog (Instr.storeAt 105 v15 v141) w27 fun _ w28 =>
    LoopF 1 [(Value.int .i64 0)] w28 fun v16_2 w29 k6 => ∀ _ : Env,
    PRun Try.prog (binOp .lss 3 v16_2 (Value.int .i64 64)) fun v143 =>
    Branch v143 (
      F51x2 v3 v8 v15 v16_2 k6 w29
    ) (
      LoopF 1 [(Value.int .i64 0)] w29 fun v20_2 w37 k7 => ∀ _ : Env,
      F51x1 v4 v9_2 v15 v20_2 k3 k7 w37
    )
  )
def F51x5 (v5_5 : Value) (v8 : Value) (v9_2 : Value) (v10_2 : Value) (k4 : Value → World → Prop) (w19 : World) : Prop :=
  PRun Try.prog (binOp .mul 3 (Value.int .i64 4) v10_2) fun v67 =>
  PRun Try.prog (binOp .add 3 v9_2 v67) fun v68 =>
  PRun Try.prog (Instr.indexAt 30 v5_5 v68) fun v72 =>
  QRun Try.prog (Instr.loadAt 5 v72) w19.drew fun v73 =>
  PRun Try.prog (convert 5 104 v73) fun v74 =>
  PRun Try.prog (binOp .shl 104 v74 (Value.int .u64 24)) fun v75 =>
  PRun Try.prog (binOp .add 3 v68 (Value.int .i64 1)) fun v78 =>
  PRun Try.prog (Instr.indexAt 30 v5_5 v78) fun v79 =>
  QRun Try.prog (Instr.loadAt 5 v79) w19.drew fun v80 =>
  PRun Try.prog (convert 5 104 v80) fun v81 =>
  PRun Try.prog (binOp .shl 104 v81 (Value.int .u64 16)) fun v82 =>
  PRun Try.prog (binOp .or 104 v75 v82) fun v83 =>
  PRun Try.prog (binOp .add 3 v68 (Value.int .i64 2)) fun v86 =>
  PRun Try.prog (Instr.indexAt 30 v5_5 v86) fun v87 =>
  QRun Try.prog (Instr.loadAt 5 v87) w19.drew fun v88 =>
  PRun Try.prog (convert 5 104 v88) fun v89 =>
  PRun Try.prog (binOp .shl 104 v89 (Value.int .u64 8)) fun v90 =>
  PRun Try.prog (binOp .or 104 v83 v90) fun v91 =>
  PRun Try.prog (binOp .add 3 v68 (Value.int .i64 3)) fun v94 =>
  PRun Try.prog (Instr.indexAt 30 v5_5 v94) fun v95 =>
  QRun Try.prog (Instr.loadAt 5 v95) w19.drew fun v96 =>
  PRun Try.prog (convert 5 104 v96) fun v97 =>
  PRun Try.prog (binOp .or 104 v91 v97) fun v98 =>
  PRun Try.prog (Instr.indexAt 111 v8 v10_2) fun v99 =>
  Run Try.prog (Instr.storeAt 104 v99 v98) w19.drew fun _ w20 =>
  PRun Try.prog (binOp .add 3 v10_2 (Value.int .i64 1)) fun v64 =>
  k4 v64 w20
def F51x6 (v4 : Value) (v21 : Value) (v22_2 : Value) (k8 : Value → World → Prop) (w40 : World) : Prop :=
  PRun Try.prog (binOp .mul 3 (Value.int .i64 4) v22_2) fun v244 =>
  PRun Try.prog (binOp .mul 3 (Value.int .i64 4) v22_2) fun v246 =>
  PRun Try.prog (binOp .add 3 v246 (Value.int .i64 1)) fun v247 =>
  PRun Try.prog (binOp .mul 3 (Value.int .i64 4) v22_2) fun v249 =>
  PRun Try.prog (binOp .add 3 v249 (Value.int .i64 2)) fun v250 =>
  PRun Try.prog (binOp .mul 3 (Value.int .i64 4) v22_2) fun v252 =>
  PRun Try.prog (binOp .add 3 v252 (Value.int .i64 3)) fun v253 =>
  PRun Try.prog (Instr.indexAt 105 v4 v22_2) fun v255 =>
  QRun Try.prog (Instr.loadAt 104 v255) w40.drew fun v256 =>
  PRun Try.prog (binOp .shr 104 v256 (Value.int .u64 24)) fun v257 =>
  PRun Try.prog (convert 104 5 v257) fun v258 =>
  PRun Try.prog (Instr.indexAt 105 v4 v22_2) fun v260 =>
  QRun Try.prog (Instr.loadAt 104 v260) w40.drew fun v261 =>
  PRun Try.prog (binOp .shr 104 v261 (Value.int .u64 16)) fun v262 =>
  PRun Try.prog (convert 104 5 v262) fun v263 =>
  PRun Try.prog (Instr.indexAt 105 v4 v22_2) fun v265 =>
  QRun Try.prog (Instr.loadAt 104 v265) w40.drew fun v266 =>
  PRun Try.prog (binOp .shr 104 v266 (Value.int .u64 8)) fun v267 =>
  PRun Try.prog (convert 104 5 v267) fun v268 =>
  PRun Try.prog (Instr.indexAt 105 v4 v22_2) fun v270 =>
  QRun Try.prog (Instr.loadAt 104 v270) w40.drew fun v271 =>
  PRun Try.prog (convert 104 5 v271) fun v272 =>
  PRun Try.prog (Instr.indexAt 25 v21 v244) fun v273 =>
  Run Try.prog (Instr.storeAt 5 v273 v258) w40.drew fun _ w41 =>
  (QRun Try.prog (Instr.loadAt 104 v270) w41 fun u => u = v271) ∧
  (QRun Try.prog (Instr.loadAt 104 v265) w41 fun u => u = v266) ∧
  (QRun Try.prog (Instr.loadAt 104 v260) w41 fun u => u = v261) ∧
  PRun Try.prog (Instr.indexAt 25 v21 v247) fun v274 =>
  Run Try.prog (Instr.storeAt 5 v274 v263) w41 fun _ w42 =>
  (QRun Try.prog (Instr.loadAt 104 v270) w42 fun u => u = v271) ∧
  (QRun Try.prog (Instr.loadAt 104 v265) w42 fun u => u = v266) ∧
  PRun Try.prog (Instr.indexAt 25 v21 v250) fun v275 =>
  Run Try.prog (Instr.storeAt 5 v275 v268) w42 fun _ w43 =>
  (QRun Try.prog (Instr.loadAt 104 v270) w43 fun u => u = v271) ∧
  PRun Try.prog (Instr.indexAt 25 v21 v253) fun v276 =>
  Run Try.prog (Instr.storeAt 5 v276 v272) w43 fun _ w44 =>
  PRun Try.prog (binOp .add 3 v22_2 (Value.int .i64 1)) fun v242 =>
  k8 v242 w44
def F51x7 (v2 : Value) (v3 : Value) (v4 : Value) (v5_5 : Value) (v8 : Value) (v9_2 : Value) (k3 : Value → World → Prop) (w18 : World) (K : Value → World → Prop) : Prop :=
  PRun Try.prog (Builtin.len_ #[30] 3 #[v5_5]) fun v57 =>
  PRun Try.prog (binOp .lss 3 v9_2 v57) fun v58 =>
  Branch v58 (
    LoopF 1 [(Value.int .i64 0)] w18 fun v10_2 w19 k4 => ∀ _ : Env,
    PRun Try.prog (binOp .lss 3 v10_2 (Value.int .i64 16)) fun v62 =>
    Branch v62 (
      F51x5 v5_5 v8 v9_2 v10_2 k4 w19
    ) (
      LoopF 1 [(Value.int .i64 16)] w19 fun v12_2 w21 k5 => ∀ _ : Env,
      F51x4 v3 v4 v8 v9_2 v12_2 k3 k5 w21
    )
  ) (
    Run Try.prog (Instr.alloc 25 true (.tuple #[])) w18 fun v21 w39 =>
    LoopF 1 [(Value.int .i64 0)] w39 fun v22_2 w40 k8 => ∀ _ : Env,
    PRun Try.prog (binOp .lss 3 v22_2 (Value.int .i64 8)) fun v240 =>
    Branch v240 (
      F51x6 v4 v21 v22_2 k8 w40
    ) (
      QRun Try.prog (Instr.loadAt 25 v21) w40 fun v277 =>
      Run Try.prog (Instr.storeAt 25 v2 v277) w40 fun _ w45 =>
      QRun Try.prog (Instr.loadAt 25 v2) w45 fun v2_2 =>
      K v2_2 w45
    )
  )
def F51x8 (v2 : Value) (v3 : Value) (v4 : Value) (v5_5 : Value) (v7_2 : Value) (v41 : Value) (k2 : Value → Value → World → Prop) (w14 : World) (K : Value → World → Prop) : Prop :=
  PRun Try.prog (binOp .geq 3 v7_2 (Value.int .i64 0)) fun v43 =>
  Branch v43 (
    PRun Try.prog (convert 3 69 v7_2) fun v49 =>
    PRun Try.prog (binOp .mul 69 (Value.int .u64 8) v49) fun v50 =>
    PRun Try.prog (binOp .shr 103 v41 v50) fun v51 =>
    PRun Try.prog (convert 103 5 v51) fun v52 =>
    Run Try.prog (Instr.buildSlice 30 1 #[(0, v52)]) w14 fun v53 w15 =>
    Run Try.prog (Builtin.append_ #[30, 30] 30 #[v5_5, v53]) w15 fun v54 w16 =>
    PRun Try.prog (binOp .sub 3 v7_2 (Value.int .i64 1)) fun v45 =>
    k2 v54 v45 w16
  ) (
    Run Try.prog (Instr.alloc 111 true (.tuple #[])) w14 fun v8 w17 =>
    LoopF 1 [(Value.int .i64 0)] w17 fun v9_2 w18 k3 => ∀ _ : Env,
    F51x7 v2 v3 v4 v5_5 v8 v9_2 k3 w18 K
  )
def F51x9 (a0 : Value) (v2 : Value) (v3 : Value) (v4 : Value) (v5_3 : Value) (k1 : Value → World → Prop) (w11 : World) (K : Value → World → Prop) : Prop :=
  PRun Try.prog (Builtin.len_ #[30] 3 #[v5_3]) fun v32 =>
  PRun Try.prog (binOp .rem 3 v32 (Value.int .i64 64)) fun v33 =>
  PRun Try.prog (eqS .neq 3 (.tmp 33) (.const (Value.int .i64 56)) v33 (Value.int .i64 56)) fun v34 =>
  Branch v34 (
    Run Try.prog (Instr.buildSlice 30 1 #[(0, (Value.int .u8 0))]) w11 fun v36 w12 =>
    Run Try.prog (Builtin.append_ #[30, 30] 30 #[v5_3, v36]) w12 fun v37 w13 =>
    k1 v37 w13
  ) (
    PRun Try.prog (Builtin.len_ #[30] 3 #[a0]) fun v39 =>
    PRun Try.prog (convert 3 103 v39) fun v40 =>
    PRun Try.prog (binOp .mul 103 v40 (Value.int .u64 8)) fun v41 =>
    LoopF 2 [v5_3, (Value.int .i64 7)] w11 fun v5_5 v7_2 w14 k2 => ∀ _ : Env,
    F51x8 v2 v3 v4 v5_5 v7_2 v41 k2 w14 K
  )
/-- lattice/latticeref1.Sum -/
def F51 (a0 : Value) (K : Value → World → Prop) (w : World) : Prop :=
  Run Try.prog (Instr.alloc 25 true (.tuple #[])) w fun v2 w1 =>
  CallF Try.prog 68 #[] w1 fun v23 w2 =>
  Run Try.prog (Instr.alloc 111 true (.tuple #[])) w2 fun v3 w3 =>
  Run Try.prog (Instr.storeAt 111 v3 v23) w3 fun _ w4 =>
  PRun Try.prog (Instr.build 105 #[(0, (Value.int .u32 1779033703)), (1, (Value.int .u32 3144134277)), (2, (Value.int .u32 1013904242)), (3, (Value.int .u32 2773480762)), (4, (Value.int .u32 1359893119)), (5, (Value.int .u32 2600822924)), (6, (Value.int .u32 528734635)), (7, (Value.int .u32 1541459225))]) fun v24 =>
  Run Try.prog (Instr.alloc 105 true (.tuple #[])) w4 fun v4 w5 =>
  Run Try.prog (Instr.storeAt 105 v4 v24) w5 fun _ w6 =>
  Run Try.prog (Instr.buildSlice 30 0 #[]) w6 fun v25 w7 =>
  Run Try.prog (Builtin.append_ #[30, 30] 30 #[v25, a0]) w7 fun v27 w8 =>
  Run Try.prog (Instr.buildSlice 30 1 #[(0, (Value.int .u8 128))]) w8 fun v29 w9 =>
  Run Try.prog (Builtin.append_ #[30, 30] 30 #[v27, v29]) w9 fun v30 w10 =>
  LoopF 1 [v30] w10 fun v5_3 w11 k1 => ∀ _ : Env,
  F51x9 a0 v2 v3 v4 v5_3 k1 w11 K
def H51 : Hints := { n := 278, reg := [(0, ⟨[.e], [0]⟩), (1, ⟨[.e, .e, .e], [0, 0, 3]⟩), (2, ⟨[.p, .e, .e], [0, 0, 3]⟩), (3, ⟨[.e, .p, .e, .p], [0, 0, 3, 7]⟩), (4, ⟨[.p, .e, .e, .p], [0, 0, 3, 7]⟩), (5, ⟨[.p, .p, .p, .p], [0, 1, 3, 7]⟩), (6, ⟨[.p, .e, .e, .p], [0, 0, 3, 7]⟩), (7, ⟨[.p, .p, .p, .p, .p], [0, 1, 3, 7, 15]⟩), (8, ⟨[.p], [0]⟩), (9, ⟨[.p, .p], [0, 1]⟩), (11, ⟨[.p, .p, .p, .p, .p, .p, .p, .e, .e, .p], [0, 0, 0, 4, 12, 30, 62, 126, 255, 511]⟩), (10, ⟨[.p, .p, .p], [0, 1, 3]⟩), (12, ⟨[.e], [0]⟩), (13, ⟨[.p], [0]⟩), (14, ⟨[.p, .p, .p, .p], [0, 0, 2, 7]⟩), (16, ⟨[.p], [0]⟩), (17, ⟨[.p, .p], [0, 1]⟩), (19, ⟨[.p, .p, .p, .p, .p], [0, 0, 2, 7, 15]⟩), (20, ⟨[.p, .p, .p, .p, .q, .p, .p, .p, .p, .p, .p, .q, .p, .p, .p, .p, .p, .p, .p, .q, .p, .p, .p, .p, .p, .p, .p, .q, .p, .p, .p, .e], [0, 0, 0, 6, 14, 30, 62, 0, 0, 256, 896, 1920, 3968, 8064, 16382, 0, 0, 65536, 229376, 491520, 1015808, 2064384, 4194302, 0, 0, 16777216, 58720256, 125829120, 260046848, 536870910, 1073741823, 2147483647]⟩), (18, ⟨[.p, .p, .p], [0, 1, 3]⟩), (21, ⟨[.p], [0]⟩), (22, ⟨[.p, .p], [0, 1]⟩), (24, ⟨[.p, .p, .p, .q, .p, .p, .p, .q, .p, .p], [0, 1, 3, 7, 0, 16, 48, 112, 15, 511]⟩), (25, ⟨[.p, .p, .e, .p, .e, .p, .p, .p, .p, .p, .p, .p, .q, .p, .p, .e, .p, .e, .p, .p, .p, .p, .p, .p, .p, .p, .q, .p, .p, .e], [0, 0, 2, 0, 14, 30, 0, 64, 254, 0, 512, 1536, 3584, 8190, 0, 16414, 0, 114718, 245790, 0, 524288, 2080798, 4194302, 0, 8388608, 25165824, 58720256, 134217726, 268435455, 536870911]⟩), (23, ⟨[.p, .p, .p], [0, 1, 3]⟩), (26, ⟨[.q, .e, .e], [0, 0, 3]⟩), (27, ⟨[.p], [0]⟩), (28, ⟨[.p, .p], [0, 1]⟩), (30, ⟨[.p, .q, .p], [0, 1, 3]⟩), (31, ⟨[.p, .q, .p, .e, .p, .e, .p, .p, .e, .p, .p, .p, .p, .q, .p, .p, .p, .p, .q, .p, .p, .p, .p, .p, .q, .p, .p, .p, .q, .p, .p], [0, 1, 0, 4, 0, 28, 60, 0, 188, 508, 1023, 0, 0, 4096, 14336, 0, 32768, 0, 131072, 491520, 1046528, 2097151, 0, 4194304, 12582912, 33554431, 0, 67108864, 201326592, 536870911, 1073741823]⟩), (32, ⟨[.p, .q, .e, .p, .q, .e, .p, .p, .q, .e, .p, .p, .q, .p, .q, .p, .p, .q, .p, .q, .p, .p, .p, .q, .p, .q, .p, .p, .p, .p], [0, 1, 3, 0, 8, 31, 63, 0, 128, 447, 1023, 0, 2048, 0, 8192, 30720, 0, 65536, 0, 262144, 983040, 2095104, 0, 4194304, 0, 16777216, 62914560, 134215680, 268435455, 536870911]⟩), (33, ⟨[.p, .p, .p, .p, .q, .p, .q, .p, .q, .p, .q, .p, .p, .p, .q, .p, .q, .p, .q, .p, .e], [0, 0, 3, 0, 8, 0, 32, 0, 128, 0, 512, 0, 3584, 0, 8192, 0, 32768, 0, 131072, 524287, 1048575]⟩), (29, ⟨[.p, .p, .p], [0, 1, 3]⟩), (34, ⟨[.p], [0]⟩), (35, ⟨[.p, .p], [0, 1]⟩), (37, ⟨[.p, .p, .q, .p, .p, .q, .p, .p, .e], [0, 1, 3, 0, 8, 24, 63, 127, 255]⟩), (36, ⟨[.p, .p, .p], [0, 1, 3]⟩), (15, ⟨[.p, .p, .p], [0, 1, 3]⟩), (38, ⟨[.e], [0]⟩), (39, ⟨[.p], [0]⟩), (40, ⟨[.p, .p], [0, 1]⟩), (42, ⟨[.p, .p, .p, .p, .p, .p, .p, .p, .p, .p, .p, .p, .p, .q, .p, .p, .p, .p, .q, .p, .p, .p, .p, .q, .p, .p, .p, .p, .q, .p, .p, .e, .p, .e, .p, .e, .p, .e], [0, 1, 0, 4, 12, 0, 32, 96, 0, 256, 768, 0, 2048, 6144, 14336, 30720, 0, 65536, 196608, 458752, 983040, 0, 2097152, 6291456, 14680064, 31457280, 0, 67108864, 201326592, 469762048, 63491, 1073805315, 3223320607, 7518287903, 16173234431, 33353103615, 68719476735, 137438953471]⟩), (41, ⟨[.p, .p, .p], [0, 1, 3]⟩), (43, ⟨[.q, .e], [0, 1]⟩)], loop := [(5, [5]), (9, [5, 7]), (14, [9]), (17, [10]), (22, [12]), (28, [16]), (35, [20]), (40, [22])], join := [] }
noncomputable def C51 : Code := Try.f51.body.getD .skip
theorem E51 (a0 : Value) (K : Value → World → Prop) (w : World) : F51 a0 K w = lift Try.prog H51 C51 (envOf [a0] 0) w (fun E w => resV Try.prog H51.n E Try.f51.results.toList w fun vs => K (retV vs) w) [] (fun E w => resV Try.prog H51.n E Try.f51.results.toList w fun vs => K (retV vs) w) := by kernel_rfl
theorem R51 : regOk H51 C51 = true := by kernel_rfl
theorem B51 : Try.f51.body = some C51 := by kernel_rfl
theorem F51_ok (a0 : Value) (K : Value → World → Prop) (w : World) (h : F51 a0 K w) : Calls Try.prog 51 #[a0] w (retK K) :=
  lift_call mixed Try.func51 B51 Try.ntmps51 R51 (Nat.le_of_ble_eq_true rfl) (Eq.mp (E51 a0 K w) h)
end Go.Proofs
