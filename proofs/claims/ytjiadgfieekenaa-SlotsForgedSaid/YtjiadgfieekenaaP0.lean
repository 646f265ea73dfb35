/- Parts of the proof: S.P1, S.P2, S.P3, S.P4, S.P5, S.P6, S.P7, S.P8, S.P9, S.P10, S.P11, S.P12. -/
import Derived.Test.YtjiadgfieekenaaL2
import Derived.Test.YtjiadgfieekenaaF1
import Derived.Test.YtjiadgfieekenaaF2
import Derived.Test.YtjiadgfieekenaaSha
import Derived.Test.YtjiadgfieekenaaL1
import Derived.Test.YtjiadgfieekenaaF3
import Derived.Test.YtjiadgfieekenaaLms
set_option linter.unusedVariables false
set_option linter.unusedSimpArgs false
set_option linter.unusedSectionVars false
namespace Go.Proofs
open Go Go.Lf
set_option maxRecDepth 20000
set_option maxHeartbeats 2000000
set_option linter.unusedSimpArgs false
set_option linter.unusedVariables false
theorem rotl_spec (x : UInt32) (n : Nat) (hn : 0 < n ∧ n < 32) (w : World) : Calls Try.prog 88 #[u32v x, i64 (-(n : Int))] w (retK fun v w' => v = u32v (rotr x n) ∧ w' = w) := by
  refine F88_ok _ _ _ _ ?_
  unfold F88
  have e1 : (-(n : Int)) % 18446744073709551616 = 18446744073709551616 - n := by omega
  have e2 : (18446744073709551616 - (n : Int)) % 32 = 32 - n := by omega
  have e3 : (32 - (32 - (n : Int))) % 18446744073709551616 = n := by omega
  have e4 : (32 - (n : Int)).toNat = 32 - n := by omega
  simp (disch := first | exact dT_ | fail) only [e1, e2, e3, e4, and_true, u64w, Int.toNat_natCast, p_or32, p_shl32, p_shr32, p_sub64u, p_and31, cv3_69]
  exact rfl
theorem rot_spec (x : UInt32) (n : Nat) (hn : 0 < n ∧ n < 32) (w : World) : Calls Try.prog 69 #[u32v x, .int .u64 (n : Int)] w (retK fun v w' => v = u32v (rotr x n) ∧ w' = w) := by
  refine F69_ok _ _ _ _ ?_
  unfold F69
  have e3 : (32 - (n : Int)) % 18446744073709551616 = 32 - n := by omega
  have e4 : (32 - (n : Int)).toNat = 32 - n := by omega
  simp (disch := first | exact dT_ | fail) only [e3, e4, and_true, u64w, Int.toNat_natCast, p_or32, p_shl32, p_shr32, p_sub64u]
  rw [rotr, UInt32.or_comm]
theorem small0_spec (x : UInt32) (w : World) : Calls Try.prog 74 #[u32v x] w (retK fun v w' => v = u32v (sig0 x) ∧ w' = w) := by
  refine F74_ok _ _ _ ?_
  unfold F74
  refine CallF_by Try.call88 (rotl_spec x 7 (by decide) w) ?_
  rintro _ w1 ⟨rfl, rfl⟩
  refine CallF_by Try.call88 (rotl_spec x 18 (by decide) _) ?_
  rintro _ w1 ⟨rfl, rfl⟩
  simp (disch := first | exact dT_ | fail) only [and_true, p_xor32, p_shr32, Int.reduceToNat]
  exact rfl
theorem small1_spec (x : UInt32) (w : World) : Calls Try.prog 73 #[u32v x] w (retK fun v w' => v = u32v (sig1 x) ∧ w' = w) := by
  refine F73_ok _ _ _ ?_
  unfold F73
  refine CallF_by Try.call88 (rotl_spec x 17 (by decide) w) ?_
  rintro _ w1 ⟨rfl, rfl⟩
  refine CallF_by Try.call88 (rotl_spec x 19 (by decide) _) ?_
  rintro _ w1 ⟨rfl, rfl⟩
  simp (disch := first | exact dT_ | fail) only [and_true, p_xor32, p_shr32, Int.reduceToNat]
  exact rfl
theorem great0_spec (x : UInt32) (w : World) : Calls Try.prog 77 #[u32v x] w (retK fun v w' => v = u32v (Sig0 x) ∧ w' = w) := by
  refine F77_ok _ _ _ ?_
  unfold F77
  refine CallF_by Try.call88 (rotl_spec x 2 (by decide) w) ?_
  rintro _ w1 ⟨rfl, rfl⟩
  refine CallF_by Try.call88 (rotl_spec x 13 (by decide) _) ?_
  rintro _ w1 ⟨rfl, rfl⟩
  simp (disch := first | exact dT_ | fail) only [p_xor32]
  refine CallF_by Try.call88 (rotl_spec x 22 (by decide) _) ?_
  rintro _ w1 ⟨rfl, rfl⟩
  simp (disch := first | exact dT_ | fail) only [and_true, p_xor32]
  exact rfl
theorem great1_spec (x : UInt32) (w : World) : Calls Try.prog 76 #[u32v x] w (retK fun v w' => v = u32v (Sig1 x) ∧ w' = w) := by
  refine F76_ok _ _ _ ?_
  unfold F76
  refine CallF_by Try.call88 (rotl_spec x 6 (by decide) w) ?_
  rintro _ w1 ⟨rfl, rfl⟩
  refine CallF_by Try.call88 (rotl_spec x 11 (by decide) _) ?_
  rintro _ w1 ⟨rfl, rfl⟩
  simp (disch := first | exact dT_ | fail) only [p_xor32]
  refine CallF_by Try.call88 (rotl_spec x 25 (by decide) _) ?_
  rintro _ w1 ⟨rfl, rfl⟩
  simp (disch := first | exact dT_ | fail) only [and_true, p_xor32]
  exact rfl
end Go.Proofs
namespace Go.Proofs
open Go Go.Lf
set_option maxRecDepth 20000
set_option maxHeartbeats 2000000
set_option linter.unusedSimpArgs false
set_option linter.unusedVariables false
def litA (l : List UInt32) : Array (Nat × Value) := ((wc l).zipIdx.map fun x => (x.2, x.1)).toArray
theorem wc_one (l : List UInt32) : ∀ v ∈ wc l, v.cells.size = 1 := by
  intro v hv; obtain ⟨x, _, rfl⟩ := List.mem_map.1 hv; rfl
theorem catC_wc (l : List UInt32) : catC (wc l) = wc l := by
  unfold catC
  induction l with
  | nil => rfl
  | cons x l ih => simp only [wc, List.map_cons, List.flatMap_cons] at ih ⊢; rw [ih]; rfl
theorem bldK (K : Value → Prop) : PRun Try.prog (Instr.build 111 (litA K256)) K = K (.agg (wc K256).toArray) := by
  rw [litA, p_buildA hz111 Try.runUnderlying111 Try.sizeOf104 (wc K256) (wc_one _) (by kernel_rfl), catC_wc]
theorem bldI (K : Value → Prop) : PRun Try.prog (Instr.build 105 (litA Init256)) K = K (.agg (wc Init256).toArray) := by
  rw [litA, p_buildA hz105 Try.runUnderlying105 Try.sizeOf104 (wc Init256) (wc_one _) (by kernel_rfl), catC_wc]
theorem splice_wc_all {k k' : List UInt32} (h : k.length = k'.length) : splice (wc k).toArray 0 (wc k').toArray = (wc k').toArray := splice_all _ _ (by simp [wc_length, h])
theorem ext_wc0 {k : List UInt32} {n : Nat} (h : k.length = n) : ((wc k).toArray).extract 0 n = (wc k).toArray := by
  have e : n = (wc k).toArray.size := by simp [wc_length, h]
  rw [e]; exact Array.extract_size
theorem consts_spec (w : World) : Calls Try.prog 75 #[] w (retK fun v w' => v = .agg (wc K256).toArray ∧ Ext (fun _ => False) w w') := by
  refine F75_ok _ _ ?_
  have e : F75 (fun v w' => v = .agg (wc K256).toArray ∧ Ext (fun _ => False) w w') w = (Run Try.prog (Instr.alloc 111 true (.tuple #[])) w fun v0 w1 => PRun Try.prog (Instr.build 111 (litA K256)) fun v1 =>
    Run Try.prog (Instr.storeAt 111 v0 v1) w1 fun _ w2 => QRun Try.prog (Instr.loadAt 111 v0) w2 fun v0_2 => v0_2 = .agg (wc K256).toArray ∧ Ext (fun _ => False) w w2) := by kernel_rfl
  rw [e]
  have hl : K256.length = 64 := rfl
  have h0 : (List.replicate 64 (0 : UInt32)).length = 64 := by simp
  generalize hK : K256 = KK at *
  have s1 : splice (wc (List.replicate 64 (0 : UInt32))).toArray 0 (wc KK).toArray = (wc KK).toArray := splice_wc_all (by rw [hl, h0])
  have hb := bldK
  rw [hK] at hb
  simp (disch := first | exact dT_ | fail) only [hb, hl, h0, s1, ext_wc0 hl, put_allocN, Ln_cells, St_cells, Hp_alloc_new, cells_agg, Nat.zero_add, List.size_toArray, Nat.reduceLeDiff, if_pos, true_and, and_self, wc_length, ld111, st111, al111, zv111]
  exact (Ext.refl _ _).alloc _
theorem words_spec (w : World) : Calls Try.prog 68 #[] w (retK fun v w' => v = .agg (wc K256).toArray ∧ Ext (fun _ => False) w w') := by
  refine F68_ok _ _ ?_
  have e : F68 (fun v w' => v = .agg (wc K256).toArray ∧ Ext (fun _ => False) w w') w = (Run Try.prog (Instr.alloc 111 true (.tuple #[])) w fun v0 w1 => PRun Try.prog (Instr.build 111 (litA K256)) fun v1 =>
    Run Try.prog (Instr.storeAt 111 v0 v1) w1 fun _ w2 => QRun Try.prog (Instr.loadAt 111 v0) w2 fun v0_2 => v0_2 = .agg (wc K256).toArray ∧ Ext (fun _ => False) w w2) := by kernel_rfl
  rw [e]
  have hl : K256.length = 64 := rfl
  have h0 : (List.replicate 64 (0 : UInt32)).length = 64 := by simp
  generalize hK : K256 = KK at *
  have s1 : splice (wc (List.replicate 64 (0 : UInt32))).toArray 0 (wc KK).toArray = (wc KK).toArray := splice_wc_all (by rw [hl, h0])
  have hb := bldK
  rw [hK] at hb
  simp (disch := first | exact dT_ | fail) only [hb, hl, h0, s1, ext_wc0 hl, put_allocN, Ln_cells, St_cells, Hp_alloc_new, cells_agg, Nat.zero_add, List.size_toArray, Nat.reduceLeDiff, if_pos, true_and, and_self, wc_length, ld111, st111, al111, zv111]
  exact (Ext.refl _ _).alloc _
theorem begin_spec (w : World) : Calls Try.prog 63 #[] w (retK fun v w' => v = .agg (wc Init256).toArray ∧ Ext (fun _ => False) w w') := by
  refine F63_ok _ _ ?_
  have e : F63 (fun v w' => v = .agg (wc Init256).toArray ∧ Ext (fun _ => False) w w') w = (Run Try.prog (Instr.alloc 105 true (.tuple #[])) w fun v0 w1 => PRun Try.prog (Instr.build 105 (litA Init256)) fun v1 =>
    Run Try.prog (Instr.storeAt 105 v0 v1) w1 fun _ w2 => QRun Try.prog (Instr.loadAt 105 v0) w2 fun v0_2 => v0_2 = .agg (wc Init256).toArray ∧ Ext (fun _ => False) w w2) := by kernel_rfl
  rw [e]
  have hl : Init256.length = 8 := rfl
  have h0 : (List.replicate 8 (0 : UInt32)).length = 8 := by simp
  generalize hK : Init256 = KK at *
  have s1 : splice (wc (List.replicate 8 (0 : UInt32))).toArray 0 (wc KK).toArray = (wc KK).toArray := splice_wc_all (by rw [hl, h0])
  have hb := bldI
  rw [hK] at hb
  simp (disch := first | exact dT_ | fail) only [hb, hl, h0, s1, ext_wc0 hl, put_allocN, Ln_cells, St_cells, Hp_alloc_new, cells_agg, Nat.zero_add, List.size_toArray, Nat.reduceLeDiff, if_pos, true_and, and_self, wc_length, ld105, st105, al105, zv105]
  exact (Ext.refl _ _).alloc _
end Go.Proofs
namespace Go.Proofs
open Go Go.Lf
set_option maxRecDepth 20000
set_option maxHeartbeats 2000000
set_option linter.unusedSimpArgs false
set_option linter.unusedVariables false
theorem Loop9 {a0 a1 a2 a3 a4 a5 a6 a7 a8 : Value} {w : World} {body : Value → Value → Value → Value → Value → Value → Value → Value → Value → World → (Value → Value → Value → Value → Value → Value → Value → Value → Value → World → Prop) → Prop}
    (I : Value → Value → Value → Value → Value → Value → Value → Value → Value → World → Prop) (μ : Value → Value → Value → Value → Value → Value → Value → Value → Value → World → Nat) (h0 : I a0 a1 a2 a3 a4 a5 a6 a7 a8 w)
    (h : ∀ x0 x1 x2 x3 x4 x5 x6 x7 x8 w, I x0 x1 x2 x3 x4 x5 x6 x7 x8 w → body x0 x1 x2 x3 x4 x5 x6 x7 x8 w fun y0 y1 y2 y3 y4 y5 y6 y7 y8 w' => I y0 y1 y2 y3 y4 y5 y6 y7 y8 w' ∧ μ y0 y1 y2 y3 y4 y5 y6 y7 y8 w' < μ x0 x1 x2 x3 x4 x5 x6 x7 x8 w) : LoopF 9 [a0, a1, a2, a3, a4, a5, a6, a7, a8] w body := ⟨I, μ, h0, h⟩
theorem take_set_next (W : List UInt32) (i : Nat) (x : UInt32) (h : i < W.length) : (W.set i x).take (i + 1) = W.take i ++ [x] := by
  apply List.ext_getElem?
  intro j
  rw [List.getElem?_take, List.getElem?_set, List.getElem?_append, List.length_take, Nat.min_eq_left (by omega)]
  by_cases h1 : j < i
  · rw [if_pos (by omega), if_neg (by omega), if_pos h1, List.getElem?_take, if_pos h1]
  · by_cases h2 : j = i
    · subst h2; rw [if_pos (by omega), if_pos rfl, if_pos h, if_neg (by omega), Nat.sub_self]; rfl
    · rw [if_neg (by omega), if_neg (by omega), List.getElem?_eq_none (by simp; omega)]
theorem take_getD (W : List UInt32) (i j : Nat) (h : j < i) : (W.take i).getD j 0 = W.getD j 0 := by
  rw [List.getD_eq_getElem?_getD, List.getD_eq_getElem?_getD, List.getElem?_take, if_pos h]
theorem mix_spec {w : World} {l : List UInt32} (hl : l.length = 8) {v : Value} {blk : List UInt8} {Q : Nat → Prop} (hb : BIn w v blk Q) (hbl : blk.length = 64) :
    Calls Try.prog 64 #[.agg (wc l).toArray, v] w (retK fun u w' => u = .agg (wc (mixF l blk)).toArray ∧ Ext (fun _ => False) w w') := by
  refine F64_ok _ _ _ _ ?_
  unfold F64
  have h64 : (List.replicate 64 (0 : UInt32)).length = 64 := by simp
  rcases hb with ⟨rfl, rfl⟩ | ⟨b, o, cap, row, U, fr, rfl, hrow, hcells, -⟩
  · simp at hbl
  have hblt := Hp_lt hrow
  simp (disch := first | exact dT_ | fail) only [hbl, r_box, sz_alloc, cells_agg, forall_const, Int.reduceToNat, slAH111, len116, al105, al111, zv105, zv111]
  have hcg : ∀ j, j < 64 → row[o + j]? = some (u8v (blk.getD j 0)) := fun j hj => by rw [hcells j (by omega), ← bc_getD blk j (by omega), List.getElem?_toArray]
  obtain ⟨w3, hw3⟩ : ∃ w3, w3 = ((w.alloc (Obj.cells (wc l).toArray 105)).alloc (Obj.cells (wc (List.replicate 8 0)).toArray 105)).alloc (Obj.cells (wc (List.replicate 64 0)).toArray 111) := ⟨_, rfl⟩
  have hx3 : Ext (fun _ => False) w w3 := by rw [hw3]; exact (((Ext.refl _ _).alloc _).alloc _).alloc _
  have hs0 : Hp w3 (sz w) = some (Obj.cells (wc l).toArray 105) := by rw [hw3]; (first | exact hpt_ | fail)
  have hs1 : Hp w3 (sz w + 1) = some (Obj.cells (wc (List.replicate 8 0)).toArray 105) := by rw [hw3]; (first | exact hpt_ | fail)
  have hs2 : Hp w3 (sz w + 1 + 1) = some (Obj.cells (wc (List.replicate 64 0)).toArray 111) := by rw [hw3]; (first | exact hpt_ | fail)
  rw [← hw3]
  clear hw3
  have hsz3 := hx3.size
  obtain ⟨M, hM⟩ : ∃ M : Nat → Prop, M = fun b => sz w + 1 + 1 = b := ⟨_, rfl⟩
  obtain ⟨J, hJ⟩ : ∃ J : Value → World → Prop, J = fun v w4 => ∃ (i : Nat) (W : List UInt32), v = i64 (i : Int) ∧ i ≤ 16 ∧ W.length = 64 ∧ W.take i = wl blk i ∧ Ext (fun b => b = sz w + 1 + 1) w3 w4 ∧ Hp w4 (sz w + 1 + 1) = some (Obj.cells (wc W).toArray 111) := ⟨_, rfl⟩
  refine Loop1 J (fun v _ => 16 - (match v with | .int _ n => n.toNat | _ => 0)) (by rw [hJ]; exact ⟨0, _, rfl, by omega, h64, rfl, Ext.refl _ _, hs2⟩) ?_
  intro v w4 hj
  rw [hJ] at hj
  obtain ⟨i, W, rfl, hi, hW, htk, hx4, hW4⟩ := hj
  have hrow4 := hx4.at (hx3.at hrow not_false) (by omega)
  have hlW := Hp_lt hW4
  unfold F64x6
  by_cases hlt : i < 16
  · have hlt' : (i : Int) < ((16 : Nat) : Int) := by omega
    have n0 : ((4 : Int) * (i : Int)).toNat = 4 * i := by omega
    have n1 : ((4 : Int) * (i : Int) + 1).toNat = 4 * i + 1 := by omega
    have n2 : ((4 : Int) * (i : Int) + 2).toNat = 4 * i + 2 := by omega
    have n3 : ((4 : Int) * (i : Int) + 3).toNat = 4 * i + 3 := by omega
    have g0 := hcg (4 * i) (by omega)
    have g1 := hcg (4 * i + 1) (by omega)
    have g2 := hcg (4 * i + 2) (by omega)
    have g3 := hcg (4 * i + 3) (by omega)
    simp (disch := first | exact dT_ | fail) only [hlt', p_lss, Branch_bool, and_true, Bool.true_eq_false, false_implies, forall_const, Int.toNat_natCast, decide_true]
    unfold F64x5
    simp (disch := first | exact dT_ | fail) only [n0, n1, n2, n3, hrow4, g0, g1, g2, g3, hW4, hW, p_add, p_mul, L1_cells, St_cells, Hp_drew, cells_int, Option.elim_some, Nat.zero_add, List.size_toArray, List.length_cons, List.length_nil, Nat.reduceLeDiff, if_pos, true_and, u32b, wr_in, Int.toNat_natCast, Nat.mul_one, p_or32, p_shl32, wc_length, wc_set, Int.reduceToNat, ix30, ix111, cv5_104, ld5, st104]
    refine ⟨?_, by omega⟩
    rw [hJ]
    have hx5 : Ext (fun b => b = sz w + 1 + 1) w4 (put w4.drew (sz w + 1 + 1) (Obj.cells (wc (W.set i (wordAt blk i))).toArray 111)) := (Ext.refl _ _).drew.put _ _ fun _ => rfl
    refine ⟨i + 1, W.set i (wordAt blk i), by simp, by omega, by simpa using hW, ?_, hx4.trans hx5 fun _ _ h => h, Hp_put_same _ _ _ (by rw [sz_drew]; exact hlW)⟩
    rw [take_set_next _ _ _ (by omega), htk]
    show _ = wl blk i ++ [_]
    rw [if_pos hlt]
  · have hlt' : ¬ (i : Int) < ((16 : Nat) : Int) := by omega
    simp (disch := first | exact dT_ | fail) only [hlt', p_lss, Branch_bool, true_and, Bool.false_eq_true, false_implies, forall_const, Int.toNat_natCast, decide_false]
    obtain rfl : i = 16 := by omega
    clear hJ J hM M
    obtain ⟨J, hJ⟩ : ∃ J : Value → World → Prop, J = fun v w4 => ∃ (i : Nat) (W : List UInt32), v = i64 (i : Int) ∧ 16 ≤ i ∧ i ≤ 64 ∧ W.length = 64 ∧ W.take i = wl blk i ∧ Ext (fun b => b = sz w + 1 + 1) w3 w4 ∧ Hp w4 (sz w + 1 + 1) = some (Obj.cells (wc W).toArray 111) := ⟨_, rfl⟩
    refine Loop1 J (fun v _ => 64 - (match v with | .int _ n => n.toNat | _ => 0)) (by rw [hJ]; exact ⟨16, W, rfl, by omega, by omega, hW, htk, hx4, hW4⟩) ?_
    clear hW htk hx4 hW4 hrow4 hlW
    intro v w6 hj
    rw [hJ] at hj
    obtain ⟨i, W, rfl, hi0, hi, hW, htk, hx4, hW4⟩ := hj
    have hlW := Hp_lt hW4
    by_cases hlt : i < 64
    · have hlt' : (i : Int) < 64 := by omega
      simp (disch := first | exact dT_ | fail) only [hlt', p_lss, Branch_bool, and_true, Bool.true_eq_false, false_implies, forall_const, Int.toNat_natCast, decide_true]
      unfold F64x3
      have n0 : ((i : Int) - 2).toNat = i - 2 := by omega
      have n1 : ((i : Int) - 7).toNat = i - 7 := by omega
      have n2 : ((i : Int) - 15).toNat = i - 15 := by omega
      have n3 : ((i : Int) - 16).toNat = i - 16 := by omega
      simp (disch := first | exact dT_ | fail) only [n0, n1, n2, n3, hW4, p_add, p_sub, L1_cells, Hp_drew, List.getElem?_toArray, Option.elim_some, Nat.zero_add, wr_in, Int.toNat_natCast, Nat.mul_one, wc_getL, ix111, ld104]
      refine CallF_by Try.call73 (small1_spec _ _) ?_
      rintro _ w7 ⟨rfl, rfl⟩
      simp (disch := first | exact dT_ | fail) only [hW4, L1_cells, Hp_drew, List.getElem?_toArray, Option.elim_some, true_and, p_add32, wc_getL]
      refine CallF_by Try.call74 (small0_spec _ _) ?_
      rintro _ w7 ⟨rfl, rfl⟩
      simp (disch := first | exact dT_ | fail) only [hW4, hW, L1_cells, St_cells, Hp_drew, cells_int, List.getElem?_toArray, Option.elim_some, Nat.zero_add, List.size_toArray, List.length_cons, List.length_nil, Nat.reduceLeDiff, if_pos, true_and, p_add32, wc_length, wc_getL, wc_set, st104]
      refine ⟨?_, by omega⟩
      rw [hJ]
      have hx5 : ∀ x, Ext (fun b => b = sz w + 1 + 1) w6 (put w6.drew (sz w + 1 + 1) (Obj.cells (wc (W.set i x)).toArray 111)) := fun x => (Ext.refl _ _).drew.put _ _ fun _ => rfl
      refine ⟨i + 1, W.set i _, by simp, by omega, by omega, by simpa using hW, ?_, hx4.trans (hx5 _) fun _ _ h => h, Hp_put_same _ _ _ (by rw [sz_drew]; exact hlW)⟩
      rw [take_set_next _ _ _ (by omega), htk]
      show _ = wl blk i ++ [_]
      rw [if_neg (by omega), ← htk, take_getD _ _ _ (by omega), take_getD _ _ _ (by omega), take_getD _ _ _ (by omega), take_getD _ _ _ (by omega)]
    · have hlt' : ¬ (i : Int) < 64 := by omega
      simp (disch := first | exact dT_ | fail) only [hlt', p_lss, Branch_bool, true_and, Bool.false_eq_true, false_implies, forall_const, Int.toNat_natCast, decide_false]
      obtain rfl : i = 64 := by omega
      have hWe : W = wl blk 64 := (List.take_of_length_le (i := 64) (l := W) (by omega)).symm.trans htk
      clear hJ J htk hi0 hi hlt hlt'
      unfold F64x4
      have hl0 := hx4.at hs0 (by omega)
      have hl1 := hx4.at hs1 (by omega)
      refine CallF_by Try.call75 (consts_spec _) ?_
      rintro _ w10 ⟨rfl, hx10⟩
      have hlK : K256.length = 64 := rfl
      have hl0' := hx10.at hl0 not_false
      have hl1' := hx10.at hl1 not_false
      have hW10 := hx10.at hW4 not_false
      have hlW10 := Hp_lt hW10
      have hs10 := hx10.size
      have s1 : splice (wc (List.replicate 64 (0 : UInt32))).toArray 0 (wc K256).toArray = (wc K256).toArray := splice_wc_all (by rw [hlK, h64])
      simp (disch := first | exact dT_ | fail) only [hlK, h64, s1, hl0', hW10, hW, ext_wc0 hW, put_allocN, L1_cells, Ln_cells, St_cells, Hp_drew, Hp_alloc_new, Hp_alloc_old, cells_agg, List.getElem?_toArray, Option.elim_some, Nat.zero_add, Nat.add_zero, List.size_toArray, Nat.reduceLeDiff, if_pos, and_self, forall_const, Nat.mul_one, wc_length, wc_getL, Int.reduceToNat, ix105, ld104, ld111, st111, al111, zv111]
      obtain ⟨w12, hw12⟩ : ∃ w12, w12 = (w10.alloc (Obj.cells (wc K256).toArray 111)).drew := ⟨_, rfl⟩
      have hx12 : Ext (fun _ => False) w10 w12 := by rw [hw12]; exact ((Ext.refl _ _).alloc _).drew
      have hK12 : Hp w12 (sz w10) = some (Obj.cells (wc K256).toArray 111) := by rw [hw12]; (first | exact hpt_ | fail)
      rw [← hw12]
      clear hw12
      have hm0 := hx12.at hl0' not_false
      have hm1 := hx12.at hl1' not_false
      have hlm1 := Hp_lt hm1
      have hall : Ext (fun _ => False) w w12 := ((hx3.trans2 hx4 (M := fun b => sz w ≤ b) (fun _ _ h => h.elim) (fun b _ e => by omega)).trans2 (M := fun b => sz w ≤ b) hx10 (fun _ _ h => h) fun _ _ h => h.elim).trans2 hx12 (fun b hb h => by omega) fun _ _ h => h
      clear hx3 hx4 hx10 hl0 hl1 hl0' hl1' hW10 hW4 s1
      generalize hKK : K256 = KK at *
      obtain ⟨s, hs⟩ : ∃ s, s = St8.of l := ⟨_, rfl⟩
      refine Loop9 (fun y0 y1 y2 y3 y4 y5 y6 y7 y8 w' => ∃ n : Nat, n ≤ 64 ∧ y8 = i64 (n : Int) ∧ y0 = u32v (rounds blk s n).a ∧ y1 = u32v (rounds blk s n).b ∧ y2 = u32v (rounds blk s n).c ∧ y3 = u32v (rounds blk s n).d ∧ y4 = u32v (rounds blk s n).e ∧ y5 = u32v (rounds blk s n).f ∧ y6 = u32v (rounds blk s n).g ∧ y7 = u32v (rounds blk s n).h ∧ Ext (fun _ => False) w12 w')
        (fun _ _ _ _ _ _ _ _ y8 _ => 64 - (match y8 with | .int _ n => n.toNat | _ => 0)) ⟨0, by omega, rfl, by rw [hs]; rfl, by rw [hs]; rfl, by rw [hs]; rfl, by rw [hs]; rfl, by rw [hs]; rfl, by rw [hs]; rfl, by rw [hs]; rfl, by rw [hs]; rfl, Ext.refl _ _⟩ ?_
      rintro _ _ _ _ _ _ _ _ _ w13 ⟨n, hn, rfl, rfl, rfl, rfl, rfl, rfl, rfl, rfl, rfl, hx13⟩
      have hK13 := hx13.at hK12 not_false
      by_cases hlt : n < 64
      · have hlt' : (n : Int) < 64 := by omega
        simp (disch := first | exact dT_ | fail) only [hlt', p_lss, Branch_bool, and_true, Bool.true_eq_false, false_implies, forall_const, Int.toNat_natCast, decide_true]
        unfold F64x1
        simp (disch := first | exact dT_ | fail) only [hK13, p_add, L1_cells, Hp_drew, List.getElem?_toArray, Option.elim_some, Nat.zero_add, wr_in, Int.toNat_natCast, Nat.mul_one, p_xor32, p_and32, p_not32, wc_getL, ixw111, ix111, ld104]
        refine CallF_by Try.call76 (great1_spec _ _) ?_
        rintro _ w14 ⟨rfl, rfl⟩
        simp (disch := first | exact dT_ | fail) only [hK13, L1_cells, Hp_drew, List.getElem?_toArray, Option.elim_some, true_and, p_add32, wc_getL]
        refine CallF_by Try.call77 (great0_spec _ _) ?_
        rintro _ w14 ⟨rfl, rfl⟩
        simp (disch := first | exact dT_ | fail) only [p_add32]
        have hst : rounds blk s (n + 1) = rnd (rounds blk s n) (KK.getD n 0) (W.getD n 0) := by rw [hWe, ← hKK]; rfl
        refine ⟨⟨n + 1, by omega, by simp, ?_, ?_, ?_, ?_, ?_, ?_, ?_, ?_, hx13.drew⟩, by omega⟩ <;> rw [hst] <;> rfl
      · have hlt' : ¬ (n : Int) < 64 := by omega
        obtain rfl : n = 64 := by omega
        have hp0 := hx13.at hm0 not_false
        have hp1 := hx13.at hm1 not_false
        have hlp1 := Hp_lt hp1
        simp (disch := first | exact dT_ | fail) only [hlt', p_lss, Branch_bool, true_and, Bool.false_eq_true, false_implies, forall_const, Nat.sub_self, Int.toNat_natCast, decide_false]
        unfold F64x2
        have hcc : ∀ v ∈ [u32v (l.getD 0 0 + (rounds blk s 64).a), u32v (l.getD 1 0 + (rounds blk s 64).b), u32v (l.getD 2 0 + (rounds blk s 64).c), u32v (l.getD 3 0 + (rounds blk s 64).d), u32v (l.getD 4 0 + (rounds blk s 64).e), u32v (l.getD 5 0 + (rounds blk s 64).f), u32v (l.getD 6 0 + (rounds blk s 64).g), u32v (l.getD 7 0 + (rounds blk s 64).h)], v.cells.size = 1 := by simp [cells_int]
        have hcat : catC [u32v (l.getD 0 0 + (rounds blk s 64).a), u32v (l.getD 1 0 + (rounds blk s 64).b), u32v (l.getD 2 0 + (rounds blk s 64).c), u32v (l.getD 3 0 + (rounds blk s 64).d), u32v (l.getD 4 0 + (rounds blk s 64).e), u32v (l.getD 5 0 + (rounds blk s 64).f), u32v (l.getD 6 0 + (rounds blk s 64).g), u32v (l.getD 7 0 + (rounds blk s 64).h)] = wc (mixF l blk) := by
          unfold mixF; simp only []; rw [← hs]
          rw [show s.a = l.getD 0 0 from by rw [hs]; rfl, show s.b = l.getD 1 0 from by rw [hs]; rfl, show s.c = l.getD 2 0 from by rw [hs]; rfl, show s.d = l.getD 3 0 from by rw [hs]; rfl, show s.e = l.getD 4 0 from by rw [hs]; rfl, show s.f = l.getD 5 0 from by rw [hs]; rfl, show s.g = l.getD 6 0 from by rw [hs]; rfl, show s.h = l.getD 7 0 from by rw [hs]; rfl]
          exact catC_wc [_, _, _, _, _, _, _, _]
        have hml := mixF_length l blk
        have h8 : (List.replicate 8 (0 : UInt32)).length = 8 := by simp
        have s2 : splice (wc (List.replicate 8 (0 : UInt32))).toArray 0 (wc (mixF l blk)).toArray = (wc (mixF l blk)).toArray := splice_wc_all (by rw [hml, h8])
        generalize mixF l blk = R at *
        simp (disch := first | exact dT_ | fail) only [hp0, bldA105 _ _ _ _ _ _ _ _ hcc, hcat, hp1, hml, h8, s2, ext_wc0 hml, L1_cells, Ln_cells, St_cells, Hp_put_same, cells_agg, List.getElem?_toArray, Option.elim_some, Nat.zero_add, Nat.add_zero, List.size_toArray, Nat.reduceLeDiff, if_pos, true_and, and_self, Nat.mul_one, p_add32, wc_length, wc_getL, Int.reduceToNat, ix105, ld104, ld105, st105]
        exact (hall.trans hx13 fun _ _ h => h).put _ _ (by omega)
end Go.Proofs
namespace Go.Proofs
open Go Go.Lf
set_option maxRecDepth 20000
set_option maxHeartbeats 2000000
set_option linter.unusedSimpArgs false
set_option linter.unusedVariables false
theorem take_set_nextB (W : List UInt8) (i : Nat) (x : UInt8) (h : i < W.length) : (W.set i x).take (i + 1) = W.take i ++ [x] := by
  apply List.ext_getElem?
  intro j
  rw [List.getElem?_take, List.getElem?_set, List.getElem?_append, List.length_take, Nat.min_eq_left (by omega)]
  by_cases h1 : j < i
  · rw [if_pos (by omega), if_neg (by omega), if_pos h1, List.getElem?_take, if_pos h1]
  · by_cases h2 : j = i
    · subst h2; rw [if_pos (by omega), if_pos rfl, if_pos h, if_neg (by omega), Nat.sub_self]; rfl
    · rw [if_neg (by omega), if_neg (by omega), List.getElem?_eq_none (by simp; omega)]
theorem take_nextB (W : List UInt8) (i : Nat) (h : i < W.length) : W.take (i + 1) = W.take i ++ [W.getD i 0] := by
  rw [List.take_add_one, List.getElem?_eq_getElem h, List.getD_eq_getElem?_getD, List.getElem?_eq_getElem h]; rfl
section
variable {W : World} {p4 p10 : Nat} {S : List UInt32} {K : Value → World → Prop}
theorem out_part (h4 : Hp W p4 = some (.cells (bc (List.replicate 32 0)).toArray 25 (0, 0))) (h10 : Hp W p10 = some (.cells (wc S).toArray 105 (0, 0))) (hS : S.length = 8)
    (hK : ∀ W', Ext (fun b => b = p4) W W' → K (idv (outB S)) W') : F42x2 (ptr p4 0) (ptr p10 0) W K := by
  have hl4 := Hp_lt h4
  have hl10 := Hp_lt h10
  have h32 : (List.replicate 32 (0 : UInt8)).length = 32 := by simp
  have hO := outB_length S
  unfold F42x2
  simp (disch := first | exact dT_ | fail) only [h10, hS, ext_wc0 hS, Ln_cells, Hp_alloc_old, cells_agg, Nat.zero_add, List.size_toArray, Nat.reduceLeDiff, if_pos, forall_const, wc_length, ld25, ld105, al25, zv25]
  obtain ⟨w16, hw16⟩ : ∃ w16, w16 = W.alloc (Obj.cells (bc (List.replicate 32 0)).toArray 25) := ⟨_, rfl⟩
  have hx16 : Ext (fun _ => False) W w16 := by rw [hw16]; exact (Ext.refl _ _).alloc _
  have h12 : Hp w16 (sz W) = some (.cells (bc (List.replicate 32 0)).toArray 25 (0, 0)) := by rw [hw16]; exact Hp_alloc_new _ _ _ rfl
  rw [← hw16]
  clear hw16
  obtain ⟨J, hJ⟩ : ∃ J : Value → World → Prop, J = fun v w' => ∃ (i : Nat) (O : List UInt8), v = i64 (i : Int) ∧ i ≤ 8 ∧ O.length = 32 ∧ O.take (4 * i) = (outB S).take (4 * i) ∧ Ext (fun b => b = sz W) w16 w' ∧ Hp w' (sz W) = some (.cells (bc O).toArray 25 (0, 0)) := ⟨_, rfl⟩
  refine Loop1 J (fun v _ => 8 - (match v with | .int _ n => n.toNat | _ => 0)) (by rw [hJ]; exact ⟨0, _, rfl, by omega, h32, rfl, Ext.refl _ _, h12⟩) ?_
  intro v w17 hj
  rw [hJ] at hj
  obtain ⟨i, O, rfl, hi, hOl, hOt, hx17, hO17⟩ := hj
  by_cases hlt : i < 8
  · have hlt' : (i : Int) < 8 := by omega
    simp (disch := first | exact dT_ | fail) only [hlt', p_lss, Branch_bool, and_true, Bool.true_eq_false, false_implies, forall_const, Int.toNat_natCast, decide_true, ixw105]
    obtain ⟨J2, hJ2⟩ : ∃ J2 : Value → World → Prop, J2 = fun v w' => ∃ (k : Nat) (O : List UInt8), v = i64 (k : Int) ∧ k ≤ 4 ∧ O.length = 32 ∧ O.take (4 * i + k) = (outB S).take (4 * i + k) ∧ Ext (fun b => b = sz W) w16 w' ∧ Hp w' (sz W) = some (.cells (bc O).toArray 25 (0, 0)) := ⟨_, rfl⟩
    refine Loop1 J2 (fun v _ => 4 - (match v with | .int _ n => n.toNat | _ => 0)) (by rw [hJ2]; exact ⟨0, O, rfl, by omega, hOl, hOt, hx17, hO17⟩) ?_
    clear hOl hOt hx17 hO17
    intro v w18 hj
    rw [hJ2] at hj
    obtain ⟨k, O, rfl, hk, hOl, hOt, hx18, hO18⟩ := hj
    have hl18 := Hp_lt hO18
    unfold F42x1
    by_cases hlk : k < 4
    · have hlk' : (k : Int) < 4 := by omega
      have n1 : ((4 : Int) * (i : Int) + (k : Int)).toNat = 4 * i + k := by omega
      have n2 : ((24 : Int) - 8 * (k : Int)).toNat = 24 - 8 * k := by omega
      simp (disch := first | exact dT_ | fail) only [hlk', n1, n2, hO18, hOl, p_add, p_sub, p_mul, p_lss, St_cells, cells_int, Branch_bool, Nat.zero_add, List.size_toArray, List.length_cons, List.length_nil, Nat.reduceLeDiff, if_pos, and_true, true_and, Bool.true_eq_false, false_implies, forall_const, bc_length, u8b, wr_in, Int.toNat_natCast, Nat.mul_one, p_shr32, bc_setD, decide_true, ix25, cv104_5, st5]
      refine ⟨?_, by omega⟩
      rw [hJ2]
      refine ⟨k + 1, O.set (4 * i + k) (b8 ((shr32 (S.getD i 0) (24 - 8 * k)).toNat : Int)), by simp, by omega, by simpa using hOl, ?_, hx18.put _ _ fun _ => rfl, Hp_put_same _ _ _ hl18⟩
      rw [← Nat.add_assoc, take_set_nextB _ _ _ (by omega), hOt, take_nextB _ _ (by omega), outB_getD S i k (by omega) hlk]
    · have hlk' : ¬ (k : Int) < 4 := by omega
      obtain rfl : k = 4 := by omega
      simp (disch := first | exact dT_ | fail) only [hlk', p_add, p_sub, p_mul, p_lss, Branch_bool, true_and, Bool.false_eq_true, false_implies, forall_const, Nat.sub_self, wr_in, Int.toNat_natCast, decide_false]
      refine ⟨?_, by omega⟩
      rw [hJ]
      exact ⟨i + 1, O, by simp, by omega, hOl, hOt, hx18, hO18⟩
  · have hlt' : ¬ (i : Int) < 8 := by omega
    obtain rfl : i = 8 := by omega
    have hOe : O = outB S := by
      have e1 := List.take_of_length_le (i := 4 * 8) (l := O) (by omega)
      have e2 := List.take_of_length_le (i := 4 * 8) (l := outB S) (by omega)
      rw [← e1, hOt, e2]
    have hlO : (outB S).length = 32 := by omega
    have h4' := hx17.at (hx16.at h4 not_false) (by omega)
    have hl4' := Hp_lt h4'
    rw [hOe] at hO17
    have s1 : splice (bc (List.replicate 32 0)).toArray 0 (bc (outB S)).toArray = (bc (outB S)).toArray := splice_bc_all (by rw [h32, hlO])
    generalize outB S = OS at *
    simp (disch := first | exact dT_ | fail) only [hlt', hO17, hlO, h4', h32, s1, ext_bc0 hlO, p_lss, Ln_cells, St_cells, Hp_put_same, cells_agg, Branch_bool, Nat.zero_add, List.size_toArray, Nat.reduceLeDiff, if_pos, true_and, and_self, Bool.false_eq_true, false_implies, forall_const, bc_length, Nat.sub_self, Int.toNat_natCast, decide_false, st25]
    exact hK _ ((hx16.trans2 (M := fun b => b = p4) hx17 (fun _ _ h => h.elim) fun b hb e => by omega).put _ _ fun _ => rfl)
end
end Go.Proofs
namespace Go.Proofs
open Go Go.Lf
set_option maxRecDepth 20000
set_option maxHeartbeats 2000000
set_option linter.unusedSimpArgs false
set_option linter.unusedVariables false
section
variable {W : World} {p4 p10 B U size cap : Nat} {T L : List UInt8} {K : Value → World → Prop}
theorem blocks_part (hB : Hp W B = some (.cells (bc L).toArray U (0, 0))) (hL : L.take size = T) (hT : T.length = size) (hsL : size ≤ L.length) (hcap : size ≤ cap) (hm : size % 64 = 0) (hbig : size ≤ 1000000000)
    (h10 : Hp W p10 = some (.cells (wc Init256).toArray 105 (0, 0))) (h4 : Hp W p4 = some (.cells (bc (List.replicate 32 0)).toArray 25 (0, 0))) (hne : p10 ≠ B ∧ p4 ≠ p10)
    (hK : ∀ W', Ext (fun b => b = p10 ∨ b = p4) W W' → K (idv (outB (mixN T (size / 64)))) W') :
    LoopF 1 [(Value.int .i64 0)] W fun v11_2 w13 k3 => F42x3 (ptr p4 0) (.slice (some ⟨B, 0, none⟩) size cap) (ptr p10 0) v11_2 k3 w13 K := by
  obtain ⟨J, hJ⟩ : ∃ J : Value → World → Prop, J = fun v w' => ∃ n : Nat, v = i64 ((64 * n : Nat) : Int) ∧ 64 * n ≤ size ∧ Ext (fun b => b = p10) W w' ∧ Hp w' p10 = some (.cells (wc (mixN T n)).toArray 105 (0, 0)) := ⟨_, rfl⟩
  refine Loop1 J (fun v _ => size - (match v with | .int _ n => n.toNat | _ => 0)) (by rw [hJ]; exact ⟨0, rfl, by omega, Ext.refl _ _, h10⟩) ?_
  intro v w13 hj
  rw [hJ] at hj
  obtain ⟨n, rfl, hn, hx13, hS⟩ := hj
  have hlS := Hp_lt hS
  have hSl := mixN_length T n
  have hB13 := hx13.at hB (fun e => hne.1 e.symm)
  unfold F42x3
  by_cases hlt : 64 * n < size
  · have hlt' : ((64 * n : Nat) : Int) < (size : Int) := by omega
    have n1 : (((64 * n : Nat) : Int) + 64).toNat = 64 * n + 64 := by omega
    have n2 : 64 * n + 64 - 64 * n = 64 := by omega
    have n3 : ((64 * n : Nat) : Int).toNat = 64 * n := by omega
    have h64 : 64 * n + 64 ≤ size := by omega
    simp (disch := first | exact dT_ | fail) only [hlt', n1, n2, n3, hS, hSl, ext_wc0 hSl, p_add, p_lss, Ln_cells, Hp_drew, Branch_bool, Nat.zero_add, List.size_toArray, Nat.reduceLeDiff, if_pos, and_true, Bool.true_eq_false, false_implies, forall_const, cutAt_some, wr_in, Nat.mul_one, wc_length, decide_true, slLH30, len30, ld105]
    have hblk : ((T.drop (64 * n)).take 64).length = 64 := by rw [List.length_take, List.length_drop]; omega
    have hb : BIn w13.drew (.slice (some ⟨B, 64 * n, none⟩) 64 (cap - 64 * n)) ((T.drop (64 * n)).take 64) (fun b => b = B) := by
      refine .inr ⟨B, 64 * n, cap - 64 * n, _, U, (0, 0), by rw [hblk], (Hp_drew _ _).trans hB13, fun j hj => ?_, rfl⟩
      rw [hblk] at hj
      rw [List.getElem?_toArray, bc_get, bc_get, List.getElem?_take, if_pos hj, List.getElem?_drop, ← hL, List.getElem?_take, if_pos (by omega)]
    refine CallF_by Try.call64 (mix_spec hSl hb hblk) ?_
    rintro _ w14 ⟨rfl, hx14⟩
    have hS14 := hx14.at ((Hp_drew _ _).trans hS) not_false
    have hlS14 := Hp_lt hS14
    have hml := mixF_length (mixN T n) ((T.drop (64 * n)).take 64)
    have s1 : splice (wc (mixN T n)).toArray 0 (wc (mixF (mixN T n) ((T.drop (64 * n)).take 64))).toArray = (wc (mixF (mixN T n) ((T.drop (64 * n)).take 64))).toArray := splice_wc_all (by rw [hSl, hml])
    have hnx : mixN T (n + 1) = mixF (mixN T n) ((T.drop (64 * n)).take 64) := rfl
    rw [← hnx] at hml s1 ⊢
    obtain ⟨S1, hS1⟩ : ∃ S1, S1 = mixN T (n + 1) := ⟨_, rfl⟩
    rw [← hS1] at hml s1 ⊢
    simp (disch := first | exact dT_ | fail) only [hS14, hSl, hml, s1, St_cells, cells_agg, Nat.zero_add, List.size_toArray, Nat.reduceLeDiff, if_pos, and_self, wc_length, st105]
    refine ⟨?_, by omega⟩
    rw [hJ]
    refine ⟨n + 1, by congr 1, by omega, (hx13.drew.trans hx14 fun _ _ h => h.elim).put _ _ fun _ => rfl, ?_⟩
    rw [← hS1]; exact Hp_put_same _ _ _ hlS14
  · have hlt' : ¬ ((64 * n : Nat) : Int) < (size : Int) := by omega
    obtain rfl : n = size / 64 := by omega
    simp (disch := first | exact dT_ | fail) only [hlt', p_add, p_lss, Hp_drew, Branch_bool, true_and, Bool.false_eq_true, false_implies, forall_const, wr_in, Int.toNat_natCast, decide_false, len30, ld105]
    refine out_part (hx13.at h4 hne.2) hS hSl fun W' hx => hK W' (hx13.trans2 hx (fun b _ e => .inl e) fun b _ e => .inr e)
/-- the length's bytes -/
theorem len_part {m : List UInt8} {N : Nat} (hm : size = (pad m).length) (hB : Hp W B = some (.cells (bc L).toArray U (0, 0))) (hN : L.length = N) (hsN : size ≤ N) (hcap : size ≤ cap) (hml : m.length ≤ 1000000) (hlow : ∀ j, j < size - 8 → L.getD j 0 = (m ++ [0x80]).getD j 0)
    {rest : World → Prop} (hK : ∀ W' L', Ext (fun b => b = B) W W' → Hp W' B = some (.cells (bc L').toArray U (0, 0)) → L'.length = N → L'.take size = pad m → rest W') :
    LoopF 1 [(Value.int .i64 0)] W fun v46_2 w8 k2 => PRun Try.prog (binOp .lss 3 v46_2 (Value.int .i64 8)) fun v47 =>
      Branch v47 (F42x4 (.slice (some ⟨B, 0, none⟩) size cap) (i64 (m.length : Int)) v46_2 k2 w8) (rest w8) := by
  have hpl := pad_length m
  obtain ⟨J, hJ⟩ : ∃ J : Value → World → Prop, J = fun v w' => ∃ (i : Nat) (L' : List UInt8), v = i64 (i : Int) ∧ i ≤ 8 ∧ L'.length = N ∧ (∀ j, j < size → (j < size - 8 ∨ size - i ≤ j) → L'.getD j 0 = (pad m).getD j 0) ∧ Ext (fun b => b = B) W w' ∧ Hp w' B = some (.cells (bc L').toArray U (0, 0)) := ⟨_, rfl⟩
  refine Loop1 J (fun v _ => 8 - (match v with | .int _ n => n.toNat | _ => 0)) (by
    rw [hJ]; exact ⟨0, L, rfl, by omega, hN, fun j hj h => by rw [hlow j (by omega), pad_low m j (by omega)], Ext.refl _ _, hB⟩) ?_
  intro v w8 hj
  rw [hJ] at hj
  obtain ⟨i, L', rfl, hi, hl', hlo, hx8, hB8⟩ := hj
  have hlB := Hp_lt hB8
  by_cases hlt : i < 8
  · have hlt' : (i : Int) < 8 := by omega
    simp (disch := first | exact dT_ | fail) only [hlt', p_lss, Branch_bool, and_true, Bool.true_eq_false, false_implies, forall_const, Int.toNat_natCast, decide_true]
    unfold F42x4
    have n1 : ((size : Int) - 1 - (i : Int)).toNat = size - 1 - i := by omega
    have n2 : ((8 : Int) * (i : Int)).toNat = 8 * i := by omega
    have e1 : (m.length : Int) % 18446744073709551616 = m.length := by omega
    have e2 : (m.length : Int) * 8 % 18446744073709551616 = (m.length : Int) * 8 := by omega
    have hbits : IntKind.u64.bits = 64 := rfl
    simp (disch := first | exact dT_ | fail) only [n1, n2, e1, e2, hB8, hl', p_add, p_sub, p_mul, St_cells, cells_int, Nat.zero_add, List.size_toArray, List.length_cons, List.length_nil, if_pos, true_and, bc_length, u8b, u64w, wr_in, Nat.mul_one, p_shri, p_mul64u, bc_setD, ix30, len30, cv3_103, cv103_5, st5]
    refine ⟨?_, by omega⟩
    rw [hJ]
    refine ⟨i + 1, L'.set (size - 1 - i) (b8 ((m.length : Int) * 8 / 2 ^ (8 * i))), by simp, by omega, by simpa using hl', fun j hj h => ?_, hx8.put _ _ fun _ => rfl, Hp_put_same _ _ _ hlB⟩
    rw [List.getD_eq_getElem?_getD, List.getElem?_set]
    by_cases hji : size - 1 - i = j
    · subst hji
      rw [if_pos rfl, if_pos (by omega)]
      have := pad_high m i hlt
      rw [← hm] at this
      rw [this]
      show b8 _ = b8 _
      congr 2
      rw [Int.natCast_mul, Int.mul_comm]; rfl
    · rw [if_neg hji, ← List.getD_eq_getElem?_getD]
      exact hlo j hj (by omega)
  · have hlt' : ¬ (i : Int) < 8 := by omega
    obtain rfl : i = 8 := by omega
    simp (disch := first | exact dT_ | fail) only [hlt', p_lss, Branch_bool, true_and, Bool.false_eq_true, false_implies, forall_const, Nat.sub_self, Int.toNat_natCast, decide_false]
    refine hK w8 L' hx8 hB8 hl' ?_
    apply List.ext_getElem?
    intro j
    rw [List.getElem?_take]
    by_cases hj : j < size
    · rw [if_pos hj]
      have := hlo j hj (by omega)
      rw [List.getD_eq_getElem?_getD, List.getD_eq_getElem?_getD, List.getElem?_eq_getElem (by omega), List.getElem?_eq_getElem (by omega)] at this
      rw [List.getElem?_eq_getElem (by omega), List.getElem?_eq_getElem (by omega)]
      simpa using this
    · rw [if_neg hj, List.getElem?_eq_none (by omega)]
end
theorem splice_bcs (l x : List UInt8) (o : Nat) (h : o + x.length ≤ l.length) : splice (bc l).toArray o (bc x).toArray = (bc (l.take o ++ x ++ l.drop (o + x.length))).toArray := by
  apply Array.ext_getElem?
  intro j
  rw [splice_get (by simp [bc_length]; omega)]
  simp only [List.size_toArray, bc_length, List.getElem?_toArray, bc_get]
  rw [List.append_assoc, List.getElem?_append, List.length_take, Nat.min_eq_left (by omega)]
  by_cases h1 : j < o
  · rw [if_neg (by omega), if_pos h1, List.getElem?_take, if_pos h1]
  · rw [if_neg h1, List.getElem?_append]
    by_cases h2 : j < o + x.length
    · rw [if_pos (by omega), if_pos (by omega)]
    · rw [if_neg (by omega), if_neg (by omega), List.getElem?_drop]
      congr 2; omega
theorem pair_spec {w : World} {x y : Value} {a b : List UInt8} (hx : BOf w x a) (hy : BOf w y b) (hal : a.length + b.length ≤ 1000000) :
    Calls Try.prog 42 #[x, y] w (retK fun v w' => v = idv (sha (a ++ b)) ∧ Ext (fun _ => False) w w') := by
  refine F42_ok _ _ _ _ ?_
  unfold F42
  obtain ⟨xa, xc, rfl⟩ : ∃ xa xc, x = .slice xa a.length xc := by
    rcases hx with ⟨rfl, rfl⟩ | ⟨c, o, cap, row, U, fr, rfl, _⟩
    · exact ⟨none, 0, rfl⟩
    · exact ⟨_, _, rfl⟩
  obtain ⟨ya, yc, rfl⟩ : ∃ xa xc, y = .slice xa b.length xc := by
    rcases hy with ⟨rfl, rfl⟩ | ⟨c, o, cap, row, U, fr, rfl, _⟩
    · exact ⟨none, 0, rfl⟩
    · exact ⟨_, _, rfl⟩
  simp (disch := first | exact dT_ | fail) only [p_add, sz_alloc, cells_agg, forall_const, wr_in, len30, slA102, al25, al102, zv25, zv102]
  obtain ⟨n, hn⟩ : ∃ n, n = a.length + b.length := ⟨_, rfl⟩
  obtain ⟨size, hsize⟩ : ∃ size, size = (n + 8) / 64 * 64 + 64 := ⟨_, rfl⟩
  have hcast : (a.length : Int) + (b.length : Int) = (n : Int) := by omega
  rw [hcast]
  obtain ⟨w2, hw2⟩ : ∃ w2, w2 = (w.alloc (Obj.cells (bc (List.replicate 32 0)).toArray 25)).alloc (Obj.cells (bc (List.replicate 128 0)).toArray 102) := ⟨_, rfl⟩
  have hx2 : Ext (fun _ => False) w w2 := by rw [hw2]; exact ((Ext.refl _ _).alloc _).alloc _
  have hs2 : sz w2 = sz w + 2 := by rw [hw2]; (first | exact szT_ | fail)
  have hr2 : Hp w2 (sz w) = some (Obj.cells (bc (List.replicate 32 0)).toArray 25) := by rw [hw2]; (first | exact hpt_ | fail)
  have hq2 : Hp w2 (sz w + 1) = some (Obj.cells (bc (List.replicate 128 0)).toArray 102) := by rw [hw2]; (first | exact hpt_ | fail)
  rw [← hw2]
  clear hw2
  refine Join1 (fun v w4 => ∃ B N U, v = .slice (some ⟨B, 0, none⟩) size N ∧ size ≤ N ∧ Hp w4 B = some (.cells (bc (List.replicate N 0)).toArray U (0, 0)) ∧ Ext (fun _ => False) w w4 ∧ sz w < B ∧ Hp w4 (sz w) = some (Obj.cells (bc (List.replicate 32 0)).toArray 25)) ?_ ?_
  · have e1 : ((n : Int) + 8).tdiv 64 = (((n + 8) / 64 : Nat) : Int) := by rw [Int.tdiv_eq_ediv_of_nonneg (by omega)]; omega
    have e2 : (((n + 8) / 64 : Nat) : Int) * 64 + 64 = (size : Int) := by omega
    have ec : ((128 : Nat) : Int) = 128 := rfl
    unfold F42x5
    by_cases hs : size ≤ 128
    · have hs' : (size : Int) ≤ 128 := by omega
      simp (disch := first | exact dT_ | fail) only [e1, e2, ec, hs', p_add, p_mul, p_leq, p_quo, Hp_alloc_old, Branch_bool, Nat.add_zero, and_true, Bool.true_eq_false, false_implies, forall_const, cutAt_some, wr_in, Int.toNat_natCast, Nat.mul_one, decide_true, slH30, len30, mk30]
      exact ⟨sz w + 1, 128, _, rfl, hs, hq2, hx2, by omega, hr2⟩
    · have hs' : ¬ (size : Int) ≤ 128 := by omega
      simp (disch := first | exact dT_ | fail) only [e1, e2, ec, hs', p_add, p_mul, p_leq, p_quo, Hp_alloc_old, Branch_bool, true_and, Bool.false_eq_true, false_implies, forall_const, wr_in, Int.toNat_natCast, decide_false, len30, mk30]
      exact ⟨sz w2, size, _, rfl, Nat.le_refl _, Hp_alloc_new _ _ _ rfl, hx2.alloc _, by omega, hr2⟩
  rintro _ w4 ⟨B, N, U, rfl, hN, hB, hx4, hsB, hr4⟩
  unfold F42x6
  have hlB := Hp_lt hB
  have hlen0 : (List.replicate N (0 : UInt8)).length = N := by simp
  have hta : a.take size = a := List.take_of_length_le (by omega)
  have hxa : BOf w4 (.slice xa a.length xc) a := by
    rcases hx with ⟨h1, h2⟩ | ⟨c, o, cap, row, U', fr, h1, h2, h3⟩
    · exact .inl ⟨h1, h2⟩
    · exact .inr ⟨c, o, cap, row, U', fr, h1, hx4.at h2 not_false, h3⟩
  rw [r_copy Try.runUnderlying30 Try.sizeOf5 _ hB (by rw [bc_size, hlen0]; omega) hxa, hta, splice_bcs _ _ _ (by rw [hlen0]; omega)]
  obtain ⟨L1, hL1⟩ : ∃ L1, L1 = (List.replicate N (0 : UInt8)).take 0 ++ a ++ (List.replicate N (0 : UInt8)).drop (0 + a.length) := ⟨_, rfl⟩
  rw [← hL1]
  have hL1l : L1.length = N := by rw [hL1]; simp; omega
  have hmin1 : min a.length size = a.length := by omega
  rw [hmin1]
  obtain ⟨w5, hw5⟩ : ∃ w5, w5 = put w4 B (Obj.cells (bc L1).toArray U) := ⟨_, rfl⟩
  have hx5 : Ext (fun b => b = B) w4 w5 := by rw [hw5]; exact (Ext.refl _ _).put _ _ fun _ => rfl
  have hB5 : Hp w5 B = some (.cells (bc L1).toArray U (0, 0)) := by rw [hw5]; exact Hp_put_same _ _ _ hlB
  rw [← hw5]
  clear hw5
  have hlB5 := Hp_lt hB5
  have hlw4 := hx4.size
  have hyb : BOf w5 (.slice ya b.length yc) b := by
    rcases hy with ⟨h1, h2⟩ | ⟨c, o, cap, row, U', fr, h1, h2, h3⟩
    · exact .inl ⟨h1, h2⟩
    · exact .inr ⟨c, o, cap, row, U', fr, h1, hx5.at (hx4.at h2 not_false) (fun e => by have := Hp_lt h2; omega), h3⟩
  simp (disch := first | exact dT_ | fail) only [cells_agg, Nat.zero_add, forall_const, cutAt_some, Int.toNat_natCast, Nat.mul_one, ix30, slL30, st5, al105, zv105]
  have htb : b.take (size - a.length) = b := List.take_of_length_le (by omega)
  have hmin2 : min b.length (size - a.length) = b.length := by omega
  rw [r_copy Try.runUnderlying30 Try.sizeOf5 _ hB5 (by rw [bc_size, hL1l]; omega) hyb, htb, splice_bcs _ _ _ (by rw [hL1l]; omega)]
  obtain ⟨L2, hL2⟩ : ∃ L2, L2 = L1.take a.length ++ b ++ L1.drop (a.length + b.length) := ⟨_, rfl⟩
  rw [← hL2]
  have hL2l : L2.length = N := by rw [hL2]; simp; omega
  have hL2a : L2.take n = a ++ b := by
    rw [hL2, hn, List.append_assoc, ← List.append_assoc, List.take_left' (by simp; omega), hL1]
    simp
  have hL2z : ∀ j, n ≤ j → L2.getD j 0 = 0 := by
    intro j hj
    rw [hL2, List.append_assoc, ← List.append_assoc, List.getD_eq_getElem?_getD, List.getElem?_append_right (by simp; omega), List.getElem?_drop, hL1, List.take_zero, List.nil_append, List.getElem?_append_right (by simp; omega), List.getElem?_drop, List.getElem?_replicate]
    split <;> rfl
  clear hL2 hL1 hL1l
  obtain ⟨w6, hw6⟩ : ∃ w6, w6 = put w5 B (Obj.cells (bc L2).toArray U) := ⟨_, rfl⟩
  have hx6 : Ext (fun b => b = B) w5 w6 := by rw [hw6]; exact (Ext.refl _ _).put _ _ fun _ => rfl
  have hB6 : Hp w6 B = some (.cells (bc L2).toArray U (0, 0)) := by rw [hw6]; exact Hp_put_same _ _ _ hlB5
  rw [← hw6]
  clear hw6
  have hlB6 := Hp_lt hB6
  have hnN : n < N := by omega
  simp (disch := first | exact dT_ | fail) only [hB6, hL2l, St_cells, cells_int, Nat.zero_add, List.size_toArray, List.length_cons, List.length_nil, if_pos, true_and, bc_length]
  have s1 : splice (bc L2).toArray n #[Value.int .u8 128] = (bc (L2.set n 0x80)).toArray := bc_setD L2 n 0x80 (by omega)
  rw [s1]
  have hpl := pad_length (a ++ b)
  have hab : (a ++ b).length = n := by simp; omega
  rw [hab] at hpl
  rw [← hab]
  refine len_part (m := a ++ b) (N := N) (L := L2.set (a ++ b).length 0x80) (by omega) (Hp_put_same _ _ _ hlB6) (by simpa using hL2l) hN hN (by omega) ?_ ?_
  · intro j hj
    rw [hab, List.getD_eq_getElem?_getD, List.getElem?_set, List.getD_eq_getElem?_getD, List.getElem?_append, hab]
    by_cases h1 : n = j
    · subst h1; rw [if_pos rfl, if_pos (by omega), if_neg (by omega), Nat.sub_self]; rfl
    · rw [if_neg h1]
      by_cases h2 : j < n
      · rw [if_pos h2, ← hL2a, List.getElem?_take, if_pos h2]
      · rw [if_neg h2, ← List.getD_eq_getElem?_getD, hL2z j (by omega), List.getElem?_eq_none (by simp; omega)]; rfl
  intro w8 L' hx8 hB8 hl' ht'
  have hlI : Init256.length = 8 := rfl
  have h8 : (List.replicate 8 (0 : UInt32)).length = 8 := by simp
  have hall : Ext (fun b => b = B) w4 w8 := ((hx5.trans hx6 fun _ _ h => h).put _ _ fun _ => rfl).trans hx8 fun _ _ h => h
  refine CallF_by Try.call63 (begin_spec _) ?_
  rintro _ w10 ⟨rfl, hx10⟩
  have s2 : splice (wc (List.replicate 8 (0 : UInt32))).toArray 0 (wc Init256).toArray = (wc Init256).toArray := splice_wc_all (by rw [hlI, h8])
  have hB10 := hx10.at hB8 not_false
  have hlB10 := Hp_lt hB10
  have hr10 := hx10.at (hall.at hr4 (by omega)) not_false
  have hlr10 := Hp_lt hr10
  have hs8 := hx8.size
  have hs10 := hx10.size
  simp (disch := first | exact dT_ | fail) only [hlI, h8, s2, put_allocN, St_cells, Hp_alloc_new, cells_agg, Nat.zero_add, List.size_toArray, Nat.reduceLeDiff, if_pos, and_self, wc_length, st105]
  obtain ⟨w12, hw12⟩ : ∃ w12, w12 = w10.alloc (Obj.cells (wc Init256).toArray 105) := ⟨_, rfl⟩
  have hx12 : Ext (fun _ => False) w10 w12 := by rw [hw12]; exact (Ext.refl _ _).alloc _
  have hI12 : Hp w12 (sz w10) = some (Obj.cells (wc Init256).toArray 105) := by rw [hw12]; (first | exact hpt_ | fail)
  try rw [← hw12]
  clear hw12
  have hsh : sha (a ++ b) = outB (mixN (pad (a ++ b)) (size / 64)) := by
    unfold sha; rw [show (pad (a ++ b)).length = size from by omega]
  rw [hsh]
  refine blocks_part (hx12.at hB10 not_false) ht' (by omega) (by omega) hN (by omega) (by omega) hI12 (hx12.at hr10 not_false) ⟨by omega, by omega⟩ ?_
  intro W' hx
  refine ⟨rfl, ?_⟩
  have h1 : Ext (fun b => sz w ≤ b) w w8 := hx4.trans2 hall (fun _ _ h => h.elim) (fun b _ e => by omega)
  have h2 : Ext (fun b => sz w ≤ b) w w12 := (h1.trans hx10 fun _ _ h => h.elim).trans hx12 fun _ _ h => h.elim
  exact (h2.trans2 hx (M := fun _ => False) (fun b hb h => by omega) fun b hb e => by omega)
end Go.Proofs
namespace Go.Proofs
open Go Go.Lf
set_option maxRecDepth 20000
set_option maxHeartbeats 2000000
set_option linter.unusedSimpArgs false
set_option linter.unusedVariables false
/-- append(v, x...) of bytes to one's own -/
theorem apB (R : TypeId) {w : World} {v x : Value} {l l' : List UInt8} {m : Nat} {K : Value → World → Prop} (hv : BOwn 5 w v l m) (hx : BOf w x l') (hm : m ≤ sz w) (hsm : l.length + l'.length ≤ 1000000000)
    (hk : ∀ v' w', BOwn 5 w' v' (l ++ l') m → Ext (fun b => m ≤ b) w w' → K v' w') : Run Try.prog (Builtin.append_ #[30, 30] R #[v, x]) w K := by
  refine ap30 R hv (BOf.src hx) (bc_one _) (by omega) fun v' w' h1 h2 => hk v' w' ?_ (h2.mono fun b _ hb => hv.blk hb)
  have := h1.mono (Q' := fun b => m ≤ b) fun b _ hb => by
    rcases hb with hb | hb
    · exact hv.blk hb
    · omega
  unfold BOwn Bytes
  rw [bc_append, List.length_append]
  exact this
/-- append(v, literal bytes) -/
theorem apL (R : TypeId) {w : World} {v : Value} {l l' : List UInt8} {m n : Nat} {cs : Array Value} {K : Value → World → Prop} (hv : BOwn 5 w v l m) (hcs : cs = (bc l').toArray) (hn : n = l'.length) (hm : m ≤ sz w) (hsm : l.length + l'.length ≤ 1000000000)
    (hk : ∀ v' w', BOwn 5 w' v' (l ++ l') m → Ext (fun b => m ≤ b) w w' → K v' w') : Run Try.prog (Builtin.append_ #[30, 30] R #[v, .slice (some ⟨sz w, 0, none⟩) n n]) (w.alloc (.cells cs 5)) K := by
  subst hn
  have hx : Ext (fun _ => False) w (w.alloc (.cells cs 5)) := (Ext.refl _ _).alloc _
  refine apB R (hv.ext hx fun _ _ _ => not_false) (BOwn.fresh (u8 := 5) (m := m) [] (by simp [hcs]) rfl (by simp) (Nat.le_refl _) hm).of (by rw [sz_alloc]; omega) hsm fun v' w' h1 h2 => hk v' w' h1 ((hx.mono fun _ _ h => h.elim).trans h2 fun _ _ h => h)
theorem catC_bc (l : List UInt8) : catC (bc l) = bc l := by
  unfold catC
  induction l with
  | nil => rfl
  | cons x l ih => simp only [bc, List.map_cons, List.flatMap_cons] at ih ⊢; rw [ih]; rfl
theorem cells8 (l : List UInt8) : ∀ v ∈ bc l, v.cells.size = 1 := by
  intro v hv; obtain ⟨x, _, rfl⟩ := List.mem_map.1 hv; rfl
theorem bsU1 (x0 : UInt8) (w : World) (K : Value → World → Prop) : Run Try.prog (Instr.buildSlice 30 1 #[(0, u8v x0)]) w K = K (.slice (some ⟨sz w, 0, none⟩) 1 1) (w.alloc (.cells (bc [x0]).toArray 5)) := by
  rw [bs30_1 _ (cells8 [x0])]; congr 3
theorem bsU2 (x0 x1 : UInt8) (w : World) (K : Value → World → Prop) : Run Try.prog (Instr.buildSlice 30 2 #[(0, u8v x0), (1, u8v x1)]) w K = K (.slice (some ⟨sz w, 0, none⟩) 2 2) (w.alloc (.cells (bc [x0, x1]).toArray 5)) := by
  rw [bs30_2 _ _ (cells8 [x0, x1])]; congr 3
theorem bsU4 (x0 x1 x2 x3 : UInt8) (w : World) (K : Value → World → Prop) : Run Try.prog (Instr.buildSlice 30 4 #[(0, u8v x0), (1, u8v x1), (2, u8v x2), (3, u8v x3)]) w K = K (.slice (some ⟨sz w, 0, none⟩) 4 4) (w.alloc (.cells (bc [x0, x1, x2, x3]).toArray 5)) := by
  rw [bs30_4 _ _ _ _ (cells8 [x0, x1, x2, x3])]; congr 3
theorem bsU6 (x0 x1 x2 x3 x4 x5 : UInt8) (w : World) (K : Value → World → Prop) : Run Try.prog (Instr.buildSlice 30 6 #[(0, u8v x0), (1, u8v x1), (2, u8v x2), (3, u8v x3), (4, u8v x4), (5, u8v x5)]) w K = K (.slice (some ⟨sz w, 0, none⟩) 6 6) (w.alloc (.cells (bc [x0, x1, x2, x3, x4, x5]).toArray 5)) := by
  rw [bs30_6 _ _ _ _ _ _ (cells8 [x0, x1, x2, x3, x4, x5])]; congr 3
theorem bsU7 (x0 x1 x2 x3 x4 x5 x6 : UInt8) (w : World) (K : Value → World → Prop) : Run Try.prog (Instr.buildSlice 30 7 #[(0, u8v x0), (1, u8v x1), (2, u8v x2), (3, u8v x3), (4, u8v x4), (5, u8v x5), (6, u8v x6)]) w K = K (.slice (some ⟨sz w, 0, none⟩) 7 7) (w.alloc (.cells (bc [x0, x1, x2, x3, x4, x5, x6]).toArray 5)) := by
  rw [bs30_7 _ _ _ _ _ _ _ (cells8 [x0, x1, x2, x3, x4, x5, x6])]; congr 3
theorem sum_spec {w : World} {x : Value} {a : List UInt8} (hx : BOf w x a) (hal : a.length ≤ 1000000) :
    Calls Try.prog 22 #[x] w (retK fun v w' => v = idv (sha a) ∧ Ext (fun _ => False) w w') := by
  refine F22_ok _ _ _ ?_
  unfold F22
  have hl32 := sha_length a
  simp (maxSteps := 2000000) (disch := first | exact dT_ | fail) only [cells_agg, ld25, al25, zv25]
  have hx1 : BOf (w.alloc (Obj.cells (bc (List.replicate 32 0)).toArray 25)) x a := by
    rcases hx with h | ⟨b, o, cap, row, U, fr, h1, h2, h3⟩
    · exact .inl h
    · exact .inr ⟨b, o, cap, row, U, fr, h1, (Hp_alloc_old _ _ _ (Hp_lt h2)).trans h2, h3⟩
  refine CallF_by Try.call42 (pair_spec hx1 (.inl ⟨rfl, rfl⟩) (by simpa using hal)) ?_
  rintro _ w2 ⟨rfl, hx2⟩
  rw [List.append_nil]
  have hr2 := hx2.at (b := sz w) (o := Obj.cells (bc (List.replicate 32 0)).toArray 25) (by (first | exact hpt_ | fail)) not_false
  have hlr2 := Hp_lt hr2
  have h32 : (List.replicate 32 (0 : UInt8)).length = 32 := by simp
  have s1 : splice (bc (List.replicate 32 0)).toArray 0 (bc (sha a)).toArray = (bc (sha a)).toArray := splice_bc_all (by rw [h32, hl32])
  simp (maxSteps := 2000000) (disch := first | exact dT_ | fail) only [hr2, h32, hl32, s1, ext_bc0 hl32, Ln_cells, St_cells, Hp_put_same, cells_agg, Nat.zero_add, List.size_toArray, Nat.reduceLeDiff, if_pos, true_and, and_self, bc_length, st25]
  exact (((Ext.refl _ _).alloc _).trans hx2 fun _ _ h => h).put _ _ fun h => by omega
end Go.Proofs
namespace Go.Proofs
open Go Go.Lf
set_option maxRecDepth 20000
set_option maxHeartbeats 2000000
set_option linter.unusedSimpArgs false
set_option linter.unusedVariables false
section
variable {W : World} {p3 p4 p8 B o U cap m n : Nat} {fr : Nat × Nat} {row : Array Value} {T : List UInt8} {l X : List UInt32} {k3 : Value → World → Prop}
theorem rb_part (h3 : Hp W p3 = some (.cells (wc K256).toArray 111 (0, 0))) (h4 : Hp W p4 = some (.cells (wc l).toArray 105 (0, 0))) (hl : l.length = 8)
    (h8 : Hp W p8 = some (.cells (wc X).toArray 111 (0, 0))) (hX : X.length = 64)
    (hB : Hp W B = some (.cells row U fr)) (hcells : ∀ j, j < T.length → row[o + j]? = (bc T)[j]?) (hcap : T.length ≤ cap)
    (hne : p3 ≠ p4 ∧ p3 ≠ p8 ∧ p4 ≠ p8 ∧ B ≠ p4 ∧ B ≠ p8) (hn : 64 * n + 64 ≤ T.length) (hbig : T.length ≤ 1000000000)
    (hk : ∀ W' X', Ext (fun b => b = p4 ∨ b = p8) W W' → Hp W' p4 = some (.cells (wc (mixF l ((T.drop (64 * n)).take 64))).toArray 105 (0, 0)) → Hp W' p8 = some (.cells (wc X').toArray 111 (0, 0)) → X'.length = 64 → k3 (i64 ((64 * (n + 1) : Nat) : Int)) W') :
    LoopF 1 [(Value.int .i64 0)] W fun v10_2 w19 k4 => PRun Try.prog (binOp .lss 3 v10_2 (Value.int .i64 16)) fun v62 =>
    Branch v62 (F51x5 (.slice (some ⟨B, o, none⟩) T.length cap) (ptr p8 0) (i64 ((64 * n : Nat) : Int)) v10_2 k4 w19)
      (LoopF 1 [(Value.int .i64 16)] w19 fun v12_2 w21 k5 => F51x4 (ptr p3 0) (ptr p4 0) (ptr p8 0) (i64 ((64 * n : Nat) : Int)) v12_2 k3 k5 w21) := by
  obtain ⟨hn1, hn2, hn3, hn4, hn5⟩ := hne
  obtain ⟨blk, hblk⟩ : ∃ blk, blk = (T.drop (64 * n)).take 64 := ⟨_, rfl⟩
  rw [← hblk] at hk
  have hbl : blk.length = 64 := by rw [hblk, List.length_take, List.length_drop]; omega
  have hcg : ∀ j, j < 64 → row[o + (64 * n + j)]? = some (u8v (blk.getD j 0)) := fun j hj => by
    have e : T.getD (64 * n + j) 0 = blk.getD j 0 := by
      rw [hblk, List.getD_eq_getElem?_getD, List.getD_eq_getElem?_getD, List.getElem?_take, if_pos hj, List.getElem?_drop]
    rw [hcells _ (by omega), ← e, ← bc_getD T _ (by omega), List.getElem?_toArray]
  clear hblk
  obtain ⟨J, hJ⟩ : ∃ J : Value → World → Prop, J = fun v w4 => ∃ (i : Nat) (X : List UInt32), v = i64 (i : Int) ∧ i ≤ 16 ∧ X.length = 64 ∧ X.take i = wl blk i ∧ Ext (fun b => b = p8) W w4 ∧ Hp w4 p8 = some (Obj.cells (wc X).toArray 111) := ⟨_, rfl⟩
  refine Loop1 J (fun v _ => 16 - (match v with | .int _ n => n.toNat | _ => 0)) (by rw [hJ]; exact ⟨0, _, rfl, by omega, hX, rfl, Ext.refl _ _, h8⟩) ?_
  clear h8 hX
  intro v w4 hj
  rw [hJ] at hj
  obtain ⟨i, X, rfl, hi, hX, htk, hx4, hW4⟩ := hj
  have hrow4 := hx4.at hB (fun e => hn5 e)
  have hlW := Hp_lt hW4
  by_cases hlt : i < 16
  · have hlt' : (i : Int) < 16 := by omega
    have hbT : 64 * n + 4 * i + 3 < T.length := by omega
    have n0 : ((64 * n : Nat) + (4 : Int) * (i : Int)).toNat = 64 * n + 4 * i := by omega
    have n1 : ((64 * n : Nat) + (4 : Int) * (i : Int) + 1).toNat = 64 * n + (4 * i + 1) := by omega
    have n2 : ((64 * n : Nat) + (4 : Int) * (i : Int) + 2).toNat = 64 * n + (4 * i + 2) := by omega
    have n3 : ((64 * n : Nat) + (4 : Int) * (i : Int) + 3).toNat = 64 * n + (4 * i + 3) := by omega
    have g0 := hcg (4 * i) (by omega)
    have g1 := hcg (4 * i + 1) (by omega)
    have g2 := hcg (4 * i + 2) (by omega)
    have g3 := hcg (4 * i + 3) (by omega)
    unfold F51x5
    simp (maxSteps := 2000000) (disch := first | exact dT_ | fail) only [hlt', n0, n1, n2, n3, hrow4, g0, g1, g2, g3, hW4, hX, p_add, p_mul, p_lss, L1_cells, St_cells, Hp_drew, cells_int, Branch_bool, Option.elim_some, Nat.zero_add, List.size_toArray, List.length_cons, List.length_nil, Nat.reduceLeDiff, if_pos, and_true, true_and, Bool.true_eq_false, false_implies, forall_const, u32b, wr_in, Int.toNat_natCast, Nat.mul_one, p_or32, p_shl32, wc_length, wc_set, decide_true, Int.reduceToNat, ix30, ix111, cv5_104, ld5, st104]
    refine ⟨?_, by omega⟩
    rw [hJ]
    have hx5 : ∀ x, Ext (fun b => b = p8) w4 (put w4.drew p8 (Obj.cells (wc (X.set i x)).toArray 111)) := fun x => (Ext.refl _ _).drew.put _ _ fun _ => rfl
    refine ⟨i + 1, X.set i (wordAt blk i), by simp, by omega, by simpa using hX, ?_, hx4.trans (hx5 _) fun _ _ h => h, Hp_put_same _ _ _ (by rw [sz_drew]; exact hlW)⟩
    rw [take_set_next _ _ _ (by omega), htk]
    show _ = wl blk i ++ [_]
    rw [if_pos hlt]
  have hlt' : ¬ (i : Int) < 16 := by omega
  simp (maxSteps := 2000000) (disch := first | exact dT_ | fail) only [hlt', p_lss, Branch_bool, true_and, Bool.false_eq_true, false_implies, forall_const, Int.toNat_natCast, decide_false]
  obtain rfl : i = 16 := by omega
  clear hJ J
  obtain ⟨J, hJ⟩ : ∃ J : Value → World → Prop, J = fun v w4 => ∃ (i : Nat) (X : List UInt32), v = i64 (i : Int) ∧ 16 ≤ i ∧ i ≤ 64 ∧ X.length = 64 ∧ X.take i = wl blk i ∧ Ext (fun b => b = p8) W w4 ∧ Hp w4 p8 = some (Obj.cells (wc X).toArray 111) := ⟨_, rfl⟩
  refine Loop1 J (fun v _ => 64 - (match v with | .int _ n => n.toNat | _ => 0)) (by rw [hJ]; exact ⟨16, X, rfl, by omega, by omega, hX, htk, hx4, hW4⟩) ?_
  clear hX htk hx4 hW4 hrow4 hlW
  intro v w6 hj
  rw [hJ] at hj
  obtain ⟨i, X, rfl, hi0, hi, hX, htk, hx4, hW4⟩ := hj
  have hlW := Hp_lt hW4
  unfold F51x4
  by_cases hlt : i < 64
  · have hlt' : (i : Int) < 64 := by omega
    unfold F51x3
    have n0 : ((i : Int) - 2).toNat = i - 2 := by omega
    have n1 : ((i : Int) - 7).toNat = i - 7 := by omega
    have n2 : ((i : Int) - 15).toNat = i - 15 := by omega
    have n3 : ((i : Int) - 16).toNat = i - 16 := by omega
    simp (maxSteps := 2000000) (disch := first | exact dT_ | fail) only [hlt', n0, n1, n2, n3, hW4, p_add, p_sub, p_lss, L1_cells, Hp_drew, cells_agg, Branch_bool, List.getElem?_toArray, Option.elim_some, Nat.zero_add, and_true, Bool.true_eq_false, false_implies, forall_const, wr_in, Int.toNat_natCast, Nat.mul_one, p_shr32, wc_getL, decide_true, Int.reduceToNat, ix111, ld104, ld105, al105, zv105]
    refine CallF_by Try.call69 (rot_spec _ 17 (by decide) _) ?_
    rintro _ w7 ⟨rfl, rfl⟩
    simp (maxSteps := 2000000) (disch := first | exact dT_ | fail) only [hW4, L1_cells, Hp_drew, List.getElem?_toArray, Option.elim_some, true_and, wc_getL]
    refine CallF_by Try.call69 (rot_spec _ 19 (by decide) _) ?_
    rintro _ w7 ⟨rfl, rfl⟩
    simp (maxSteps := 2000000) (disch := first | exact dT_ | fail) only [hW4, L1_cells, Hp_drew, List.getElem?_toArray, Option.elim_some, true_and, p_add32, p_xor32, wc_getL]
    refine CallF_by Try.call69 (rot_spec _ 7 (by decide) _) ?_
    rintro _ w7 ⟨rfl, rfl⟩
    simp (maxSteps := 2000000) (disch := first | exact dT_ | fail) only [hW4, L1_cells, Hp_drew, List.getElem?_toArray, Option.elim_some, true_and, wc_getL]
    refine CallF_by Try.call69 (rot_spec _ 18 (by decide) _) ?_
    rintro _ w7 ⟨rfl, rfl⟩
    simp (maxSteps := 2000000) (disch := first | exact dT_ | fail) only [hW4, hX, L1_cells, St_cells, Hp_drew, cells_int, List.getElem?_toArray, Option.elim_some, Nat.zero_add, List.size_toArray, List.length_cons, List.length_nil, Nat.reduceLeDiff, if_pos, true_and, p_add32, p_xor32, wc_length, wc_getL, wc_set, st104]
    refine ⟨?_, by omega⟩
    rw [hJ]
    have hx5 : ∀ x, Ext (fun b => b = p8) w6 (put w6.drew.drew p8 (Obj.cells (wc (X.set i x)).toArray 111)) := fun x => (Ext.refl _ _).drew.drew.put _ _ fun _ => rfl
    refine ⟨i + 1, X.set i _, by simp, by omega, by omega, by simpa using hX, ?_, hx4.trans (hx5 _) fun _ _ h => h, Hp_put_same _ _ _ (by rw [sz_drew, sz_drew]; exact hlW)⟩
    rw [take_set_next _ _ _ (by omega), htk]
    show _ = wl blk i ++ [_]
    rw [if_neg (by omega), ← htk, take_getD _ _ _ (by omega), take_getD _ _ _ (by omega), take_getD _ _ _ (by omega), take_getD _ _ _ (by omega)]
    rfl
  have hlt' : ¬ (i : Int) < 64 := by omega
  obtain rfl : i = 64 := by omega
  have hXe : X = wl blk 64 := by rw [← htk, List.take_of_length_le (by omega)]
  have hl4 := hx4.at h4 (fun e => hn3 e)
  have h80 : (List.replicate 8 (0 : UInt32)).length = 8 := by simp
  have s1 : splice (wc (List.replicate 8 (0 : UInt32))).toArray 0 (wc l).toArray = (wc l).toArray := splice_wc_all (by rw [h80, hl])
  simp (maxSteps := 2000000) (disch := first | exact dT_ | fail) only [hlt', hl4, hl, ext_wc0 hl, s1, h80, p_lss, put_allocN, Ln_cells, St_cells, Hp_alloc_new, cells_agg, Branch_bool, Nat.zero_add, List.size_toArray, Nat.reduceLeDiff, if_pos, true_and, and_self, Bool.false_eq_true, false_implies, forall_const, Nat.sub_self, Int.toNat_natCast, wc_length, decide_false, ld105, st105, al105, zv105]
  clear hJ J
  obtain ⟨w8, hw8⟩ : ∃ w8, w8 = w6.alloc (Obj.cells (wc l).toArray 105) := ⟨_, rfl⟩
  have hx8 : Ext (fun _ => False) w6 w8 := by rw [hw8]; exact (Ext.refl _ _).alloc _
  have hq8 : Hp w8 (sz w6) = some (Obj.cells (wc l).toArray 105) := by rw [hw8]; (first | exact hpt_ | fail)
  rw [← hw8]
  clear hw8
  have hs6 := hx4.size
  have h3' := hx8.at (hx4.at h3 (fun e => hn2 e)) not_false
  have hW8 := hx8.at hW4 not_false
  have hl8 := hx8.at hl4 not_false
  have hlt3 := Hp_lt h3
  have hlt4 := Hp_lt h4
  have hltX := Hp_lt hW4
  have hlK : K256.length = 64 := rfl
  have hWall : Ext (fun b => b = p8) W w8 := hx4.trans hx8 fun _ _ h => h.elim
  clear hW4 hl4 htk hx4 hx8
  obtain ⟨s, hs⟩ : ∃ s, s = St8.of l := ⟨_, rfl⟩
  have hse : s.list = l := by
    rw [hs]
    match l, hl with
    | [_, _, _, _, _, _, _, _], _ => rfl
  obtain ⟨J, hJ⟩ : ∃ J : Value → World → Prop, J = fun v w4 => ∃ (i : Nat), v = i64 (i : Int) ∧ i ≤ 64 ∧ Ext (fun b => b = sz w6) w8 w4 ∧ Hp w4 (sz w6) = some (Obj.cells (wc (rounds blk s i).list).toArray 105) := ⟨_, rfl⟩
  refine Loop1 J (fun v _ => 64 - (match v with | .int _ n => n.toNat | _ => 0)) (by rw [hJ]; exact ⟨0, rfl, by omega, Ext.refl _ _, by rw [hq8]; unfold rounds; rw [hse]⟩) ?_
  intro v w9 hj
  rw [hJ] at hj
  obtain ⟨i, rfl, hi, hx9, hq9⟩ := hj
  have hlq9 := Hp_lt hq9
  have hRl : (rounds blk s i).list.length = 8 := rfl
  have h39 := hx9.at h3' (by omega)
  have hW9 := hx9.at hW8 (by omega)
  have hl9 := hx9.at hl8 (by omega)
  by_cases hlt : i < 64
  · have hlt' : (i : Int) < 64 := by omega
    unfold F51x2
    generalize hKK : K256 = KK at *
    obtain ⟨R, hR⟩ : ∃ R, R = (rounds blk s i).list := ⟨_, rfl⟩
    rw [← hR] at hRl hq9
    simp (maxSteps := 2000000) (disch := first | exact dT_ | fail) only [hlt', h39, hW9, hq9, p_add, p_lss, L1_cells, Hp_drew, Branch_bool, List.getElem?_toArray, Option.elim_some, Nat.zero_add, Nat.add_zero, and_true, Bool.true_eq_false, false_implies, forall_const, wr_in, Int.toNat_natCast, Nat.mul_one, p_xor32, p_and32, p_not32, wc_getL, decide_true, Int.reduceToNat, ix105, ix111, ld104]
    refine CallF_by Try.call69 (rot_spec _ 6 (by decide) _) ?_
    rintro _ w10 ⟨rfl, rfl⟩
    simp (maxSteps := 2000000) (disch := first | exact dT_ | fail) only [h39, hW9, hq9, L1_cells, Hp_drew, List.getElem?_toArray, Option.elim_some, true_and, wc_getL]
    refine CallF_by Try.call69 (rot_spec _ 11 (by decide) _) ?_
    rintro _ w10 ⟨rfl, rfl⟩
    simp (maxSteps := 2000000) (disch := first | exact dT_ | fail) only [h39, hW9, hq9, L1_cells, Hp_drew, List.getElem?_toArray, Option.elim_some, true_and, p_xor32, wc_getL]
    refine CallF_by Try.call69 (rot_spec _ 25 (by decide) _) ?_
    rintro _ w10 ⟨rfl, rfl⟩
    simp (maxSteps := 2000000) (disch := first | exact dT_ | fail) only [h39, hW9, hq9, L1_cells, Hp_drew, List.getElem?_toArray, Option.elim_some, true_and, p_add32, p_xor32, p_and32, wc_getL]
    refine CallF_by Try.call69 (rot_spec _ 2 (by decide) _) ?_
    rintro _ w10 ⟨rfl, rfl⟩
    simp (maxSteps := 2000000) (disch := first | exact dT_ | fail) only [hq9, L1_cells, Hp_drew, List.getElem?_toArray, Option.elim_some, true_and, wc_getL]
    refine CallF_by Try.call69 (rot_spec _ 13 (by decide) _) ?_
    rintro _ w10 ⟨rfl, rfl⟩
    simp (maxSteps := 2000000) (disch := first | exact dT_ | fail) only [hq9, L1_cells, Hp_drew, List.getElem?_toArray, Option.elim_some, true_and, p_xor32, wc_getL]
    refine CallF_by Try.call69 (rot_spec _ 22 (by decide) _) ?_
    rintro _ w10 ⟨rfl, rfl⟩
    simp (maxSteps := 2000000) (disch := first | exact dT_ | fail) only [hq9, L1_cells, Hp_drew, List.getElem?_toArray, Option.elim_some, true_and, p_add32, p_xor32, wc_getL]
    have hi64 : i < 64 := hlt
    have key : ∀ A E : UInt32, A = t1 (rounds blk s i) (KK.getD i 0) (X.getD i 0) + t2 (rounds blk s i) → E = (rounds blk s i).d + t1 (rounds blk s i) (KK.getD i 0) (X.getD i 0) →
        PRun Try.prog (Instr.build 105 #[(0, u32v A), (1, u32v (R.getD 0 0)), (2, u32v (R.getD 1 0)), (3, u32v (R.getD 2 0)), (4, u32v E), (5, u32v (R.getD 4 0)), (6, u32v (R.getD 5 0)), (7, u32v (R.getD 6 0))]) fun v226 =>
          Run Try.prog (Instr.storeAt 105 (ptr (sz w6) 0) v226) w9.drew.drew fun x w36 => J (i64 ((i : Int) + 1)) w36 ∧ 64 - ((i : Int) + 1).toNat < 64 - i := by
      intro A E hA hE
      have hcc : ∀ v ∈ [u32v A, u32v (R.getD 0 0), u32v (R.getD 1 0), u32v (R.getD 2 0), u32v E, u32v (R.getD 4 0), u32v (R.getD 5 0), u32v (R.getD 6 0)], v.cells.size = 1 := by simp [cells_int]
      have hst : [A, R.getD 0 0, R.getD 1 0, R.getD 2 0, E, R.getD 4 0, R.getD 5 0, R.getD 6 0] = (rounds blk s (i + 1)).list := by
        rw [hA, hE, hR]
        show _ = (rnd (rounds blk s i) (K256.getD i 0) ((wl blk 64).getD i 0)).list
        rw [hKK, ← hXe]; rfl
      have hcat : catC [u32v A, u32v (R.getD 0 0), u32v (R.getD 1 0), u32v (R.getD 2 0), u32v E, u32v (R.getD 4 0), u32v (R.getD 5 0), u32v (R.getD 6 0)] = wc (rounds blk s (i + 1)).list := by
        rw [← hst]; exact catC_wc [_, _, _, _, _, _, _, _]
      have hNl : (rounds blk s (i + 1)).list.length = 8 := rfl
      obtain ⟨N, hN⟩ : ∃ N, N = (rounds blk s (i + 1)).list := ⟨_, rfl⟩
      rw [← hN] at hcat hNl
      have s2 : splice (wc R).toArray 0 (wc N).toArray = (wc N).toArray := splice_wc_all (by rw [hRl, hNl])
      simp (maxSteps := 2000000) (disch := first | exact dT_ | fail) only [bldA105 _ _ _ _ _ _ _ _ hcc, hcat, hq9, hRl, hNl, s2, St_cells, Hp_drew, cells_agg, Nat.zero_add, List.size_toArray, Nat.reduceLeDiff, if_pos, and_self, wc_length, st105]
      refine ⟨?_, by omega⟩
      rw [hJ]
      refine ⟨i + 1, by simp, by omega, hx9.drew.drew.put _ _ fun _ => rfl, ?_⟩
      rw [← hN]
      exact Hp_put_same _ _ _ (by rw [sz_drew, sz_drew]; exact hlq9)
    refine key _ _ ?_ ?_ <;> rw [hR] <;> rfl
  have hlt' : ¬ (i : Int) < 64 := by omega
  obtain rfl : i = 64 := by omega
  simp (maxSteps := 2000000) (disch := first | exact dT_ | fail) only [hlt', p_lss, Branch_bool, true_and, Bool.false_eq_true, false_implies, forall_const, Nat.sub_self, Int.toNat_natCast, decide_false]
  clear hJ J
  obtain ⟨r, hr⟩ : ∃ r, r = rounds blk s 64 := ⟨_, rfl⟩
  rw [← hr] at hq9 hRl
  have hml := mixF_length l blk
  obtain ⟨J, hJ⟩ : ∃ J : Value → World → Prop, J = fun v w4 => ∃ (i : Nat) (L : List UInt32), v = i64 (i : Int) ∧ i ≤ 8 ∧ L = (mixF l blk).take i ++ l.drop i ∧ Ext (fun b => b = p4) w9 w4 ∧ Hp w4 p4 = some (Obj.cells (wc L).toArray 105) := ⟨_, rfl⟩
  refine Loop1 J (fun v _ => 8 - (match v with | .int _ n => n.toNat | _ => 0)) (by rw [hJ]; exact ⟨0, l, rfl, by omega, rfl, Ext.refl _ _, hl9⟩) ?_
  intro v w11 hj
  rw [hJ] at hj
  obtain ⟨i, L, rfl, hi, hL, hx11, h11⟩ := hj
  have hLl : L.length = 8 := by rw [hL]; simp; omega
  have hl11 := Hp_lt h11
  have hq11 := hx11.at hq9 (by omega)
  unfold F51x1
  by_cases hlt : i < 8
  · have hlt' : (i : Int) < 8 := by omega
    simp (maxSteps := 2000000) (disch := first | exact dT_ | fail) only [hlt', h11, hLl, hq11, p_add, p_lss, L1_cells, St_cells, Hp_drew, cells_int, Branch_bool, List.getElem?_toArray, Option.elim_some, Nat.zero_add, List.size_toArray, List.length_cons, List.length_nil, Nat.reduceLeDiff, if_pos, and_true, true_and, Bool.true_eq_false, false_implies, forall_const, wr_in, Int.toNat_natCast, Nat.mul_one, p_add32, wc_length, wc_getL, wc_set, decide_true, ix105, ld104, st104]
    refine ⟨?_, by omega⟩
    rw [hJ]
    refine ⟨i + 1, _, by simp, by omega, ?_, hx11.drew.put _ _ fun _ => rfl, Hp_put_same _ _ _ (by rw [sz_drew]; exact hl11)⟩
    have hi8 : i < (mixF l blk).length := by omega
    have e1 : L.getD i 0 + r.list.getD i 0 = (mixF l blk).getD i 0 := by
      have e2 : L.getD i 0 = l.getD i 0 := by
        rw [hL, List.getD_eq_getElem?_getD, List.getElem?_append_right (by simp; omega), List.getElem?_drop, List.getD_eq_getElem?_getD]
        congr 2; simp; omega
      rw [e2]
      unfold mixF
      simp only []
      rw [← hs, ← hr]
      have e3 : l.getD i 0 = s.list.getD i 0 := by rw [hse]
      rw [e3]
      match i, hlt with
      | 0, _ => rfl
      | 1, _ => rfl
      | 2, _ => rfl
      | 3, _ => rfl
      | 4, _ => rfl
      | 5, _ => rfl
      | 6, _ => rfl
      | 7, _ => rfl
    rw [e1, hL]
    apply List.ext_getElem?
    intro j
    rw [List.getElem?_set]
    by_cases hij : i = j
    · subst hij
      rw [if_pos rfl, if_pos (by simp; omega), List.getElem?_append_left (by simp; omega), List.getElem?_take, if_pos (by omega), List.getD_eq_getElem?_getD, List.getElem?_eq_getElem hi8]; rfl
    · rw [if_neg hij, List.getElem?_append, List.getElem?_append, List.length_take, List.length_take]
      by_cases h1 : j < i
      · rw [if_pos (by omega), if_pos (by omega), List.getElem?_take, List.getElem?_take, if_pos h1, if_pos (by omega)]
      · rw [if_neg (by omega), if_neg (by omega), List.getElem?_drop, List.getElem?_drop]
        congr 1; omega
  · have hlt' : ¬ (i : Int) < 8 := by omega
    obtain rfl : i = 8 := by omega
    have hLe : L = mixF l blk := by rw [hL, List.take_of_length_le (by omega), List.drop_of_length_le (by omega), List.append_nil]
    rw [hLe] at h11
    have e1 : (64 * n : Nat) + (64 : Int) = ((64 * (n + 1) : Nat) : Int) := by omega
    simp (maxSteps := 2000000) (disch := first | exact dT_ | fail) only [hlt', e1, p_add, p_lss, Branch_bool, true_and, Bool.false_eq_true, false_implies, forall_const, Nat.sub_self, wr_in, Int.toNat_natCast, decide_false]
    refine hk w11 X ?_ h11 (hx11.at hW9 (fun e => hn3 e.symm)) hX
    exact ((hWall.mono fun b _ e => .inr e).trans hx9 fun b hb e => by omega).trans hx11 fun b _ e => .inl e
end
end Go.Proofs
namespace Go.Proofs
open Go Go.Lf
set_option maxRecDepth 20000
set_option maxHeartbeats 2000000
set_option linter.unusedSimpArgs false
set_option linter.unusedVariables false
theorem take_set4 (O P : List UInt8) (i : Nat) (h : 4 * i + 3 < O.length) (hP : 4 * i + 3 < P.length) (ht : O.take (4 * i) = P.take (4 * i)) :
    ((((O.set (4 * i) (P.getD (4 * i) 0)).set (4 * i + 1) (P.getD (4 * i + 1) 0)).set (4 * i + 2) (P.getD (4 * i + 2) 0)).set (4 * i + 3) (P.getD (4 * i + 3) 0)).take (4 * (i + 1)) = P.take (4 * (i + 1)) := by
  rw [show 4 * (i + 1) = 4 * i + 3 + 1 by omega, take_set_nextB _ _ _ (by simpa using h), take_set_nextB _ _ _ (by simp; omega), take_set_nextB _ _ _ (by simp; omega), take_set_nextB _ _ _ (by omega), ht, take_nextB _ _ hP, take_nextB _ _ (by omega), take_nextB _ _ (by omega), take_nextB _ _ (by omega)]
section
variable {W : World} {p2 p4 : Nat} {S : List UInt32} {K : Value → World → Prop}
theorem rout_part (h2 : Hp W p2 = some (.cells (bc (List.replicate 32 0)).toArray 25 (0, 0))) (h4 : Hp W p4 = some (.cells (wc S).toArray 105 (0, 0))) (hS : S.length = 8)
    (hK : ∀ W', Ext (fun b => b = p2) W W' → K (idv (outB S)) W') :
    LoopF 1 [(Value.int .i64 0)] (W.alloc (Obj.cells (bc (List.replicate 32 0)).toArray 25)) fun v22_2 w40 k8 =>
    PRun Try.prog (binOp .lss 3 v22_2 (Value.int .i64 8)) fun v240 =>
    Branch v240 (F51x6 (ptr p4 0) (ptr (sz W) 0) v22_2 k8 w40) (
      Ln Try.prog 25 32 w40 (sz W) 0 (Hp w40 (sz W)) fun v277 =>
      Run Try.prog (Instr.storeAt 25 (ptr p2 0) v277) w40 fun _ w45 =>
      Ln Try.prog 25 32 w45 p2 0 (Hp w45 p2) fun v2_2 => K v2_2 w45) := by
  have hl2 := Hp_lt h2
  have hl4 := Hp_lt h4
  have h32 : (List.replicate 32 (0 : UInt8)).length = 32 := by simp
  have hO := outB_length S
  obtain ⟨w16, hw16⟩ : ∃ w16, w16 = W.alloc (Obj.cells (bc (List.replicate 32 0)).toArray 25) := ⟨_, rfl⟩
  have hx16 : Ext (fun _ => False) W w16 := by rw [hw16]; exact (Ext.refl _ _).alloc _
  have h12 : Hp w16 (sz W) = some (.cells (bc (List.replicate 32 0)).toArray 25 (0, 0)) := by rw [hw16]; exact Hp_alloc_new _ _ _ rfl
  rw [← hw16]
  clear hw16
  obtain ⟨J, hJ⟩ : ∃ J : Value → World → Prop, J = fun v w' => ∃ (i : Nat) (O : List UInt8), v = i64 (i : Int) ∧ i ≤ 8 ∧ O.length = 32 ∧ O.take (4 * i) = (outB S).take (4 * i) ∧ Ext (fun b => b = sz W) w16 w' ∧ Hp w' (sz W) = some (.cells (bc O).toArray 25 (0, 0)) := ⟨_, rfl⟩
  refine Loop1 J (fun v _ => 8 - (match v with | .int _ n => n.toNat | _ => 0)) (by rw [hJ]; exact ⟨0, _, rfl, by omega, h32, rfl, Ext.refl _ _, h12⟩) ?_
  intro v w17 hj
  rw [hJ] at hj
  obtain ⟨i, O, rfl, hi, hOl, hOt, hx17, hO17⟩ := hj
  have hl17 := Hp_lt hO17
  by_cases hlt : i < 8
  · have hlt' : (i : Int) < 8 := by omega
    have h4' := hx17.at (hx16.at h4 not_false) (by omega)
    unfold F51x6
    have n0 : ((4 : Int) * (i : Int)).toNat = 4 * i := by omega
    have n1 : ((4 : Int) * (i : Int) + 1).toNat = 4 * i + 1 := by omega
    have n2 : ((4 : Int) * (i : Int) + 2).toNat = 4 * i + 2 := by omega
    have n3 : ((4 : Int) * (i : Int) + 3).toNat = 4 * i + 3 := by omega
    have l1 : (O.set (4 * i) (b8 ((shr32 (S.getD i 0) 24).toNat : Int))).length = 32 := by rw [List.length_set]; exact hOl
    have l2 : ((O.set (4 * i) (b8 ((shr32 (S.getD i 0) 24).toNat : Int))).set (4 * i + 1) (b8 ((shr32 (S.getD i 0) 16).toNat : Int))).length = 32 := by rw [List.length_set]; exact l1
    have l3 : (((O.set (4 * i) (b8 ((shr32 (S.getD i 0) 24).toNat : Int))).set (4 * i + 1) (b8 ((shr32 (S.getD i 0) 16).toNat : Int))).set (4 * i + 2) (b8 ((shr32 (S.getD i 0) 8).toNat : Int))).length = 32 := by rw [List.length_set]; exact l2
    simp (maxSteps := 2000000) (disch := first | exact dT_ | fail) only [hlt', n0, n1, n2, n3, h4', hO17, hOl, l1, l2, l3, p_add, p_mul, p_lss, L1_cells, Ln_cells, St_cells, Hp_drew, Hp_put_same, Hp_put_other, cells_int, Branch_bool, List.getElem?_toArray, Option.elim_some, Nat.zero_add, List.size_toArray, List.length_cons, List.length_nil, Nat.reduceLeDiff, if_pos, and_true, true_and, Bool.true_eq_false, false_implies, forall_const, ext_bc0, bc_length, u8b, wr_in, Int.toNat_natCast, Nat.mul_one, p_shr32, wc_getL, bc_setD, decide_true, Int.reduceToNat, ix25, ix105, cv104_5, ld104, st5, st25]
    refine ⟨?_, by omega⟩
    rw [hJ]
    have g0 := outB_getD S i 0 (by omega) (by omega)
    have g1 := outB_getD S i 1 (by omega) (by omega)
    have g2 := outB_getD S i 2 (by omega) (by omega)
    have g3 := outB_getD S i 3 (by omega) (by omega)
    rw [show (24 - 8 * 3) = 0 by rfl, shr32_zero] at g3
    rw [show 4 * i + 0 = 4 * i by rfl] at g0
    refine ⟨i + 1, _, by simp, by omega, by rw [List.length_set]; exact l3, ?_, (((hx17.drew.put _ _ fun _ => rfl).put _ _ fun _ => rfl).put _ _ fun _ => rfl).put _ _ fun _ => rfl, Hp_put_same _ _ _ (by simp only [sz_put, sz_drew]; exact hl17)⟩
    have := take_set4 O (outB S) i (by omega) (by omega) hOt
    rw [g0, g1, g2, g3] at this
    exact this
  · have hlt' : ¬ (i : Int) < 8 := by omega
    obtain rfl : i = 8 := by omega
    have hOe : O = outB S := by
      have e1 := List.take_of_length_le (i := 4 * 8) (l := O) (by omega)
      have e2 := List.take_of_length_le (i := 4 * 8) (l := outB S) (by omega)
      rw [← e1, hOt, e2]
    have hlO : (outB S).length = 32 := by omega
    have h4' := hx17.at (hx16.at h2 not_false) (by omega)
    have hl4' := Hp_lt h4'
    rw [hOe] at hO17
    have s1 : splice (bc (List.replicate 32 0)).toArray 0 (bc (outB S)).toArray = (bc (outB S)).toArray := splice_bc_all (by rw [h32, hlO])
    generalize outB S = OS at *
    simp (maxSteps := 2000000) (disch := first | exact dT_ | fail) only [hlt', hO17, hlO, h4', h32, s1, ext_bc0 hlO, p_lss, Ln_cells, St_cells, Hp_put_same, cells_agg, Branch_bool, Nat.zero_add, List.size_toArray, Nat.reduceLeDiff, if_pos, true_and, and_self, Bool.false_eq_true, false_implies, forall_const, bc_length, Nat.sub_self, Int.toNat_natCast, decide_false, st25]
    exact hK _ ((hx16.trans2 (M := fun b => b = p2) hx17 (fun _ _ h => h.elim) fun b hb e => by omega).put _ _ fun _ => rfl)
theorem rblocks_part {p3 p8 B o U cap : Nat} {fr : Nat × Nat} {row : Array Value} {T : List UInt8} {X : List UInt32}
    (h3 : Hp W p3 = some (.cells (wc K256).toArray 111 (0, 0))) (h4 : Hp W p4 = some (.cells (wc Init256).toArray 105 (0, 0))) (h2 : Hp W p2 = some (.cells (bc (List.replicate 32 0)).toArray 25 (0, 0)))
    (h8 : Hp W p8 = some (.cells (wc X).toArray 111 (0, 0))) (hX : X.length = 64)
    (hB : Hp W B = some (.cells row U fr)) (hcells : ∀ j, j < T.length → row[o + j]? = (bc T)[j]?) (hcap : T.length ≤ cap)
    (hne : p3 ≠ p4 ∧ p3 ≠ p8 ∧ p4 ≠ p8 ∧ B ≠ p4 ∧ B ≠ p8) (hne2 : p2 ≠ p4 ∧ p2 ≠ p8) (hm : T.length % 64 = 0) (hbig : T.length ≤ 1000000000)
    (hK : ∀ W', Ext (fun b => b = p4 ∨ b = p8 ∨ b = p2) W W' → K (idv (outB (mixN T (T.length / 64)))) W') :
    LoopF 1 [(Value.int .i64 0)] W fun v9_2 w18 k3 => F51x7 (ptr p2 0) (ptr p3 0) (ptr p4 0) (.slice (some ⟨B, o, none⟩) T.length cap) (ptr p8 0) v9_2 k3 w18 K := by
  obtain ⟨J, hJ⟩ : ∃ J : Value → World → Prop, J = fun v w' => ∃ (n : Nat) (X : List UInt32), v = i64 ((64 * n : Nat) : Int) ∧ 64 * n ≤ T.length ∧ X.length = 64 ∧ Ext (fun b => b = p4 ∨ b = p8) W w' ∧ Hp w' p4 = some (.cells (wc (mixN T n)).toArray 105 (0, 0)) ∧ Hp w' p8 = some (.cells (wc X).toArray 111 (0, 0)) := ⟨_, rfl⟩
  refine Loop1 J (fun v _ => T.length - (match v with | .int _ n => n.toNat | _ => 0)) (by rw [hJ]; exact ⟨0, X, rfl, by omega, hX, Ext.refl _ _, h4, h8⟩) ?_
  clear hX h8 h4
  intro v w13 hj
  rw [hJ] at hj
  obtain ⟨n, X, rfl, hn, hX, hx13, h4, h8⟩ := hj
  obtain ⟨hn1, hn2, hn3, hn4, hn5⟩ := hne
  have hSl := mixN_length T n
  have hB13 := hx13.at hB (fun e => e.elim hn4 hn5)
  have h313 := hx13.at h3 (fun e => e.elim hn1 hn2)
  have h213 := hx13.at h2 (fun e => e.elim hne2.1 hne2.2)
  unfold F51x7
  by_cases hlt : 64 * n < T.length
  · have hlt' : ((64 * n : Nat) : Int) < (T.length : Int) := by omega
    simp (maxSteps := 2000000) (disch := first | exact dT_ | fail) only [hlt', p_lss, cells_agg, Branch_bool, and_true, Bool.true_eq_false, false_implies, forall_const, Int.toNat_natCast, decide_true, len30, ld25, al25, zv25]
    refine rb_part h313 h4 hSl h8 hX hB13 hcells hcap ⟨hn1, hn2, hn3, hn4, hn5⟩ (by omega) hbig ?_
    intro W' X' hx' h4' h8' hX'
    refine ⟨?_, by show T.length - 64 * (n + 1) < T.length - 64 * n; omega⟩
    rw [hJ]
    exact ⟨n + 1, X', rfl, by omega, hX', hx13.trans hx' fun _ _ h => h, h4', h8'⟩
  · have hlt' : ¬ ((64 * n : Nat) : Int) < (T.length : Int) := by omega
    have e : n = T.length / 64 := by omega
    rw [e] at h4 hSl
    simp (maxSteps := 2000000) (disch := first | exact dT_ | fail) only [hlt', p_lss, cells_agg, Branch_bool, true_and, Bool.false_eq_true, false_implies, forall_const, Int.toNat_natCast, decide_false, len30, ld25, al25, zv25]
    refine rout_part h213 h4 hSl fun W' hx => hK W' (hx13.trans2 hx (fun b _ e => ?_) fun b _ e => .inr (.inr e))
    rcases e with e | e
    · exact .inl e
    · exact .inr (.inl e)
end
theorem be8_next (n i : Nat) (h : i < 8) : (be8 n).take (i + 1) = (be8 n).take i ++ [b8 ((n : Int) / 2 ^ (8 * (7 - i)))] := by
  rw [take_nextB _ _ (by rw [be8_length]; exact h), be8_getD _ _ h]
theorem refsum_spec {w : World} {x : Value} {a : List UInt8} {Q : Nat → Prop} (hx : BIn w x a Q) (hal : a.length ≤ 1000000) :
    Calls Try.prog 51 #[x] w (retK fun v w' => v = idv (sha a) ∧ Ext (fun _ => False) w w') := by
  refine F51_ok _ _ _ ?_
  unfold F51
  simp (maxSteps := 2000000) (disch := first | exact dT_ | fail) only [cells_agg, forall_const, bldA105, bs30_0, bs30_1, al25, al105, al111, zv25, zv105, zv111]
  refine CallF_by Try.call68 (words_spec _) ?_
  rintro _ w2 ⟨rfl, hx2⟩
  have hlK : K256.length = 64 := rfl
  have h64 : (List.replicate 64 (0 : UInt32)).length = 64 := by simp
  have h80 : (List.replicate 8 (0 : UInt32)).length = 8 := by simp
  have hlI : Init256.length = 8 := rfl
  have s1 : splice (wc (List.replicate 64 (0 : UInt32))).toArray 0 (wc K256).toArray = (wc K256).toArray := splice_wc_all (by rw [hlK, h64])
  have s2 : splice (wc (List.replicate 8 (0 : UInt32))).toArray 0 (wc Init256).toArray = (wc Init256).toArray := splice_wc_all (by rw [hlI, h80])
  have hI : catC [Value.int .u32 1779033703, Value.int .u32 3144134277, Value.int .u32 1013904242, Value.int .u32 2773480762, Value.int .u32 1359893119, Value.int .u32 2600822924, Value.int .u32 528734635, Value.int .u32 1541459225] = wc Init256 := catC_wc Init256
  rw [hI]
  clear hI
  generalize hKK : K256 = KK at *
  generalize hII : Init256 = II at *
  have hlr2 := (hx2.size)
  simp (maxSteps := 2000000) (disch := first | exact dT_ | fail) only [hlK, h64, s1, hlI, h80, s2, put_allocN, St_cells, Hp_alloc_new, sz_alloc, cells_agg, Nat.zero_add, List.size_toArray, Nat.reduceLeDiff, if_pos, and_self, wc_length, st105, st111]
  obtain ⟨w6, hw6⟩ : ∃ w6, w6 = (w2.alloc (Obj.cells (wc KK).toArray 111)).alloc (Obj.cells (wc II).toArray 105) := ⟨_, rfl⟩
  have hx6' : Ext (fun _ => False) w2 w6 := by rw [hw6]; exact ((Ext.refl _ _).alloc _).alloc _
  have hx6 : Ext (fun _ => False) w w6 := (((Ext.refl _ _).alloc _).trans hx2 fun _ _ h => h).trans hx6' fun _ _ h => h
  have hq6 : Hp w6 (sz w) = some (Obj.cells (bc (List.replicate 32 0)).toArray 25) := hx6'.at (hx2.at (by (first | exact hpt_ | fail)) not_false) not_false
  have h36 : Hp w6 (sz w2) = some (Obj.cells (wc KK).toArray 111) := by rw [hw6]; (first | exact hpt_ | fail)
  have h46 : Hp w6 (sz w2 + 1) = some (Obj.cells (wc II).toArray 105) := by rw [hw6]; (first | exact hpt_ | fail)
  have hs6 : sz w6 = sz w2 + 1 + 1 := by rw [hw6]; (first | exact szT_ | fail)
  rw [sz_alloc] at hlr2
  rw [← hw6, ← hs6]
  clear hw6
  have hz := pad_length a
  have hx6b : BIn w6 x a Q := hx.ext hx6 fun _ _ _ => not_false
  have hsz6 := hx6.size
  obtain ⟨m, hm⟩ : ∃ m, m = sz w6 := ⟨_, rfl⟩
  have hxB : ∀ {w' : World}, Ext (fun b => m ≤ b) w6 w' → BOf w' x a := fun h => (hx6b.ext h fun b hb _ hm' => by omega).of
  refine apB _ (m := m) (l := []) (BOwn.fresh (u8 := 5) [] rfl rfl (Nat.le_refl _) (Nat.le_refl _) (by omega)) (hxB ((Ext.refl _ _).alloc _)) (by rw [sz_alloc]; omega) (by simp; omega) ?_
  intro v27 w8 hv8 hx8
  rw [List.nil_append] at hv8
  have hx8' : Ext (fun b => m ≤ b) w6 w8 := ((Ext.refl _ _).alloc _).trans hx8 fun _ _ h => h
  have hs8 := hx8'.size
  refine apL _ (m := m) (l' := [0x80]) hv8 rfl rfl (by omega) (by simp; omega) ?_
  intro v30 w10 hv10 hx10
  have hx10' : Ext (fun b => m ≤ b) w6 w10 := hx8'.trans hx10 fun _ _ h => h
  clear hv8 hx8 hx10
  obtain ⟨xa, xc, rfl⟩ := hx.form
  obtain ⟨z, hz2⟩ : ∃ z, z = zeros a.length := ⟨_, rfl⟩
  have hzd : z = (119 - a.length % 64) % 64 := hz2
  obtain ⟨J, hJ⟩ : ∃ J : Value → World → Prop, J = fun v w' => ∃ k : Nat, k ≤ z ∧ BOwn 5 w' v (a ++ [0x80] ++ List.replicate k 0) m ∧ Ext (fun b => m ≤ b) w6 w' := ⟨_, rfl⟩
  refine Loop1 J (fun v _ => a.length + 1 + z - (match v with | .slice _ n _ => n | _ => 0)) (by rw [hJ]; exact ⟨0, by omega, by simpa using hv10, hx10'⟩) ?_
  clear hv10 hx10' hx8' hs8
  intro v w11 hj
  rw [hJ] at hj
  obtain ⟨k, hk, hv, hx11⟩ := hj
  have hln : (a ++ [0x80] ++ List.replicate k (0 : UInt8)).length = a.length + 1 + k := by simp; omega
  obtain ⟨va, vc, rfl⟩ := hv.form
  have hs11 := hx11.size
  rw [hln] at hv ⊢
  unfold F51x9
  by_cases hlt : k < z
  · have hne : ¬ ((a.length + 1 + k : Nat) : Int) % 64 = 56 := by omega
    have hne0 : ¬ ((a.length + 1 + k : Nat) : Int).tmod 64 = 56 := by rw [Int.tmod_eq_emod_of_nonneg (by omega)]; exact hne
    simp (maxSteps := 2000000) (disch := first | exact dT_ | fail) only [hne0, p_neq, p_rem, Branch_bool, Bool.not_false, and_true, Bool.true_eq_false, false_implies, forall_const, u64w, p_mul64u, decide_false, len30, cv3_103, bs30_1]
    refine apL _ (m := m) (l' := [0]) hv rfl rfl (by omega) (by rw [hln]; simp; omega) ?_
    intro v' w' hv' hx'
    have hl2 : (a ++ [0x80] ++ List.replicate k (0 : UInt8) ++ [0]).length = a.length + 1 + (k + 1) := by simp; omega
    obtain ⟨va', vc', rfl⟩ := hv'.form
    refine ⟨?_, by rw [hl2]; show a.length + 1 + z - (a.length + 1 + (k + 1)) < a.length + 1 + z - (a.length + 1 + k); omega⟩
    rw [hJ]
    exact ⟨k + 1, by omega, by rw [List.replicate_succ', ← List.append_assoc]; exact hv', hx11.trans hx' fun _ _ h => h⟩
  obtain rfl : k = z := by omega
  have hne : ((a.length + 1 + k : Nat) : Int) % 64 = 56 := by omega
  have hne0 : ((a.length + 1 + k : Nat) : Int).tmod 64 = 56 := by rw [Int.tmod_eq_emod_of_nonneg (by omega)]; exact hne
  simp (maxSteps := 2000000) (disch := first | exact dT_ | fail) only [hne0, p_neq, p_rem, Branch_bool, Bool.not_true, true_and, Bool.false_eq_true, false_implies, forall_const, Nat.sub_self, u64w, p_mul64u, decide_true, len30, cv3_103, bs30_1]
  clear hJ J
  have e1 : (a.length : Int) % 18446744073709551616 = a.length := by omega
  have e2 : (a.length : Int) * 8 % 18446744073709551616 = (a.length : Int) * 8 := by omega
  have hpd : a ++ [0x80] ++ List.replicate k (0 : UInt8) ++ be8 (8 * a.length) = pad a := by unfold pad; rw [hz2]
  obtain ⟨J, hJ⟩ : ∃ J : Value → Value → World → Prop, J = fun u v w' => ∃ i : Nat, i ≤ 8 ∧ v = i64 (7 - (i : Int)) ∧ BOwn 5 w' u (a ++ [0x80] ++ List.replicate k 0 ++ (be8 (8 * a.length)).take i) m ∧ Ext (fun b => m ≤ b) w6 w' := ⟨_, rfl⟩
  refine Loop2 J (fun _ v _ => match v with | .int _ n => (n + 1).toNat | _ => 0) (by rw [hJ]; exact ⟨0, by omega, rfl, by rw [List.take_zero, List.append_nil]; exact hv, hx11⟩) ?_
  clear hv hx11 hs11
  intro u v w14 hj
  rw [hJ] at hj
  obtain ⟨i, hi, rfl, hv, hx14⟩ := hj
  have hb8 := be8_length (8 * a.length)
  have hln2 : (a ++ [0x80] ++ List.replicate k (0 : UInt8) ++ (be8 (8 * a.length)).take i).length = a.length + 1 + k + i := by rw [List.length_append, hln, List.length_take]; omega
  have hs14 := hx14.size
  obtain ⟨ua, uc, rfl⟩ := hv.form
  rw [hln2] at hv ⊢
  unfold F51x8
  by_cases hlt : i < 8
  · have hlt' : (0 : Int) ≤ 7 - (i : Int) := by omega
    have e3 : (7 - (i : Int)) % 18446744073709551616 = 7 - i := by omega
    have e4 : 8 * (7 - (i : Int)) % 18446744073709551616 = 8 * (7 - i) := by omega
    have n1 : ((8 : Int) * (7 - (i : Int))).toNat = 8 * (7 - i) := by omega
    have hbits : IntKind.u64.bits = 64 := rfl
    simp (maxSteps := 2000000) (disch := first | exact dT_ | fail) only [hlt', e1, e2, e3, e4, n1, bsU1, p_sub, p_geq, cells_agg, Branch_bool, and_true, Bool.true_eq_false, false_implies, forall_const, u8b, u64w, wr_in, p_shri, p_mul64u, decide_true, cv3_69, cv103_5, al111, zv111]
    refine apL _ (m := m) (l' := [b8 ((a.length : Int) * 8 / 2 ^ (8 * (7 - i)))]) hv rfl rfl (by omega) (by rw [hln2]; simp; omega) ?_
    intro v' w' hv' hx'
    refine ⟨?_, by show (7 - (i : Int) - 1 + 1).toNat < (7 - (i : Int) + 1).toNat; omega⟩
    rw [hJ]
    refine ⟨i + 1, by omega, by congr 1; omega, ?_, hx14.trans hx' fun _ _ h => h⟩
    rw [be8_next _ _ hlt, ← List.append_assoc]
    have : ((8 * a.length : Nat) : Int) = (a.length : Int) * 8 := by omega
    rw [this]
    exact hv'
  obtain rfl : i = 8 := by omega
  rw [List.take_of_length_le (by omega), hpd] at hv
  have hge : ¬ (0 : Int) ≤ 7 - ((8 : Nat) : Int) := by omega
  simp (maxSteps := 2000000) (disch := first | exact dT_ | fail) only [hge, p_sub, p_geq, cells_agg, Branch_bool, true_and, Bool.false_eq_true, false_implies, forall_const, u64w, wr_in, p_mul64u, decide_false, cv3_69, al111, zv111]
  clear hJ J
  obtain ⟨T, hT⟩ : ∃ T, T = pad a := ⟨_, rfl⟩
  rw [← hT] at hv hz
  have hTn : T.length = a.length + 1 + k + 8 := by omega
  rcases hv.2 with ⟨_, h0⟩ | ⟨B, o, cap, row, hva, hcap, hB, ho, hc, hq⟩
  · omega
  simp only [Value.slice.injEq] at hva
  obtain ⟨rfl, -, rfl⟩ := hva
  try rw [show a.length + 1 + k + 8 = T.length by omega]
  have hlB := Hp_lt hB
  have hsh : sha a = outB (mixN T (T.length / 64)) := by rw [hT]; rfl
  rw [hsh]
  have hal8 : Ext (fun _ => False) w14 (w14.alloc (Obj.cells (wc (List.replicate 64 0)).toArray 111)) := (Ext.refl _ _).alloc _
  subst hKK hII
  refine rblocks_part (hal8.at (hx14.at h36 (by omega)) not_false) (hal8.at (hx14.at h46 (by omega)) not_false) (hal8.at (hx14.at hq6 (by omega)) not_false) (Hp_alloc_new _ _ _ rfl) h64 (hal8.at hB not_false) (fun j hj => hc j (by omega)) hcap ⟨by omega, by omega, by omega, by omega, by omega⟩ ⟨by omega, by omega⟩ (by omega) (by omega) ?_
  intro W' hx
  refine ⟨rfl, ?_⟩
  refine (((hx6.trans2 (M := fun b => sz w ≤ b) hx14 (fun _ _ h => h.elim) fun b hb e => by omega).trans hal8 fun _ _ h => h.elim).trans2 hx (fun b hb h => by omega) fun b hb e => by omega)
end Go.Proofs
namespace Go.Proofs
open Go Go.Lf
set_option maxRecDepth 20000
set_option maxHeartbeats 2000000
set_option linter.unusedSimpArgs false
set_option linter.unusedVariables false
theorem Bytes_blk {u8 b : Nat} {w : World} {v : Value} {l : List UInt8} {Q : Nat → Prop} (h : Bytes u8 w v l Q) (hb : some b = blockOf v) : Q b := by
  rcases h.2 with ⟨rfl, _⟩ | ⟨b', o, cap, row, rfl, _, _, _, _, hq⟩
  · cases hb
  · cases hb; exact hq
/-- append(v, x...), wherever it may write -/
theorem apQ (R : TypeId) {w : World} {v x : Value} {l l' : List UInt8} {Q : Nat → Prop} {K : Value → World → Prop} (hv : Bytes 5 w v l Q) (hx : BOf w x l') (hQ : ∀ b, sz w ≤ b → Q b) (hsm : l.length + l'.length ≤ 1000000000)
    (hk : ∀ v' w', Bytes 5 w' v' (l ++ l') Q → Ext Q w w' → K v' w') : Run Try.prog (Builtin.append_ #[30, 30] R #[v, x]) w K := by
  refine ap30 R hv (BOf.src hx) (bc_one _) (by omega) fun v' w' h1 h2 => hk v' w' ?_ (h2.mono fun b _ hb => Bytes_blk hv hb)
  have := h1.mono (Q' := Q) fun b _ hb => by
    rcases hb with hb | hb
    · exact Bytes_blk hv hb
    · exact hQ b (by omega)
  unfold Bytes
  rw [bc_append, List.length_append]
  exact this
theorem apLQ (R : TypeId) {w : World} {v : Value} {l l' : List UInt8} {n : Nat} {cs : Array Value} {Q : Nat → Prop} {K : Value → World → Prop} (hv : Bytes 5 w v l Q) (hcs : cs = (bc l').toArray) (hn : n = l'.length) (hQ : ∀ b, sz w ≤ b → Q b) (hsm : l.length + l'.length ≤ 1000000000)
    (hk : ∀ v' w', Bytes 5 w' v' (l ++ l') Q → Ext Q w w' → K v' w') : Run Try.prog (Builtin.append_ #[30, 30] R #[v, .slice (some ⟨sz w, 0, none⟩) n n]) (w.alloc (.cells cs 5)) K := by
  subst hn
  have hx : Ext (fun _ => False) w (w.alloc (.cells cs 5)) := (Ext.refl _ _).alloc _
  refine apQ R (Vec.ext hv hx fun _ _ _ => not_false) (BOwn.fresh (u8 := 5) (m := 0) [] (by simp [hcs]) rfl (by simp) (Nat.le_refl _) (Nat.zero_le _)).of (fun b hb => hQ b (by rw [sz_alloc] at hb; omega)) hsm fun v' w' h1 h2 => hk v' w' h1 ((hx.mono fun _ _ h => h.elim).trans h2 fun _ _ h => h)
section
variable {w : World} {v : Value} {l : List UInt8} {Q : Nat → Prop} (hv : Bytes 5 w v l Q) (hQ : ∀ b, sz w ≤ b → Q b) (hl : l.length ≤ 1000000) (n : Int)
include hv hQ hl
theorem four5_spec : Calls Try.prog 55 #[v, i64 n] w (retK fun v' w' => Bytes 5 w' v' (l ++ four n) Q ∧ Ext Q w w') := by
  refine F55_ok _ _ _ _ ?_
  unfold F55
  have hb : IntKind.i64.bits = 64 := rfl
  simp (maxSteps := 2000000) (disch := first | exact dT_ | fail) only [bsU4, u8b, p_shri, Int.reduceToNat, Int.reducePow, cv3_5]
  exact apLQ _ (l' := four n) hv rfl rfl hQ (by rw [four_length]; omega) fun v' w' h1 h2 => ⟨h1, h2⟩
theorem four6_spec : Calls Try.prog 33 #[v, i64 n] w (retK fun v' w' => Bytes 5 w' v' (l ++ four n) Q ∧ Ext Q w w') := by
  refine F33_ok _ _ _ _ ?_
  unfold F33
  have hb : IntKind.i64.bits = 64 := rfl
  simp (maxSteps := 2000000) (disch := first | exact dT_ | fail) only [bsU4, u8b, p_shri, Int.reduceToNat, Int.reducePow, cv3_5]
  exact apLQ _ (l' := four n) hv rfl rfl hQ (by rw [four_length]; omega) fun v' w' h1 h2 => ⟨h1, h2⟩
theorem four9_spec : Calls Try.prog 31 #[v, i64 n] w (retK fun v' w' => Bytes 5 w' v' (l ++ four n) Q ∧ Ext Q w w') := by
  refine F31_ok _ _ _ _ ?_
  unfold F31
  have hb : IntKind.i64.bits = 64 := rfl
  simp (maxSteps := 2000000) (disch := first | exact dT_ | fail) only [bsU4, u8b, p_shri, Int.reduceToNat, Int.reducePow, cv3_5]
  exact apLQ _ (l' := four n) hv rfl rfl hQ (by rw [four_length]; omega) fun v' w' h1 h2 => ⟨h1, h2⟩
theorem two_spec : Calls Try.prog 52 #[v, i64 n] w (retK fun v' w' => Bytes 5 w' v' (l ++ two n) Q ∧ Ext Q w w') := by
  refine F52_ok _ _ _ _ ?_
  unfold F52
  have hb : IntKind.i64.bits = 64 := rfl
  simp (maxSteps := 2000000) (disch := first | exact dT_ | fail) only [bsU2, u8b, p_shri, Int.reduceToNat, Int.reducePow, cv3_5]
  exact apLQ _ (l' := two n) hv rfl rfl hQ (by rw [two_length]; omega) fun v' w' h1 h2 => ⟨h1, h2⟩
end
theorem head_spec {w : World} {name : List UInt8} (hn : name.length = 16) (q : Int) : Calls Try.prog 53 #[idv name, i64 q] w (retK fun v' w' => Bytes 5 w' v' (headL name q) (fun b => sz w ≤ b) ∧ Ext (fun _ => False) w w') := by
  refine F53_ok _ _ _ _ ?_
  unfold F53
  simp (maxSteps := 2000000) (disch := first | exact dT_ | fail) only [r_box, sz_alloc, cells_agg, slA49, bs30_0]
  obtain ⟨w1, hw1⟩ : ∃ w1, w1 = w.alloc (Obj.cells (bc name).toArray 49) := ⟨_, rfl⟩
  have hx1 : Ext (fun _ => False) w w1 := by rw [hw1]; exact (Ext.refl _ _).alloc _
  have h1 : Hp w1 (sz w) = some (Obj.cells (bc name).toArray 49) := by rw [hw1]; (first | exact hpt_ | fail)
  have hs1 : sz w1 = sz w + 1 := by rw [hw1]; (first | exact szT_ | fail)
  rw [← hs1, ← hw1]
  clear hw1
  have hx2 : Ext (fun _ => False) w1 (w1.alloc (Obj.cells #[] 5)) := (Ext.refl _ _).alloc _
  have h0 : BOwn 5 (w1.alloc (Obj.cells #[] 5)) (.slice (some ⟨sz w1, 0, none⟩) 0 0) [] (sz w1) := BOwn.fresh (l := []) [] rfl rfl (Nat.le_refl _) (Nat.le_refl _) (Nat.le_refl _)
  refine apQ _ (Q := fun b => sz w1 ≤ b) h0 (BIn.arr (hx2.at h1 not_false) hn).of (fun b hb => by rw [sz_alloc] at hb; omega) (by simp; omega) ?_
  intro v7 w3 hv hx3
  have hs3 := hx3.size
  rw [sz_alloc] at hs3
  refine CallF_by Try.call55 (four5_spec hv (fun b hb => by omega) (by simp; omega) q) ?_
  rintro v9 w4 ⟨hv9, hx4⟩
  have e : ([] ++ name ++ four q) = headL name q := rfl
  rw [e] at hv9
  refine ⟨Vec.mono hv9 fun b _ hb => by omega, ?_⟩
  exact ((hx1.trans hx2 fun _ _ h => h).trans2 hx3 (fun _ _ h => h) fun b hb h => by omega).trans hx4 fun b hb h => by omega
/-- the state of a piece of code that builds bytes: c holds l, in a block from m on that is none of P -/
def Rg (w0 : World) (m : Nat) (c : Value) (l : List UInt8) (P : List Nat) (w : World) : Prop :=
  Bytes 5 w c l (fun b => m ≤ b ∧ b ∉ P) ∧ (∀ p, p ∈ P → m ≤ p ∧ p < sz w) ∧ m ≤ sz w ∧ Ext (fun b => m ≤ b) w0 w
def RgX (m : Nat) (P : List Nat) (w w' : World) : Prop := Ext (fun b => m ≤ b ∧ b ∉ P) w w'
section
variable {w0 w : World} {m : Nat} {c : Value} {l : List UInt8} {P : List Nat} {K : Value → World → Prop}
theorem Rg.start {w : World} (m : Nat) (hm : m = sz w) : Rg w m (.slice none 0 0) [] [] w := ⟨Vec.nil _ _ _ _, (fun _ h => by cases h), by omega, Ext.refl _ _⟩
theorem Rg.next (hR : Rg w0 m c l P w) {c' : Value} {l' : List UInt8} {w' : World} (h1 : Bytes 5 w' c' l' (fun b => m ≤ b ∧ b ∉ P)) (h2 : Ext (fun b => m ≤ b ∧ b ∉ P) w w') : Rg w0 m c' l' P w' :=
  ⟨h1, fun p hp => ⟨(hR.2.1 p hp).1, Nat.lt_of_lt_of_le (hR.2.1 p hp).2 h2.size⟩, Nat.le_trans hR.2.2.1 h2.size, hR.2.2.2.trans h2 fun b _ h => h.1⟩
theorem Rg.fresh (hR : Rg w0 m c l P w) : ∀ b, sz w ≤ b → m ≤ b ∧ b ∉ P := fun b hb => ⟨Nat.le_trans hR.2.2.1 hb, fun h => by have := (hR.2.1 b h).2; omega⟩
theorem rgHead (hR : Rg w0 m (.slice none 0 0) [] P w) {name : List UInt8} {nm vq : Value} {q : Int} (hnm : nm = idv name) (hvq : vq = i64 q) (hn : name.length = 16) (hk : ∀ c w', Rg w0 m c (headL name q) P w' → RgX m P w w' → K c w') : CallF Try.prog 53 #[nm, vq] w K := by
  subst hnm hvq
  refine CallF_by Try.call53 (head_spec hn q) ?_
  rintro c w' ⟨h1, h2⟩
  have h2' : RgX m P w w' := h2.mono fun _ _ h => h.elim
  exact hk c w' (hR.next (Vec.mono h1 fun b _ hb => hR.fresh b hb) h2') h2'
theorem rgTwo (hR : Rg w0 m c l P w) {vn : Value} {n : Int} (hvn : vn = i64 n) (hl : l.length ≤ 1000000) (hk : ∀ c w', Rg w0 m c (l ++ two n) P w' → RgX m P w w' → K c w') : CallF Try.prog 52 #[c, vn] w K := by
  subst hvn
  refine CallF_by Try.call52 (two_spec hR.1 hR.fresh hl n) ?_
  rintro c w' ⟨h1, h2⟩
  exact hk c w' (hR.next h1 h2) h2
theorem Rg.alloc (hR : Rg w0 m c l P w) (o : Obj) : Rg w0 m c l (sz w :: P) (w.alloc o) ∧ RgX m P w (w.alloc o) := by
  have hx : Ext (fun _ => False) w (w.alloc o) := (Ext.refl _ _).alloc _
  refine ⟨⟨Vec.ext (Vec.mono hR.1 (Q' := fun b => m ≤ b ∧ b ∉ sz w :: P) fun b hb h => ⟨h.1, fun hh => ?_⟩) hx fun _ _ _ => not_false, fun p hp => ?_, by rw [sz_alloc]; have := hR.2.2.1; omega, hR.2.2.2.alloc _⟩, hx.mono fun _ _ h => h.elim⟩
  · rcases List.mem_cons.1 hh with h' | h'
    · omega
    · exact h.2 h'
  · rw [sz_alloc]
    rcases List.mem_cons.1 hp with h' | h'
    · have := hR.2.2.1; omega
    · have := hR.2.1 p h'; omega
theorem Rg.wr (hR : Rg w0 m c l P w) {p : Nat} (hp : p ∈ P) (o : Obj) : Rg w0 m c l P (put w p o) := by
  have hx : Ext (fun b => b = p) w (put w p o) := (Ext.refl _ _).put _ _ fun _ => rfl
  refine ⟨Vec.ext hR.1 hx fun b _ h e => h.2 (e ▸ hp), fun b hb => by rw [sz_put]; exact hR.2.1 b hb, by rw [sz_put]; exact hR.2.2.1, hR.2.2.2.put _ _ fun _ => (hR.2.1 p hp).1⟩
theorem rgLit (hR : Rg w0 m c l P w) (x : UInt8) {vx : Value} (hvx : vx = u8v x) (hk : ∀ w', Rg w0 m c l (sz w :: P) w' → RgX m P w w' → Hp w' (sz w) = some (Obj.cells (bc [x]).toArray 5) → K (.slice (some ⟨sz w, 0, none⟩) 1 1) w') :
    Run Try.prog (Instr.buildSlice 30 1 #[(0, vx)]) w K := by
  subst hvx
  simp (maxSteps := 2000000) (disch := first | exact dT_ | fail) only [bsU1]
  exact hk _ (hR.alloc _).1 (hR.alloc _).2 (by (first | exact hpt_ | fail))
theorem rgId (hR : Rg w0 m c l P w) (hk : ∀ w', Rg w0 m c l (sz w :: P) w' → RgX m P w w' → Hp w' (sz w) = some (Obj.cells (bc (List.replicate 32 0)).toArray 25) → K (ptr (sz w) 0) w') :
    Run Try.prog (Instr.alloc 25 true (.tuple #[])) w K := by
  simp (maxSteps := 2000000) (disch := first | exact dT_ | fail) only [cells_agg, al25, zv25]
  exact hk _ (hR.alloc _).1 (hR.alloc _).2 (by (first | exact hpt_ | fail))
theorem rgApp (hR : Rg w0 m c l P w) {x : Value} {l' : List UInt8} (hx : BOf w x l') (hl : l.length + l'.length ≤ 1000000000) {R : TypeId} (hk : ∀ c w', Rg w0 m c (l ++ l') P w' → RgX m P w w' → K c w') : Run Try.prog (Builtin.append_ #[30, 30] R #[c, x]) w K := by
  refine apQ _ hR.1 hx hR.fresh hl ?_
  intro v' w' h1 h2
  exact hk v' w' (hR.next h1 h2) h2
theorem rgSum (hR : Rg w0 m c l P w) (hl : l.length ≤ 1000000) (hk : ∀ w', Rg w0 m c l P w' → RgX m P w w' → K (idv (sha l)) w') : CallF Try.prog 51 #[c] w K := by
  refine CallF_by Try.call51 (refsum_spec (Bytes.bin hR.1) hl) ?_
  rintro _ w' ⟨rfl, h2⟩
  have h2' : RgX m P w w' := h2.mono fun _ _ h => h.elim
  exact hk w' (hR.next (Vec.ext hR.1 h2 fun _ _ _ => not_false) h2') h2'
theorem RgX.at {w' : World} (h : RgX m P w w') {p : Nat} {o : Obj} (ho : Hp w p = some o) (hp : p ∈ P ∨ p < m) : Hp w' p = some o := Ext.at h ho fun hh => by
  rcases hp with hp | hp
  · exact hh.2 hp
  · omega
/-- a part of what is there is drawn again: nothing changed -/
theorem rgLd {name : List UInt8} {p : Nat} (h : Hp w p = some (Obj.cells (bc name).toArray 49)) (hn : name.length = 16) {nm : Value} (hnm : nm = idv name) : QRun Try.prog (Instr.loadAt 49 (ptr p 0)) w fun u => u = nm := by
  subst hnm
  simp (maxSteps := 2000000) (disch := first | exact dT_ | fail) only [h, hn, ext_bc0 hn, Ln_cells, Nat.zero_add, List.size_toArray, Nat.reduceLeDiff, if_pos, bc_length, ld49]
end
end Go.Proofs
namespace Go.Proofs
open Go Go.Lf
set_option maxRecDepth 20000
set_option maxHeartbeats 2000000
set_option linter.unusedSimpArgs false
set_option linter.unusedVariables false
theorem secret_spec {w : World} {name seed : List UInt8} (hn : name.length = 16) (hs : seed.length = 32) (q : Int) (i : Nat) : Calls Try.prog 57 #[idv name, i64 q, i64 (i : Int), idv seed] w (retK fun v w' => v = idv (secretL name q i seed) ∧ Ext (fun _ => False) w w') := by
  refine F57_ok _ _ _ _ _ _ ?_
  unfold F57
  simp (maxSteps := 2000000) (disch := first | exact dT_ | fail) only [hn, ext_bc0 hn, r_box, Ln_cells, Hp_drew, Hp_alloc_new, Hp_alloc_old, sz_alloc, cells_agg, Nat.zero_add, List.size_toArray, Nat.reduceLeDiff, if_pos, bc_length, slA25, ld49, al25, zv25]
  obtain ⟨w3, hw3⟩ : ∃ w3, w3 = (((w.alloc (Obj.cells (bc name).toArray 49)).alloc (Obj.cells (bc seed).toArray 25)).alloc (Obj.cells (bc (List.replicate 32 0)).toArray 25)).drew := ⟨_, rfl⟩
  have hx3 : Ext (fun _ => False) w w3 := by rw [hw3]; exact (((Ext.refl _ _).alloc _).alloc _).alloc _ |>.drew
  have h4 : Hp w3 (sz w) = some (Obj.cells (bc name).toArray 49) := by rw [hw3]; (first | exact hpt_ | fail)
  have h7 : Hp w3 (sz w + 1) = some (Obj.cells (bc seed).toArray 25) := by rw [hw3]; (first | exact hpt_ | fail)
  have h8 : Hp w3 (sz w + 1 + 1) = some (Obj.cells (bc (List.replicate 32 0)).toArray 25) := by rw [hw3]; (first | exact hpt_ | fail)
  have hs3 : sz w3 = sz w + 1 + 1 + 1 := by rw [hw3]; (first | exact szT_ | fail)
  try rw [← hw3]
  clear hw3
  obtain ⟨m, hm⟩ : ∃ m, m = sz w3 := ⟨_, rfl⟩
  have hR := Rg.start m hm
  have h32 : (List.replicate 32 (0 : UInt8)).length = 32 := by simp
  have hT : ∀ {c : Value} {P : List Nat} {w' : World}, Rg w3 m c (headL name q ++ two i ++ [255] ++ seed) P w' → Hp w' (sz w + 1 + 1) = some (Obj.cells (bc (List.replicate 32 0)).toArray 25) →
      Run Try.prog (Instr.storeAt 25 (ptr (sz w + 1 + 1) 0) (idv (sha (headL name q ++ two i ++ [255] ++ seed)))) w' fun _ w10 => QRun Try.prog (Instr.loadAt 25 (ptr (sz w + 1 + 1) 0)) w10 fun v8_2 => v8_2 = idv (secretL name q i seed) ∧ Ext (fun _ => False) w w10 := by
    intro c P w' hR h8
    have hl8 := Hp_lt h8
    have e : secretL name q i seed = sha (headL name q ++ two i ++ [255] ++ seed) := rfl
    rw [← e]
    have hl : (secretL name q i seed).length = 32 := hashL_length _ _ _ _ _
    generalize secretL name q i seed = S at *
    have s1 : splice (bc (List.replicate 32 0)).toArray 0 (bc S).toArray = (bc S).toArray := splice_bc_all (by rw [h32, hl])
    simp (maxSteps := 2000000) (disch := first | exact dT_ | fail) only [h8, h32, hl, s1, ext_bc0 hl, Ln_cells, St_cells, Hp_put_same, cells_agg, Nat.zero_add, List.size_toArray, Nat.reduceLeDiff, if_pos, true_and, and_self, bc_length, ld25, st25]
    exact (hx3.trans2 hR.2.2.2 (fun _ _ h => h) fun b hb h => by omega).put _ _ fun h => by omega
  unfold F57x1
  repeat' (first | ((with_reducible refine rgLd h4 hn ?_); rfl) | with_reducible refine And.intro ?_ ?_ | ((with_reducible refine rgHead hR (name := name) (q := q) ?_ ?_ hn ?_); rfl; rfl; intro c w' hR' hX; ((replace h4 := hX.at h4 (.inr (by omega)); replace h7 := hX.at h7 (.inr (by omega)); (try replace h18 := hX.at h18 (.inl (by simp))); (try replace h9 := hX.at h9 (by first | exact .inl (by simp) | exact .inr (by omega))); (try replace h8 := hX.at h8 (.inr (by omega))); replace hR := hR'; clear hX hR'))) | ((with_reducible refine rgTwo hR (n := (i : Int)) ?_ ?_ ?_); rfl; ((simp only [headL_length, two_length, four_length, List.length_append, List.length_cons, List.length_nil, hn, hs]; omega)); intro c w' hR' hX; ((replace h4 := hX.at h4 (.inr (by omega)); replace h7 := hX.at h7 (.inr (by omega)); (try replace h18 := hX.at h18 (.inl (by simp))); (try replace h9 := hX.at h9 (by first | exact .inl (by simp) | exact .inr (by omega))); (try replace h8 := hX.at h8 (.inr (by omega))); replace hR := hR'; clear hX hR'))) | ((with_reducible refine rgLit hR 255 ?_ ?_); rfl; intro w' hR' hX h18; ((replace h4 := hX.at h4 (.inr (by omega)); replace h7 := hX.at h7 (.inr (by omega)); (try replace h18 := hX.at h18 (.inl (by simp))); (try replace h9 := hX.at h9 (by first | exact .inl (by simp) | exact .inr (by omega))); (try replace h8 := hX.at h8 (.inr (by omega))); replace hR := hR'; clear hX hR'))) | ((with_reducible refine rgApp hR (BIn.arr (n := 1) (cap := 1) h18 rfl).of ?_ ?_); ((simp only [headL_length, two_length, four_length, List.length_append, List.length_cons, List.length_nil, hn, hs]; omega)); intro c w' hR' hX; ((replace h4 := hX.at h4 (.inr (by omega)); replace h7 := hX.at h7 (.inr (by omega)); (try replace h18 := hX.at h18 (.inl (by simp))); (try replace h9 := hX.at h9 (by first | exact .inl (by simp) | exact .inr (by omega))); (try replace h8 := hX.at h8 (.inr (by omega))); replace hR := hR'; clear hX hR'))) | ((with_reducible refine rgApp hR (BIn.arr (n := 32) (cap := 32) h7 hs).of ?_ ?_); ((simp only [headL_length, two_length, four_length, List.length_append, List.length_cons, List.length_nil, hn, hs]; omega)); intro c w' hR' hX; ((replace h4 := hX.at h4 (.inr (by omega)); replace h7 := hX.at h7 (.inr (by omega)); (try replace h18 := hX.at h18 (.inl (by simp))); (try replace h9 := hX.at h9 (by first | exact .inl (by simp) | exact .inr (by omega))); (try replace h8 := hX.at h8 (.inr (by omega))); replace hR := hR'; clear hX hR'))) | ((with_reducible refine rgSum hR ?_ ?_); ((simp only [headL_length, two_length, four_length, List.length_append, List.length_cons, List.length_nil, hn, hs]; omega)); intro w' hR' hX; ((replace h4 := hX.at h4 (.inr (by omega)); replace h7 := hX.at h7 (.inr (by omega)); (try replace h18 := hX.at h18 (.inl (by simp))); (try replace h9 := hX.at h9 (by first | exact .inl (by simp) | exact .inr (by omega))); (try replace h8 := hX.at h8 (.inr (by omega))); replace hR := hR'; clear hX hR'))))
  all_goals exact hT hR h8
end Go.Proofs
namespace Go.Proofs
open Go Go.Lf
set_option maxRecDepth 20000
set_option maxHeartbeats 2000000
set_option linter.unusedSimpArgs false
set_option linter.unusedVariables false
theorem walk_spec {w : World} {name t : List UInt8} (hn : name.length = 16) (ht : t.length = 32) (q : Int) (i f n : Nat) (hf : f + n ≤ 1000) :
    Calls Try.prog 56 #[idv name, i64 q, i64 (i : Int), i64 (f : Int), i64 ((f + n : Nat) : Int), idv t] w (retK fun v w' => v = idv (walkL name q i f n t) ∧ Ext (fun _ => False) w w') := by
  refine F56_ok _ _ _ _ _ _ _ _ ?_
  unfold F56
  simp (maxSteps := 2000000) (disch := first | exact dT_ | fail) only [r_box, sz_alloc, cells_agg, forall_const, al25, zv25]
  obtain ⟨w3, hw3⟩ : ∃ w3, w3 = ((w.alloc (Obj.cells (bc name).toArray 49)).alloc (Obj.cells (bc t).toArray 25)).alloc (Obj.cells (bc (List.replicate 32 0)).toArray 25) := ⟨_, rfl⟩
  have hx3 : Ext (fun _ => False) w w3 := by rw [hw3]; exact (((Ext.refl _ _).alloc _).alloc _).alloc _
  have h43 : Hp w3 (sz w) = some (Obj.cells (bc name).toArray 49) := by rw [hw3]; (first | exact hpt_ | fail)
  have h73 : Hp w3 (sz w + 1) = some (Obj.cells (bc t).toArray 25) := by rw [hw3]; (first | exact hpt_ | fail)
  have h83 : Hp w3 (sz w + 1 + 1) = some (Obj.cells (bc (List.replicate 32 0)).toArray 25) := by rw [hw3]; (first | exact hpt_ | fail)
  have hs3 : sz w3 = sz w + 1 + 1 + 1 := by rw [hw3]; (first | exact szT_ | fail)
  rw [← hw3]
  clear hw3
  have h32 : (List.replicate 32 (0 : UInt8)).length = 32 := by simp
  obtain ⟨J, hJ⟩ : ∃ J : Value → World → Prop, J = fun v w' => ∃ k : Nat, k ≤ n ∧ v = i64 ((f + k : Nat) : Int) ∧ Ext (fun b => b = sz w + 1) w3 w' ∧ Hp w' (sz w + 1) = some (Obj.cells (bc (walkL name q i f k t)).toArray 25) := ⟨_, rfl⟩
  refine Loop1 J (fun v _ => f + n - (match v with | .int _ n => n.toNat | _ => 0)) (by rw [hJ]; exact ⟨0, by omega, rfl, Ext.refl _ _, h73⟩) ?_
  clear h73
  intro v w4 hj
  rw [hJ] at hj
  obtain ⟨k, hk, rfl, hx4, h7⟩ := hj
  have hs : (walkL name q i f k t).length = 32 := walkL_length _ _ _ _ _ _ ht
  have h4 := hx4.at h43 (by omega)
  have h8 := hx4.at h83 (by omega)
  have hs4 := hx4.size
  have hl7 := Hp_lt h7
  have hl8 := Hp_lt h8
  unfold F56x2
  by_cases hlt : k < n
  · have hlt' : ((f + k : Nat) : Int) < ((f + n : Nat) : Int) := by omega
    simp (maxSteps := 2000000) (disch := first | exact dT_ | fail) only [hlt', h4, hn, ext_bc0 hn, p_lss, Ln_cells, Hp_drew, Branch_bool, Nat.zero_add, List.size_toArray, Nat.reduceLeDiff, if_pos, and_true, Bool.true_eq_false, false_implies, forall_const, bc_length, u8b, Int.toNat_natCast, decide_true, slA25, cv3_5, ld25, ld49]
    obtain ⟨m, hm⟩ : ∃ m, m = sz w4.drew := ⟨_, rfl⟩
    have hR := Rg.start m hm
    replace h4 : Hp w4.drew (sz w) = some (Obj.cells (bc name).toArray 49) := h4
    replace h7 : Hp w4.drew (sz w + 1) = some (Obj.cells (bc (walkL name q i f k t)).toArray 25) := h7
    have hsd : sz w4.drew = sz w4 := sz_drew _
    have hnx := walkL_next name q i k f t
    generalize hcur : walkL name q i f k t = cur at *
    have hT : ∀ {c : Value} {P : List Nat} {w' : World}, Rg w4.drew m c (headL name q ++ two i ++ [b8 ((f + k : Nat) : Int)] ++ cur) P w' → Hp w' (sz w + 1) = some (Obj.cells (bc cur).toArray 25) →
        Run Try.prog (Instr.storeAt 25 (ptr (sz w + 1) 0) (idv (sha (headL name q ++ two i ++ [b8 ((f + k : Nat) : Int)] ++ cur)))) w' fun _ w10 => PRun Try.prog (binOp .add 3 (i64 ((f + k : Nat) : Int)) (Value.int .i64 1)) fun v19 => J v19 w10 ∧ f + n - (match v19 with | .int _ n => n.toNat | _ => 0) < f + n - (f + k) := by
      intro c P w' hR h7
      have hl7 := Hp_lt h7
      have e : walkL name q i f (k + 1) t = sha (headL name q ++ two i ++ [b8 ((f + k : Nat) : Int)] ++ cur) := hnx
      rw [← e]
      have hl : (walkL name q i f (k + 1) t).length = 32 := walkL_length _ _ _ _ _ _ ht
      obtain ⟨S, hS⟩ : ∃ S, S = walkL name q i f (k + 1) t := ⟨_, rfl⟩
      rw [← hS] at hl ⊢
      have s1 : splice (bc cur).toArray 0 (bc S).toArray = (bc S).toArray := splice_bc_all (by rw [hs, hl])
      simp (maxSteps := 2000000) (disch := first | exact dT_ | fail) only [h7, hs, hl, s1, p_add, St_cells, cells_agg, Nat.zero_add, List.size_toArray, Nat.reduceLeDiff, if_pos, and_self, bc_length, wr_in, st25]
      refine ⟨?_, by omega⟩
      rw [hJ]
      refine ⟨k + 1, by omega, by congr 1, ?_, ?_⟩
      · exact (hx4.drew.trans2 hR.2.2.2 (fun _ _ h => h) fun b hb h => by omega).put _ _ fun _ => rfl
      · rw [← hS]; exact Hp_put_same _ _ _ hl7
    unfold F56x1
    repeat' (first | ((with_reducible refine rgLd h4 hn ?_); rfl) | with_reducible refine And.intro ?_ ?_ | ((with_reducible refine rgHead hR (name := name) (q := q) ?_ ?_ hn ?_); rfl; rfl; intro c w' hR' hX; ((replace h4 := hX.at h4 (.inr (by omega)); replace h7 := hX.at h7 (.inr (by omega)); (try replace h18 := hX.at h18 (.inl (by simp))); (try replace h9 := hX.at h9 (by first | exact .inl (by simp) | exact .inr (by omega))); (try replace h8 := hX.at h8 (.inr (by omega))); replace hR := hR'; clear hX hR'))) | ((with_reducible refine rgTwo hR (n := (i : Int)) ?_ ?_ ?_); rfl; ((simp only [headL_length, two_length, four_length, List.length_append, List.length_cons, List.length_nil, hn, hs]; omega)); intro c w' hR' hX; ((replace h4 := hX.at h4 (.inr (by omega)); replace h7 := hX.at h7 (.inr (by omega)); (try replace h18 := hX.at h18 (.inl (by simp))); (try replace h9 := hX.at h9 (by first | exact .inl (by simp) | exact .inr (by omega))); (try replace h8 := hX.at h8 (.inr (by omega))); replace hR := hR'; clear hX hR'))) | ((with_reducible refine rgLit hR (b8 ((f + k : Nat) : Int)) ?_ ?_); rfl; intro w' hR' hX h18; ((replace h4 := hX.at h4 (.inr (by omega)); replace h7 := hX.at h7 (.inr (by omega)); (try replace h18 := hX.at h18 (.inl (by simp))); (try replace h9 := hX.at h9 (by first | exact .inl (by simp) | exact .inr (by omega))); (try replace h8 := hX.at h8 (.inr (by omega))); replace hR := hR'; clear hX hR'))) | ((with_reducible refine rgApp hR (BIn.arr (n := 1) (cap := 1) h18 rfl).of ?_ ?_); ((simp only [headL_length, two_length, four_length, List.length_append, List.length_cons, List.length_nil, hn, hs]; omega)); intro c w' hR' hX; ((replace h4 := hX.at h4 (.inr (by omega)); replace h7 := hX.at h7 (.inr (by omega)); (try replace h18 := hX.at h18 (.inl (by simp))); (try replace h9 := hX.at h9 (by first | exact .inl (by simp) | exact .inr (by omega))); (try replace h8 := hX.at h8 (.inr (by omega))); replace hR := hR'; clear hX hR'))) | ((with_reducible refine rgApp hR (BIn.arr (n := 32) (cap := 32) h7 hs).of ?_ ?_); ((simp only [headL_length, two_length, four_length, List.length_append, List.length_cons, List.length_nil, hn, hs]; omega)); intro c w' hR' hX; ((replace h4 := hX.at h4 (.inr (by omega)); replace h7 := hX.at h7 (.inr (by omega)); (try replace h18 := hX.at h18 (.inl (by simp))); (try replace h9 := hX.at h9 (by first | exact .inl (by simp) | exact .inr (by omega))); (try replace h8 := hX.at h8 (.inr (by omega))); replace hR := hR'; clear hX hR'))) | ((with_reducible refine rgSum hR ?_ ?_); ((simp only [headL_length, two_length, four_length, List.length_append, List.length_cons, List.length_nil, hn, hs]; omega)); intro w' hR' hX; ((replace h4 := hX.at h4 (.inr (by omega)); replace h7 := hX.at h7 (.inr (by omega)); (try replace h18 := hX.at h18 (.inl (by simp))); (try replace h9 := hX.at h9 (by first | exact .inl (by simp) | exact .inr (by omega))); (try replace h8 := hX.at h8 (.inr (by omega))); replace hR := hR'; clear hX hR'))))
    all_goals exact hT hR h7
  · obtain rfl : k = n := by omega
    have hlt' : ¬ ((f + k : Nat) : Int) < ((f + k : Nat) : Int) := by omega
    generalize walkL name q i f k t = S at *
    have s1 : splice (bc (List.replicate 32 0)).toArray 0 (bc S).toArray = (bc S).toArray := splice_bc_all (by rw [h32, hs])
    simp (maxSteps := 2000000) (disch := first | exact dT_ | fail) only [hlt', h7, h8, hs, h32, s1, ext_bc0 hs, p_lss, Ln_cells, St_cells, Hp_drew, Hp_put_same, cells_agg, Branch_bool, Nat.zero_add, List.size_toArray, Nat.reduceLeDiff, if_pos, true_and, and_self, Bool.false_eq_true, false_implies, forall_const, bc_length, Nat.sub_self, u8b, Int.toNat_natCast, decide_false, slA25, cv3_5, ld25, ld49, st25]
    exact (hx3.trans2 hx4 (fun _ _ h => h) fun b hb h => by omega).put _ _ fun h => by omega
end Go.Proofs
namespace Go.Proofs
open Go Go.Lf
set_option maxRecDepth 20000
set_option maxHeartbeats 2000000
set_option linter.unusedSimpArgs false
set_option linter.unusedVariables false
theorem range_next (f : Nat → List UInt8) (i : Nat) : (List.range (i + 1)).flatMap f = (List.range i).flatMap f ++ f i := by
  rw [List.range_succ, List.flatMap_append]; simp
section
variable {w0 w : World} {m : Nat} {c : Value} {l : List UInt8} {P : List Nat} {K : Value → World → Prop}
theorem rgSec (hR : Rg w0 m c l P w) {name seed : List UInt8} {nm vq vi vs : Value} {q : Int} {i : Nat} (h1 : nm = idv name) (h2 : vq = i64 q) (h3 : vi = i64 (i : Int)) (h4 : vs = idv seed) (hn : name.length = 16) (hs : seed.length = 32)
    (hk : ∀ w', Rg w0 m c l P w' → RgX m P w w' → K (idv (secretL name q i seed)) w') : CallF Try.prog 57 #[nm, vq, vi, vs] w K := by
  subst h1 h2 h3 h4
  refine CallF_by Try.call57 (secret_spec hn hs q i) ?_
  rintro _ w' ⟨rfl, hx⟩
  have hx' : RgX m P w w' := hx.mono fun _ _ h => h.elim
  exact hk w' (hR.next (Vec.ext hR.1 hx fun _ _ _ => not_false) hx') hx'
theorem rgWalk (hR : Rg w0 m c l P w) {name t : List UInt8} {nm vq vi vf vn vt : Value} {q : Int} {i f n : Nat} (h1 : nm = idv name) (h2 : vq = i64 q) (h3 : vi = i64 (i : Int)) (h4 : vf = i64 (f : Int)) (h5 : vn = i64 ((f + n : Nat) : Int)) (h6 : vt = idv t) (hn : name.length = 16) (hs : t.length = 32) (hf : f + n ≤ 1000)
    (hk : ∀ w', Rg w0 m c l P w' → RgX m P w w' → K (idv (walkL name q i f n t)) w') : CallF Try.prog 56 #[nm, vq, vi, vf, vn, vt] w K := by
  subst h1 h2 h3 h4 h5 h6
  refine CallF_by Try.call56 (walk_spec hn hs q i f n hf) ?_
  rintro _ w' ⟨rfl, hx⟩
  have hx' : RgX m P w w' := hx.mono fun _ _ h => h.elim
  exact hk w' (hR.next (Vec.ext hR.1 hx fun _ _ _ => not_false) hx') hx'
theorem rgLdI {name : List UInt8} {p : Nat} (h : Hp w p = some (Obj.cells (bc name).toArray 25)) (hn : name.length = 32) {nm : Value} (hnm : nm = idv name) : QRun Try.prog (Instr.loadAt 25 (ptr p 0)) w fun u => u = nm := by
  subst hnm
  simp (maxSteps := 2000000) (disch := first | exact dT_ | fail) only [h, hn, ext_bc0 hn, Ln_cells, Nat.zero_add, List.size_toArray, Nat.reduceLeDiff, if_pos, bc_length, ld25]
theorem rgLd3 {D : List Int} {p i : Nat} (h : Hp w p = some (Obj.cells (ic D).toArray 91)) (hi : i < D.length) {nm : Value} (hnm : nm = i64 (D.getD i 0)) : QRun Try.prog (Instr.loadAt 3 (ptr p i)) w fun u => u = nm := by
  subst hnm
  simp (maxSteps := 2000000) (disch := first | exact dT_ | fail) only [h, L1_cells, List.getElem?_toArray, Option.elim_some, ic_getL, ld3]
end
theorem public5_spec {w : World} {name seed : List UInt8} (hn : name.length = 16) (hs : seed.length = 32) (q : Int) :
    Calls Try.prog 50 #[idv name, i64 q, idv seed] w (retK fun v w' => v = idv (publicL name q seed) ∧ Ext (fun _ => False) w w') := by
  refine F50_ok _ _ _ _ _ ?_
  unfold F50
  simp (maxSteps := 2000000) (disch := first | exact dT_ | fail) only [hn, ext_bc0 hn, r_box, Ln_cells, Hp_alloc_new, Hp_alloc_old, sz_alloc, cells_agg, Nat.zero_add, List.size_toArray, Nat.reduceLeDiff, if_pos, forall_const, bc_length, ld49, bs30_2, al25, zv25]
  obtain ⟨w3, hw3⟩ : ∃ w3, w3 = ((w.alloc (Obj.cells (bc name).toArray 49)).alloc (Obj.cells (bc seed).toArray 25)).alloc (Obj.cells (bc (List.replicate 32 0)).toArray 25) := ⟨_, rfl⟩
  have hx3 : Ext (fun _ => False) w w3 := by rw [hw3]; exact (((Ext.refl _ _).alloc _).alloc _).alloc _
  have h43 : Hp w3 (sz w) = some (Obj.cells (bc name).toArray 49) := by rw [hw3]; (first | exact hpt_ | fail)
  have h53 : Hp w3 (sz w + 1) = some (Obj.cells (bc seed).toArray 25) := by rw [hw3]; (first | exact hpt_ | fail)
  have h63 : Hp w3 (sz w + 1 + 1) = some (Obj.cells (bc (List.replicate 32 0)).toArray 25) := by rw [hw3]; (first | exact hpt_ | fail)
  have hs3 : sz w3 = sz w + 1 + 1 + 1 := by rw [hw3]; (first | exact szT_ | fail)
  rw [← hw3]
  clear hw3
  have h32 : (List.replicate 32 (0 : UInt8)).length = 32 := by simp
  obtain ⟨m, hm⟩ : ∃ m, m = sz w3 := ⟨_, rfl⟩
  refine CallF_by Try.call53 (head_spec hn q) ?_
  rintro v12 w4 ⟨hv12, hx4⟩
  rw [← hm] at hv12
  have hs4 := hx4.size
  refine apLQ _ (l' := [0x80, 0x80]) hv12 rfl rfl (fun b hb => by omega) (by rw [headL_length]; simp; omega) ?_
  intro v14 w6 hv14 hx6
  have hx6' : Ext (fun b => m ≤ b) w3 w6 := hx4.trans2 hx6 (fun _ _ h => h.elim) fun _ _ h => h
  obtain ⟨f, hf⟩ : ∃ f : Nat → List UInt8, f = fun i => walkL name q i 0 3 (secretL name q i seed) := ⟨_, rfl⟩
  have hfl : ∀ i, (f i).length = 32 := fun i => by rw [hf]; exact walkL_length _ _ _ _ _ _ (hashL_length _ _ _ _ _)
  obtain ⟨J, hJ⟩ : ∃ J : Value → Value → World → Prop, J = fun u v w' => ∃ i : Nat, i ≤ 133 ∧ v = i64 (i : Int) ∧ Bytes 5 w' u (headL name q ++ [0x80, 0x80] ++ (List.range i).flatMap f) (fun b => m ≤ b) ∧ Ext (fun b => m ≤ b) w3 w' := ⟨_, rfl⟩
  refine Loop2 J (fun _ v _ => 133 - (match v with | .int _ n => n.toNat | _ => 0)) (by rw [hJ]; exact ⟨0, by omega, rfl, by simpa using hv14, hx6'⟩) ?_
  clear hv14 hx6' hx6
  intro u v w7 hj
  rw [hJ] at hj
  obtain ⟨i, hi, rfl, hv, hx7⟩ := hj
  have hln : (headL name q ++ [0x80, 0x80] ++ (List.range i).flatMap f).length = 22 + 32 * i := by
    rw [List.length_append, flat32_length f hfl, List.length_append, headL_length, hn]; rfl
  have h4 := hx7.at h43 (by omega)
  have h5 := hx7.at h53 (by omega)
  have h6 := hx7.at h63 (by omega)
  have hs7 := hx7.size
  unfold F50x3
  by_cases hlt : i < 133
  · have hlt' : (i : Int) < 133 := by omega
    simp (maxSteps := 2000000) (disch := first | exact dT_ | fail) only [hlt', h4, h5, hn, hs, ext_bc0 hn, ext_bc0 hs, p_lss, Ln_cells, Hp_drew, Branch_bool, Nat.zero_add, List.size_toArray, Nat.reduceLeDiff, if_pos, and_true, Bool.true_eq_false, false_implies, forall_const, bc_length, Nat.reduceSub, Int.toNat_natCast, decide_true, ld25, ld49]
    have hR : Rg w3 m u (headL name q ++ [0x80, 0x80] ++ (List.range i).flatMap f) [] w7.drew := ⟨Vec.mono (Vec.ext hv ((Ext.refl (fun _ => False) w7).drew) fun _ _ _ => not_false) fun b _ h => ⟨h, by simp⟩, (fun _ h => by cases h), by rw [sz_drew]; omega, hx7.drew⟩
    replace h4 : Hp w7.drew (sz w) = some (Obj.cells (bc name).toArray 49) := h4
    replace h5 : Hp w7.drew (sz w + 1) = some (Obj.cells (bc seed).toArray 25) := h5
    have hT : ∀ {c : Value} {P : List Nat} {w' : World} {p : Nat}, Rg w3 m c (headL name q ++ [0x80, 0x80] ++ (List.range i).flatMap f) P w' → p ∈ P → Hp w' p = some (Obj.cells (bc (List.replicate 32 0)).toArray 25) →
        Run Try.prog (Instr.storeAt 25 (ptr p 0) (idv (walkL name q i 0 3 (secretL name q i seed)))) w' fun _ w10 => F50x1 (ptr p 0) c w10 (i64 (i : Int)) fun u' v' w' => J u' v' w' ∧ 133 - (match v' with | .int _ n => n.toNat | _ => 0) < 133 - i := by
      intro c P w' p hR hp h9
      have e : walkL name q i 0 3 (secretL name q i seed) = f i := by rw [hf]
      rw [e]
      have hl := hfl i
      have hl9 := Hp_lt h9
      obtain ⟨S, hS⟩ : ∃ S, S = f i := ⟨_, rfl⟩
      rw [← hS] at hl ⊢
      have s1 : splice (bc (List.replicate 32 0)).toArray 0 (bc S).toArray = (bc S).toArray := splice_bc_all (by rw [h32, hl])
      unfold F50x1
      simp (maxSteps := 2000000) (disch := first | exact dT_ | fail) only [h9, h32, hl, s1, p_add, St_cells, cells_agg, Nat.zero_add, List.size_toArray, Nat.reduceLeDiff, if_pos, and_self, bc_length, wr_in, slA25, st25]
      refine rgApp (hR.wr hp _) (BIn.arr (n := 32) (cap := 32) (Hp_put_same _ _ _ hl9) hl).of (by rw [hln]; omega) ?_
      intro c' w'' hR' hX
      refine ⟨?_, by omega⟩
      rw [hJ]
      refine ⟨i + 1, by omega, by simp, ?_, hR'.2.2.2⟩
      rw [range_next, ← hS, ← List.append_assoc]
      exact Vec.mono hR'.1 fun _ _ h => h.1
    unfold F50x2
    have hsec : (secretL name q i seed).length = 32 := hashL_length _ _ _ _ _
    repeat' (first | ((with_reducible refine rgLd h4 hn ?_); rfl) | ((with_reducible refine rgLdI h5 hs ?_); rfl) | ((with_reducible refine rgLd3 h40 ?_ ?_); assumption; rfl) | with_reducible refine And.intro ?_ ?_ | ((with_reducible refine rgSec hR (name := name) (seed := seed) (q := q) (i := i) ?_ ?_ ?_ ?_ hn hs ?_); rfl; rfl; rfl; rfl; intro w' hR' hX; ((replace h4 := hX.at h4 (.inr (by omega)); replace h5 := hX.at h5 (by first | (refine .inr ?_; omega) | (refine .inl ?_; simp; done)); (try replace h40 := hX.at h40 (.inr (by omega))); (try replace h9 := hX.at h9 (.inl (by simp))); replace hR := hR'; clear hX hR'))) | ((with_reducible refine rgWalk hR (name := name) (t := (secretL name q i seed)) (q := q) (i := i) (f := 0) (n := 3) ?_ ?_ ?_ ?_ ?_ ?_ hn hsec ?_ ?_); (first | rfl | (congr 1; omega) | (refine congrArg (Value.int .i64) ?_; omega)); (first | rfl | (congr 1; omega) | (refine congrArg (Value.int .i64) ?_; omega)); (first | rfl | (congr 1; omega) | (refine congrArg (Value.int .i64) ?_; omega)); (first | rfl | (congr 1; omega) | (refine congrArg (Value.int .i64) ?_; omega)); (first | rfl | (congr 1; omega) | (refine congrArg (Value.int .i64) ?_; omega)); (first | rfl | (congr 1; omega) | (refine congrArg (Value.int .i64) ?_; omega)); omega; intro w' hR' hX; ((replace h4 := hX.at h4 (.inr (by omega)); replace h5 := hX.at h5 (by first | (refine .inr ?_; omega) | (refine .inl ?_; simp; done)); (try replace h40 := hX.at h40 (.inr (by omega))); (try replace h9 := hX.at h9 (.inl (by simp))); replace hR := hR'; clear hX hR'))) | ((with_reducible refine rgId hR ?_); intro w' hR' hX h9; ((replace h4 := hX.at h4 (.inr (by omega)); replace h5 := hX.at h5 (by first | (refine .inr ?_; omega) | (refine .inl ?_; simp; done)); (try replace h40 := hX.at h40 (.inr (by omega))); (try replace h9 := hX.at h9 (.inl (by simp))); replace hR := hR'; clear hX hR'))))
    all_goals exact hT hR (by simp) h9
  · obtain rfl : i = 133 := by omega
    have hlt' : ¬ ((133 : Nat) : Int) < 133 := by omega
    simp (maxSteps := 2000000) (disch := first | exact dT_ | fail) only [hlt', p_lss, Hp_drew, Branch_bool, true_and, Bool.false_eq_true, false_implies, forall_const, Nat.sub_self, Int.toNat_natCast, decide_false, ld25, ld49]
    refine CallF_by Try.call51 (refsum_spec (Bytes.bin hv) (by rw [hln]; omega)) ?_
    rintro _ w8 ⟨rfl, hx8⟩
    have e : sha (headL name q ++ [0x80, 0x80] ++ (List.range 133).flatMap f) = publicL name q seed := by rw [hf]; rfl
    rw [e]
    have hl : (publicL name q seed).length = 32 := sha_length _
    generalize publicL name q seed = S at *
    have h68 := hx8.at h6 not_false
    have hl68 := Hp_lt h68
    have s1 : splice (bc (List.replicate 32 0)).toArray 0 (bc S).toArray = (bc S).toArray := splice_bc_all (by rw [h32, hl])
    simp (maxSteps := 2000000) (disch := first | exact dT_ | fail) only [h68, h32, hl, s1, ext_bc0 hl, Ln_cells, St_cells, Hp_put_same, cells_agg, Nat.zero_add, List.size_toArray, Nat.reduceLeDiff, if_pos, true_and, and_self, bc_length, st25]
    exact ((hx3.trans2 hx7 (fun _ _ h => h) fun b hb h => by omega).trans hx8 fun _ _ h => h).put _ _ fun h => by omega
end Go.Proofs
