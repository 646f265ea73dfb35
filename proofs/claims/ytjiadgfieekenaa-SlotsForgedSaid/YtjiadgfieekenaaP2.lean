/- Parts of the proof: S.P25, S.P26, S.P27, S.P28, S.P29, S.P30, S.P31, S.P32, S.P33, S.P34, S.P35, S.P36, S.P37, S.P38, S.P39, S.P40. -/
import Derived.Test.YtjiadgfieekenaaL2
import Derived.Test.YtjiadgfieekenaaP1
import Derived.Lib.SlBytesConst
import Derived.Test.YtjiadgfieekenaaF4
set_option linter.unusedVariables false
set_option linter.unusedSimpArgs false
set_option linter.unusedSectionVars false
namespace Go.Proofs
open Go Go.Lf
set_option maxRecDepth 20000
set_option maxHeartbeats 2000000
set_option linter.unusedSimpArgs false
set_option linter.unusedVariables false
theorem phash_spec {w : World} {name t : List UInt8} (hn : name.length = 16) (ht : t.length = 32) (q mark by_ : Int) :
    Calls Try.prog 72 #[.agg (kc name q).toArray, i64 mark, i64 by_, idv t] w (retK fun v w' => v = idv (hashL name q mark by_ t) ∧ Ext (fun _ => False) w w') := by
  refine F72_ok _ _ _ _ _ _ ?_
  unfold F72
  simp (maxSteps := 2000000) (disch := first | exact dT_ | fail) only [r_box, Hp_drew, sz_alloc, cells_agg, Nat.zero_add, Nat.add_zero, Nat.reduceSub, u8b, Nat.mul_one, p_shri, Int.reduceToNat, Int.reducePow, slA25, slA49, fld96_0, fld96_1, slAL128, slA128, cv3_5, ld3, ld25, al25, al128, zv25, zv128]
  obtain ⟨w4, hw4⟩ : ∃ w4, w4 = ((((w.alloc (Obj.cells (kc name q).toArray 96)).alloc (Obj.cells (bc t).toArray 25)).alloc (Obj.cells (bc (List.replicate 32 0)).toArray 25)).alloc (Obj.cells (bc (List.replicate 55 0)).toArray 128)).drew := ⟨_, rfl⟩
  have hx4 : Ext (fun _ => False) w w4 := by rw [hw4]; exact (((((Ext.refl _ _).alloc _).alloc _).alloc _).alloc _).drew
  have hk : Hp w4 (sz w) = some (Obj.cells (kc name q).toArray 96) := by rw [hw4]; (first | exact hpt_ | fail)
  have h7 : Hp w4 (sz w + 1) = some (Obj.cells (bc t).toArray 25) := by rw [hw4]; (first | exact hpt_ | fail)
  have h8 : Hp w4 (sz w + 1 + 1) = some (Obj.cells (bc (List.replicate 32 0)).toArray 25) := by rw [hw4]; (first | exact hpt_ | fail)
  have h9 : Hp w4 (sz w + 1 + 1 + 1) = some (Obj.cells (bc (List.replicate 55 0)).toArray 128) := by rw [hw4]; (first | exact hpt_ | fail)
  have hs4 : sz w4 = sz w + 1 + 1 + 1 + 1 := by rw [hw4]; (first | exact szT_ | fail)
  try rw [← hw4]
  clear hw4
  obtain ⟨p, hp⟩ : ∃ p, p = sz w + 1 + 1 + 1 := ⟨_, rfl⟩
  rw [← hp] at h9 ⊢
  have hl9 := Hp_lt h9
  have h55 : (List.replicate 55 (0 : UInt8)).length = 55 := by simp
  have r1 : splice (bc (List.replicate 55 0)).toArray 0 (bc name).toArray = (bc (name ++ List.replicate 39 0)).toArray := by
    rw [splice_bcs _ _ _ (by rw [hn]; simp), hn]; rfl
  have htk : name.take 55 = name := List.take_of_length_le (by omega)
  rw [r_copy Try.runUnderlying30 Try.sizeOf5 _ h9 (by rw [bc_size, h55]; decide) (kc_name hn hk).of, htk, r1, hn]
  have hmin : min 16 55 = 16 := rfl
  rw [hmin]
  obtain ⟨w5, hw5⟩ : ∃ w5, w5 = put w4 p (Obj.cells (bc (name ++ List.replicate 39 0)).toArray 128) := ⟨_, rfl⟩
  have hx5 : Ext (fun b => b = p) w4 w5 := by rw [hw5]; exact (Ext.refl _ _).put _ _ fun _ => rfl
  have h95 : Hp w5 p = some (Obj.cells (bc (name ++ List.replicate 39 0)).toArray 128) := by rw [hw5]; exact Hp_put_same _ _ _ hl9
  rw [← hw5]
  clear hw5
  have hk5 := hx5.at hk (by omega)
  have h75 := hx5.at h7 (by omega)
  have h85 := hx5.at h8 (by omega)
  have hl95 := Hp_lt h95
  have hqq := kc_q hn q
  have hb : IntKind.i64.bits = 64 := rfl
  have hb7 : ∀ (a b c d e f g : UInt8) (w : World) (K : Value → World → Prop), Run Try.prog (Instr.buildSlice 30 7 #[(0, u8v a), (1, u8v b), (2, u8v c), (3, u8v d), (4, u8v e), (5, u8v f), (6, u8v g)]) w K = K (.slice (some ⟨sz w, 0, none⟩) 7 7) (w.alloc (.cells (bc [a, b, c, d, e, f, g]).toArray 5)) := bsU7
  have n16 : ((16 : Nat) : Int).toNat = 16 := rfl
  simp (maxSteps := 2000000) (disch := first | exact dT_ | fail) only [hk5, hqq, hb7, n16, L1_cells, sz_drew, List.getElem?_toArray, Option.elim_some, Nat.zero_add, Nat.reduceSub, u8b, Nat.mul_one, p_shri, Int.reduceToNat, Int.reducePow, slAL128, cv3_5]
  have e7 : [b8 (q / 16777216), b8 (q / 65536), b8 (q / 256), b8 q, b8 (mark / 256), b8 mark, b8 by_] = four q ++ two mark ++ [b8 by_] := rfl
  rw [e7]
  obtain ⟨s7, hs7⟩ : ∃ s7, s7 = four q ++ two mark ++ [b8 by_] := ⟨_, rfl⟩
  rw [← hs7]
  have hs7l : s7.length = 7 := by rw [hs7]; rfl
  obtain ⟨w6, hw6⟩ : ∃ w6, w6 = w5.drew.alloc (Obj.cells (bc s7).toArray 5) := ⟨_, rfl⟩
  have hx6 : Ext (fun _ => False) w5 w6 := by rw [hw6]; exact ((Ext.refl _ _).drew).alloc _
  have h16 : Hp w6 (sz w5) = some (Obj.cells (bc s7).toArray 5) := by rw [hw6]; exact Hp_alloc_new _ _ _ rfl
  rw [← hw6]
  clear hw6
  have h96 := hx6.at h95 not_false
  have h76 := hx6.at h75 not_false
  have h86 := hx6.at h85 not_false
  have hl96 := Hp_lt h96
  have hN : (name ++ List.replicate 39 (0 : UInt8)).length = 55 := by rw [List.length_append, hn, List.length_replicate]
  have r2 : splice (bc (name ++ List.replicate 39 0)).toArray 16 (bc s7).toArray = (bc (name ++ s7 ++ List.replicate 32 0)).toArray := by
    rw [splice_bcs _ _ _ (by rw [hN, hs7l]; decide), hs7l, List.take_left' hn]
    congr 3
    rw [← List.drop_drop, List.drop_left' hn]; rfl
  rw [r_copy Try.runUnderlying30 Try.sizeOf5 _ h96 (by rw [bc_size, hN]; decide) (BIn.arr (n := 7) (cap := 7) h16 hs7l).of, List.take_of_length_le (by omega), r2]
  obtain ⟨w7, hw7⟩ : ∃ w7, w7 = put w6 p (Obj.cells (bc (name ++ s7 ++ List.replicate 32 0)).toArray 128) := ⟨_, rfl⟩
  have hx7 : Ext (fun b => b = p) w6 w7 := by rw [hw7]; exact (Ext.refl _ _).put _ _ fun _ => rfl
  have h97 : Hp w7 p = some (Obj.cells (bc (name ++ s7 ++ List.replicate 32 0)).toArray 128) := by rw [hw7]; exact Hp_put_same _ _ _ hl96
  rw [← hw7]
  clear hw7
  have h77 := hx7.at h76 (by omega)
  have h87 := hx7.at h86 (by omega)
  have hN2 : (name ++ s7 ++ List.replicate 32 (0 : UInt8)).length = 55 := by rw [List.length_append, List.length_append, hn, hs7l, List.length_replicate]
  have r3 : splice (bc (name ++ s7 ++ List.replicate 32 0)).toArray 23 (bc t).toArray = (bc (name ++ s7 ++ t)).toArray := by
    rw [splice_bcs _ _ _ (by rw [hN2, ht]; decide), ht, List.take_left' (by rw [List.length_append, hn, hs7l]), List.drop_of_length_le (by omega), List.append_nil]
  rw [r_copy Try.runUnderlying30 Try.sizeOf5 _ ((Hp_drew _ _).trans h97) (by rw [bc_size, hN2]; decide) (BIn.arr (n := 32) (cap := 32) (w := w7.drew) ((Hp_drew _ _).trans h77) ht).of, List.take_of_length_le (by omega), r3]
  obtain ⟨w8, hw8⟩ : ∃ w8, w8 = put w7.drew p (Obj.cells (bc (name ++ s7 ++ t)).toArray 128) := ⟨_, rfl⟩
  have hx8 : Ext (fun b => b = p) w7 w8 := by rw [hw8]; exact ((Ext.refl _ _).drew).put _ _ fun _ => rfl
  have h98 : Hp w8 p = some (Obj.cells (bc (name ++ s7 ++ t)).toArray 128) := by rw [hw8]; exact Hp_put_same _ _ _ (by rw [sz_drew]; exact Hp_lt h97)
  rw [← hw8]
  clear hw8
  have h88 := hx8.at h87 (by omega)
  have hN3 : (name ++ s7 ++ t).length = 55 := by rw [List.length_append, List.length_append, hn, hs7l, ht]
  refine CallF_by Try.call22 (sum_spec (BIn.arr (n := 55) (cap := 55) h98 hN3).of (by omega)) ?_
  rintro _ w9 ⟨rfl, hx9⟩
  have e : sha (name ++ s7 ++ t) = hashL name q mark by_ t := by unfold hashL headL; rw [hs7]; simp only [List.append_assoc]
  rw [e]
  have hl : (hashL name q mark by_ t).length = 32 := sha_length _
  generalize hashL name q mark by_ t = S at *
  have h32 : (List.replicate 32 (0 : UInt8)).length = 32 := by simp
  have h89 := hx9.at h88 not_false
  have hl89 := Hp_lt h89
  have s1 : splice (bc (List.replicate 32 0)).toArray 0 (bc S).toArray = (bc S).toArray := splice_bc_all (by rw [h32, hl])
  simp (maxSteps := 2000000) (disch := first | exact dT_ | fail) only [h89, h32, hl, s1, ext_bc0 hl, Ln_cells, St_cells, Hp_put_same, cells_agg, Nat.zero_add, List.size_toArray, Nat.reduceLeDiff, if_pos, true_and, and_self, bc_length, st25]
  have ha : Ext (fun b => sz w ≤ b) w w8 := ((hx4.trans2 (M := fun b => sz w ≤ b) hx5 (fun _ _ h => h.elim) fun b hb h => by omega).trans hx6 fun _ _ h => h.elim).trans (hx7.trans hx8 fun _ _ h => h) fun b hb h => by omega
  exact ((ha.trans hx9 fun _ _ h => h.elim).mono (fun b hb h => by omega)).put _ _ fun h => by omega
end Go.Proofs
namespace Go.Proofs
open Go Go.Lf
set_option maxRecDepth 20000
set_option maxHeartbeats 2000000
set_option linter.unusedSimpArgs false
set_option linter.unusedVariables false
theorem psteps_spec {w : World} {name t : List UInt8} (hn : name.length = 16) (ht : t.length = 32) (q : Int) (i f n : Nat) (hf : f + n ≤ 1000) :
    Calls Try.prog 61 #[.agg (kc name q).toArray, i64 (i : Int), i64 (f : Int), i64 ((f + n : Nat) : Int), idv t] w (retK fun v w' => v = idv (walkL name q i f n t) ∧ Ext (fun _ => False) w w') := by
  refine F61_ok _ _ _ _ _ _ _ ?_
  unfold F61
  simp (maxSteps := 2000000) (disch := first | exact dT_ | fail) only [r_box, sz_alloc, cells_agg, forall_const, al25, zv25]
  obtain ⟨w3, hw3⟩ : ∃ w3, w3 = ((w.alloc (Obj.cells (kc name q).toArray 96)).alloc (Obj.cells (bc t).toArray 25)).alloc (Obj.cells (bc (List.replicate 32 0)).toArray 25) := ⟨_, rfl⟩
  have hx3 : Ext (fun _ => False) w w3 := by rw [hw3]; exact (((Ext.refl _ _).alloc _).alloc _).alloc _
  have h43 : Hp w3 (sz w) = some (Obj.cells (kc name q).toArray 96) := by rw [hw3]; (first | exact hpt_ | fail)
  have h73 : Hp w3 (sz w + 1) = some (Obj.cells (bc t).toArray 25) := by rw [hw3]; (first | exact hpt_ | fail)
  have h83 : Hp w3 (sz w + 1 + 1) = some (Obj.cells (bc (List.replicate 32 0)).toArray 25) := by rw [hw3]; (first | exact hpt_ | fail)
  have hs3 : sz w3 = sz w + 1 + 1 + 1 := by rw [hw3]; (first | exact szT_ | fail)
  rw [← hw3]
  clear hw3
  have h32 : (List.replicate 32 (0 : UInt8)).length = 32 := by simp
  have hks := kc_size hn q
  obtain ⟨J, hJ⟩ : ∃ J : Value → World → Prop, J = fun v w' => ∃ k : Nat, k ≤ n ∧ v = i64 ((f + k : Nat) : Int) ∧ Ext (fun b => b = sz w + 1) w3 w' ∧ Hp w' (sz w + 1) = some (Obj.cells (bc (walkL name q i f k t)).toArray 25) := ⟨_, rfl⟩
  refine Loop1 J (fun v _ => f + n - (match v with | .int _ n => n.toNat | _ => 0)) (by rw [hJ]; exact ⟨0, by omega, rfl, Ext.refl _ _, h73⟩) ?_
  clear h73
  intro v w4 hj
  rw [hJ] at hj
  obtain ⟨k, hk, rfl, hx4, h7⟩ := hj
  have hs : (walkL name q i f k t).length = 32 := walkL_length _ _ _ _ _ _ ht
  have h4 := hx4.at h43 (by omega)
  have h8 := hx4.at h83 (by omega)
  have hl7 := Hp_lt h7
  have hl8 := Hp_lt h8
  unfold F61x1
  by_cases hlt : k < n
  · have hlt' : ((f + k : Nat) : Int) < ((f + n : Nat) : Int) := by omega
    have hnx := walkL_next name q i k f t
    simp (maxSteps := 2000000) (disch := first | exact dT_ | fail) only [hlt', h4, hks, ext_kc hn q, h7, hs, ext_bc0 hs, p_add, p_lss, Ln_cells, Branch_bool, Nat.zero_add, List.size_toArray, Nat.reduceLeDiff, if_pos, and_true, Bool.true_eq_false, false_implies, forall_const, bc_length, wr_in, Int.toNat_natCast, decide_true, ld25, ld96, st25]
    refine CallF_by Try.call72 (phash_spec hn hs q _ _) ?_
    rintro _ w5 ⟨rfl, hx5⟩
    rw [← hnx]
    have hl : (walkL name q i f (k + 1) t).length = 32 := walkL_length _ _ _ _ _ _ ht
    have h75 := hx5.at h7 not_false
    have hl75 := Hp_lt h75
    generalize hcur : walkL name q i f k t = cur at *
    obtain ⟨S, hS⟩ : ∃ S, S = walkL name q i f (k + 1) t := ⟨_, rfl⟩
    rw [← hS] at hl ⊢
    have s1 : splice (bc cur).toArray 0 (bc S).toArray = (bc S).toArray := splice_bc_all (by rw [hs, hl])
    simp (maxSteps := 2000000) (disch := first | exact dT_ | fail) only [h75, hs, hl, s1, St_cells, cells_agg, Nat.zero_add, List.size_toArray, Nat.reduceLeDiff, if_pos, and_self, bc_length, st25]
    refine ⟨?_, by omega⟩
    rw [hJ]
    refine ⟨k + 1, by omega, by congr 1, (hx4.trans hx5 fun _ _ h => h.elim).put _ _ fun _ => rfl, ?_⟩
    rw [← hS]; exact Hp_put_same _ _ _ hl75
  · obtain rfl : k = n := by omega
    have hlt' : ¬ ((f + k : Nat) : Int) < ((f + k : Nat) : Int) := by omega
    generalize walkL name q i f k t = S at *
    have s1 : splice (bc (List.replicate 32 0)).toArray 0 (bc S).toArray = (bc S).toArray := splice_bc_all (by rw [h32, hs])
    simp (maxSteps := 2000000) (disch := first | exact dT_ | fail) only [hlt', h7, h8, hs, h32, s1, ext_bc0 hs, p_add, p_lss, Ln_cells, St_cells, Hp_put_same, cells_agg, Branch_bool, Nat.zero_add, List.size_toArray, Nat.reduceLeDiff, if_pos, true_and, and_self, Bool.false_eq_true, false_implies, forall_const, bc_length, Nat.sub_self, wr_in, Int.toNat_natCast, decide_false, ld25, ld96, st25]
    exact (hx3.trans2 hx4 (fun _ _ h => h) fun b hb h => by omega).put _ _ fun h => by omega
/-- the closure of Back: a(i) to the end of chain i -/
theorem pback1_spec {w : World} {pk pd ps Bs os cs : Nat} {name sig c msg : List UInt8} {Qs : Nat → Prop} {q : Int} (hn : name.length = 16) (i : Nat) (hi : i < 133)
    (hk : Hp w pk = some (Obj.cells (kc name q).toArray 96)) (hd : Hp w pd = some (Obj.cells (ic (digD name q c msg)).toArray 91)) (hv : Hp w ps = some (Obj.cells #[.slice (some ⟨Bs, os, none⟩) 4292 cs] 30))
    (hsig : BIn w (.slice (some ⟨Bs, os, none⟩) 4292 cs) sig Qs) (hcs : 4292 ≤ cs) :
    Calls Try.prog 60 #[i64 (i : Int), ptr ps 0, ptr pk 0, ptr pd 0] w (retK fun v w' => v = idv (walkL name q i ((digitsL name q c msg).getD i 0) (3 - (digitsL name q c msg).getD i 0) (partL sig i)) ∧ Ext (fun _ => False) w w') := by
  refine F60_ok _ _ _ _ _ _ ?_
  unfold F60
  obtain ⟨hsl, -, -⟩ := BIn.row hsig
  have n1 : ((36 : Int) + 32 * (i : Int)).toNat = 36 + 32 * i := by omega
  have hb1 : (36 : Int) + 32 * (i : Int) ≤ (4292 : Nat) := by omega
  have hb2 : 36 + 32 * i < cs := by omega
  simp (maxSteps := 2000000) (disch := first | exact dT_ | fail) only [p_add, p_mul, Hp_drew, sz_alloc, cells_agg, Nat.zero_add, wr_in, Int.toNat_natCast, Nat.mul_one, slA25, ix91, ld3, ld25, ld30, ld96, al25, zv25]
  obtain ⟨w1, hw1⟩ : ∃ w1, w1 = (w.alloc (Obj.cells (bc (List.replicate 32 0)).toArray 25)).alloc (Obj.cells (bc (List.replicate 32 0)).toArray 25) := ⟨_, rfl⟩
  have hx1 : Ext (fun _ => False) w w1 := by rw [hw1]; exact ((Ext.refl _ _).alloc _).alloc _
  have h5 : Hp w1 (sz w) = some (Obj.cells (bc (List.replicate 32 0)).toArray 25) := by rw [hw1]; (first | exact hpt_ | fail)
  have h6 : Hp w1 (sz w + 1) = some (Obj.cells (bc (List.replicate 32 0)).toArray 25) := by rw [hw1]; (first | exact hpt_ | fail)
  rw [← hw1]
  clear hw1
  have hv1 := hx1.at hv not_false
  have hk1 := hx1.at hk not_false
  have hd1 := hx1.at hd not_false
  have hlk := Hp_lt hk
  have hld := Hp_lt hd
  have hl6 := Hp_lt h6
  have hl5 := Hp_lt h5
  have h32 : (List.replicate 32 (0 : UInt8)).length = 32 := by simp
  have hpl : (partL sig i).length = 32 := by unfold partL; rw [List.length_take, List.length_drop]; omega
  have hks := kc_size hn q
  have hDl := digD_length name q c msg
  have hdd := digD_getD name q c msg i
  have hd3 := digitsL_le name q c msg i
  simp (maxSteps := 2000000) (disch := first | exact dT_ | fail) only [hv1, n1, L1_cells, List.getElem?_toArray, List.getElem?_cons_zero, Option.elim_some, cutAt_some, Nat.mul_one, slL30]
  have hbs : BOf w1.drew (.slice (some ⟨Bs, os + (36 + 32 * i), none⟩) (4292 - (36 + 32 * i)) (cs - (36 + 32 * i))) ((sig.drop (36 + 32 * i)).take (4292 - (36 + 32 * i))) := ((BIn.part hsig (36 + 32 * i) (4292 - (36 + 32 * i)) (cs - (36 + 32 * i)) (by omega)).ext hx1.drew fun _ _ _ => not_false).of
  have htk : ((sig.drop (36 + 32 * i)).take (4292 - (36 + 32 * i))).take 32 = partL sig i := by
    unfold partL
    rw [List.take_take]; congr 1; omega
  have r1 : splice (bc (List.replicate 32 0)).toArray 0 (bc (partL sig i)).toArray = (bc (partL sig i)).toArray := splice_bc_all (by rw [h32, hpl])
  rw [r_copy Try.runUnderlying30 Try.sizeOf5 _ ((Hp_drew _ _).trans h6) (by rw [bc_size, h32]; decide) hbs, htk, r1]
  obtain ⟨w2, hw2⟩ : ∃ w2, w2 = put w1.drew (sz w + 1) (Obj.cells (bc (partL sig i)).toArray 25) := ⟨_, rfl⟩
  have hx2 : Ext (fun b => b = sz w + 1) w1 w2 := by rw [hw2]; exact ((Ext.refl _ _).drew).put _ _ fun _ => rfl
  have h62 : Hp w2 (sz w + 1) = some (Obj.cells (bc (partL sig i)).toArray 25) := by rw [hw2]; exact Hp_put_same _ _ _ (by rw [sz_drew]; exact hl6)
  rw [← hw2]
  clear hw2
  have hk2 := hx2.at hk1 (by omega)
  have hd2 := hx2.at hd1 (by omega)
  have h52 := hx2.at h5 (by omega)
  simp (maxSteps := 2000000) (disch := first | exact dT_ | fail) only [hk2, hks, ext_kc hn q, hd2, h62, hpl, ext_bc0 hpl, L1_cells, Ln_cells, List.getElem?_toArray, Option.elim_some, Nat.zero_add, List.size_toArray, Nat.reduceLeDiff, if_pos, bc_length, ic_getL]
  rw [hdd]
  generalize (digitsL name q c msg).getD i 0 = d at *
  have e3 : (Value.int .i64 3) = i64 ((d + (3 - d) : Nat) : Int) := by refine congrArg (Value.int .i64) ?_; omega
  rw [e3]
  refine CallF_by Try.call61 (psteps_spec hn hpl q i d (3 - d) (by omega)) ?_
  rintro _ w4 ⟨rfl, hx4⟩
  have hl : (walkL name q i d (3 - d) (partL sig i)).length = 32 := walkL_length _ _ _ _ _ _ hpl
  generalize walkL name q i d (3 - d) (partL sig i) = S at *
  have h54 := hx4.at ((Hp_drew _ _).trans h52) not_false
  have hl54 := Hp_lt h54
  have s1 : splice (bc (List.replicate 32 0)).toArray 0 (bc S).toArray = (bc S).toArray := splice_bc_all (by rw [h32, hl])
  simp (maxSteps := 2000000) (disch := first | exact dT_ | fail) only [h54, h32, hl, s1, ext_bc0 hl, Ln_cells, St_cells, Hp_put_same, cells_agg, Nat.zero_add, List.size_toArray, Nat.reduceLeDiff, if_pos, true_and, and_self, bc_length, st25]
  exact (((hx1.trans2 (M := fun _ => False) hx2 (fun _ _ h => h) fun b hb h => by omega).drew).trans hx4 fun _ _ h => h).put _ _ fun h => by omega
end Go.Proofs
namespace Go.Proofs
open Go Go.Lf
set_option maxRecDepth 20000
set_option maxHeartbeats 2000000
set_option linter.unusedSimpArgs false
set_option linter.unusedVariables false
theorem callV60 (a b c d : Value) (w : World) (K : Value → World → Prop) : CallV Try.prog (.func (.func 60) #[] #[b, c, d]) #[a] w K = CallF Try.prog 60 #[a, b, c, d] w K := by
  unfold CallV; rfl
theorem pends_spec {w : World} {name : List UInt8} {b c d : Value} {f : Nat → List UInt8} (hn : name.length = 16) (q : Int) (hfl : ∀ i : Nat, i < 133 → (f i).length = 32)
    (hf : ∀ i : Nat, i < 133 → ∀ w', Ext (fun b => sz w ≤ b) w w' → Calls Try.prog 60 #[i64 (i : Int), b, c, d] w' (retK fun v w'' => v = idv (f i) ∧ Ext (fun _ => False) w' w'')) :
    Calls Try.prog 59 #[.agg (kc name q).toArray, .func (.func 60) #[] #[b, c, d]] w (retK fun v w' => v = idv (endsL name q f) ∧ Ext (fun _ => False) w w') := by
  refine F59_ok _ _ _ _ ?_
  unfold F59
  have hks := kc_size hn q
  simp (maxSteps := 2000000) (disch := first | exact dT_ | fail) only [hks, ext_kc hn q, r_box, Ln_cells, Hp_alloc_new, Hp_alloc_old, sz_alloc, cells_agg, Nat.zero_add, Nat.reduceLeDiff, if_pos, forall_const, ld96, al25, zv25]
  obtain ⟨w2, hw2⟩ : ∃ w2, w2 = (w.alloc (Obj.cells (kc name q).toArray 96)).alloc (Obj.cells (bc (List.replicate 32 0)).toArray 25) := ⟨_, rfl⟩
  have hx2 : Ext (fun _ => False) w w2 := by rw [hw2]; exact ((Ext.refl _ _).alloc _).alloc _
  have h8 : Hp w2 (sz w + 1) = some (Obj.cells (bc (List.replicate 32 0)).toArray 25) := by rw [hw2]; (first | exact hpt_ | fail)
  have hs2 : sz w2 = sz w + 1 + 1 := by rw [hw2]; (first | exact szT_ | fail)
  rw [← hw2]
  clear hw2
  obtain ⟨m, hm⟩ : ∃ m, m = sz w2 := ⟨_, rfl⟩
  refine CallF_by Try.call71 (phead_spec hn q 32896) ?_
  rintro v9 w3 ⟨hv9, hx3⟩
  have e80 : two 32896 = [0x80, 0x80] := rfl
  rw [e80, ← hm] at hv9
  have h32 : (List.replicate 32 (0 : UInt8)).length = 32 := by simp
  have hfn : ∀ i, i ≤ 133 → ((List.range i).flatMap f).length = 32 * i := by
    intro i
    induction i with
    | zero => intro _; rfl
    | succ i ih => intro hi; rw [range_next, List.length_append, ih (by omega), hfl i (by omega)]; omega
  obtain ⟨J, hJ⟩ : ∃ J : Value → Value → World → Prop, J = fun u v w' => ∃ i : Nat, i ≤ 133 ∧ v = i64 (i : Int) ∧ Bytes 5 w' u (headL name q ++ [0x80, 0x80] ++ (List.range i).flatMap f) (fun b => m ≤ b) ∧ Ext (fun b => m ≤ b) w2 w' := ⟨_, rfl⟩
  refine Loop2 J (fun _ v _ => 133 - (match v with | .int _ n => n.toNat | _ => 0)) (by rw [hJ]; exact ⟨0, by omega, rfl, by simpa using hv9, hx3.mono fun _ _ h => h.elim⟩) ?_
  clear hv9 hx3
  intro u v w4 hj
  rw [hJ] at hj
  obtain ⟨i, hi, rfl, hv, hx4⟩ := hj
  have hln : (headL name q ++ [0x80, 0x80] ++ (List.range i).flatMap f).length = 22 + 32 * i := by
    rw [List.length_append, hfn i hi, List.length_append, headL_length, hn]; rfl
  have hs4 := hx4.size
  have hx04 : Ext (fun b => sz w ≤ b) w w4 := (hx2.mono fun _ _ h => h.elim).trans hx4 fun b _ h => by omega
  unfold F59x1
  by_cases hlt : i < 133
  · have hlt' : (i : Int) < 133 := by omega
    simp (maxSteps := 2000000) (disch := first | exact dT_ | fail) only [hlt', callV60, p_add, p_lss, cells_agg, Branch_bool, and_true, Bool.true_eq_false, false_implies, forall_const, wr_in, Int.toNat_natCast, decide_true, slA25, ld25, al25, zv25]
    refine CallF_by Try.call60 (hf i hlt w4 hx04) ?_
    rintro _ w5 ⟨rfl, hx5⟩
    have hl := hfl i hlt
    have s1 : splice (bc (List.replicate 32 0)).toArray 0 (bc (f i)).toArray = (bc (f i)).toArray := splice_bc_all (by rw [h32, hl])
    obtain ⟨Z, hZ⟩ : ∃ Z, Z = f i := ⟨_, rfl⟩
    rw [← hZ] at hl s1 ⊢
    simp (maxSteps := 2000000) (disch := first | exact dT_ | fail) only [h32, hl, s1, put_allocN, St_cells, Hp_alloc_new, cells_agg, Nat.zero_add, List.size_toArray, Nat.reduceLeDiff, if_pos, and_self, bc_length, st25]
    obtain ⟨w6, hw6⟩ : ∃ w6, w6 = w5.alloc (Obj.cells (bc Z).toArray 25) := ⟨_, rfl⟩
    have hx6 : Ext (fun _ => False) w5 w6 := by rw [hw6]; exact (Ext.refl _ _).alloc _
    have h76 : Hp w6 (sz w5) = some (Obj.cells (bc Z).toArray 25) := by rw [hw6]; (first | exact hpt_ | fail)
    rw [← hw6]
    clear hw6
    have hs6 := (hx5.trans hx6 fun _ _ h => h).size
    refine apQ _ (Vec.ext (Vec.ext hv hx5 fun _ _ _ => not_false) hx6 fun _ _ _ => not_false) (BIn.arr (n := 32) (cap := 32) h76 hl).of (fun b hb => by omega) (by rw [hln, hl]; omega) ?_
    intro v18 w8 hv8 hx8
    refine ⟨?_, by omega⟩
    rw [hJ]
    refine ⟨i + 1, by omega, by congr 1, ?_, ((hx4.trans hx5 fun _ _ h => h.elim).trans hx6 fun _ _ h => h.elim).trans hx8 fun _ _ h => h⟩
    rw [range_next, ← hZ, ← List.append_assoc]
    exact hv8
  · obtain rfl : i = 133 := by omega
    have hlt' : ¬ ((133 : Nat) : Int) < 133 := by omega
    have h84 := hx4.at h8 (by omega)
    simp (maxSteps := 2000000) (disch := first | exact dT_ | fail) only [hlt', p_add, p_lss, cells_agg, Branch_bool, true_and, Bool.false_eq_true, false_implies, forall_const, Nat.sub_self, wr_in, Int.toNat_natCast, decide_false, slA25, ld25, al25, zv25]
    refine CallF_by Try.call22 (sum_spec (Bytes.of hv) (by rw [hln]; omega)) ?_
    rintro _ w8 ⟨rfl, hx8⟩
    have e : sha (headL name q ++ [0x80, 0x80] ++ (List.range 133).flatMap f) = endsL name q f := rfl
    rw [e]
    have hl : (endsL name q f).length = 32 := sha_length _
    generalize endsL name q f = S at *
    have h88 := hx8.at h84 not_false
    have hl88 := Hp_lt h88
    have s1 : splice (bc (List.replicate 32 0)).toArray 0 (bc S).toArray = (bc S).toArray := splice_bc_all (by rw [h32, hl])
    simp (maxSteps := 2000000) (disch := first | exact dT_ | fail) only [h88, h32, hl, s1, ext_bc0 hl, Ln_cells, St_cells, Hp_put_same, cells_agg, Nat.zero_add, List.size_toArray, Nat.reduceLeDiff, if_pos, true_and, and_self, bc_length, st25]
    exact ((hx2.trans2 hx4 (fun _ _ h => h) fun b hb h => by omega).trans hx8 fun _ _ h => h).put _ _ fun h => by omega
end Go.Proofs
namespace Go.Proofs
open Go Go.Lf
set_option maxRecDepth 20000
set_option maxHeartbeats 2000000
set_option linter.unusedSimpArgs false
set_option linter.unusedVariables false
theorem and3 (y : UInt8) : (y &&& 3).toNat = y.toNat % 4 := by
  rw [UInt8.toNat_and]; exact Nat.and_two_pow_sub_one_eq_mod y.toNat 2
def lackB (x : UInt8) : Nat → Nat
  | 0 => 0
  | s + 1 => lackB x s + (3 - (shr8 x (2 * s)).toNat % 4)
theorem lackB_le (x : UInt8) : ∀ s, lackB x s ≤ 3 * s
  | 0 => Nat.le_refl _
  | s + 1 => by have := lackB_le x s; unfold lackB; omega
theorem lackL_byte (S : List UInt8) (j : Nat) : lackL S (4 * (j + 1)) = lackL S (4 * j) + lackB (S.getD j 0) 4 := by
  have d : ∀ r, r < 4 → digitL S (4 * j + r) = (shr8 (S.getD j 0) (6 - 2 * r)).toNat % 4 := fun r hr => by
    unfold digitL
    rw [show (4 * j + r) / 4 = j by omega, show (4 * j + r) % 4 = r by omega]
  have d0 := d 0 (by omega)
  have d1 := d 1 (by omega)
  have d2 := d 2 (by omega)
  have d3 := d 3 (by omega)
  rw [show 4 * (j + 1) = 4 * j + 3 + 1 by omega]
  simp only [lackL, lackB]
  rw [d3, d2, d1]
  rw [Nat.add_zero] at d0
  rw [d0]
  simp only [Nat.reduceMul, Nat.reduceSub, Nat.mul_zero, Nat.mul_one]
  omega
def digOf (S : List UInt8) : List Int := (List.range 133).map fun i => (digitL (S ++ two ((64 * lackL S 128 : Nat) : Int)) i : Int)
theorem digD_of (name : List UInt8) (q : Int) (c msg : List UInt8) : digD name q c msg = digOf (digestL name q c msg) := by
  unfold digD digitsL digOf
  simp only [List.map_map]; rfl
theorem digOf_length (S : List UInt8) : (digOf S).length = 133 := by simp [digOf]
theorem digOf_get (S : List UInt8) (i : Nat) (h : i < 133) : (digOf S)[i]? = some (digitL (S ++ two ((64 * lackL S 128 : Nat) : Int)) i : Int) := by
  unfold digOf; rw [List.getElem?_map, List.getElem?_range h]; rfl
theorem pdig_tail {w10 : World} {p7 p6 : Nat} {S : List UInt8} {K : Value → World → Prop} (hS : S.length = 32) (h7 : Hp w10 p7 = some (.cells (bc S).toArray 25 (0, 0))) (h6 : Hp w10 p6 = some (.cells (ic (List.replicate 133 0)).toArray 91 (0, 0)))
    (hk : ∀ W', Ext (fun b => b = p6) w10 W' → K (.agg (ic (digOf S)).toArray) W') : F58x4 w10 (ptr p7 0) (ptr p6 0) K := by
  unfold F58x4
  have hl7 := Hp_lt h7
  have hl6 := Hp_lt h6
  simp (maxSteps := 2000000) (disch := first | exact dT_ | fail) only [forall_const, Int.reduceToNat, slA25, len30, mk30]
  obtain ⟨w11, hw11⟩ : ∃ w11, w11 = w10.alloc (Obj.cells (bc (List.replicate 34 0)).toArray 5) := ⟨_, rfl⟩
  have hx11 : Ext (fun _ => False) w10 w11 := by rw [hw11]; exact (Ext.refl _ _).alloc _
  have h21 : Hp w11 (sz w10) = some (Obj.cells (bc (List.replicate 34 0)).toArray 5) := by rw [hw11]; (first | exact hpt_ | fail)
  rw [← hw11]
  clear hw11
  have h34 : (List.replicate 34 (0 : UInt8)).length = 34 := by simp
  have r1 : splice (bc (List.replicate 34 0)).toArray 0 (bc S).toArray = (bc (S ++ [0, 0])).toArray := by
    rw [splice_bcs _ _ _ (by rw [hS, h34]; decide), hS]; rfl
  rw [r_copy Try.runUnderlying30 Try.sizeOf5 _ h21 (by rw [bc_size, h34]; decide) (BIn.arr (n := 32) (cap := 32) (hx11.at h7 not_false) hS).of, List.take_of_length_le (by omega), r1]
  obtain ⟨w12, hw12⟩ : ∃ w12, w12 = put w11 (sz w10) (Obj.cells (bc (S ++ [0, 0])).toArray 5) := ⟨_, rfl⟩
  have hx12 : Ext (fun _ => False) w10 w12 := by rw [hw12]; exact hx11.put _ _ fun h => by omega
  have h22 : Hp w12 (sz w10) = some (Obj.cells (bc (S ++ [0, 0])).toArray 5) := by rw [hw12]; exact Hp_put_same _ _ _ (Hp_lt h21)
  rw [← hw12]
  clear hw12
  have hS2 : (S ++ [(0 : UInt8), 0]).length = 34 := by rw [List.length_append, hS]; rfl
  obtain ⟨J, hJ⟩ : ∃ J : Value → Value → World → Prop, J = fun u v w' => ∃ j : Nat, j ≤ 32 ∧ u = i64 (lackL S (4 * j) : Int) ∧ v = i64 (j : Int) ∧ w' = w12 := ⟨_, rfl⟩
  refine Loop2 J (fun _ v _ => 32 - (match v with | .int _ n => n.toNat | _ => 0)) (by rw [hJ]; exact ⟨0, by omega, rfl, rfl, rfl⟩) ?_
  intro u v w13 hj
  rw [hJ] at hj
  obtain ⟨j, hj', rfl, rfl, rfl⟩ := hj
  have hlk := lackL_le S (4 * j)
  by_cases hlt : j < 32
  · have hlt' : (j : Int) < ((32 : Nat) : Int) := by omega
    have hgx : (S ++ [(0 : UInt8), 0]).getD j 0 = S.getD j 0 := by
      rw [List.getD_eq_getElem?_getD, List.getElem?_append_left (by omega), List.getD_eq_getElem?_getD]
    simp (maxSteps := 2000000) (disch := first | exact dT_ | fail) only [hlt', h22, hgx, p_lss, L1_cells, Branch_bool, List.getElem?_toArray, Option.elim_some, Nat.zero_add, and_true, Bool.true_eq_false, false_implies, forall_const, Int.toNat_natCast, Nat.mul_one, bc_getL, decide_true, ix30, ld5]
    obtain ⟨J2, hJ2⟩ : ∃ J2 : Value → Value → World → Prop, J2 = fun u v w' => ∃ s : Nat, s ≤ 4 ∧ u = i64 ((lackL S (4 * j) + lackB (S.getD j 0) s : Nat) : Int) ∧ v = i64 (s : Int) ∧ w' = w13 := ⟨_, rfl⟩
    refine Loop2 J2 (fun _ v _ => 4 - (match v with | .int _ n => n.toNat | _ => 0)) (by rw [hJ2]; exact ⟨0, by omega, rfl, rfl, rfl⟩) ?_
    intro u v w14 hj2
    rw [hJ2] at hj2
    obtain ⟨s, hs', rfl, rfl, rfl⟩ := hj2
    have hlb := lackB_le (S.getD j 0) s
    unfold F58x1
    by_cases hls : s < 4
    · have hls' : (s : Int) < 4 := by omega
      have n1 : ((2 : Int) * (s : Int)).toNat = 2 * s := by omega
      have hand : ∀ (y : UInt8) (K : Value → Prop), PRun Try.prog (binOp .and 5 (u8v y) (Value.int .u8 3)) K = K (u8v (y &&& 3)) := fun y K => p_and8 _ K y 3
      have ha3 := and3 (shr8 (S.getD j 0) (2 * s))
      simp (maxSteps := 2000000) (disch := first | exact dT_ | fail) only [hls', n1, hand, p_add, p_sub, p_mul, p_lss, Branch_bool, and_true, Bool.true_eq_false, false_implies, forall_const, i64w, wr_in, Int.toNat_natCast, p_shr8, decide_true, cv5_3]
      refine ⟨?_, by omega⟩
      rw [hJ2]
      refine ⟨s + 1, by omega, ?_, by congr 1, rfl⟩
      refine congrArg (Value.int .i64) ?_
      simp only [lackB]
      omega
    · have hls' : ¬ (s : Int) < 4 := by omega
      obtain rfl : s = 4 := by omega
      simp (maxSteps := 2000000) (disch := first | exact dT_ | fail) only [hls', p_add, p_mul, p_lss, Branch_bool, true_and, Bool.false_eq_true, false_implies, forall_const, Nat.sub_self, wr_in, Int.toNat_natCast, p_shr8, decide_false]
      refine ⟨?_, by omega⟩
      rw [hJ]
      exact ⟨j + 1, by omega, by rw [lackL_byte], by congr 1, rfl⟩
  · obtain rfl : j = 32 := by omega
    have hlt' : ¬ ((32 : Nat) : Int) < ((32 : Nat) : Int) := by omega
    simp (maxSteps := 2000000) (disch := first | exact dT_ | fail) only [hlt', p_lss, Branch_bool, true_and, Bool.false_eq_true, false_implies, forall_const, Nat.sub_self, Int.toNat_natCast, decide_false, Nat.reduceMul]
    clear hJ J
    unfold F58x3
    have hb : IntKind.i64.bits = 64 := rfl
    have e64 : (lackL S (4 * 32) : Int) * 64 = ((64 * lackL S 128 : Nat) : Int) := by show (lackL S 128 : Int) * 64 = _; omega
    have hlk128 := lackL_le S 128
    have e64' : (lackL S 128 : Int) * 64 = ((64 * lackL S 128 : Nat) : Int) := by omega
    simp (maxSteps := 2000000) (disch := first | exact dT_ | fail) only [e64, bsU2, p_mul, cells_agg, forall_const, u8b, wr_in, p_shri, Int.reduceToNat, Int.reducePow, cv3_5, ld91, al91, zv91]
    have hv21 : Bytes 5 w13 (.slice (some ⟨sz w10, 0, none⟩) 32 34) S (fun b => sz w10 ≤ b) := by
      refine ⟨by rw [bc_length]; omega, .inr ⟨sz w10, 0, 34, _, by rw [hS], by omega, h22, by rw [bc_size, hS2]; decide, fun k hk' => ?_, Nat.le_refl _⟩⟩
      rw [Nat.zero_add, List.getElem?_toArray, bc_append, List.getElem?_append_left (by rw [bc_length]; omega)]
    have hs12 := hx12.size
    refine apLQ _ (l' := two ((64 * lackL S 128 : Nat) : Int)) hv21 rfl rfl (fun b hb => by omega) (by rw [hS, two_length]; decide) ?_
    intro v54 w15 hv54 hx15
    have hx015 : Ext (fun b => sz w10 ≤ b) w10 w15 := (hx12.mono fun _ _ h => h.elim).trans hx15 fun _ _ h => h
    have hs15 := hx015.size
    obtain ⟨T, hT⟩ : ∃ T, T = S ++ two ((64 * lackL S 128 : Nat) : Int) := ⟨_, rfl⟩
    rw [← hT] at hv54
    have hTl : T.length = 34 := by rw [hT, List.length_append, hS, two_length]
    have hDg := digOf_get S
    have hDl := digOf_length S
    rw [← hT] at hDg
    generalize digOf S = D at *
    have hd0 : (List.replicate 133 (0 : Int)).length = 133 := by simp
    obtain ⟨w16, hw16⟩ : ∃ w16, w16 = w15.alloc (Obj.cells (ic (List.replicate 133 0)).toArray 91) := ⟨_, rfl⟩
    have hx16 : Ext (fun _ => False) w15 w16 := by rw [hw16]; exact (Ext.refl _ _).alloc _
    have hq16 : Hp w16 (sz w15) = some (Obj.cells (ic (List.replicate 133 0)).toArray 91) := by rw [hw16]; (first | exact hpt_ | fail)
    rw [← hw16]
    clear hw16
    have hv16 := Vec.ext (Vec.mono hv54 (Q' := fun b => b ≠ sz w15) fun b hb _ => by omega) hx16 fun _ _ _ => not_false
    obtain ⟨J, hJ⟩ : ∃ J : Value → World → Prop, J = fun v w' => ∃ (i : Nat) (A : List Int), i ≤ 133 ∧ v = i64 (i : Int) ∧ A.length = 133 ∧ A.take i = D.take i ∧ Ext (fun b => b = sz w15) w16 w' ∧ Hp w' (sz w15) = some (Obj.cells (ic A).toArray 91) := ⟨_, rfl⟩
    refine Loop1 J (fun v _ => 133 - (match v with | .int _ n => n.toNat | _ => 0)) (by rw [hJ]; exact ⟨0, _, by omega, rfl, hd0, rfl, Ext.refl _ _, hq16⟩) ?_
    intro v w17 hj
    rw [hJ] at hj
    obtain ⟨i, A, hi, rfl, hA, htk, hx17, hq17⟩ := hj
    have hl17 := Hp_lt hq17
    by_cases hlt : i < 133
    · have hlt' : (i : Int) < 133 := by omega
      simp (maxSteps := 2000000) (disch := first | exact dT_ | fail) only [hlt', p_lss, Branch_bool, and_true, Bool.true_eq_false, false_implies, forall_const, Int.toNat_natCast, decide_true]
      unfold F58x2
      have hv17 := Bytes.bin (Vec.ext hv16 hx17 fun b _ h e => h e)
      rcases hv17 with ⟨_, h0⟩ | ⟨B, o, cap, row, U, fr, rfl, hrow, hcells, -⟩
      · rw [h0] at hTl; simp at hTl
      have q1 : (i : Int).tdiv 4 = ((i / 4 : Nat) : Int) := by rw [Int.tdiv_eq_ediv_of_nonneg (by omega)]; omega
      have q2 : (i : Int).tmod 4 = ((i % 4 : Nat) : Int) := by rw [Int.tmod_eq_emod_of_nonneg (by omega)]; omega
      have hi4 : i / 4 < T.length := by omega
      have hg : row[o + i / 4]? = some (u8v (T.getD (i / 4) 0)) := by rw [hcells _ hi4, ← bc_getD T _ hi4, List.getElem?_toArray]
      have n1 : (6 - 2 * ((i % 4 : Nat) : Int)).toNat = 6 - 2 * (i % 4) := by omega
      have hwi : wr ((i / 4 : Nat) : Int) = ((i / 4 : Nat) : Int) := wr_in _ (by omega)
      have hwi2 : wr ((i % 4 : Nat) : Int) = ((i % 4 : Nat) : Int) := wr_in _ (by omega)
      have hand : ∀ (y : UInt8) (K : Value → Prop), PRun Try.prog (binOp .and 5 (u8v y) (Value.int .u8 3)) K = K (u8v (y &&& 3)) := fun y K => p_and8 _ K y 3
      have ha3 := and3 (shr8 (T.getD (i / 4) 0) (6 - 2 * (i % 4)))
      simp (maxSteps := 2000000) (disch := first | exact dT_ | fail) only [q1, q2, hwi, hrow, hg, n1, hand, hq17, hA, p_add, p_sub, p_mul, p_rem, p_quo, L1_cells, St_cells, cells_int, Option.elim_some, Nat.zero_add, List.size_toArray, List.length_cons, List.length_nil, Nat.reduceLeDiff, if_pos, true_and, i64w, wr_in, Int.toNat_natCast, Nat.mul_one, p_shr8, ic_length, ic_set, ix30, ix91, cv5_3, ld5, st3]
      refine ⟨?_, by omega⟩
      rw [hJ]
      refine ⟨i + 1, _, by omega, by congr 1, by rw [List.length_set]; exact hA, ?_, hx17.put _ _ fun _ => rfl, Hp_put_same _ _ _ hl17⟩
      rw [take_set_nextG _ _ _ (by omega), htk, List.take_add_one, hDg i hlt]
      have hdd : (digitL T i : Int) = ((shr8 (T.getD (i / 4) 0) (6 - 2 * (i % 4)) &&& 3).toNat : Int) := by rw [ha3]; rfl
      rw [hdd]; rfl
    · obtain rfl : i = 133 := by omega
      have hlt' : ¬ ((133 : Nat) : Int) < 133 := by omega
      have hAD := take_eq_of _ _ 133 hA hDl htk
      rw [hAD] at hq17
      have h8 := hx17.at (hx16.at (hx015.at h6 (by omega)) not_false) (by omega)
      have hl8 := Hp_lt h8
      have s2 : splice (ic (List.replicate 133 (0 : Int))).toArray 0 (ic D).toArray = (ic D).toArray := splice_all _ _ (by simp [ic_length, hDl])
      simp (maxSteps := 2000000) (disch := first | exact dT_ | fail) only [hlt', hq17, h8, hDl, hd0, s2, ext_ic0 hDl, p_lss, Ln_cells, St_cells, Hp_put_same, cells_agg, Branch_bool, Nat.zero_add, List.size_toArray, Nat.reduceLeDiff, if_pos, true_and, and_self, Bool.false_eq_true, false_implies, forall_const, Nat.sub_self, Int.toNat_natCast, ic_length, decide_false, st91]
      exact hk _ ((((hx015.mono fun b hb h => by omega).trans hx16 fun _ _ h => h.elim).trans hx17 fun b hb h => by omega).put _ _ fun _ => rfl)
end Go.Proofs
namespace Go.Proofs
open Go Go.Lf
set_option maxRecDepth 20000
set_option maxHeartbeats 2000000
set_option linter.unusedSimpArgs false
set_option linter.unusedVariables false
section
variable {w0 w : World} {m : Nat} {c : Value} {l : List UInt8} {P : List Nat} {K : Value → World → Prop}
theorem rgPHead (hR : Rg w0 m (.slice none 0 0) [] P w) {name : List UInt8} {nm vq : Value} {q mark : Int} (hnm : nm = .agg (kc name q).toArray) (hvq : vq = i64 mark) (hn : name.length = 16) (hk : ∀ c w', Rg w0 m c (headL name q ++ two mark) P w' → RgX m P w w' → K c w') : CallF Try.prog 71 #[nm, vq] w K := by
  subst hnm hvq
  refine CallF_by Try.call71 (phead_spec hn q mark) ?_
  rintro c w' ⟨h1, h2⟩
  have h2' : RgX m P w w' := h2.mono fun _ _ h => h.elim
  exact hk c w' (hR.next (Vec.mono h1 fun b _ hb => hR.fresh b hb) h2') h2'
theorem rgPair (hR : Rg w0 m c l P w) {mv : Value} {msg : List UInt8} {Q : Nat → Prop} (hm : BIn w0 mv msg Q) (hmm : m = sz w0) (hl : l.length + msg.length ≤ 1000000) (hk : ∀ w', Rg w0 m c l P w' → RgX m P w w' → K (idv (sha (l ++ msg))) w') : CallF Try.prog 42 #[c, mv] w K := by
  refine CallF_by Try.call42 (pair_spec (Bytes.of hR.1) (hm.ext hR.2.2.2 fun b hb _ h => by omega).of hl) ?_
  rintro _ w' ⟨rfl, h2⟩
  have h2' : RgX m P w w' := h2.mono fun _ _ h => h.elim
  exact hk w' (hR.next (Vec.ext hR.1 h2 fun _ _ _ => not_false) h2') h2'
theorem rgLdK {name : List UInt8} {q : Int} {p : Nat} (h : Hp w p = some (Obj.cells (kc name q).toArray 96)) (hn : name.length = 16) {nm : Value} (hnm : nm = .agg (kc name q).toArray) : QRun Try.prog (Instr.loadAt 96 (ptr p 0)) w fun u => u = nm := by
  subst hnm
  have hks := kc_size hn q
  simp (maxSteps := 2000000) (disch := first | exact dT_ | fail) only [h, hks, ext_kc hn q, Ln_cells, Nat.zero_add, Nat.reduceLeDiff, if_pos, ld96]
end
theorem pdigits_spec {w : World} {name cc msg : List UInt8} {mv : Value} {Qm : Nat → Prop} (hn : name.length = 16) (hs : cc.length = 32) (hmsg : BIn w mv msg Qm) (hml : msg.length ≤ 100000) (q : Int) :
    Calls Try.prog 58 #[.agg (kc name q).toArray, idv cc, mv] w (retK fun v w' => v = .agg (ic (digD name q cc msg)).toArray ∧ Ext (fun _ => False) w w') := by
  refine F58_ok _ _ _ _ _ ?_
  unfold F58
  have hks := kc_size hn q
  simp (maxSteps := 2000000) (disch := first | exact dT_ | fail) only [hks, ext_kc hn q, r_box, Ln_cells, Hp_drew, Hp_alloc_new, Hp_alloc_old, sz_alloc, cells_agg, Nat.zero_add, Nat.reduceLeDiff, if_pos, slA25, ld96, al91, zv91]
  obtain ⟨w4, hw4⟩ : ∃ w4, w4 = (((w.alloc (Obj.cells (kc name q).toArray 96)).alloc (Obj.cells (bc cc).toArray 25)).alloc (Obj.cells (ic (List.replicate 133 0)).toArray 91)).drew := ⟨_, rfl⟩
  have hx4 : Ext (fun _ => False) w w4 := by rw [hw4]; exact ((((Ext.refl _ _).alloc _).alloc _).alloc _).drew
  have h4 : Hp w4 (sz w) = some (Obj.cells (kc name q).toArray 96) := by rw [hw4]; (first | exact hpt_ | fail)
  have h7 : Hp w4 (sz w + 1) = some (Obj.cells (bc cc).toArray 25) := by rw [hw4]; (first | exact hpt_ | fail)
  have h8 : Hp w4 (sz w + 1 + 1) = some (Obj.cells (ic (List.replicate 133 0)).toArray 91) := by rw [hw4]; (first | exact hpt_ | fail)
  have hs4 : sz w4 = sz w + 1 + 1 + 1 := by rw [hw4]; (first | exact szT_ | fail)
  rw [← hw4]
  clear hw4
  obtain ⟨m, hm⟩ : ∃ m, m = sz w4 := ⟨_, rfl⟩
  have hR := Rg.start m hm
  have hmB : BIn w4 mv msg Qm := hmsg.ext hx4 fun _ _ _ => not_false
  have h32 : (List.replicate 32 (0 : UInt8)).length = 32 := by simp
  have hT : ∀ {c : Value} {P : List Nat} {w' : World} {p : Nat}, Rg w4 m c (headL name q ++ two 33153 ++ cc) P w' → p ∈ P → Hp w' p = some (Obj.cells (bc (List.replicate 32 0)).toArray 25) → Hp w' (sz w + 1 + 1) = some (Obj.cells (ic (List.replicate 133 0)).toArray 91) →
      Run Try.prog (Instr.storeAt 25 (ptr p 0) (idv (sha (headL name q ++ two 33153 ++ cc ++ msg)))) w' fun _ w10 => F58x4 w10 (ptr p 0) (ptr (sz w + 1 + 1) 0) fun v w' => v = .agg (ic (digD name q cc msg)).toArray ∧ Ext (fun _ => False) w w' := by
    intro c P w' p hR hp h9 h8
    have hl9 := Hp_lt h9
    have hpm := hR.2.1 p hp
    have e : sha (headL name q ++ two 33153 ++ cc ++ msg) = digestL name q cc msg := rfl
    rw [e, digD_of]
    have hl : (digestL name q cc msg).length = 32 := sha_length _
    generalize digestL name q cc msg = S at *
    have s1 : splice (bc (List.replicate 32 0)).toArray 0 (bc S).toArray = (bc S).toArray := splice_bc_all (by rw [h32, hl])
    simp (maxSteps := 2000000) (disch := first | exact dT_ | fail) only [h9, h32, hl, s1, St_cells, cells_agg, Nat.zero_add, List.size_toArray, Nat.reduceLeDiff, if_pos, and_self, bc_length, st25]
    refine pdig_tail hl (Hp_put_same _ _ _ hl9) ((Hp_put_other _ _ _ _ (by omega)).trans h8) ?_
    intro W' hx'
    refine ⟨rfl, ?_⟩
    have hxa : Ext (fun b => m ≤ b) w4 (put w' p (Obj.cells (bc S).toArray 25)) := hR.2.2.2.put _ _ fun _ => hpm.1
    exact (hx4.trans2 hxa (fun _ _ h => h) fun b hb h => by omega).trans hx' fun b hb h => by omega
  unfold F58x5
  repeat' (first | ((with_reducible refine rgLdK h4 hn ?_); rfl) | with_reducible refine And.intro ?_ ?_ | ((with_reducible refine rgPHead hR (name := name) (q := q) (mark := 33153) ?_ ?_ hn ?_); rfl; rfl; intro c w' hR' hX; ((replace h4 := hX.at h4 (.inr (by omega)); replace h7 := hX.at h7 (.inr (by omega)); (try replace h18 := hX.at h18 (.inl (by simp))); (try replace h9 := hX.at h9 (by first | exact .inl (by simp) | exact .inr (by omega))); (try replace h8 := hX.at h8 (.inr (by omega))); replace hR := hR'; clear hX hR'))) | ((with_reducible refine rgApp hR (BIn.arr (n := 32) (cap := 32) h7 hs).of ?_ ?_); ((simp only [headL_length, two_length, List.length_append, hn, hs]; omega)); intro c w' hR' hX; ((replace h4 := hX.at h4 (.inr (by omega)); replace h7 := hX.at h7 (.inr (by omega)); (try replace h18 := hX.at h18 (.inl (by simp))); (try replace h9 := hX.at h9 (by first | exact .inl (by simp) | exact .inr (by omega))); (try replace h8 := hX.at h8 (.inr (by omega))); replace hR := hR'; clear hX hR'))) | ((with_reducible refine rgPair hR hmB hm ?_ ?_); ((simp only [headL_length, two_length, List.length_append, hn, hs]; omega)); intro w' hR' hX; ((replace h4 := hX.at h4 (.inr (by omega)); replace h7 := hX.at h7 (.inr (by omega)); (try replace h18 := hX.at h18 (.inl (by simp))); (try replace h9 := hX.at h9 (by first | exact .inl (by simp) | exact .inr (by omega))); (try replace h8 := hX.at h8 (.inr (by omega))); replace hR := hR'; clear hX hR'))) | ((with_reducible refine rgId hR ?_); intro w' hR' hX h9; ((replace h4 := hX.at h4 (.inr (by omega)); replace h7 := hX.at h7 (.inr (by omega)); (try replace h18 := hX.at h18 (.inl (by simp))); (try replace h9 := hX.at h9 (by first | exact .inl (by simp) | exact .inr (by omega))); (try replace h8 := hX.at h8 (.inr (by omega))); replace hR := hR'; clear hX hR'))))
  all_goals exact hT hR (by simp) h9 h8
end Go.Proofs
namespace Go.Proofs
open Go Go.Lf
set_option maxRecDepth 20000
set_option maxHeartbeats 2000000
set_option linter.unusedSimpArgs false
set_option linter.unusedVariables false
theorem pback_spec {w : World} {B o cap : Nat} {name sig msg : List UInt8} {mv : Value} {Qm Qs : Nat → Prop} (hn : name.length = 16) (hsig : BIn w (.slice (some ⟨B, o, none⟩) 4292 cap) sig Qs) (hcap : 4292 ≤ cap) (h2 : sig.take 4 = four 2) (hmsg : BIn w mv msg Qm) (hml : msg.length ≤ 100000) (q : Int) :
    Calls Try.prog 37 #[idv name, i64 q, mv, .slice (some ⟨B, o, none⟩) 4292 cap] w (retK fun v w' => v = .tuple #[idv (backL name q msg sig), i64 0] ∧ Ext (fun _ => False) w w') := by
  refine F37_ok _ _ _ _ _ _ ?_
  unfold F37
  obtain ⟨hsl, -, row, U, fr, hrow, hcg⟩ := BIn.row hsig
  have hg4 : ∀ j, j < 4 → sig.getD j 0 = (four 2).getD j 0 := fun j hj => by
    rw [← h2, List.getD_eq_getElem?_getD, List.getD_eq_getElem?_getD, List.getElem?_take, if_pos hj]
  have g0 : row[o]? = some (Value.int .u8 0) := by have := hcg 0 (by omega); rw [hg4 0 (by omega)] at this; exact this
  have g1 : row[o + 1]? = some (Value.int .u8 0) := by have := hcg 1 (by omega); rw [hg4 1 (by omega)] at this; exact this
  have g2 : row[o + 2]? = some (Value.int .u8 0) := by have := hcg 2 (by omega); rw [hg4 2 (by omega)] at this; exact this
  have g3 : row[o + 3]? = some (Value.int .u8 2) := by have := hcg 3 (by omega); rw [hg4 3 (by omega)] at this; exact this
  obtain ⟨w3, hw3⟩ : ∃ w3, w3 = ((w.alloc (Obj.cells (bc name).toArray 49)).alloc (Obj.cells #[.slice (some ⟨B, o, none⟩) 4292 cap] 30)).alloc (Obj.cells (bc (List.replicate 32 0)).toArray 25) := ⟨_, rfl⟩
  have hx3 : Ext (fun _ => False) w w3 := by rw [hw3]; exact (((Ext.refl _ _).alloc _).alloc _).alloc _
  have h4 : Hp w3 (sz w) = some (Obj.cells (bc name).toArray 49) := by rw [hw3]; (first | exact hpt_ | fail)
  have h7 : Hp w3 (sz w + 1) = some (Obj.cells #[.slice (some ⟨B, o, none⟩) 4292 cap] 30) := by rw [hw3]; (first | exact hpt_ | fail)
  have h8 : Hp w3 (sz w + 1 + 1) = some (Obj.cells (bc (List.replicate 32 0)).toArray 25) := by rw [hw3]; (first | exact hpt_ | fail)
  have hs3 : sz w3 = sz w + 1 + 1 + 1 := by rw [hw3]; (first | exact szT_ | fail)
  have hr3 := hx3.at hrow not_false
  have h42 : decide (((4292 : Nat) : Int) = 4292) = true := by decide
  have d0 : decide ((0 : Int) = 0) = true := by decide
  have d2 : decide ((2 : Int) = 2) = true := by decide
  have h7' := h7
  have hr3' := hr3
  rw [hw3] at h7' hr3'
  simp (maxSteps := 2000000) (disch := first | exact dT_ | fail) only [h42, hr3', g0, g1, g2, g3, Pick_bool, cond_false, p_neq, r_box, L1_cells, Hp_alloc_new, Hp_alloc_old, sz_alloc, cells_agg, cells_sl, Branch_bool, Gdn_true, List.getElem?_toArray, List.getElem?_cons_zero, Option.elim_some, Nat.add_zero, Bool.not_true, true_and, Bool.false_eq_true, false_implies, forall_const, Nat.mul_one, decide_true, Int.reduceToNat, ix30, len30, ld5, ld25, ld30, al25, zv25]
  rw [← hw3]
  clear h7' hr3' hw3
  unfold F37x1
  simp (maxSteps := 2000000) (disch := first | exact dT_ | fail) only [h4, hn, ext_bc0 hn, p_makeFunc, put_allocN, L1_cells, Ln_cells, St_cells, Hp_drew, Hp_alloc_new, Hp_alloc_old, sz_alloc, cells_agg, cells_int, List.getElem?_toArray, Option.elim_some, Nat.zero_add, List.size_toArray, List.length_cons, List.length_nil, Nat.reduceAdd, Nat.reduceLeDiff, if_pos, and_true, and_self, splice_bc, splice_lit, splice_id, splice_bca, bc_length, Array.size_append, Nat.sub_self, Nat.reduceSub, List.set_cons_zero, List.length_replicate, bc_getL, slA25, bld96_0_1, ld25, ld30, ld49, ld96, st96, al25, al91, al96, zv25, zv91, zv96]
  have ek : (bc name).toArray ++ #[Value.int IntKind.i64 q] = (kc name q).toArray := by unfold kc; simp
  rw [ek]
  obtain ⟨w7, hw7⟩ : ∃ w7, w7 = ((w3.alloc (Obj.cells (kc name q).toArray 96)).alloc (Obj.cells (bc (List.replicate 32 0)).toArray 25)).drew := ⟨_, rfl⟩
  have hx7 : Ext (fun _ => False) w3 w7 := by rw [hw7]; exact (((Ext.refl _ _).alloc _).alloc _).drew
  have hk7 : Hp w7 (sz w3) = some (Obj.cells (kc name q).toArray 96) := by rw [hw7]; (first | exact hpt_ | fail)
  have h117 : Hp w7 (sz w3 + 1) = some (Obj.cells (bc (List.replicate 32 0)).toArray 25) := by rw [hw7]; (first | exact hpt_ | fail)
  have hs7 : sz w7 = sz w3 + 1 + 1 := by rw [hw7]; (first | exact szT_ | fail)
  rw [← hw7]
  clear hw7 ek
  have hks := kc_size hn q
  have h32 : (List.replicate 32 (0 : UInt8)).length = 32 := by simp
  have hcap4 : 4 < cap := by omega
  simp (maxSteps := 2000000) (disch := first | exact dT_ | fail) only [h7, L1_cells, List.getElem?_toArray, List.getElem?_cons_zero, Option.elim_some, Nat.reduceSub, cutAt_some, Nat.mul_one, Int.reduceToNat, slL30]
  have hx07 : Ext (fun _ => False) w w7 := hx3.trans hx7 fun _ _ h => h
  obtain ⟨cc, hcc⟩ : ∃ cc, cc = (sig.drop 4).take 32 := ⟨_, rfl⟩
  have hcl : cc.length = 32 := by rw [hcc, List.length_take, List.length_drop]; omega
  have hb46 : BOf w7 (.slice (some ⟨B, o + 4, none⟩) 4288 (cap - 4)) ((sig.drop 4).take 4288) := ((BIn.part hsig 4 4288 (cap - 4) (by omega)).ext hx07 fun _ _ _ => not_false).of
  have htk : ((sig.drop 4).take 4288).take 32 = cc := by rw [hcc, List.take_take]; congr 1
  have r1 : splice (bc (List.replicate 32 0)).toArray 0 (bc cc).toArray = (bc cc).toArray := splice_bc_all (by rw [h32, hcl])
  rw [r_copy Try.runUnderlying30 Try.sizeOf5 _ h117 (by rw [bc_size, h32]; decide) hb46, htk, r1]
  obtain ⟨w8, hw8⟩ : ∃ w8, w8 = put w7 (sz w3 + 1) (Obj.cells (bc cc).toArray 25) := ⟨_, rfl⟩
  have hx8 : Ext (fun b => b = sz w3 + 1) w7 w8 := by rw [hw8]; exact (Ext.refl _ _).put _ _ fun _ => rfl
  have h118 : Hp w8 (sz w3 + 1) = some (Obj.cells (bc cc).toArray 25) := by rw [hw8]; exact Hp_put_same _ _ _ (Hp_lt h117)
  rw [← hw8]
  clear hw8
  have hk8 := hx8.at hk7 (by omega)
  have hx08 : Ext (fun _ => False) w w8 := hx07.trans2 (M := fun _ => False) hx8 (fun _ _ h => h) fun b hb h => by omega
  have hx38 : Ext (fun _ => False) w3 w8 := hx7.trans2 (M := fun _ => False) hx8 (fun _ _ h => h) fun b hb h => by omega
  simp (maxSteps := 2000000) (disch := first | exact dT_ | fail) only [hk8, hks, ext_kc hn q, h118, hcl, ext_bc0 hcl, Ln_cells, Nat.zero_add, List.size_toArray, Nat.reduceLeDiff, if_pos, bc_length]
  refine CallF_by Try.call58 (pdigits_spec hn hcl (hmsg.ext hx08 fun _ _ _ => not_false) hml q) ?_
  rintro _ w9 ⟨rfl, hx9⟩
  have hDl := digD_length name q cc msg
  have hd0 : (List.replicate 133 (0 : Int)).length = 133 := by simp
  have s2 : splice (ic (List.replicate 133 (0 : Int))).toArray 0 (ic (digD name q cc msg)).toArray = (ic (digD name q cc msg)).toArray := splice_all _ _ (by simp [ic_length, hDl])
  have hk9 := hx9.at hk8 not_false
  have hlk9 := Hp_lt hk9
  simp (maxSteps := 2000000) (disch := first | exact dT_ | fail) only [hd0, hDl, s2, hk9, hks, ext_kc hn q, put_allocN, Ln_cells, St_cells, Hp_alloc_new, Hp_alloc_old, cells_agg, Nat.zero_add, List.size_toArray, Nat.reduceLeDiff, if_pos, and_self, ic_length, st91]
  obtain ⟨w11, hw11⟩ : ∃ w11, w11 = w9.alloc (Obj.cells (ic (digD name q cc msg)).toArray 91) := ⟨_, rfl⟩
  have hx11 : Ext (fun _ => False) w9 w11 := by rw [hw11]; exact (Ext.refl _ _).alloc _
  have hd11 : Hp w11 (sz w9) = some (Obj.cells (ic (digD name q cc msg)).toArray 91) := by rw [hw11]; (first | exact hpt_ | fail)
  have hk11a := hx11.at hk9 not_false
  try rw [← hw11]
  have hx911 : Ext (fun _ => False) w3 w11 := (hx38.trans hx9 fun _ _ h => h).trans hx11 fun _ _ h => h
  have hx011 : Ext (fun _ => False) w w11 := hx3.trans hx911 fun _ _ h => h
  clear hw11
  have hbk : backL name q msg sig = endsL name q fun i => walkL name q i ((digitsL name q cc msg).getD i 0) (3 - (digitsL name q cc msg).getD i 0) (partL sig i) := by rw [hcc]; rfl
  rw [hbk]
  refine CallF_by Try.call59 (pends_spec hn q (fun i hi => walkL_length _ _ _ _ _ _ (by unfold partL; rw [List.length_take, List.length_drop]; omega)) fun i hi w' hx' => pback1_spec hn i hi (hx'.at hk11a (by have := Hp_lt hk11a; omega)) (hx'.at hd11 (by have := Hp_lt hd11; omega)) (hx'.at (hx911.at h7 not_false) (by have := Hp_lt (hx911.at h7 not_false); omega)) ((hsig.ext hx011 fun _ _ _ => not_false).ext hx' fun b hb _ h => by omega) hcap) ?_
  rintro _ w12 ⟨rfl, hx12⟩
  have hl : (endsL name q fun i => walkL name q i ((digitsL name q cc msg).getD i 0) (3 - (digitsL name q cc msg).getD i 0) (partL sig i)).length = 32 := sha_length _
  generalize (endsL name q fun i => walkL name q i ((digitsL name q cc msg).getD i 0) (3 - (digitsL name q cc msg).getD i 0) (partL sig i)) = S at *
  have h812 := hx12.at (hx911.at h8 not_false) not_false
  have hl812 := Hp_lt h812
  have s3 : splice (bc (List.replicate 32 0)).toArray 0 (bc S).toArray = (bc S).toArray := splice_bc_all (by rw [h32, hl])
  simp (maxSteps := 2000000) (disch := first | exact dT_ | fail) only [h812, h32, hl, s3, ext_bc0 hl, Ln_cells, St_cells, Hp_put_same, cells_agg, Nat.zero_add, List.size_toArray, Nat.reduceLeDiff, if_pos, true_and, and_self, bc_length, st25]
  exact (hx011.trans hx12 fun _ _ h => h).put _ _ fun h => by omega
end Go.Proofs
namespace Go.Proofs
open Go Go.Lf
set_option maxRecDepth 20000
set_option maxHeartbeats 2000000
set_option linter.unusedSimpArgs false
set_option linter.unusedVariables false
theorem lfour_spec {w : World} (n : Int) : Calls Try.prog 62 #[i64 n] w (retK fun v w' => BIn w' v (four n) (fun b => b = sz w) ∧ Ext (fun _ => False) w w') := by
  refine F62_ok _ _ _ ?_
  unfold F62
  have hb : IntKind.i64.bits = 64 := rfl
  simp (maxSteps := 2000000) (disch := first | exact dT_ | fail) only [bsU4, u8b, p_shri, Int.reduceToNat, Int.reducePow, cv3_5]
  exact ⟨BIn.arr (n := 4) (cap := 4) (l := four n) (Hp_alloc_new _ _ _ rfl) rfl, (Ext.refl _ _).alloc _⟩
theorem lnode_spec {w : World} {B o U cap n : Nat} {row : Array Value} {name L : List UInt8} (hn : name.length = 16) (r : Int) (kind : UInt8) (hn2 : n ≤ 2) (hL : L.length = 32 * n) (hrow : Hp w B = some (.cells row U (0, 0))) (hcells : ∀ j, j < L.length → row[o + j]? = (bc L)[j]?) (hcap : n ≤ cap) :
    Calls Try.prog 38 #[idv name, i64 r, u8v kind, .slice (some ⟨B, o, none⟩) n cap] w (retK fun v w' => v = idv (nodeL name r kind L) ∧ Ext (fun _ => False) w w') := by
  refine F38_ok _ _ _ _ _ _ ?_
  unfold F38
  simp (maxSteps := 2000000) (disch := first | exact dT_ | fail) only [p_add, p_mul, r_box, sz_alloc, cells_agg, forall_const, wr_in, Int.reduceToNat, slA49, len72, mk30, al25, zv25]
  obtain ⟨w2, hw2⟩ : ∃ w2, w2 = (w.alloc (Obj.cells (bc name).toArray 49)).alloc (Obj.cells (bc (List.replicate 32 0)).toArray 25) := ⟨_, rfl⟩
  have hx2 : Ext (fun _ => False) w w2 := by rw [hw2]; exact ((Ext.refl _ _).alloc _).alloc _
  have h4 : Hp w2 (sz w) = some (Obj.cells (bc name).toArray 49) := by rw [hw2]; (first | exact hpt_ | fail)
  have h8 : Hp w2 (sz w + 1) = some (Obj.cells (bc (List.replicate 32 0)).toArray 25) := by rw [hw2]; (first | exact hpt_ | fail)
  have hs2 : sz w2 = sz w + 1 + 1 := by rw [hw2]; (first | exact szT_ | fail)
  try rw [← hs2]
  rw [← hw2]
  clear hw2
  obtain ⟨C, hC⟩ : ∃ C, C = (22 + (n : Int) * 32).toNat := ⟨_, rfl⟩
  rw [← hC]
  obtain ⟨m, hm⟩ : ∃ m, m = sz w2 := ⟨_, rfl⟩
  have hxn : Ext (fun _ => False) w2 (w2.alloc (Obj.cells (bc (List.replicate C 0)).toArray 5)) := (Ext.refl _ _).alloc _
  have h0 : BOwn 5 (w2.alloc (Obj.cells (bc (List.replicate C 0)).toArray 5)) (.slice (some ⟨sz w2, 0, none⟩) 0 C) [] (sz w2) := BOwn.fresh (l := []) (bc (List.replicate C 0)) rfl rfl (by rw [bc_length, List.length_replicate]; simp) (Nat.zero_le _) (Nat.le_refl _)
  refine apQ _ (Q := fun b => m ≤ b) (Vec.mono h0 fun b _ hb => by omega) (BIn.arr (n := 16) (cap := 16) (hxn.at h4 not_false) hn).of (fun b hb => by rw [sz_alloc] at hb; omega) (by rw [hn]; decide) ?_
  intro v19 w4 hv4 hx4
  rw [List.nil_append] at hv4
  have hx24 : Ext (fun b => m ≤ b) w2 w4 := (hxn.mono fun _ _ h => h.elim).trans hx4 fun _ _ h => h
  have hs4 := hx24.size
  refine CallF_by Try.call62 (lfour_spec r) ?_
  rintro v22 w5 ⟨hv22, hx5⟩
  have hx25 := hx24.trans hx5 fun _ _ h => h.elim
  have hs5 := hx25.size
  refine apQ _ (Vec.ext hv4 hx5 fun _ _ _ => not_false) hv22.of (fun b hb => by omega) (by rw [hn, four_length]; decide) ?_
  intro v23 w6 hv6 hx6
  have hx26 := hx25.trans hx6 fun _ _ h => h
  have hs6 := hx26.size
  simp (maxSteps := 2000000) (disch := first | exact dT_ | fail) only [bsU2]
  refine apLQ _ (l' := [kind, kind]) hv6 rfl rfl (fun b hb => by omega) (by rw [List.length_append, hn, four_length]; simp) ?_
  intro v28 w8 hv8 hx8
  have hx28 := hx26.trans hx8 fun _ _ h => h
  have h32 : (List.replicate 32 (0 : UInt8)).length = 32 := by simp
  have hlB := Hp_lt hrow
  obtain ⟨J, hJ⟩ : ∃ J : Value → Value → World → Prop, J = fun u v w' => ∃ i : Nat, i ≤ n ∧ v = i64 (i : Int) ∧ Bytes 5 w' u (name ++ four r ++ [kind, kind] ++ L.take (32 * i)) (fun b => m ≤ b) ∧ Ext (fun b => m ≤ b) w2 w' := ⟨_, rfl⟩
  refine Loop2 J (fun _ v _ => n - (match v with | .int _ n => n.toNat | _ => 0)) (by rw [hJ]; exact ⟨0, by omega, rfl, by simpa using hv8, hx28⟩) ?_
  clear hv8 hx8
  intro u v w9 hj
  rw [hJ] at hj
  obtain ⟨i, hi, rfl, hv, hx9⟩ := hj
  have hs9 := hx9.size
  have hln : (name ++ four r ++ [kind, kind] ++ L.take (32 * i)).length = 22 + 32 * i := by
    rw [List.length_append, List.length_append, List.length_append, hn, four_length, List.length_take]; simp; omega
  unfold F38x1
  by_cases hlt : i < n
  · have hlt' : (i : Int) < (n : Int) := by omega
    have hr9 := hx9.at (hx2.at hrow not_false) (by omega)
    obtain ⟨t, ht⟩ : ∃ t, t = (L.drop (32 * i)).take 32 := ⟨_, rfl⟩
    have htl : t.length = 32 := by rw [ht, List.length_take, List.length_drop]; omega
    have hrs : o + i * 32 + 32 ≤ row.size := by
      have := hcells (i * 32 + 31) (by omega)
      rw [bc_getL _ _ (by omega)] at this
      have hlt2 := (Array.getElem?_eq_some_iff.1 this).1
      omega
    have hext : row.extract (o + i * 32) (o + i * 32 + 32) = (bc t).toArray := by
      apply Array.ext_getElem?
      intro k
      rw [Array.getElem?_extract, show (bc t).toArray[k]? = (bc t)[k]? from List.getElem?_toArray]
      by_cases hk : k < 32
      · rw [if_pos (by omega), Nat.add_assoc, hcells _ (by omega), ht, bc_get, bc_get, List.getElem?_take, if_pos hk, List.getElem?_drop, show i * 32 + k = 32 * i + k by omega]
      · rw [if_neg (by omega), List.getElem?_eq_none (by rw [bc_length]; omega)]
    have s1 : splice (bc (List.replicate 32 0)).toArray 0 (bc t).toArray = (bc t).toArray := splice_bc_all (by rw [h32, htl])
    simp (maxSteps := 2000000) (disch := first | exact dT_ | fail) only [hlt', hr9, hext, h32, htl, s1, p_add, p_lss, put_allocN, Ln_cells, St_cells, Hp_alloc_new, cells_agg, Branch_bool, Nat.zero_add, List.size_toArray, Nat.reduceLeDiff, if_pos, and_true, and_self, Bool.true_eq_false, false_implies, forall_const, bc_length, wr_in, Int.toNat_natCast, decide_true, slA25, ix72, ld25, st25, al25, zv25]
    have hxa : Ext (fun _ => False) w9 (w9.alloc (Obj.cells (bc t).toArray 25)) := (Ext.refl _ _).alloc _
    refine apQ _ (Vec.ext hv hxa fun _ _ _ => not_false) (BIn.arr (n := 32) (cap := 32) (Hp_alloc_new _ _ _ rfl) htl).of (fun b hb => by rw [sz_alloc] at hb; omega) (by omega) ?_
    intro v37 w12 hv12 hx12
    refine ⟨?_, by omega⟩
    rw [hJ]
    refine ⟨i + 1, by omega, by congr 1, ?_, (hx9.trans hxa fun _ _ h => h.elim).trans hx12 fun _ _ h => h⟩
    have e : L.take (32 * (i + 1)) = L.take (32 * i) ++ t := by rw [ht, show 32 * (i + 1) = 32 * i + 32 by omega, List.take_add]
    rw [e, ← List.append_assoc]
    exact hv12
  · obtain rfl : i = n := by omega
    have hlt' : ¬ (i : Int) < (i : Int) := by omega
    rw [List.take_of_length_le (by omega)] at hv hln
    have h89 := hx9.at h8 (by omega)
    simp (maxSteps := 2000000) (disch := first | exact dT_ | fail) only [hlt', p_add, p_lss, cells_agg, Branch_bool, true_and, Bool.false_eq_true, false_implies, forall_const, Nat.sub_self, wr_in, Int.toNat_natCast, decide_false, slA25, ld25, al25, zv25]
    refine CallF_by Try.call22 (sum_spec (Bytes.of hv) (by omega)) ?_
    rintro _ w13 ⟨rfl, hx13⟩
    have e : sha (name ++ four r ++ [kind, kind] ++ L) = nodeL name r kind L := rfl
    rw [e]
    have hl : (nodeL name r kind L).length = 32 := sha_length _
    generalize nodeL name r kind L = S at *
    have h813 := hx13.at h89 not_false
    have hl813 := Hp_lt h813
    have s1 : splice (bc (List.replicate 32 0)).toArray 0 (bc S).toArray = (bc S).toArray := splice_bc_all (by rw [h32, hl])
    simp (maxSteps := 2000000) (disch := first | exact dT_ | fail) only [h813, h32, hl, s1, ext_bc0 hl, Ln_cells, St_cells, Hp_put_same, cells_agg, Nat.zero_add, List.size_toArray, Nat.reduceLeDiff, if_pos, true_and, and_self, bc_length, st25]
    exact ((hx2.trans2 hx9 (fun _ _ h => h) fun b hb h => by omega).trans hx13 fun _ _ h => h).put _ _ fun h => by omega
end Go.Proofs
namespace Go.Proofs
open Go Go.Lf
set_option maxRecDepth 20000
set_option maxHeartbeats 2000000
set_option linter.unusedSimpArgs false
set_option linter.unusedVariables false
/-- what is signed -/
def claimL (version : Int) (node : List UInt8) : List UInt8 := [108, 97, 116, 116, 105, 99, 101] ++ four version ++ node
theorem claimL_length (version : Int) {node : List UInt8} (h : node.length = 32) : (claimL version node).length = 43 := by simp [claimL, four_length, h]
theorem id9_spec {w : World} {v : Value} {b : List UInt8} {Q : Nat → Prop} (hb : BIn w v b Q) (hl : 32 ≤ b.length) :
    Calls Try.prog 29 #[v] w (retK fun v w' => v = idv (b.take 32) ∧ Ext (fun _ => False) w w') := by
  refine F29_ok _ _ _ ?_
  unfold F29
  rcases hb with ⟨rfl, rfl⟩ | ⟨B, o, cap, row, U, fr, rfl, hrow, hcells, -⟩
  · simp at hl
  have hg : ∀ j, j < b.length → row[o + j]? = some (u8v (b.getD j 0)) := fun j hj => by rw [hcells _ hj, ← bc_getD b _ hj, List.getElem?_toArray]
  simp (maxSteps := 2000000) (disch := first | exact dT_ | fail) only [sz_alloc, cells_agg, forall_const, al25, zv25]
  obtain ⟨w2, hw2⟩ : ∃ w2, w2 = (w.alloc (Obj.cells (bc (List.replicate 32 0)).toArray 25)).alloc (Obj.cells (bc (List.replicate 32 0)).toArray 25) := ⟨_, rfl⟩
  have hx2 : Ext (fun _ => False) w w2 := by rw [hw2]; exact ((Ext.refl _ _).alloc _).alloc _
  have h2 : Hp w2 (sz w) = some (Obj.cells (bc (List.replicate 32 0)).toArray 25) := by rw [hw2]; (first | exact hpt_ | fail)
  have h3 : Hp w2 (sz w + 1) = some (Obj.cells (bc (List.replicate 32 0)).toArray 25) := by rw [hw2]; (first | exact hpt_ | fail)
  rw [← hw2]
  clear hw2
  have h32 : (List.replicate 32 (0 : UInt8)).length = 32 := by simp
  have htl : (b.take 32).length = 32 := by rw [List.length_take]; omega
  have hlr := Hp_lt hrow
  obtain ⟨J, hJ⟩ : ∃ J : Value → World → Prop, J = fun v w' => ∃ (i : Nat) (N : List UInt8), i ≤ 32 ∧ v = i64 (i : Int) ∧ N.length = 32 ∧ N.take i = (b.take 32).take i ∧ Ext (fun b => b = sz w + 1) w2 w' ∧ Hp w' (sz w + 1) = some (Obj.cells (bc N).toArray 25) := ⟨_, rfl⟩
  refine Loop1 J (fun v _ => 32 - (match v with | .int _ n => n.toNat | _ => 0)) (by rw [hJ]; exact ⟨0, _, by omega, rfl, h32, rfl, Ext.refl _ _, h3⟩) ?_
  intro v w6 hj
  rw [hJ] at hj
  obtain ⟨i, N, hi, rfl, hNl, hNt, hx6, h36⟩ := hj
  have hl36 := Hp_lt h36
  have hr6 := hx6.at (hx2.at hrow not_false) (by omega)
  unfold F29x1
  by_cases hlt : i < 32
  · have hlt' : (i : Int) < 32 := by omega
    have hgi := hg i (by omega)
    simp (maxSteps := 2000000) (disch := first | exact dT_ | fail) only [hlt', hr6, hgi, h36, hNl, p_add, p_lss, L1_cells, Ln_cells, St_cells, cells_int, Branch_bool, Option.elim_some, Nat.zero_add, List.size_toArray, List.length_cons, List.length_nil, Nat.reduceLeDiff, if_pos, and_true, true_and, Bool.true_eq_false, false_implies, forall_const, ext_bc0, splice_lit, bc_length, wr_in, Int.toNat_natCast, Nat.mul_one, decide_true, ix25, ix30, ld5, ld25, st5, st25]
    refine ⟨?_, by omega⟩
    rw [hJ, set_bc]
    refine ⟨i + 1, N.set i (b.getD i 0), by omega, by congr 1, by rw [List.length_set]; exact hNl, ?_, hx6.put _ _ fun _ => rfl, Hp_put_same _ _ _ hl36⟩
    rw [take_set_nextB _ _ _ (by omega), hNt, take_nextB (b.take 32) i (by omega)]
    congr 2
    rw [List.getD_eq_getElem?_getD, List.getD_eq_getElem?_getD, List.getElem?_take, if_pos hlt]
  · obtain rfl : i = 32 := by omega
    have hlt' : ¬ ((32 : Nat) : Int) < 32 := by omega
    obtain rfl := take_eq_of _ _ 32 hNl htl hNt
    have h26 := hx6.at h2 (by omega)
    have hl26 := Hp_lt h26
    generalize b.take 32 = S at *
    have s1 : splice (bc (List.replicate 32 0)).toArray 0 (bc S).toArray = (bc S).toArray := splice_bc_all (by rw [h32, htl])
    simp (maxSteps := 2000000) (disch := first | exact dT_ | fail) only [hlt', h36, htl, h26, h32, s1, ext_bc0 htl, p_add, p_lss, Ln_cells, St_cells, Hp_put_same, cells_agg, Branch_bool, Nat.zero_add, List.size_toArray, Nat.reduceLeDiff, if_pos, true_and, and_self, Bool.false_eq_true, false_implies, forall_const, bc_length, Nat.sub_self, wr_in, Int.toNat_natCast, decide_false, ld25, st25]
    exact (hx2.trans2 hx6 (fun _ _ h => h) fun b hb h => by omega).put _ _ fun h => by omega
end Go.Proofs
namespace Go.Proofs
open Go Go.Lf
set_option maxRecDepth 20000
set_option maxHeartbeats 2000000
set_option linter.unusedSimpArgs false
set_option linter.unusedVariables false
/-- []byte("..") of a constant: the row just laid is marked behind its end -/
theorem r_convConst (w : World) (C : Array Value) (n c : Nat) (K : Value → World → Prop) : Run Try.prog (convert 30 30 (.slice (some ⟨sz w, 0, none⟩) n c)) (w.alloc (.cells C 5)) K = K (.slice (some ⟨sz w, 0, none⟩) n c) (w.alloc (.cells C 5 (C.size, C.size + 1))) :=
  Run_eq (Go.Lib.run_convert_bytes_const w 30 5 C n c Try.underlying30 Try.underlying5) K
/-- append to a full slice -/
theorem apFull (R : TypeId) {w : World} {a : Option Addr} {cap : Nat} {x : Value} {l l' : List UInt8} {K : Value → World → Prop} (hv : BOf w (.slice a l.length cap) l) (hx : BOf w x l') (hfull : cap < l.length + l'.length) (hsm : l.length + l'.length ≤ 1000000000)
    (hk : ∀ v' w', Bytes 5 w' v' (l ++ l') (fun b => b = sz w) → Ext (fun _ => False) w w' → K v' w') : Run Try.prog (Builtin.append_ #[30, 30] R #[.slice a l.length cap, x]) w K := by
  obtain ⟨v', w', hr, h1, h2⟩ := run_appendFull (P := Try.prog) (ti := Try.t5) (zv := z5) Try.runUnderlying30 Try.sizeOf5 Try.runUnderlying30 (by simp) (fun w => run_typeInfo w Try.type5) (by rw [show Try.t5.bytes = 1 from by kernel_rfl]; decide) hz5 (by kernel_rfl) R hv (BOf.src hx) (by rw [show Try.t5.bytes = 1 from by kernel_rfl]; omega) hfull
  unfold Run; rw [hr]
  refine hk v' w' ?_ h2
  unfold Bytes
  rw [bc_append, List.length_append]
  exact h1
end Go.Proofs
namespace Go.Proofs
open Go Go.Lf
set_option maxRecDepth 20000
set_option maxHeartbeats 2000000
set_option linter.unusedSimpArgs false
set_option linter.unusedVariables false
theorem BOf_ext {w w' : World} {v : Value} {l : List UInt8} (h : BOf w v l) (x : Ext (fun _ => False) w w') : BOf w' v l := by
  rcases h with h | ⟨b, o, cap, row, U, fr, h1, h2, h3⟩
  · exact .inl h
  · exact .inr ⟨b, o, cap, row, U, fr, h1, x.at h2 not_false, h3⟩
theorem four9_full {w : World} {a : Option Addr} {k cap : Nat} {l : List UInt8} (hkl : k = l.length) (hv : BOf w (.slice a k cap) l) (hfull : cap < l.length + 4) (hl : l.length ≤ 1000000) (n : Int) :
    Calls Try.prog 31 #[.slice a k cap, i64 n] w (retK fun v' w' => Bytes 5 w' v' (l ++ four n) (fun b => sz w ≤ b) ∧ Ext (fun _ => False) w w') := by
  subst hkl
  refine F31_ok _ _ _ _ ?_
  unfold F31
  have hb : IntKind.i64.bits = 64 := rfl
  simp (maxSteps := 2000000) (disch := first | exact dT_ | fail) only [bsU4, u8b, p_shri, Int.reduceToNat, Int.reducePow, cv3_5]
  have hx : Ext (fun _ => False) w (w.alloc (.cells (bc (four n)).toArray 5)) := (Ext.refl _ _).alloc _
  refine apFull _ (l' := four n) (BOf_ext hv hx) (BIn.arr (n := 4) (cap := 4) (Hp_alloc_new _ _ _ rfl) rfl).of (by rw [four_length]; omega) (by rw [four_length]; omega) ?_
  intro v' w' h1 h2
  exact ⟨Vec.mono h1 fun b _ h => by rw [sz_alloc] at h; omega, hx.trans h2 fun _ _ h => h⟩
end Go.Proofs
namespace Go.Proofs
open Go Go.Lf
set_option maxRecDepth 20000
set_option maxHeartbeats 2000000
set_option linter.unusedSimpArgs false
set_option linter.unusedVariables false
/-- []byte("..") of a constant whose row lies anywhere -/
theorem run_convAt {w : World} {b : Nat} {C : Array Value} (h : Hp w b = some (.cells C 5 (0, 0))) (n c : Nat) : (convert 30 30 (.slice (some ⟨b, 0, none⟩) n c)).run Try.prog w = .ok (.slice (some ⟨b, 0, none⟩) n c) (put w b (.cells C 5 (C.size, C.size + 1))) := by
  have hsh : w.shape? b = some (5, C.size) := by
    have h' : w.heap[b]? = some (.cells C 5 (0, 0)) := h
    unfold World.shape?
    rw [h']
  have hfr : w.freeze ⟨b, C.size, none⟩ 1 = put w b (.cells C 5 (C.size, C.size + 1)) := by
    have h' : w.heap[b]? = some (.cells C 5 (0, 0)) := h
    unfold World.freeze
    rw [if_neg (by decide)]
    unfold put
    congr 1
    apply Array.ext_getElem?
    intro i
    rw [Array.getElem?_modify, Array.getElem?_setIfInBounds]
    have hlt := (Array.getElem?_eq_some_iff.1 h').1
    by_cases hi : b = i
    · subst hi
      rw [if_pos rfl, if_pos rfl, if_pos hlt, h']
      rfl
    · rw [if_neg hi, if_neg hi]
  simp [convert, run_underlying Try.underlying30, run_underlying Try.underlying5, markStringish, hsh]
  exact hfr
/-- a constant's bytes as a slice: laid, and marked -/
theorem r_convAt {w : World} {b : Nat} {l : List UInt8} (h : Hp w b = some (.cells (bc l).toArray 5)) (n c : Nat) {K : Value → World → Prop}
    (hk : ∀ w', BIn w' (.slice (some ⟨b, 0, none⟩) l.length c) l (fun x => x = b) → Ext (fun x => x = b) w w' → K (.slice (some ⟨b, 0, none⟩) n c) w') : Run Try.prog (convert 30 30 (.slice (some ⟨b, 0, none⟩) n c)) w K := by
  rw [Run_eq (run_convAt h n c)]
  exact hk _ (BIn.arr (Hp_put_same _ _ _ (Hp_lt h)) rfl) ((Ext.refl _ _).put _ _ fun _ => rfl)
theorem claim9_spec {w : World} {node : List UInt8} (hn : node.length = 32) (version : Int) : Calls Try.prog 17 #[i64 version, idv node] w (retK fun v w' => Bytes 5 w' v (claimL version node) (fun b => sz w ≤ b) ∧ Ext (fun _ => False) w w') := by
  refine F17_ok _ _ _ _ ?_
  unfold F17
  rw [r_box, idv_cells, slA25]
  obtain ⟨w1, hw1⟩ : ∃ w1, w1 = (w.alloc (Obj.cells (bc node).toArray 25)).drew := ⟨_, rfl⟩
  have hx1 : Ext (fun _ => False) w w1 := by rw [hw1]; exact ((Ext.refl _ _).alloc _).drew
  have h1 : Hp w1 (sz w) = some (Obj.cells (bc node).toArray 25) := by rw [hw1]; (first | exact hpt_ | fail)
  have hs1 : sz w1 = sz w + 1 := by rw [hw1]; (first | exact szT_ | fail)
  rw [← hw1]
  clear hw1
  refine Eq.mpr (bsU7 108 97 116 116 105 99 101 _ _) ?_
  have h2 : Hp (w1.alloc (.cells (bc [108, 97, 116, 116, 105, 99, 101]).toArray 5)) (sz w1) = some (.cells (bc [108, 97, 116, 116, 105, 99, 101]).toArray 5) := Hp_alloc_new _ _ _ rfl
  refine r_convAt h2 7 7 ?_
  intro w3 hb3 hx3
  have hx13 : Ext (fun _ => False) w1 w3 := ((Ext.refl _ _).alloc _).trans2 hx3 (fun _ _ h => h) fun b hb h => by omega
  have hs3 := hx13.size
  refine CallF_by Try.call31 (four9_full rfl hb3.of (by decide) (by decide) version) ?_
  rintro v8 w4 ⟨hv4, hx4⟩
  have hs4 := hx4.size
  refine apQ _ (Vec.mono (Q' := fun b => sz w1 ≤ b) hv4 fun b hb h => Nat.le_trans hs3 h) (BIn.arr (n := 32) (cap := 32) (hx4.at (hx13.at h1 not_false) not_false) hn).of (fun b hb => by omega) (by rw [List.length_append, four_length, hn]; decide) ?_
  intro v10 w5 hv5 hx5
  refine ⟨Vec.mono hv5 fun b _ h => by omega, ?_⟩
  exact ((hx1.trans hx13 fun _ _ h => h).trans hx4 fun _ _ h => h).trans hx5 fun b hb h => by omega
end Go.Proofs
namespace Go.Proofs
open Go Go.Lf
set_option maxRecDepth 20000
set_option maxHeartbeats 2000000
set_option linter.unusedSimpArgs false
set_option linter.unusedVariables false
/-- the low bytes of a number: the byte of place i from the end -/
def IsNum (n : Int) (s : Nat) (T : List UInt8) : Prop := T.length = s ∧ ∀ i, i < s → T.getD (s - 1 - i) 0 = b8 (n / ((2 ^ (8 * i) : Nat) : Int))
theorem isNum4 (n : Int) : IsNum n 4 (four n) := by
  refine ⟨rfl, fun i hi => ?_⟩
  have : i = 0 ∨ i = 1 ∨ i = 2 ∨ i = 3 := by omega
  rcases this with rfl | rfl | rfl | rfl
  · show b8 n = b8 (n / 1); rw [Int.ediv_one]
  · rfl
  · rfl
  · rfl
theorem isNum2 (n : Int) : IsNum n 2 (two n) := by
  refine ⟨rfl, fun i hi => ?_⟩
  have : i = 0 ∨ i = 1 := by omega
  rcases this with rfl | rfl
  · show b8 n = b8 (n / 1); rw [Int.ediv_one]
  · rfl
theorem num_spec {w : World} {n : Int} {s : Nat} {T : List UInt8} (hs : s ≤ 8) (hT : IsNum n s T) :
    Calls Try.prog 39 #[i64 n, i64 (s : Int)] w (retK fun v w' => Bytes 5 w' v T (fun b => b = sz w) ∧ Ext (fun _ => False) w w') := by
  obtain ⟨hTl, hT⟩ := hT
  refine F39_ok _ _ _ _ ?_
  unfold F39
  simp (maxSteps := 2000000) (disch := first | exact dT_ | fail) only [forall_const, Int.toNat_natCast, len30, mk30]
  have h0 : Hp (w.alloc (Obj.cells (bc (List.replicate s 0)).toArray 5)) (sz w) = some (Obj.cells (bc (List.replicate s 0)).toArray 5) := Hp_alloc_new _ _ _ rfl
  have hx0 : Ext (fun _ => False) w (w.alloc (Obj.cells (bc (List.replicate s 0)).toArray 5)) := (Ext.refl _ _).alloc _
  obtain ⟨J, hJ⟩ : ∃ J : Value → World → Prop, J = fun v w' => ∃ (i : Nat) (N : List UInt8), i ≤ s ∧ v = i64 (i : Int) ∧ N.length = s ∧ (∀ k, k < i → N.getD (s - 1 - k) 0 = T.getD (s - 1 - k) 0) ∧ Ext (fun _ => False) w w' ∧ Hp w' (sz w) = some (Obj.cells (bc N).toArray 5) := ⟨_, rfl⟩
  refine Loop1 J (fun v _ => s - (match v with | .int _ n => n.toNat | _ => 0)) (by rw [hJ]; exact ⟨0, _, by omega, rfl, List.length_replicate, fun k hk => absurd hk (by omega), hx0, h0⟩) ?_
  clear hx0 h0
  intro v w2 hj
  rw [hJ] at hj
  obtain ⟨i, N, hi, rfl, hNl, hN, hx2, h2⟩ := hj
  have hl2 := Hp_lt h2
  unfold F39x1
  by_cases hlt : i < s
  · have hlt' : (i : Int) < (s : Int) := by omega
    have e1 : ((s : Int) - 1 - (i : Int)).toNat = s - 1 - i := by omega
    have e2 : ((8 : Int) * (i : Int)).toNat = 8 * i := by omega
    have e3 : wr ((s : Int) - 1) = (s : Int) - 1 := wr_in _ (by omega)
    have e4 : wr ((s : Int) - 1 - (i : Int)) = (s : Int) - 1 - (i : Int) := wr_in _ (by omega)
    have e5 : wr ((8 : Int) * (i : Int)) = (8 : Int) * (i : Int) := wr_in _ (by omega)
    have hb : IntKind.i64.bits = 64 := rfl
    simp (maxSteps := 2000000) (disch := first | exact dT_ | fail) only [hlt', e3, e4, e5, e1, e2, h2, p_add, p_sub, p_mul, p_lss, St_cells, cells_int, Branch_bool, Nat.zero_add, List.size_toArray, List.length_cons, List.length_nil, if_pos, and_true, true_and, Bool.true_eq_false, false_implies, forall_const, bc_length, u8b, wr_in, Int.toNat_natCast, Nat.mul_one, p_shri, bc_setD, decide_true, ix30, cv3_5, st5]
    refine ⟨?_, by omega⟩
    rw [hJ]
    refine ⟨i + 1, _, by omega, by congr 1, by rw [List.length_set]; exact hNl, ?_, hx2.put _ _ fun h => by omega, Hp_put_same _ _ _ hl2⟩
    intro k hk
    rw [List.getD_eq_getElem?_getD, List.getElem?_set, List.getD_eq_getElem?_getD]
    by_cases hki : k = i
    · subst hki
      rw [if_pos rfl, if_pos (by omega), Option.getD_some, ← List.getD_eq_getElem?_getD, hT k hlt]
      rw [Int.natCast_pow]
      rfl
    · rw [if_neg (by omega), ← List.getD_eq_getElem?_getD, ← List.getD_eq_getElem?_getD, hN k (by omega)]
  · obtain rfl : i = s := by omega
    have hlt' : ¬ (i : Int) < (i : Int) := by omega
    simp (maxSteps := 2000000) (disch := first | exact dT_ | fail) only [hlt', p_add, p_sub, p_mul, p_lss, Branch_bool, true_and, Bool.false_eq_true, false_implies, forall_const, Nat.sub_self, u8b, wr_in, Int.toNat_natCast, p_shri, decide_false, cv3_5]
    have e : N = T := by
      apply List.ext_getElem (by omega)
      intro k h1 h3
      have := hN (i - 1 - k) (by omega)
      rw [show i - 1 - (i - 1 - k) = k by omega, List.getD_eq_getElem?_getD, List.getD_eq_getElem?_getD, List.getElem?_eq_getElem h1, List.getElem?_eq_getElem h3] at this
      exact this
    subst e
    refine ⟨⟨by rw [bc_length]; omega, .inr ⟨_, 0, i, _, ?_, by omega, h2, by rw [bc_size]; omega, fun j hj => by rw [Nat.zero_add, List.getElem?_toArray], rfl⟩⟩, hx2⟩
    rw [hNl]
end Go.Proofs
namespace Go.Proofs
open Go Go.Lf
set_option maxRecDepth 20000
set_option maxHeartbeats 2000000
set_option linter.unusedSimpArgs false
set_option linter.unusedVariables false
def numB (b : List UInt8) : Nat := b.foldl (fun n x => n * 256 + x.toNat) 0
theorem numB_next (b : List UInt8) (i : Nat) (h : i < b.length) : numB (b.take (i + 1)) = numB (b.take i) * 256 + (b.getD i 0).toNat := by
  unfold numB
  rw [List.take_add_one, List.getElem?_eq_getElem h, Option.toList_some, List.foldl_append, List.getD_eq_getElem?_getD, List.getElem?_eq_getElem h]
  rfl
theorem numB_lt (b : List UInt8) : numB b < 256 ^ b.length := by
  have key : ∀ i, i ≤ b.length → numB (b.take i) < 256 ^ i := by
    intro i
    induction i with
    | zero => intro _; exact Nat.zero_lt_one
    | succ i ih =>
      intro hi
      have := ih (by omega)
      have t := UInt8.toNat_lt (b.getD i 0)
      rw [numB_next b i (by omega), Nat.pow_succ]
      omega
  have := key b.length (Nat.le_refl _)
  rwa [List.take_length] at this
theorem numB4 (b : List UInt8) (h : b.length = 4) : numB b = num4 b := by
  match b, h with
  | [x, y, z, u], _ => show ((((0 * 256 + x.toNat) * 256 + y.toNat) * 256 + z.toNat) * 256 + u.toNat) = (((x.toNat * 256 + y.toNat) * 256 + z.toNat) * 256 + u.toNat); omega
theorem numbered_spec {w : World} {v : Value} {b : List UInt8} (hb : BOf w v b) (hl : b.length ≤ 7) :
    Calls Try.prog 35 #[v] w (retK fun v w' => v = i64 (numB b : Int) ∧ w' = w) := by
  refine F35_ok _ _ _ ?_
  unfold F35
  rcases hb with ⟨rfl, rfl⟩ | ⟨B, o, cap, row, U, fr, rfl, hrow, hcells⟩
  · simp (maxSteps := 2000000) (disch := first | exact dT_ | fail) only [forall_const, len30]
    refine Loop2 (fun u v w' => u = i64 0 ∧ v = i64 0 ∧ w' = w) (fun _ _ _ => 0) ⟨rfl, rfl, rfl⟩ ?_
    rintro _ _ _ ⟨rfl, rfl, rfl⟩
    unfold F35x1
    have h00 : ¬ (0 : Int) < ((0 : Nat) : Int) := by omega
    simp (maxSteps := 2000000) (disch := first | exact dT_ | fail) only [h00, p_add, p_lss, Branch_bool, Nat.reduceLT, and_true, true_and, Bool.false_eq_true, false_implies, forall_const, wr_in, p_shli, decide_false, Int.reduceToNat, Int.reducePow]
    rfl
  have hg : ∀ j, j < b.length → row[o + j]? = some (u8v (b.getD j 0)) := fun j hj => by rw [hcells _ hj, ← bc_getD b _ hj, List.getElem?_toArray]
  simp (maxSteps := 2000000) (disch := first | exact dT_ | fail) only [forall_const, len30]
  obtain ⟨J, hJ⟩ : ∃ J : Value → Value → World → Prop, J = fun u v w' => ∃ i : Nat, i ≤ b.length ∧ u = i64 (numB (b.take i) : Int) ∧ v = i64 (i : Int) ∧ w' = w := ⟨_, rfl⟩
  refine Loop2 J (fun _ v _ => b.length - (match v with | .int _ n => n.toNat | _ => 0)) (by rw [hJ]; exact ⟨0, by omega, rfl, rfl, rfl⟩) ?_
  intro u v w6 hj
  rw [hJ] at hj
  obtain ⟨i, hi, rfl, rfl, rfl⟩ := hj
  unfold F35x1
  by_cases hlt : i < b.length
  · have hlt' : (i : Int) < (b.length : Int) := by omega
    have hgi := hg i hlt
    have hn := numB_lt (b.take i)
    rw [List.length_take, Nat.min_eq_left hi] at hn
    have hn' : 256 ^ i ≤ 256 ^ 6 := Nat.pow_le_pow_right (by omega) (by omega)
    have hn2 : (256 : Nat) ^ 6 = 281474976710656 := by decide
    obtain ⟨N, hN⟩ : ∃ N, N = numB (b.take i) := ⟨_, rfl⟩
    have hnext := numB_next b i hlt
    rw [← hN] at hnext hn ⊢
    have hN2 : N < 281474976710656 := by omega
    have t0 := UInt8.toNat_lt (b.getD i 0)
    clear hn hn' hn2
    have hwr : wr ((N : Int) * 256) = (N : Int) * 256 := wr_in _ (by omega)
    have f1 := fun K => p_orI (t := 3) ((N : Int) * 256) ((b.getD i 0).toNat : Int) 8 256 rfl (by omega) (by omega) (by omega) (by omega) (by omega) K
    simp (maxSteps := 2000000) (disch := first | exact dT_ | fail) only [hlt', hrow, hgi, hwr, f1, p_add, p_lss, L1_cells, Branch_bool, Option.elim_some, and_true, Bool.true_eq_false, false_implies, forall_const, i64w, wr_in, Int.toNat_natCast, Nat.mul_one, p_shli, decide_true, Int.reduceToNat, Int.reducePow, ix30, cv5_3, ld5]
    refine ⟨?_, by omega⟩
    rw [hJ]
    refine ⟨i + 1, by omega, ?_, by congr 1, rfl⟩
    rw [hnext]
    refine congrArg (Value.int .i64) ?_
    omega
  · obtain rfl : i = b.length := by omega
    have hlt' : ¬ (b.length : Int) < (b.length : Int) := by omega
    simp (maxSteps := 2000000) (disch := first | exact dT_ | fail) only [hlt', p_add, p_lss, Branch_bool, and_true, true_and, Bool.false_eq_true, false_implies, forall_const, Nat.sub_self, wr_in, Int.toNat_natCast, p_shli, decide_false, Int.reduceToNat, Int.reducePow]
    rw [List.take_length]
theorem apFullK (R : TypeId) {w : World} {a : Option Addr} {k cap : Nat} {x : Value} {l l' : List UInt8} {K : Value → World → Prop} (hkl : k = l.length) (hv : BOf w (.slice a k cap) l) (hx : BOf w x l') (hfull : cap < l.length + l'.length) (hsm : l.length + l'.length ≤ 1000000000)
    (hk : ∀ v' w', Bytes 5 w' v' (l ++ l') (fun b => b = sz w) → Ext (fun _ => False) w w' → K v' w') : Run Try.prog (Builtin.append_ #[30, 30] R #[.slice a k cap, x]) w K := by
  subst hkl
  exact apFull R hv hx hfull hsm hk
theorem claim_spec {w : World} {node : List UInt8} (hn : node.length = 32) (version : Int) : Calls Try.prog 20 #[i64 version, idv node] w (retK fun v w' => Bytes 5 w' v (claimL version node) (fun b => sz w ≤ b) ∧ Ext (fun _ => False) w w') := by
  refine F20_ok _ _ _ _ ?_
  unfold F20
  rw [r_box, idv_cells, slA25]
  obtain ⟨w1, hw1⟩ : ∃ w1, w1 = (w.alloc (Obj.cells (bc node).toArray 25)).drew := ⟨_, rfl⟩
  have hx1 : Ext (fun _ => False) w w1 := by rw [hw1]; exact ((Ext.refl _ _).alloc _).drew
  have h1 : Hp w1 (sz w) = some (Obj.cells (bc node).toArray 25) := by rw [hw1]; (first | exact hpt_ | fail)
  have hs1 : sz w1 = sz w + 1 := by rw [hw1]; (first | exact szT_ | fail)
  rw [← hw1]
  clear hw1
  obtain ⟨C, hC⟩ : ∃ C : List UInt8, C = [108, 97, 116, 116, 105, 99, 101] := ⟨_, rfl⟩
  have hC7 : C.length = 7 := by rw [hC]; rfl
  -- the tail: the two parts are there
  have fin : ∀ {b : Nat} {v8 : Value} {w3 : World}, Ext (fun _ => False) w1 w3 → BOf w3 (.slice (some ⟨b, 0, none⟩) 7 7) C → BOf w3 v8 (four version) →
      Run Try.prog (Builtin.append_ #[30, 30] 30 #[.slice (some ⟨b, 0, none⟩) 7 7, v8]) w3 fun v9 w6 =>
        Run Try.prog (Builtin.append_ #[30, 30] 30 #[v9, .slice (some ⟨sz w, 0, none⟩) 32 32]) w6 fun v11 w7 => Bytes 5 w7 v11 (claimL version node) (fun b => sz w ≤ b) ∧ Ext (fun _ => False) w w7 := by
    intro b v8 w3 hx3 hb3 hv3
    have hs3 := hx3.size
    refine apFullK _ hC7.symm hb3 hv3 (by rw [hC7, four_length]; decide) (by rw [hC7, four_length]; decide) ?_
    intro v9 w6 hv6 hx6
    have hs6 := hx6.size
    refine apQ _ (Vec.mono (Q' := fun b => sz w1 ≤ b) hv6 fun b hb h => by omega) (BIn.arr (n := 32) (cap := 32) (hx6.at (hx3.at h1 not_false) not_false) hn).of (fun b hb => by omega) (by rw [List.length_append, hC7, four_length, hn]; decide) ?_
    intro v10 w5 hv5 hx5
    have e : C ++ four version ++ node = claimL version node := by rw [hC]; rfl
    rw [e] at hv5
    refine ⟨Vec.mono hv5 fun b _ h => by omega, ?_⟩
    exact ((hx1.trans hx3 fun _ _ h => h).trans hx6 fun _ _ h => h).trans hx5 fun b hb h => by omega
  have bs : ∀ (w' : World) (K : Value → World → Prop), Run Try.prog (Instr.buildSlice 30 7 #[(0, .int .u8 108), (1, .int .u8 97), (2, .int .u8 116), (3, .int .u8 116), (4, .int .u8 105), (5, .int .u8 99), (6, .int .u8 101)]) w' K = K (.slice (some ⟨sz w', 0, none⟩) 7 7) (w'.alloc (.cells (bc C).toArray 5)) := by
    intro w' K; rw [hC]; exact bsU7 108 97 116 116 105 99 101 w' K
  unfold F20x1
  refine ⟨?_, ?_⟩
  · rw [bs]
    have hxa : Ext (fun _ => False) w1 (w1.alloc (.cells (bc C).toArray 5)) := (Ext.refl _ _).alloc _
    refine ⟨?_, ?_⟩
    · refine r_convAt (Hp_alloc_new _ _ _ rfl) 7 7 ?_
      intro w3 hb3 hx3
      rw [hC7] at hb3
      have hx13 : Ext (fun _ => False) w1 w3 := hxa.trans2 hx3 (fun _ _ h => h) fun b hb h => by omega
      refine CallF_by Try.call39 (num_spec (s := 4) (by omega) (isNum4 version)) ?_
      rintro v8 w4 ⟨hv4, hx4⟩
      exact fin (hx13.trans hx4 fun _ _ h => h) (BOf_ext hb3.of hx4) (Bytes.of hv4)
    · refine CallF_by Try.call39 (num_spec (s := 4) (by omega) (isNum4 version)) ?_
      rintro v8 w4 ⟨hv4, hx4⟩
      have hxs := hx4.size
      rw [sz_alloc] at hxs hv4
      refine r_convAt (hx4.at (Hp_alloc_new _ _ _ rfl) not_false) 7 7 ?_
      intro w3 hb3 hx3
      rw [hC7] at hb3
      exact fin ((hxa.trans hx4 fun _ _ h => h).trans2 hx3 (fun _ _ h => h) fun b hb h => by omega) hb3.of (Bytes.of (Vec.ext hv4 hx3 fun b hb h => by omega))
  · refine CallF_by Try.call39 (num_spec (s := 4) (by omega) (isNum4 version)) ?_
    rintro v8 w4 ⟨hv4, hx4⟩
    have hxs := hx4.size
    rw [bs]
    have hxa : Ext (fun _ => False) w4 (w4.alloc (.cells (bc C).toArray 5)) := (Ext.refl _ _).alloc _
    refine r_convAt (Hp_alloc_new _ _ _ rfl) 7 7 ?_
    intro w3 hb3 hx3
    rw [hC7] at hb3
    exact fin ((hx4.trans hxa fun _ _ h => h).trans2 hx3 (fun _ _ h => h) fun b hb h => by omega) hb3.of (Bytes.of (Vec.ext (Vec.ext (Vec.mono (Q' := fun b => b < sz w4) hv4 fun b hb _ => hb) hxa fun b hb h => not_false) hx3 fun b hb h => by omega))
end Go.Proofs
namespace Go.Proofs
open Go Go.Lf
set_option maxRecDepth 20000
set_option maxHeartbeats 2000000
set_option linter.unusedSimpArgs false
set_option linter.unusedVariables false
theorem clone_spec {w : World} {v : Value} {b : List UInt8} (hb : BOf w v b) (hl : b.length ≤ 100000) :
    Calls Try.prog 23 #[v] w (retK fun v' w' => Bytes 5 w' v' b (fun x => sz w ≤ x) ∧ Ext (fun _ => False) w w') := by
  refine F23_ok _ _ _ ?_
  unfold F23
  rcases hb with ⟨rfl, rfl⟩ | ⟨B, o, cap, row, U, fr, rfl, hrow, hcells⟩
  · rw [p_eqlNilS Try.runUnderlying30]
    simp (maxSteps := 2000000) (disch := first | exact dT_ | fail) only [Option.isNone_none, Branch_bool, and_true, Bool.true_eq_false, false_implies, forall_const, bs30_0]
    exact ⟨Vec.nil _ _ _ _, Ext.refl _ _⟩
  · rw [p_eqlNilS Try.runUnderlying30]
    simp (maxSteps := 2000000) (disch := first | exact dT_ | fail) only [Option.isNone_some, Branch_bool, true_and, Bool.false_eq_true, false_implies, forall_const, bs30_0]
    have hx : Ext (fun _ => False) w (w.alloc (.cells (bc []).toArray 5)) := (Ext.refl _ _).alloc _
    have hv : Bytes 5 (w.alloc (.cells (bc []).toArray 5)) (.slice (some ⟨sz w, 0, none⟩) 0 0) [] (fun x => sz w ≤ x) := BOwn.fresh (l := []) [] rfl rfl (by simp) (Nat.le_refl _) (Nat.le_refl _)
    change Run Try.prog (Builtin.append_ _ _ _) (w.alloc (.cells (bc []).toArray 5)) _
    have hb : BOf w (.slice (some ⟨B, o, none⟩) b.length cap) b := .inr ⟨B, o, cap, row, U, fr, rfl, hrow, hcells⟩
    refine apQ _ hv (BOf_ext hb hx) (fun b hb => by rw [sz_alloc] at hb; omega) (by simp; omega) ?_
    intro v' w' h1 h2
    rw [List.nil_append] at h1
    exact ⟨h1, hx.trans h2 fun b hb h => by omega⟩
/-- a root's cells -/
def rootV (p : Value) (ver : Int) (node : List UInt8) (s : Value) : Array Value := #[p, i64 ver] ++ (bc node).toArray ++ #[s]
section
variable {p s : Value} {ver : Int} {node : List UInt8} (hn : node.length = 32)
theorem rv_form (p : Value) (ver : Int) (node : List UInt8) (s : Value) : rootV p ver node s = ([p, i64 ver] ++ bc node ++ [s]).toArray := by simp [rootV]
include hn
theorem rv_size : (rootV p ver node s).size = 35 := by rw [rv_form]; simp [bc_length, hn]
omit hn in
theorem rv_0 : (rootV p ver node s)[0]? = some p := by rw [rv_form]; rfl
omit hn in
theorem rv_1 : (rootV p ver node s)[1]? = some (i64 ver) := by rw [rv_form]; rfl
theorem rv_34 : (rootV p ver node s)[34]? = some s := by
  rw [rv_form, List.getElem?_toArray, List.getElem?_append_right (by simp [bc_length, hn])]; simp [bc_length, hn]
theorem rv_get (i : Nat) : (rootV p ver node s)[i]? = if i < 2 then [p, i64 ver][i]? else if i < 34 then (bc node)[i - 2]? else [s][i - 34]? := by
  rw [rv_form, List.getElem?_toArray, List.append_assoc]
  by_cases h1 : i < 2
  · rw [if_pos h1, List.getElem?_append_left (by simpa using h1)]
  · rw [if_neg h1, List.getElem?_append_right (by simp; omega)]
    by_cases h2 : i < 34
    · rw [if_pos h2, List.getElem?_append_left (by simp [bc_length, hn]; omega)]; simp
    · rw [if_neg h2, List.getElem?_append_right (by simp [bc_length, hn]; omega)]
      congr 1
      simp [bc_length, hn]; omega
theorem rv_node : (rootV p ver node s).extract 2 34 = (bc node).toArray := by
  apply Array.ext_getElem?
  intro i
  rw [Array.getElem?_extract, rv_size hn, rv_get hn, List.getElem?_toArray]
  by_cases hi : i < 32
  · rw [if_pos (by omega), if_neg (by omega), if_pos (by omega), show 2 + i - 2 = i by omega]
  · rw [if_neg (by omega), List.getElem?_eq_none (by rw [bc_length, hn]; omega)]
theorem rv_all : (rootV p ver node s).extract 0 35 = rootV p ver node s := by rw [← rv_size (p := p) (ver := ver) (s := s) hn]; exact Array.extract_size
theorem rv_put0 (p' : Value) : splice (rootV p ver node s) 0 #[p'] = rootV p' ver node s := by
  rw [splice_one _ _ _ (by rw [rv_size hn]; decide), rv_form, rv_form]; rfl
theorem rv_put1 (n : Int) : splice (rootV p ver node s) 1 #[i64 n] = rootV p n node s := by
  rw [splice_one _ _ _ (by rw [rv_size hn]; decide), rv_form, rv_form]; rfl
theorem rv_put34 (s' : Value) : splice (rootV p ver node s) 34 #[s'] = rootV p ver node s' := by
  rw [splice_one _ _ _ (by rw [rv_size hn]; decide), rv_form, rv_form]
  simp only [List.setIfInBounds_toArray]
  rw [List.set_append_right _ _ (by simp [bc_length, hn])]
  simp [bc_length, hn]
theorem rv_putN {node' : List UInt8} (hn' : node'.length = 32) : splice (rootV p ver node s) 2 (bc node').toArray = rootV p ver node' s := by
  apply Array.ext_getElem?
  intro i
  rw [splice_get (by rw [rv_size hn, bc_size, hn']; decide), bc_size, hn', rv_get hn, rv_get hn', List.getElem?_toArray]
  by_cases h1 : i < 2
  · rw [if_neg (by omega), if_pos h1, if_pos h1]
  · by_cases h2 : i < 34
    · rw [if_pos (by omega), if_neg h1, if_pos h2]
    · rw [if_neg (by omega), if_neg h1, if_neg h2, if_neg h1, if_neg h2]
omit hn in
theorem rv_one (hp : oneCell p) (hs : oneCell s) : allOne (rootV p ver node s) := allOne_app _ _ (allOne_app _ _ (allOne_cons _ _ hp (allOne_int _ _ _ allOne_nil)) (allOne_bc _)) (allOne_cons _ _ hs allOne_nil)
theorem rv_over {p' s' : Value} {ver' : Int} {node' : List UInt8} (hn' : node'.length = 32) : splice (rootV p ver node s) 0 (rootV p' ver' node' s') = rootV p' ver' node' s' := splice_all _ _ (by rw [rv_size hn, rv_size hn'])
end
theorem rv_zc : z39.cells = rootV (.slice none 0 0) 0 (List.replicate 32 0) (.slice none 0 0) := zc39
theorem rv_bld (K : Value → Prop) : PRun Try.prog (Instr.build 39 #[]) K = K (.agg (rootV (.slice none 0 0) 0 (List.replicate 32 0) (.slice none 0 0))) := bld39_ K
theorem rv_bld01 (a : Option Addr) (n c : Nat) (v : Int) (K : Value → Prop) : PRun Try.prog (Instr.build 39 #[(0, .slice a n c), (1, i64 v)]) K = K (.agg (rootV (.slice a n c) v (List.replicate 32 0) (.slice none 0 0))) := by
  rw [bld39_0_1 _ _ rfl rfl]
  have h32 : (List.replicate 32 (0 : UInt8)).length = 32 := by simp
  show K (.agg (splice (splice (rootV _ _ _ _) 0 _) 1 _)) = _
  rw [cells_sl, cells_int, rv_put0 h32, rv_put1 h32]
theorem rv_new (w : World) (x : Value) (K : Value → World → Prop) : Run Try.prog (Instr.alloc 39 true x) w K = K (ptr (sz w) 0) (w.alloc (.cells (rootV (.slice none 0 0) 0 (List.replicate 32 0) (.slice none 0 0)) 39)) := by
  rw [al39, rv_zc]
theorem rv_st {w : World} {b : Nat} {p s p' s' : Value} {ver ver' : Int} {node node' : List UInt8} (h : Hp w b = some (.cells (rootV p ver node s) 39)) (hn : node.length = 32) (hn' : node'.length = 32) (hp : oneCell p') (hs : oneCell s') (K : Unit → World → Prop) :
    Run Try.prog (Instr.storeAt 39 (ptr b 0) (.agg (rootV p' ver' node' s'))) w K = K () (put w b (.cells (rootV p' ver' node' s') 39)) := by
  rw [st39 _ _ _ _ _ (rv_one hp hs), h, St_cells, cells_agg, rv_size hn', rv_size hn, if_pos (by decide), rv_over hn hn']
/-- a root's bytes -/
def rootB (pub : List UInt8) (ver : Int) (node sig : List UInt8) : List UInt8 := [114] ++ pub ++ four ver ++ node ++ two sig.length ++ sig
section
variable {pub node sig : List UInt8} {ver : Int} (hp : pub.length = 56) (hn : node.length = 32)
include hp hn
theorem rootB_length : (rootB pub ver node sig).length = 95 + sig.length := by simp [rootB, four_length, two_length, hp, hn]; omega
theorem rootB_pub : ((rootB pub ver node sig).drop 1).take 56 = pub := by
  have e : rootB pub ver node sig = [114] ++ (pub ++ (four ver ++ node ++ two sig.length ++ sig)) := by simp [rootB]
  rw [e]; exact List.take_left' hp
theorem rootB_ver : ((rootB pub ver node sig).drop 57).take 4 = four ver := by
  have e : rootB pub ver node sig = ([114] ++ pub) ++ (four ver ++ (node ++ two sig.length ++ sig)) := by simp [rootB]
  rw [e, List.drop_left' (by simp [hp]), List.take_left' (four_length _)]
theorem rootB_node : ((rootB pub ver node sig).drop 61).take 32 = node := by
  have e : rootB pub ver node sig = ([114] ++ pub ++ four ver) ++ (node ++ (two sig.length ++ sig)) := by simp [rootB]
  rw [e, List.drop_left' (by simp [hp, four_length]), List.take_left' hn]
theorem rootB_len : ((rootB pub ver node sig).drop 93).take 2 = two sig.length := by
  have e : rootB pub ver node sig = ([114] ++ pub ++ four ver ++ node) ++ (two sig.length ++ sig) := by simp [rootB]
  rw [e, List.drop_left' (by simp [hp, hn, four_length]), List.take_left' (two_length _)]
theorem rootB_sig : (rootB pub ver node sig).drop 95 = sig := by
  have e : rootB pub ver node sig = ([114] ++ pub ++ four ver ++ node ++ two sig.length) ++ sig := by simp [rootB]
  rw [e, List.drop_left' (by simp [hp, hn, four_length, two_length])]
end
theorem numB_four (n : Nat) (h : n < 4294967296) : numB (four n) = n := by
  rw [numB4 _ rfl]
  have := num4_four n h []
  rwa [List.append_nil] at this
theorem numB_two (n : Nat) (h : n < 65536) : numB (two n) = n := by
  have e : ∀ x : Int, (b8 x).toNat = (x % 256).toNat := fun x => by have := b8_toNat x; omega
  show ((0 * 256 + (b8 ((n : Int) / 256)).toNat) * 256 + (b8 (n : Int)).toNat) = n
  rw [e, e]
  omega
theorem Bytes.cut {w : World} {B o n cap : Nat} {b : List UInt8} {Q : Nat → Prop} (h : Bytes 5 w (.slice (some ⟨B, o, none⟩) n cap) b Q) (i m cap' : Nat) (hi : i + m ≤ b.length) : BIn w (.slice (some ⟨B, o + i, none⟩) m cap') ((b.drop i).take m) Q := by
  rcases h with ⟨-, ⟨h, -⟩ | ⟨B', o', cap2, row, h, hc, hrow, hsz, hcells, hQ⟩⟩
  · cases h
  · cases h
    have hlen : ((b.drop i).take m).length = m := by rw [List.length_take, List.length_drop]; omega
    refine .inr ⟨B, o + i, cap', row, _, _, by rw [hlen], hrow, ?_, hQ⟩
    intro j hj
    rw [hlen] at hj
    rw [Nat.add_assoc, hcells _ (by omega), bc_get, bc_get, List.getElem?_take, if_pos hj, List.getElem?_drop]
end Go.Proofs
namespace Go.Proofs
open Go Go.Lf
set_option maxRecDepth 20000
set_option maxHeartbeats 2000000
set_option linter.unusedSimpArgs false
set_option linter.unusedVariables false
theorem zero32 : (List.replicate 32 (0 : UInt8)).length = 32 := by simp
section
variable {pub node sig : List UInt8} {ver : Int} (hp : pub.length = 56) (hn : node.length = 32) (hs : sig.length ≤ 5000) (hs1 : 1 ≤ sig.length) (hv0 : 1 ≤ ver) (hv1 : ver ≤ 2147483647)
include hp hn hs hs1 hv0 hv1
theorem parse_x2 {w8 : World} {D : Value} {Q : Nat → Prop} {p2 p4 : Nat} {a : Option Addr} {c : Nat} {K : Value → World → Prop} (hD : Bytes 5 w8 D (rootB pub ver node sig) Q)
    (h4 : Hp w8 p4 = some (.cells (rootV (.slice a 56 c) ver (List.replicate 32 0) (.slice none 0 0)) 39)) (h2 : Hp w8 p2 = some (.cells (rootV (.slice none 0 0) 0 (List.replicate 32 0) (.slice none 0 0)) 39)) (h24 : p2 ≠ p4) (hQ : ∀ b, Q b → b ≠ p2 ∧ b ≠ p4)
    (hk : ∀ s w', Bytes 5 w' s sig (fun x => sz w8 ≤ x) → Ext (fun b => b = p2 ∨ b = p4) w8 w' → K (.tuple #[.agg (rootV (.slice a 56 c) ver node s), i64 0]) w') : F18x2 (ptr p4 0) D w8 (ptr p2 0) K := by
  have hbl := rootB_length (ver := ver) (sig := sig) hp hn
  rcases hD.2 with ⟨rfl, h0⟩ | ⟨B, o, cap, row, rfl, hc, hrow, hsz, hcells, hqb⟩
  · rw [hbl] at h0; omega
  have hcN := Bytes.cut hD 61 32 (cap - 61) (by omega)
  have hcL := Bytes.cut hD 93 2 (cap - 93) (by omega)
  rw [rootB_node hp hn] at hcN
  rw [rootB_len hp hn] at hcL
  have hcT := Bytes.cut hD 61 ((rootB pub ver node sig).length - 61) (cap - 61) (by omega)
  have hcS := Bytes.cut hD 95 ((rootB pub ver node sig).length - 95) (cap - 95) (by omega)
  have hbS := rootB_sig (sig := sig) (ver := ver) hp hn
  rw [hbS, List.take_of_length_le (by omega)] at hcS
  have hT : (((rootB pub ver node sig).drop 61).take ((rootB pub ver node sig).length - 61)).take 32 = node := by
    rw [List.take_take, Nat.min_eq_left (by omega)]; exact rootB_node hp hn
  have hb0 : row[o]? = some (u8v 114) := by
    have := hcells 0 (by omega)
    rw [Nat.add_zero] at this
    rw [this]; rfl
  obtain ⟨b, hb⟩ : ∃ b, b = rootB pub ver node sig := ⟨_, rfl⟩
  rw [← hb] at hbl hc hcells hcT hcS hT ⊢
  clear hD hcN
  have hbB := hQ B hqb
  unfold F18x2
  simp (maxSteps := 2000000) (disch := first | exact dT_ | fail) only [Nat.zero_add, Nat.add_zero, Nat.reduceSub, cutAt_some, Nat.mul_one, Int.reduceToNat, slA25, ix30, slLH30, slL30, len30, fld39_1, fld39_2, bld39_, ld5, ld39, st39]
  have h4d : Hp w8.drew p4 = some (.cells (rootV (.slice a 56 c) ver (List.replicate 32 0) (.slice none 0 0)) 39) := h4
  have hcT' : BOf w8.drew (.slice (some ⟨B, o + 61, none⟩) (b.length - 61) (cap - 61)) ((b.drop 61).take (b.length - 61)) := BOf_ext hcT.of (Ext.refl _ _).drew
  rw [r_copy Try.runUnderlying30 Try.sizeOf5 3 h4d (by rw [rv_size zero32]; decide) hcT', hT, rv_putN zero32 hn]
  obtain ⟨w9, hw9⟩ : ∃ w9, w9 = put w8.drew p4 (.cells (rootV (.slice a 56 c) ver node (.slice none 0 0)) 39) := ⟨_, rfl⟩
  have hx9 : Ext (fun b => b = p2 ∨ b = p4) w8 w9 := by rw [hw9]; exact ((Ext.refl _ _).drew).put _ _ fun _ => .inr rfl
  have h94 : Hp w9 p4 = some (.cells (rootV (.slice a 56 c) ver node (.slice none 0 0)) 39) := by rw [hw9]; exact Hp_put_same _ _ _ (Hp_lt h4)
  have h92 : Hp w9 p2 = some (.cells (rootV (.slice none 0 0) 0 (List.replicate 32 0) (.slice none 0 0)) 39) := by rw [hw9, Hp_put_other _ _ _ _ h24]; exact h2
  have hr9 := hx9.at hrow (by omega)
  have hcL9 := (hcL.ext hx9 fun x _ hx => by have := hQ x hx; omega).of
  have hcS9 := (hcS.ext hx9 fun x _ hx => by have := hQ x hx; omega).of
  rw [← hw9]
  clear hw9 h4d hcT' hcT hcL hcS
  refine CallF_by Try.call35 (numbered_spec hcL9 (by rw [two_length]; decide)) ?_
  rintro _ _ ⟨rfl, rfl⟩
  rw [numB_two _ (by omega)]
  have g1 : ¬ ver < 1 := by omega
  have g2 : ¬ (2147483647 : Int) < ver := by omega
  have g3 : ¬ (5000 : Int) < (sig.length : Int) := by omega
  have g4 : wr (95 + (sig.length : Int)) = (b.length : Int) := by rw [wr_in _ (by omega), hbl]; omega
  have g5 : ¬ (b.length : Int) < (b.length : Int) := by omega
  have g6 : Value.int .u8 114 = u8v 114 := rfl
  rw [g6]
  simp (maxSteps := 2000000) (disch := first | exact dT_ | fail) only [hr9, hb0, h94, rv_1, g1, g2, g3, g4, g5, Pick_bool, cond_false, p_add, p_lss, p_gtr, p_neq, L1_cells, Branch_bool, Gdn_true, Option.elim_some, Bool.not_true, true_and, Bool.false_eq_true, false_implies, forall_const, decide_true, decide_false, ld3]
  rename_i w9
  unfold F18x1
  have g7 : (95 : Int) ≤ (b.length : Int) := by omega
  simp (maxSteps := 2000000) (disch := first | exact dT_ | fail) only [g4, g5, p_add, p_gtr, Branch_bool, Nat.zero_add, true_and, Bool.false_eq_true, false_implies, forall_const, cutAt_some, Nat.mul_one, decide_false, Int.reduceToNat, slL30, len30, fld39_3, bld39_, ld39, st39]
  refine CallF_by Try.call23 (clone_spec hcS9 (by omega)) ?_
  rintro s w14 ⟨hs14, hx14⟩
  obtain ⟨sa, sc, rfl⟩ := Vec.slice hs14
  have h44 := hx14.at h94 not_false
  have h42 := hx14.at h92 not_false
  have l4 := Hp_lt h44
  have l2 := Hp_lt h42
  have hs9 := hx9.size
  have r1 := rv_size (p := .slice a 56 c) (ver := ver) (s := .slice none 0 0) hn
  have r2 := rv_put34 (p := .slice a 56 c) (ver := ver) (s := .slice none 0 0) hn (.slice sa sig.length sc)
  have r3 := rv_size (p := .slice a 56 c) (ver := ver) (s := .slice sa sig.length sc) hn
  have r4 := rv_all (p := .slice a 56 c) (ver := ver) (s := .slice sa sig.length sc) hn
  have r5 := rv_over (p := .slice none 0 0) (ver := 0) (s := .slice none 0 0) (p' := .slice a 56 c) (ver' := ver) (s' := .slice sa sig.length sc) zero32 hn
  have r6 := rv_size (p := .slice none 0 0) (ver := 0) (s := .slice none 0 0) zero32
  have r7 : allOne (rootV (.slice a 56 c) ver node (.slice sa sig.length sc)) := rv_one trivial trivial
  simp (maxSteps := 2000000) (disch := first | exact dT_ | fail) only [h44, h42, r1, r2, r3, r4, r5, r6, Ln_cells, St_cells, Hp_put_same, Hp_put_other, cells_agg, cells_sl, Nat.zero_add, List.size_toArray, List.length_cons, List.length_nil, Nat.reduceAdd, Nat.reduceLeDiff, if_pos, and_self, st30, st39]
  have l9 := Hp_lt h94
  have l92 := Hp_lt h92
  have hfin : Ext (fun b => b = p2 ∨ b = p4) w14 (put (put w14 p4 (Obj.cells (rootV (Value.slice a 56 c) ver node (Value.slice sa sig.length sc)) 39)) p2 (Obj.cells (rootV (Value.slice a 56 c) ver node (Value.slice sa sig.length sc)) 39)) :=
    ((Ext.refl _ _).put _ _ fun _ => .inr rfl).put _ _ fun _ => .inl rfl
  have hv1 : Bytes 5 w14 (.slice sa sig.length sc) sig (fun x => sz w8 ≤ x ∧ x ≠ p2 ∧ x ≠ p4) := Vec.mono hs14 fun x _ hx => by omega
  have hv2 := Vec.ext hv1 hfin fun x _ hx => by omega
  refine hk _ _ (Vec.mono hv2 fun x _ hx => hx.1) ?_
  exact (hx9.trans hx14 fun _ _ h => h.elim).trans hfin fun _ _ h => h
theorem parse_spec {w : World} {D : Value} {Q : Nat → Prop} (hD : Bytes 5 w D (rootB pub ver node sig) Q) :
    Calls Try.prog 18 #[D] w (retK fun v w' => ∃ p s, v = .tuple #[.agg (rootV p ver node s), i64 0] ∧ Bytes 5 w' p pub (fun x => sz w ≤ x) ∧ Bytes 5 w' s sig (fun x => sz w ≤ x) ∧ Ext (fun _ => False) w w') := by
  refine F18_ok _ _ _ ?_
  have hbl := rootB_length (ver := ver) (sig := sig) hp hn
  have hD0 := Vec.mono (Q' := fun x => x < sz w) hD fun x h _ => h
  rcases hD0.2 with ⟨rfl, h0⟩ | ⟨B, o, cap, row, rfl, hc, hrow, hsz, hcells, hqb⟩
  · rw [hbl] at h0; omega
  have hcP := Bytes.cut hD 1 56 (cap - 1) (by omega)
  have hcV := Bytes.cut hD 57 4 (cap - 57) (by omega)
  rw [rootB_pub hp hn] at hcP
  rw [rootB_ver hp hn] at hcV
  obtain ⟨vN, rfl⟩ := Int.eq_ofNat_of_zero_le (show 0 ≤ ver by omega)
  have hnum : numB (four (vN : Int)) = vN := numB_four vN (by omega)
  obtain ⟨b, hb⟩ : ∃ b, b = rootB pub (vN : Int) node sig := ⟨_, rfl⟩
  rw [← hb] at hbl hc hcells hD hD0
  have g1 : ¬ (b.length : Int) < 95 := by omega
  unfold F18
  simp (maxSteps := 2000000) (disch := first | exact dT_ | fail) only [p_lss, put_allocN, Ln_cells, St_cells, Hp_alloc_new, cells_agg, Branch_bool, Nat.zero_add, List.size_toArray, List.length_cons, List.length_nil, Nat.reduceAdd, Nat.reduceLeDiff, if_pos, decide_eq_true_eq, decide_eq_false_iff_not, and_self, bc_length, Array.size_append, Nat.reduceSub, List.length_replicate, cutAt_some, Nat.mul_one, Int.reduceToNat, slLH30, len30, bld39_, ld39, st39, al39, zv39]
  rw [← hb]
  simp (maxSteps := 2000000) (disch := first | exact dT_ | fail) only [g1, true_and, false_implies]
  intro _
  change F18x3 _ (w.alloc (Obj.cells (rootV (.slice none 0 0) 0 (List.replicate 32 0) (.slice none 0 0)) 39)).drew _ _ _ _
  obtain ⟨w1, hw1⟩ : ∃ w1, w1 = (w.alloc (Obj.cells (rootV (.slice none 0 0) 0 (List.replicate 32 0) (.slice none 0 0)) 39)).drew := ⟨_, rfl⟩
  have hx1 : Ext (fun _ => False) w w1 := by rw [hw1]; exact ((Ext.refl _ _).alloc _).drew
  have h1 : Hp w1 (sz w) = some (Obj.cells (rootV (.slice none 0 0) 0 (List.replicate 32 0) (.slice none 0 0)) 39) := by rw [hw1]; (first | exact hpt_ | fail)
  have hs1' : sz w1 = sz w + 1 := by rw [hw1]; (first | exact szT_ | fail)
  rw [← hw1]
  clear hw1
  have hP1 := hcP.ext hx1 fun _ _ _ => not_false
  have hV1 := hcV.ext hx1 fun _ _ _ => not_false
  have hD1 := Vec.ext hD0 hx1 fun _ _ _ => not_false
  -- what is left, when the parts are there and the root is laid
  have fin : ∀ {w7 : World} {a : Option Addr} {c p4 : Nat}, Ext (fun x => sz w < x) w1 w7 → sz w < p4 → Hp w7 p4 = some (.cells (rootV (.slice a 56 c) (vN : Int) (List.replicate 32 0) (.slice none 0 0)) 39) → Bytes 5 w7 (.slice a 56 c) pub (fun x => sz w < x ∧ x ≠ p4) →
      F18x2 (ptr p4 0) (.slice (some ⟨B, o, none⟩) b.length cap) w7 (ptr (sz w) 0) fun v w' => ∃ p s, v = .tuple #[.agg (rootV p (vN : Int) node s), i64 0] ∧ Bytes 5 w' p pub (fun x => sz w ≤ x) ∧ Bytes 5 w' s sig (fun x => sz w ≤ x) ∧ Ext (fun _ => False) w w' := by
    intro w7 a c p4 hx7 hp4 h4 hb7
    have hs7 := hx7.size
    have hD7 := Vec.ext hD1 hx7 fun x _ h => by omega
    have hD8 : Bytes 5 w7 (.slice (some ⟨B, o, none⟩) b.length cap) (rootB pub (vN : Int) node sig) (fun x => x < sz w) := by rw [← hb]; exact hD7
    refine parse_x2 hp hn hs hs1 hv0 hv1 hD8 h4 (hx7.at h1 (by omega)) (by omega) (fun x hx => by omega) ?_
    intro s w' hs' hx'
    refine ⟨_, s, rfl, Vec.mono (Vec.ext hb7 hx' fun x _ h => by omega) fun x _ h => by omega, Vec.mono hs' fun x _ h => by omega, ?_⟩
    exact (hx1.trans2 hx7 (fun _ _ h => h) fun x hx h => by omega).trans2 hx' (fun _ _ h => h) fun x hx h => by omega
  unfold F18x3
  refine ⟨?_, ?_⟩
  · refine CallF_by Try.call23 (clone_spec hP1.of (by rw [hp]; decide)) ?_
    rintro pv w4 ⟨hp4, hx4⟩
    obtain ⟨pa, pc, rfl⟩ := Vec.slice hp4
    rw [hp] at hp4 ⊢
    have hs4 := hx4.size
    have hV4 := hV1.ext hx4 fun _ _ _ => not_false
    refine ⟨?_, ?_⟩
    · refine CallF_by Try.call35 (numbered_spec hV4.of (by rw [four_length]; decide)) ?_
      rintro v15 w5 ⟨rfl, rfl⟩
      rw [hnum, rv_bld01, rv_new, rv_st (p' := .slice pa 56 pc) (s' := .slice none 0 0) (Hp_alloc_new _ _ _ rfl) zero32 zero32 trivial trivial]
      refine fin (p4 := sz w5) ?_ ?_ (Hp_put_same _ _ _ (by rw [sz_alloc]; omega)) ?_
      · exact (((hx4.mono (M' := fun x => sz w < x) fun _ _ h => h.elim).alloc _)).put _ _ fun h => by omega
      · omega
      · have hv6 := Vec.mono (Q' := fun x => sz w < x ∧ x ≠ sz w5) hp4 fun x hx h => by omega
        exact Vec.ext hv6 (((Ext.refl (fun x => x = sz w5) _).alloc _).put _ _ fun _ => rfl) fun x _ h => h.2
    · rw [rv_new]
      have hxa : Ext (fun _ => False) w4 (w4.alloc (.cells (rootV (.slice none 0 0) 0 (List.replicate 32 0) (.slice none 0 0)) 39)) := (Ext.refl _ _).alloc _
      refine CallF_by Try.call35 (numbered_spec (hV4.ext hxa fun _ _ _ => not_false).of (by rw [four_length]; decide)) ?_
      rintro v15 w5 ⟨rfl, rfl⟩
      rw [hnum, rv_bld01, rv_st (p' := .slice pa 56 pc) (s' := .slice none 0 0) (Hp_alloc_new _ _ _ rfl) zero32 zero32 trivial trivial]
      refine fin (p4 := sz w4) ?_ ?_ (Hp_put_same _ _ _ (by rw [sz_alloc]; omega)) ?_
      · exact (((hx4.mono (M' := fun x => sz w < x) fun _ _ h => h.elim).alloc _)).put _ _ fun h => by omega
      · omega
      · have hv6 := Vec.mono (Q' := fun x => sz w < x ∧ x ≠ sz w4) hp4 fun x hx h => by omega
        exact Vec.ext hv6 (((Ext.refl (fun x => x = sz w4) _).alloc _).put _ _ fun _ => rfl) fun x _ h => h.2
  · rw [rv_new]
    have hxa : Ext (fun _ => False) w1 (w1.alloc (.cells (rootV (.slice none 0 0) 0 (List.replicate 32 0) (.slice none 0 0)) 39)) := (Ext.refl _ _).alloc _
    refine CallF_by Try.call23 (clone_spec (hP1.ext hxa fun _ _ _ => not_false).of (by rw [hp]; decide)) ?_
    rintro pv w4 ⟨hp4, hx4⟩
    obtain ⟨pa, pc, rfl⟩ := Vec.slice hp4
    rw [hp] at hp4 ⊢
    rw [sz_alloc] at hp4
    have hs4 := hx4.size
    rw [sz_alloc] at hs4
    have hV4 := (hV1.ext hxa fun _ _ _ => not_false).ext hx4 fun _ _ _ => not_false
    refine CallF_by Try.call35 (numbered_spec hV4.of (by rw [four_length]; decide)) ?_
    rintro v15 w5 ⟨rfl, rfl⟩
    rw [hnum, rv_bld01, rv_st (p' := .slice pa 56 pc) (s' := .slice none 0 0) (hx4.at (Hp_alloc_new _ _ _ rfl) not_false) zero32 zero32 trivial trivial]
    refine fin (p4 := sz w1) ?_ ?_ (Hp_put_same _ _ _ (by omega)) ?_
    · exact ((hxa.trans hx4 fun _ _ h => h).mono (M' := fun x => sz w < x) fun _ _ h => h.elim).put _ _ fun h => by omega
    · omega
    · have hv6 := Vec.mono (Q' := fun x => sz w < x ∧ x ≠ sz w1) hp4 fun x hx h => by omega
      exact Vec.ext hv6 ((Ext.refl (fun x => x = sz w1) _).put _ _ fun _ => rfl) fun x _ h => h.2
end
end Go.Proofs
namespace Go.Proofs
open Go Go.Lf
set_option maxRecDepth 20000
set_option maxHeartbeats 2000000
set_option linter.unusedSimpArgs false
set_option linter.unusedVariables false
theorem bld2 {a b : List UInt8} (ha : a.length = 32) (hb : b.length = 32) (K : Value → Prop) : PRun Try.prog (Instr.build 78 #[(0, idv a), (1, idv b)]) K = K (idv (a ++ b)) := by
  rw [bldA78 _ _ (by intro v hv; simp only [List.mem_cons, List.mem_nil_iff, or_false] at hv; rcases hv with rfl | rfl <;> rw [idv_cells, bc_size] <;> assumption)]
  have e : (catC [idv a, idv b]).toArray = (bc (a ++ b)).toArray := by
    unfold catC
    rw [List.flatMap_cons, List.flatMap_cons, List.flatMap_nil, List.append_nil, idv_cells, idv_cells, bc_append]
  rw [e]
theorem al2 (w : World) (x : Value) (K : Value → World → Prop) : Run Try.prog (Instr.alloc 78 true x) w K = K (ptr (sz w) 0) (w.alloc (.cells (bc (List.replicate 64 0)).toArray 78)) := by
  rw [al78, zc78]
  have e : (bc (List.replicate 32 0)).toArray ++ (bc (List.replicate 32 0)).toArray = (bc (List.replicate 64 0)).toArray := by
    rw [show List.replicate 64 (0 : UInt8) = List.replicate 32 0 ++ List.replicate 32 0 from rfl, bc_append, List.append_toArray]
  rw [e]
theorem st2 {w : World} {p : Nat} {a b : List UInt8} (h : Hp w p = some (.cells (bc a).toArray 78)) (ha : a.length = 64) (hb : b.length = 64) (K : Unit → World → Prop) :
    Run Try.prog (Instr.storeAt 78 (ptr p 0) (idv b)) w K = K () (put w p (.cells (bc b).toArray 78)) := by
  rw [st78 _ _ _ _ _ (allOne_bc _), h, St_cells, idv_cells, bc_size, bc_size, if_pos (by omega), splice_bc_all (by omega)]
theorem stI {w : World} {p : Nat} {a b : List UInt8} (h : Hp w p = some (.cells (bc a).toArray 25)) (ha : a.length = 32) (hb : b.length = 32) (K : Unit → World → Prop) :
    Run Try.prog (Instr.storeAt 25 (ptr p 0) (idv b)) w K = K () (put w p (.cells (bc b).toArray 25)) := by
  rw [st25 _ _ _ _ _ (allOne_bc _), h, St_cells, idv_cells, bc_size, bc_size, if_pos (by omega), splice_bc_all (by omega)]
theorem ldI {w : World} {p : Nat} {a : List UInt8} (h : Hp w p = some (.cells (bc a).toArray 25)) (ha : a.length = 32) (K : Value → Prop) :
    QRun Try.prog (Instr.loadAt 25 (ptr p 0)) w K = K (idv a) := by
  rw [ld25, h, Ln_cells, bc_size, if_pos (by omega), Nat.zero_add, ext_bc0 ha]
theorem ldN {w : World} {p : Nat} {a : List UInt8} (h : Hp w p = some (.cells (bc a).toArray 49)) (ha : a.length = 16) (K : Value → Prop) :
    QRun Try.prog (Instr.loadAt 49 (ptr p 0)) w K = K (idv a) := by
  rw [ld49, h, Ln_cells, bc_size, if_pos (by omega), Nat.zero_add, ext_bc0 ha]
theorem alI (w : World) (x : Value) (K : Value → World → Prop) : Run Try.prog (Instr.alloc 25 true x) w K = K (ptr (sz w) 0) (w.alloc (.cells (bc (List.replicate 32 0)).toArray 25)) := by
  rw [al25, zc25]
/-- the way up, and whether it comes to the top -/
theorem pup {W : World} {p8 p13 Bs os cs Bp op cp : Nat} {name t side top sig pub : List UInt8} {Qs Qp : Nat → Prop} {K : Value → World → Prop} (hn : name.length = 16) (ht : t.length = 32) (hside : side.length = 32) (htop : top.length = 32) (q : Nat) (hq : q ≤ 1)
    (h8 : Hp W p8 = some (.cells (bc name).toArray 49 (0, 0))) (h13 : Hp W p13 = some (.cells (bc t).toArray 25 (0, 0))) (hne : p8 ≠ p13)
    (hs : BIn W (.slice (some ⟨Bs, os, none⟩) 4332 cs) sig Qs) (hcs : 4332 ≤ cs) (hsd : (sig.drop 4300).take 32 = side) (hp : BIn W (.slice (some ⟨Bp, op, none⟩) 56 cp) pub Qp) (hcp : 56 ≤ cp) (hpd : (pub.drop 24).take 32 = top) (hQ : ¬ Qs p13 ∧ ¬ Qp p13)
    (hK : ∀ W', Ext (fun b => b = p13) W W' → K (i64 (if upL name q t side = top then 0 else 12)) W') :
    LoopF 2 [(i64 (2 + (q : Int))), .slice (some ⟨Bs, os + 4300, none⟩) 32 (cs - 4300)] W fun v12_2 v14_2 w19 k1 => F19x2 v12_2 w19 v14_2 (ptr p13 0) (ptr p8 0) k1 (.slice (some ⟨Bp, op, none⟩) 56 cp) K := by
  have hlp8 := Hp_lt h8
  have hlp13 := Hp_lt h13
  obtain ⟨hsl, -, -⟩ := BIn.row hs
  obtain ⟨hpl, -, -⟩ := BIn.row hp
  have hul : (upL name q t side).length = 32 := sha_length _
  obtain ⟨J, hJ⟩ : ∃ J : Value → Value → World → Prop, J = fun u v w' => (u = i64 (2 + (q : Int)) ∧ v = .slice (some ⟨Bs, os + 4300, none⟩) 32 (cs - 4300) ∧ w' = W) ∨ (u = i64 1 ∧ Ext (fun b => b = p13) W w' ∧ Hp w' p13 = some (.cells (bc (upL name q t side)).toArray 25 (0, 0))) := ⟨_, rfl⟩
  refine Loop2 J (fun u _ _ => (match u with | .int _ n => n.toNat | _ => 0)) (by rw [hJ]; exact .inl ⟨rfl, rfl, rfl⟩) ?_
  intro u v w8 hj
  rw [hJ] at hj
  unfold F19x2
  rcases hj with ⟨rfl, rfl, rfl⟩ | ⟨rfl, hx8, h138⟩
  · have hg : (1 : Int) < 2 + (q : Int) := by omega
    simp (maxSteps := 2000000) (disch := first | exact dT_ | fail) only [hg, p_gtr, Branch_bool, and_true, Bool.true_eq_false, false_implies, forall_const, Nat.reduceSub, cutAt_some, Nat.mul_one, decide_true, Int.reduceToNat, slA25, slL30]
    unfold F19x1
    obtain ⟨m, hm⟩ : ∃ m, m = sz w8 := ⟨_, rfl⟩
    have hbs : BIn w8 (.slice (some ⟨Bs, os + 4300, none⟩) 32 (cs - 4300)) side Qs := by
      have h := BIn.part hs 4300 32 (cs - 4300) (by omega)
      rw [hsd] at h
      exact h
    rw [alI, slA25]
    have ha : Hp (w8.alloc (.cells (bc (List.replicate 32 0)).toArray 25)) (sz w8) = some (.cells (bc (List.replicate 32 0)).toArray 25) := Hp_alloc_new _ _ _ rfl
    have hxa : Ext (fun _ => False) w8 (w8.alloc (.cells (bc (List.replicate 32 0)).toArray 25)) := (Ext.refl _ _).alloc _
    rw [r_copy Try.runUnderlying30 Try.sizeOf5 3 ha (by rw [bc_size, zero32]; decide) (BOf_ext hbs.of hxa), List.take_of_length_le (by omega), splice_bc_all (by rw [zero32, hside])]
    obtain ⟨w21, hw21⟩ : ∃ w21, w21 = put (w8.alloc (.cells (bc (List.replicate 32 0)).toArray 25)) (sz w8) (.cells (bc side).toArray 25) := ⟨_, rfl⟩
    have hx21 : Ext (fun _ => False) w8 w21 := by rw [hw21]; exact hxa.put _ _ fun h => by omega
    have h15 : Hp w21 (sz w8) = some (.cells (bc side).toArray 25) := by rw [hw21]; exact Hp_put_same _ _ _ (by rw [sz_alloc]; omega)
    have hs21 : sz w21 = sz w8 + 1 := by rw [hw21]; (first | exact szT_ | fail)
    have h13' := hx21.at h13 not_false
    rw [← hw21, ldI h13' ht, ldI h15 hside, bld2 ht hside, al2, st2 (Hp_alloc_new _ _ _ rfl) (by simp) (by rw [List.length_append]; omega)]
    obtain ⟨w23, hw23⟩ : ∃ w23, w23 = put (w21.alloc (.cells (bc (List.replicate 64 0)).toArray 78)) (sz w21) (.cells (bc (t ++ side)).toArray 78) := ⟨_, rfl⟩
    have hx23 : Ext (fun _ => False) w21 w23 := by rw [hw23]; exact ((Ext.refl _ _).alloc _).put _ _ fun h => by omega
    have h16 : Hp w23 (sz w21) = some (.cells (bc (t ++ side)).toArray 78) := by rw [hw23]; exact Hp_put_same _ _ _ (by rw [sz_alloc]; omega)
    rw [← hw23]
    clear hw21 hw23
    have h13'' := hx23.at h13' not_false
    have h15' := hx23.at h15 not_false
    have hs23 := hx23.size
    have hd1 : (2 + (q : Int)).tdiv 2 = 1 := by rw [Int.tdiv_eq_ediv_of_nonneg (by omega)]; omega
    have hwr : wr ((2 + (q : Int)).tdiv 2) = 1 := by rw [hd1]; rfl
    refine Join0 (fun w' => Ext (fun b => b = sz w21) w23 w' ∧ ∃ l, l.length = 64 ∧ nodeL name 1 0x83 l = upL name q t side ∧ Hp w' (sz w21) = some (.cells (bc l).toArray 78)) ?_ ?_
    · match q, hq with
      | 0, _ =>
        have d1 : ¬ (2 + ((0 : Nat) : Int)).tmod 2 = 1 := by decide
        simp (maxSteps := 2000000) (disch := first | exact dT_ | fail) only [d1, p_eql, p_rem, Branch_bool, true_and, Bool.false_eq_true, false_implies, forall_const, decide_false, ld25]
        exact ⟨Ext.refl _ _, t ++ side, by rw [List.length_append]; omega, rfl, h16⟩
      | 1, _ =>
        have d1 : (2 + ((1 : Nat) : Int)).tmod 2 = 1 := by decide
        rw [p_rem _ _ _ _ (by decide), p_eql, decide_eq_true d1, Branch_true, ldI h15' hside, ldI h13'' ht, bld2 hside ht, st2 h16 (by rw [List.length_append]; omega) (by rw [List.length_append]; omega)]
        exact ⟨(Ext.refl _ _).put _ _ fun _ => rfl, side ++ t, by rw [List.length_append]; omega, rfl, Hp_put_same _ _ _ (Hp_lt h16)⟩
    · rintro w25 ⟨hx25, l, hl, hlu, h16'⟩ _
      have hx8 : Ext (fun _ => False) w8 w25.drew := ((hx21.trans hx23 fun _ _ h => h).trans2 hx25 (fun _ _ h => h) fun b hb h => by omega).drew
      have h16d : Hp w25.drew (sz w21) = some (.cells (bc l).toArray 78) := h16'
      rw [p_quo _ _ _ _ (by decide), hwr, ldN (hx8.at h8 not_false) hn, slA78]
      refine CallF_by Try.call38 (lnode_spec (n := 2) (L := l) hn 1 0x83 (by omega) (by omega) h16d (fun j hj => by rw [Nat.zero_add, List.getElem?_toArray]) (by omega)) ?_
      rintro _ w26 ⟨rfl, hx26⟩
      have hxe := hx8.trans hx26 fun _ _ h => h
      rw [hlu, stI (hxe.at h13 not_false) ht hul]
      simp (maxSteps := 2000000) (disch := first | exact dT_ | fail) only [Nat.sub_self, Int.reduceToNat, slL30]
      rw [hJ]
      exact ⟨.inr ⟨rfl, (hxe.mono fun _ _ h => h.elim).put _ _ fun _ => rfl, Hp_put_same _ _ _ (Hp_lt (hxe.at h13 not_false))⟩, by show (1 : Int).toNat < _; omega⟩
  · have hg : ¬ (1 : Int) < 1 := by omega
    have hcp' : 24 < cp := by omega
    have hxd : Ext (fun b => b = p13) W w8.drew := hx8.drew
    have hq1 := q_toStr (BIn.arr (n := 32) (cap := 32) (w := w8.drew) ((Hp_drew _ _).trans h138) hul).of
    have hq2 := q_toStr (w := w8.drew) (v := .slice (some ⟨Bp, op + 24, none⟩) 32 (cp - 24)) (l := top) (by
      have h := BIn.part hp 24 32 (cp - 24) (by omega)
      rw [hpd] at h
      exact (h.ext hxd fun b _ hQ' e => by subst e; exact hQ.2 hQ').of)
    simp (maxSteps := 2000000) (disch := first | exact dT_ | fail) only [hg, hq1, hq2, p_gtr, Branch_bool, decide_eq_true_eq, decide_eq_false_iff_not, Bool.not_eq_true', Bool.not_eq_false', true_and, Bool.false_eq_true, false_implies, forall_const, Nat.reduceSub, p_neqStr, cutAt_some, Nat.mul_one, decide_false, Int.reduceToNat, slA25, slL30]
    have hKd := hK _ hxd
    refine ⟨fun h => ?_, fun h => ?_⟩
    · rw [if_neg h] at hKd; exact hKd
    · rw [if_pos h] at hKd; exact hKd
end Go.Proofs
