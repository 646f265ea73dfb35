/- A part of the proof: A.P27. -/
import Derived.Test.YtgfeaeedlakmfaaAP26
set_option linter.unusedVariables false
set_option linter.unusedSimpArgs false
set_option linter.unusedSectionVars false
namespace Go.Proofs
open Go Go.Lf
set_option maxRecDepth 20000
set_option maxHeartbeats 2000000
set_option linter.unusedSimpArgs false
set_option linter.unusedVariables false
theorem leases_spec {w : World} {first again at_ : Int} (h1 : okI first) (h2 : okI again) (h3 : okI at_) (by8 : UInt8) :
    Calls Try.prog 4 #[i64 first, i64 again, i64 at_, .int .u8 by8.toNat] w (retK fun v w' => v = .bool true ∧ Ext (fun _ => False) w w') := by
  refine F4_ok _ _ _ _ _ _ ?_
  unfold F4
  refine CallF_by Try.call5 (known_spec w) ?_
  rintro _ w1 ⟨rfl, hx1⟩
  simp (disch := first | omega | trivial | assumption | (first | omega | (simp only [List.length_cons, List.length_nil, sz_alloc, sz_put, sz_drew]; done) | (simp only [List.length_replicate, List.length_cons, List.length_nil, *]; done) | (simp only [List.size_toArray, List.length_cons, List.length_nil, sz_alloc, sz_put, sz_drew] at *; omega)) | ((repeat' (first | exact allOne_bc _ | exact allOne_nil | (refine allOne_int _ _ _ ?_) | (refine allOne_sl _ _ _ _ ?_) | (refine allOne_ptr _ _ ?_) | (refine allOne_map _ _ ?_) | (refine allOne_bool _ _ ?_) | (refine allOne_str _ _ ?_) | (refine allOne_iface _ _ _ ?_) | (refine allOne_app _ _ ?_ ?_))); done) | (simp only [cells_agg, cells_int, cells_bool, cells_str, cells_ptr, cells_sl, cells_map, cells_func, cells_iface, List.size_toArray, Array.size_append, bc_length, List.length_cons, List.length_nil, Nat.zero_add, Nat.reduceAdd, *]; done) | (simp (disch := (first | assumption | (first | omega | (simp only [List.length_cons, List.length_nil, sz_alloc, sz_put, sz_drew]; done) | (simp only [List.length_replicate, List.length_cons, List.length_nil, *]; done) | (simp only [List.size_toArray, List.length_cons, List.length_nil, sz_alloc, sz_put, sz_drew] at *; omega)))) only [MapAt, Hp_drew, Hp_alloc_old, Hp_alloc_new, Hp_put_same, Hp_put_other, *])) only [p_not, Branch_bool, Bool.not_true, true_and, Bool.false_eq_true, false_implies, forall_const]
  unfold F4x1
  refine CallF_by Try.call8 (within_spec first 50 (by decide) _) ?_
  rintro _ w2 ⟨rfl, hw2⟩
  obtain rfl : w1 = w2 := hw2.symm
  have b1 := within_prop first 50 (by decide)
  have b2 := within_prop again 50 (by decide)
  simp (disch := first | omega | trivial | assumption | (first | omega | (simp only [List.length_cons, List.length_nil, sz_alloc, sz_put, sz_drew]; done) | (simp only [List.length_replicate, List.length_cons, List.length_nil, *]; done) | (simp only [List.size_toArray, List.length_cons, List.length_nil, sz_alloc, sz_put, sz_drew] at *; omega)) | ((repeat' (first | exact allOne_bc _ | exact allOne_nil | (refine allOne_int _ _ _ ?_) | (refine allOne_sl _ _ _ _ ?_) | (refine allOne_ptr _ _ ?_) | (refine allOne_map _ _ ?_) | (refine allOne_bool _ _ ?_) | (refine allOne_str _ _ ?_) | (refine allOne_iface _ _ _ ?_) | (refine allOne_app _ _ ?_ ?_))); done) | (simp only [cells_agg, cells_int, cells_bool, cells_str, cells_ptr, cells_sl, cells_map, cells_func, cells_iface, List.size_toArray, Array.size_append, bc_length, List.length_cons, List.length_nil, Nat.zero_add, Nat.reduceAdd, *]; done) | (simp (disch := (first | assumption | (first | omega | (simp only [List.length_cons, List.length_nil, sz_alloc, sz_put, sz_drew]; done) | (simp only [List.length_replicate, List.length_cons, List.length_nil, *]; done) | (simp only [List.size_toArray, List.length_cons, List.length_nil, sz_alloc, sz_put, sz_drew] at *; omega)))) only [MapAt, Hp_drew, Hp_alloc_old, Hp_alloc_new, Hp_put_same, Hp_put_other, *])) only [p_add, cells_agg, wr_in, ld35, bs37_3, al35, zv35]
  refine CallF_by Try.call8 (within_spec again 50 (by decide) _) ?_
  rintro _ w3 ⟨rfl, hw3⟩
  obtain rfl : w1 = w3 := hw3.symm
  simp (disch := first | omega | trivial | assumption | (first | omega | (simp only [List.length_cons, List.length_nil, sz_alloc, sz_put, sz_drew]; done) | (simp only [List.length_replicate, List.length_cons, List.length_nil, *]; done) | (simp only [List.size_toArray, List.length_cons, List.length_nil, sz_alloc, sz_put, sz_drew] at *; omega)) | ((repeat' (first | exact allOne_bc _ | exact allOne_nil | (refine allOne_int _ _ _ ?_) | (refine allOne_sl _ _ _ _ ?_) | (refine allOne_ptr _ _ ?_) | (refine allOne_map _ _ ?_) | (refine allOne_bool _ _ ?_) | (refine allOne_str _ _ ?_) | (refine allOne_iface _ _ _ ?_) | (refine allOne_app _ _ ?_ ?_))); done) | (simp only [cells_agg, cells_int, cells_bool, cells_str, cells_ptr, cells_sl, cells_map, cells_func, cells_iface, List.size_toArray, Array.size_append, bc_length, List.length_cons, List.length_nil, Nat.zero_add, Nat.reduceAdd, *]; done) | (simp (disch := (first | assumption | (first | omega | (simp only [List.length_cons, List.length_nil, sz_alloc, sz_put, sz_drew]; done) | (simp only [List.length_replicate, List.length_cons, List.length_nil, *]; done) | (simp only [List.size_toArray, List.length_cons, List.length_nil, sz_alloc, sz_put, sz_drew] at *; omega)))) only [MapAt, Hp_drew, Hp_alloc_old, Hp_alloc_new, Hp_put_same, Hp_put_other, *])) only [p_add, wr_in]
  obtain ⟨F, hF⟩ : ∃ F, F = 1 + first % 50 := ⟨_, rfl⟩
  obtain ⟨G, hG⟩ : ∃ G, G = 1 + again % 50 := ⟨_, rfl⟩
  rw [← hF, ← hG]
  have b3 := within_prop at_ F (by omega)
  have hs1 := hx1.size
  let Q : Nat → Prop := fun b => b < sz w1 ∨ sz w1 + 3 ≤ b
  refine CallF_by Try.call6 (new_good w1 100 100 rfl Q (fun b h => h)) ?_
  rintro _ w4 ⟨rfl, hx4, hs4, soon4, cm4, us4, cu4, hA4, hso4⟩
  simp (disch := first | omega | trivial | assumption | (first | omega | (simp only [List.length_cons, List.length_nil, sz_alloc, sz_put, sz_drew]; done) | (simp only [List.length_replicate, List.length_cons, List.length_nil, *]; done) | (simp only [List.size_toArray, List.length_cons, List.length_nil, sz_alloc, sz_put, sz_drew] at *; omega)) | ((repeat' (first | exact allOne_bc _ | exact allOne_nil | (refine allOne_int _ _ _ ?_) | (refine allOne_sl _ _ _ _ ?_) | (refine allOne_ptr _ _ ?_) | (refine allOne_map _ _ ?_) | (refine allOne_bool _ _ ?_) | (refine allOne_str _ _ ?_) | (refine allOne_iface _ _ _ ?_) | (refine allOne_app _ _ ?_ ?_))); done) | (simp only [cells_agg, cells_int, cells_bool, cells_str, cells_ptr, cells_sl, cells_map, cells_func, cells_iface, List.size_toArray, Array.size_append, bc_length, List.length_cons, List.length_nil, Nat.zero_add, Nat.reduceAdd, *]; done) | (simp (disch := (first | assumption | (first | omega | (simp only [List.length_cons, List.length_nil, sz_alloc, sz_put, sz_drew]; done) | (simp only [List.length_replicate, List.length_cons, List.length_nil, *]; done) | (simp only [List.size_toArray, List.length_cons, List.length_nil, sz_alloc, sz_put, sz_drew] at *; omega)))) only [MapAt, Hp_drew, Hp_alloc_old, Hp_alloc_new, Hp_put_same, Hp_put_other, *])) only [p_extract0, p_extract1]
  refine CallF_by Try.call9 (key_spec 7 (by decide) _) ?_
  rintro _ w5 ⟨rfl, hx5⟩
  have hkl := keyOf_length 7
  generalize keyOf 7 = k at *
  have z32 : (List.replicate 32 (0 : UInt8)).length = 32 := by simp
  have e0 : k.length = (List.replicate 32 (0 : UInt8)).length := by rw [hkl, z32]
  have hQn : ∀ b, sz w4 ≤ b → Q b := fun b hb => .inr (by omega)
  have hQo : ∀ b, Q b → ¬ areaM (sz w1 + 2) (sz w1) (sz w1 + 1) b := fun b hb hm => by
    rcases hb with hb | hb <;> rcases hm with hm | hm | hm <;> omega
  have hs5 := hx5.size
  have hc3 : ∀ v ∈ [Value.int .u8 1, Value.int .u8 2, Value.int .u8 3], v.cells.size = 1 := by simp [cells_int]
  simp (disch := first | omega | trivial | assumption | (first | omega | (simp only [List.length_cons, List.length_nil, sz_alloc, sz_put, sz_drew]; done) | (simp only [List.length_replicate, List.length_cons, List.length_nil, *]; done) | (simp only [List.size_toArray, List.length_cons, List.length_nil, sz_alloc, sz_put, sz_drew] at *; omega)) | ((repeat' (first | exact allOne_bc _ | exact allOne_nil | (refine allOne_int _ _ _ ?_) | (refine allOne_sl _ _ _ _ ?_) | (refine allOne_ptr _ _ ?_) | (refine allOne_map _ _ ?_) | (refine allOne_bool _ _ ?_) | (refine allOne_str _ _ ?_) | (refine allOne_iface _ _ _ ?_) | (refine allOne_app _ _ ?_ ?_))); done) | (simp only [cells_agg, cells_int, cells_bool, cells_str, cells_ptr, cells_sl, cells_map, cells_func, cells_iface, List.size_toArray, Array.size_append, bc_length, List.length_cons, List.length_nil, Nat.zero_add, Nat.reduceAdd, *]; done) | (simp (disch := (first | assumption | (first | omega | (simp only [List.length_cons, List.length_nil, sz_alloc, sz_put, sz_drew]; done) | (simp only [List.length_replicate, List.length_cons, List.length_nil, *]; done) | (simp only [List.size_toArray, List.length_cons, List.length_nil, sz_alloc, sz_put, sz_drew] at *; omega)))) only [MapAt, Hp_drew, Hp_alloc_old, Hp_alloc_new, Hp_put_same, Hp_put_other, *])) only [hkl, z32, put_allocN, Ln_cells, St_cells, Hp_alloc_new, sz_alloc, cells_agg, cells_int, cells_sl, Nat.zero_add, List.size_toArray, Nat.reduceLeDiff, if_pos, and_self, ext_bc0, splice_bc, splice_lit, splice_id, splice_bc_all, bc_length, Nat.sub_self, Nat.reduceSub, List.set_cons_zero, List.set_cons_succ, bld39_0_1_2_3, bs37_1, st35]
  have hcat : (catC [Value.int IntKind.u8 1, Value.int IntKind.u8 2, Value.int IntKind.u8 3]).toArray = (bc [1, 2, 3]).toArray := rfl
  rw [hcat]
  obtain ⟨w8, hw8⟩ : ∃ w8, w8 = (w5.alloc (Obj.cells (bc k).toArray 35)).alloc (Obj.cells (bc [1, 2, 3]).toArray 5) := ⟨_, rfl⟩
  have hx8 : Ext (fun _ => False) w5 w8 := by rw [hw8]; exact ((Ext.refl _ _).alloc _).alloc _
  have hs8 : sz w8 = sz w5 + 2 := by rw [hw8]; (first | omega | (simp only [List.length_cons, List.length_nil, sz_alloc, sz_put, sz_drew]; done) | (simp only [List.length_replicate, List.length_cons, List.length_nil, *]; done) | (simp only [List.size_toArray, List.length_cons, List.length_nil, sz_alloc, sz_put, sz_drew] at *; omega))
  have hk8 : Hp w8 (sz w5) = some (.cells (bc k).toArray 35 (0, 0)) := by rw [hw8]; (simp (disch := (first | assumption | (first | omega | (simp only [List.length_cons, List.length_nil, sz_alloc, sz_put, sz_drew]; done) | (simp only [List.length_replicate, List.length_cons, List.length_nil, *]; done) | (simp only [List.size_toArray, List.length_cons, List.length_nil, sz_alloc, sz_put, sz_drew] at *; omega)))) only [MapAt, Hp_drew, Hp_alloc_old, Hp_alloc_new, Hp_put_same, Hp_put_other, *])
  have hd8 : Bytes 5 w8 (.slice (some ⟨sz w5 + 1, 0, none⟩) 3 3) [1, 2, 3] (fun b => b = sz w5 + 1) := by
    rw [hw8]
    have := Vec.fresh (w := w5.alloc (Obj.cells (bc k).toArray 35)) (e := 5) (z := 1) (n := 3) (bc [1, 2, 3]).toArray (by simp [bc])
    rw [sz_alloc] at this; exact this
  rw [← hw8]
  clear hw8
  have hA8 := (hA4.ext hx5 fun _ _ _ => not_false).ext hx8 fun _ _ _ => not_false
  refine CallF_by Try.call10 (put_spec hA8 hso4 0 (by simp) ⟨k, [1, 2, 3], 2, F⟩ _ hd8 hkl (fun b hb hm => by rcases hm with hm | hm | hm <;> omega) (by simp) (fun b hb => hQn b (by omega)) hQo) ?_
  have hp1 : putB 100 100 0 ⟨k, [1, 2, 3], 2, F⟩ (bl []) = (0, [⟨k, [1, 2, 3], 2, F⟩]) := by
    unfold putB
    rw [if_neg (by simp; omega), if_neg (by simp)]
    rfl
  rintro _ w9 ⟨rfl, hx9, A9, soon9, cm9, us9, cu9, hbl9, hso9, hA9⟩
  rw [hp1] at hbl9
  rw [hp1]
  have hs9 := hx9.size
  have hnM : ∀ b, sz w4 ≤ b → ¬ areaM (sz w1 + 2) (sz w1) (sz w1 + 1) b := fun b hb => hQo b (hQn b hb)
  have hk9 := hx9.at hk8 (hnM _ hs5)
  have hlen9 : A9.length = 1 := by have := congrArg List.length hbl9; simpa [bl] using this
  refine CallF_by Try.call8 (within_spec at_ F (by omega) _) ?_
  rintro _ w10 ⟨rfl, hw10⟩
  obtain rfl : w9 = w10 := hw10.symm
  generalize at_ % F = a at *
  have hc1 : ∀ v ∈ [Value.int .u8 (by8.toNat : Int)], v.cells.size = 1 := by simp [cells_int]
  simp (disch := first | omega | trivial | assumption | (first | omega | (simp only [List.length_cons, List.length_nil, sz_alloc, sz_put, sz_drew]; done) | (simp only [List.length_replicate, List.length_cons, List.length_nil, *]; done) | (simp only [List.size_toArray, List.length_cons, List.length_nil, sz_alloc, sz_put, sz_drew] at *; omega)) | ((repeat' (first | exact allOne_bc _ | exact allOne_nil | (refine allOne_int _ _ _ ?_) | (refine allOne_sl _ _ _ _ ?_) | (refine allOne_ptr _ _ ?_) | (refine allOne_map _ _ ?_) | (refine allOne_bool _ _ ?_) | (refine allOne_str _ _ ?_) | (refine allOne_iface _ _ _ ?_) | (refine allOne_app _ _ ?_ ?_))); done) | (simp only [cells_agg, cells_int, cells_bool, cells_str, cells_ptr, cells_sl, cells_map, cells_func, cells_iface, List.size_toArray, Array.size_append, bc_length, List.length_cons, List.length_nil, Nat.zero_add, Nat.reduceAdd, *]; done) | (simp (disch := (first | assumption | (first | omega | (simp only [List.length_cons, List.length_nil, sz_alloc, sz_put, sz_drew]; done) | (simp only [List.length_replicate, List.length_cons, List.length_nil, *]; done) | (simp only [List.size_toArray, List.length_cons, List.length_nil, sz_alloc, sz_put, sz_drew] at *; omega)))) only [MapAt, Hp_drew, Hp_alloc_old, Hp_alloc_new, Hp_put_same, Hp_put_other, *])) only [hk9, hkl, bs37_1 _ hc1, Pick_bool, p_add, p_sub, p_eql, p_max, Ln_cells, cells_agg, cells_int, cells_sl, Gd_true, Nat.zero_add, List.size_toArray, Nat.reduceLeDiff, if_pos, ext_bc0, splice_bc, splice_lit, splice_id, bc_length, Nat.sub_self, Nat.reduceSub, List.set_cons_zero, List.set_cons_succ, List.length_replicate, wr_in, bld39_0_1_2_3]
  have hcat2 : (catC [Value.int IntKind.u8 (by8.toNat : Int)]).toArray = (bc [by8]).toArray := rfl
  rw [hcat2]
  obtain ⟨w11, hw11⟩ : ∃ w11, w11 = w9.alloc (Obj.cells (bc [by8]).toArray 5) := ⟨_, rfl⟩
  have hx11 : Ext (fun _ => False) w9 w11 := by rw [hw11]; exact (Ext.refl _ _).alloc _
  have hd11 : Bytes 5 w11 (.slice (some ⟨sz w9, 0, none⟩) 1 1) [by8] (fun b => b = sz w9) := by
    rw [hw11]
    exact Vec.fresh (w := w9) (e := 5) (z := 1) (n := 1) (bc [by8]).toArray (by simp [bc])
  rw [← hw11]
  clear hw11
  have hk11 := hx11.at hk9 not_false
  have hs11 := hx11.size
  refine CallF_by Try.call10 (put_spec (hA9.ext hx11 fun _ _ _ => not_false) hso9 a (by omega) ⟨k, [by8], 3, a + G⟩ _ hd11 hkl (fun b hb hm => by rcases hm with hm | hm | hm <;> omega) (by simp) (fun b hb => hQn b (by omega)) hQo) ?_
  obtain ⟨E, hE⟩ : ∃ E, E = max F (a + G) := ⟨_, rfl⟩
  have hp2 : putB 100 100 a ⟨k, [by8], 3, a + G⟩ [⟨k, [1, 2, 3], 2, F⟩] = (0, [⟨k, [1, 2, 3], 2, E⟩]) := by
    have hsw : sweepB a [⟨k, [1, 2, 3], 2, F⟩] = [⟨k, [1, 2, 3], 2, F⟩] := by
      have : decide (a < F) = true := decide_eq_true (by omega)
      simp [sweepB, this]
    unfold putB
    rw [if_neg (by simp; omega), if_neg (by simp), hsw, if_pos (by simp [hasK])]
    simp [reletB, hE]
  rintro _ w12 ⟨rfl, hx12, A12, soon12, cm12, us12, cu12, hbl12, hso12, hA12⟩
  rw [hbl9, hp2] at hbl12
  rw [hbl9, hp2]
  have hs12 := hx12.size
  have hk12 := hx12.at hk11 (hnM _ hs5)
  have hlen12 : A12.length = 1 := by have := congrArg List.length hbl12; simpa [bl] using this
  simp (disch := first | omega | trivial | assumption | (first | omega | (simp only [List.length_cons, List.length_nil, sz_alloc, sz_put, sz_drew]; done) | (simp only [List.length_replicate, List.length_cons, List.length_nil, *]; done) | (simp only [List.size_toArray, List.length_cons, List.length_nil, sz_alloc, sz_put, sz_drew] at *; omega)) | ((repeat' (first | exact allOne_bc _ | exact allOne_nil | (refine allOne_int _ _ _ ?_) | (refine allOne_sl _ _ _ _ ?_) | (refine allOne_ptr _ _ ?_) | (refine allOne_map _ _ ?_) | (refine allOne_bool _ _ ?_) | (refine allOne_str _ _ ?_) | (refine allOne_iface _ _ _ ?_) | (refine allOne_app _ _ ?_ ?_))); done) | (simp only [cells_agg, cells_int, cells_bool, cells_str, cells_ptr, cells_sl, cells_map, cells_func, cells_iface, List.size_toArray, Array.size_append, bc_length, List.length_cons, List.length_nil, Nat.zero_add, Nat.reduceAdd, *]; done) | (simp (disch := (first | assumption | (first | omega | (simp only [List.length_cons, List.length_nil, sz_alloc, sz_put, sz_drew]; done) | (simp only [List.length_replicate, List.length_cons, List.length_nil, *]; done) | (simp only [List.size_toArray, List.length_cons, List.length_nil, sz_alloc, sz_put, sz_drew] at *; omega)))) only [MapAt, Hp_drew, Hp_alloc_old, Hp_alloc_new, Hp_put_same, Hp_put_other, *])) only [hk12, hkl, p_eql, Ln_cells, Nat.zero_add, List.size_toArray, Nat.reduceLeDiff, if_pos, ext_bc0, bc_length]
  rw [← hE]
  have hEb : 1 ≤ E ∧ E ≤ 200 := by omega
  refine CallF_by Try.call12 (get_spec hA12 k hkl (E - 1)) ?_
  rintro _ w13 ⟨hx13, d, rfl, hd⟩
  have hk13 := hx13.at hk12 not_false
  have hA13 := hA12.ext hx13 fun _ _ _ => not_false
  obtain ⟨g1, g2⟩ := getB_find hA12.good.keys k (E - 1)
  have g3 : getB k (E - 1) (bl A12) = some ⟨k, [1, 2, 3], 2, E⟩ := by
    have : decide (E - 1 < E) = true := decide_eq_true (by omega)
    rw [hbl12]; simp [getB, this]
  rw [g3] at g1 g2
  have hd' := Eq.subst (motive := fun l => Bytes 5 w13 d l (fun b => sz w12 ≤ b)) g2 hd
  rw [g1]
  simp (disch := first | omega | trivial | assumption | (first | omega | (simp only [List.length_cons, List.length_nil, sz_alloc, sz_put, sz_drew]; done) | (simp only [List.length_replicate, List.length_cons, List.length_nil, *]; done) | (simp only [List.size_toArray, List.length_cons, List.length_nil, sz_alloc, sz_put, sz_drew] at *; omega)) | ((repeat' (first | exact allOne_bc _ | exact allOne_nil | (refine allOne_int _ _ _ ?_) | (refine allOne_sl _ _ _ _ ?_) | (refine allOne_ptr _ _ ?_) | (refine allOne_map _ _ ?_) | (refine allOne_bool _ _ ?_) | (refine allOne_str _ _ ?_) | (refine allOne_iface _ _ _ ?_) | (refine allOne_app _ _ ?_ ?_))); done) | (simp only [cells_agg, cells_int, cells_bool, cells_str, cells_ptr, cells_sl, cells_map, cells_func, cells_iface, List.size_toArray, Array.size_append, bc_length, List.length_cons, List.length_nil, Nat.zero_add, Nat.reduceAdd, *]; done) | (simp (disch := (first | assumption | (first | omega | (simp only [List.length_cons, List.length_nil, sz_alloc, sz_put, sz_drew]; done) | (simp only [List.length_replicate, List.length_cons, List.length_nil, *]; done) | (simp only [List.size_toArray, List.length_cons, List.length_nil, sz_alloc, sz_put, sz_drew] at *; omega)))) only [MapAt, Hp_drew, Hp_alloc_old, Hp_alloc_new, Hp_put_same, Hp_put_other, *])) only [hk13, hkl, p_extract0, p_extract1, Ln_cells, Nat.zero_add, List.size_toArray, Nat.reduceLeDiff, if_pos, ext_bc0, bc_length]
  refine CallF_by Try.call12 (get_spec hA13 k hkl E) ?_
  rintro _ w14 ⟨hx14, d2, rfl, hd2⟩
  have hA14 := hA13.ext hx14 fun _ _ _ => not_false
  obtain ⟨g4, g5⟩ := getB_find hA12.good.keys k E
  have g6 : getB k E (bl A12) = none := by
    rw [hbl12]; simp [getB]
  rw [g6] at g4
  rw [g4]
  simp (disch := first | omega | trivial | assumption | (first | omega | (simp only [List.length_cons, List.length_nil, sz_alloc, sz_put, sz_drew]; done) | (simp only [List.length_replicate, List.length_cons, List.length_nil, *]; done) | (simp only [List.size_toArray, List.length_cons, List.length_nil, sz_alloc, sz_put, sz_drew] at *; omega)) | ((repeat' (first | exact allOne_bc _ | exact allOne_nil | (refine allOne_int _ _ _ ?_) | (refine allOne_sl _ _ _ _ ?_) | (refine allOne_ptr _ _ ?_) | (refine allOne_map _ _ ?_) | (refine allOne_bool _ _ ?_) | (refine allOne_str _ _ ?_) | (refine allOne_iface _ _ _ ?_) | (refine allOne_app _ _ ?_ ?_))); done) | (simp only [cells_agg, cells_int, cells_bool, cells_str, cells_ptr, cells_sl, cells_map, cells_func, cells_iface, List.size_toArray, Array.size_append, bc_length, List.length_cons, List.length_nil, Nat.zero_add, Nat.reduceAdd, *]; done) | (simp (disch := (first | assumption | (first | omega | (simp only [List.length_cons, List.length_nil, sz_alloc, sz_put, sz_drew]; done) | (simp only [List.length_replicate, List.length_cons, List.length_nil, *]; done) | (simp only [List.size_toArray, List.length_cons, List.length_nil, sz_alloc, sz_put, sz_drew] at *; omega)))) only [MapAt, Hp_drew, Hp_alloc_old, Hp_alloc_new, Hp_put_same, Hp_put_other, *])) only [p_extract0, p_extract1]
  refine CallF_by Try.call19 (all_spec hA14 (by omega)) ?_
  rintro v w15 ⟨hx15, L, hL1, hL2, hL3, hL4⟩
  have hA15 := hA14.ext hx15 fun _ _ _ => not_false
  rw [hbl12] at hL1
  have hL : L.map (·.1) = [⟨k, [1, 2, 3], 2, E⟩] := List.perm_singleton.1 hL1
  have hLl : L.length = 1 := by have := congrArg List.length hL; simpa using this
  obtain ⟨y, rfl⟩ : ∃ y, L = [y] := List.length_eq_one_iff.1 hLl
  simp only [List.map_cons, List.map_nil, List.cons.injEq, and_true] at hL
  obtain ⟨b, o, cap, row, rfl, hcap, hb, ho, hr, hq⟩ := hL3.at (by simp)
  obtain ⟨-, -, g32, g33, g34, gsz⟩ := brow (i := 0) (y := y) hr rfl (by rw [hL]; exact hkl)
  rw [hL] at g33 g34
  simp only [Nat.zero_mul, Nat.add_zero, List.length_cons, List.length_nil, Nat.zero_add] at g33 g34 gsz hcap
  have hbn : ([1, 2, 3] : List UInt8) = [1, 2, 3] := rfl
  have hstr : Value.string (ByteArray.mk #[1, 2, 3]) = str [1, 2, 3] := rfl
  have c1 := fun K => QRun_eq (run_toStr (P := Try.prog) ((Vec.ext hd' hx14 fun _ _ _ => not_false).ext hx15 fun _ _ _ => not_false) 37 9 Try.runUnderlying37 Try.runUnderlying9 Try.runUnderlying5) K
  have c1' : ∀ K, QRun Try.prog (convert 37 9 d) w15 K = K (str [1, 2, 3]) := c1
  have t0 : Int.toNat 0 = 0 := rfl
  have hcast1 : ((1 : Nat) : Int) = 1 := rfl
  have hcast0 : ((0 : Nat) : Int) = 0 := rfl
  simp (disch := first | omega | trivial | assumption | (first | omega | (simp only [List.length_cons, List.length_nil, sz_alloc, sz_put, sz_drew]; done) | (simp only [List.length_replicate, List.length_cons, List.length_nil, *]; done) | (simp only [List.size_toArray, List.length_cons, List.length_nil, sz_alloc, sz_put, sz_drew] at *; omega)) | ((repeat' (first | exact allOne_bc _ | exact allOne_nil | (refine allOne_int _ _ _ ?_) | (refine allOne_sl _ _ _ _ ?_) | (refine allOne_ptr _ _ ?_) | (refine allOne_map _ _ ?_) | (refine allOne_bool _ _ ?_) | (refine allOne_str _ _ ?_) | (refine allOne_iface _ _ _ ?_) | (refine allOne_app _ _ ?_ ?_))); done) | (simp only [cells_agg, cells_int, cells_bool, cells_str, cells_ptr, cells_sl, cells_map, cells_func, cells_iface, List.size_toArray, Array.size_append, bc_length, List.length_cons, List.length_nil, Nat.zero_add, Nat.reduceAdd, *]; done) | (simp (disch := (first | assumption | (first | omega | (simp only [List.length_cons, List.length_nil, sz_alloc, sz_put, sz_drew]; done) | (simp only [List.length_replicate, List.length_cons, List.length_nil, *]; done) | (simp only [List.size_toArray, List.length_cons, List.length_nil, sz_alloc, sz_put, sz_drew] at *; omega)))) only [MapAt, Hp_drew, Hp_alloc_old, Hp_alloc_new, Hp_put_same, Hp_put_other, *])) only [hcast1, Option.isSome_some, Option.isSome_none, c1', hstr, hb, g33, g34, t0, Nat.zero_mul, Nat.add_zero, List.length_cons, List.length_nil, Nat.zero_add, decide_true, cond_true, Pick_bool, cond_true, p_eql, p_not, L1_cells, Gd_true, GdE_true, Option.elim_some, Nat.zero_add, Nat.add_zero, List.length_cons, List.length_nil, Bool.not_false, p_eqlStr, fld39_2, fld39_3, ix47, len47, ld3]
  refine CallF_by Try.call22 (used_spec hA15 3) ?_
  rintro _ w16 ⟨rfl, hw16⟩
  obtain rfl : w15 = w16 := hw16.symm
  have hu : usedB (bl A12) 3 = 0 := by rw [hbl12]; simp [usedB, lenOf]
  simp (disch := first | omega | trivial | assumption | (first | omega | (simp only [List.length_cons, List.length_nil, sz_alloc, sz_put, sz_drew]; done) | (simp only [List.length_replicate, List.length_cons, List.length_nil, *]; done) | (simp only [List.size_toArray, List.length_cons, List.length_nil, sz_alloc, sz_put, sz_drew] at *; omega)) | ((repeat' (first | exact allOne_bc _ | exact allOne_nil | (refine allOne_int _ _ _ ?_) | (refine allOne_sl _ _ _ _ ?_) | (refine allOne_ptr _ _ ?_) | (refine allOne_map _ _ ?_) | (refine allOne_bool _ _ ?_) | (refine allOne_str _ _ ?_) | (refine allOne_iface _ _ _ ?_) | (refine allOne_app _ _ ?_ ?_))); done) | (simp only [cells_agg, cells_int, cells_bool, cells_str, cells_ptr, cells_sl, cells_map, cells_func, cells_iface, List.size_toArray, Array.size_append, bc_length, List.length_cons, List.length_nil, Nat.zero_add, Nat.reduceAdd, *]; done) | (simp (disch := (first | assumption | (first | omega | (simp only [List.length_cons, List.length_nil, sz_alloc, sz_put, sz_drew]; done) | (simp only [List.length_replicate, List.length_cons, List.length_nil, *]; done) | (simp only [List.size_toArray, List.length_cons, List.length_nil, sz_alloc, sz_put, sz_drew] at *; omega)))) only [MapAt, Hp_drew, Hp_alloc_old, Hp_alloc_new, Hp_put_same, Hp_put_other, *])) only [hu, decide_true, cond_true, Pick_bool, cond_true, p_sub, p_eql, Gd_true, GdE_true, wr_in]
  refine CallF_by Try.call16 (sweep_spec hA15 hso12 (E - 1) (by omega)) ?_
  rintro _ w17 ⟨rfl, hx17, soon17, us17, cu17, hso17, hA17⟩
  have hl1 : (A12.filter (AE.live (E - 1))).length = 1 := by
    have e : (bl (A12.filter (AE.live (E - 1)))).length = 1 := by
      rw [bl_live, hbl12]
      have : decide (E - 1 < E) = true := decide_eq_true (by omega)
      simp [sweepB, this]
    simpa [bl] using e
  have hf1 : A12.filter (AE.live (E - 1)) = A12 := by
    rw [List.filter_eq_self]
    rcases List.length_eq_one_iff.1 hlen12 with ⟨z, rfl⟩
    intro y hy
    rw [List.filter_cons] at hl1
    rw [List.mem_singleton.1 hy]
    split at hl1
    · assumption
    · simp at hl1
  rw [hf1] at hA17 hso17
  simp (disch := first | omega | trivial | assumption | (first | omega | (simp only [List.length_cons, List.length_nil, sz_alloc, sz_put, sz_drew]; done) | (simp only [List.length_replicate, List.length_cons, List.length_nil, *]; done) | (simp only [List.size_toArray, List.length_cons, List.length_nil, sz_alloc, sz_put, sz_drew] at *; omega)) | ((repeat' (first | exact allOne_bc _ | exact allOne_nil | (refine allOne_int _ _ _ ?_) | (refine allOne_sl _ _ _ _ ?_) | (refine allOne_ptr _ _ ?_) | (refine allOne_map _ _ ?_) | (refine allOne_bool _ _ ?_) | (refine allOne_str _ _ ?_) | (refine allOne_iface _ _ _ ?_) | (refine allOne_app _ _ ?_ ?_))); done) | (simp only [cells_agg, cells_int, cells_bool, cells_str, cells_ptr, cells_sl, cells_map, cells_func, cells_iface, List.size_toArray, Array.size_append, bc_length, List.length_cons, List.length_nil, Nat.zero_add, Nat.reduceAdd, *]; done) | (simp (disch := (first | assumption | (first | omega | (simp only [List.length_cons, List.length_nil, sz_alloc, sz_put, sz_drew]; done) | (simp only [List.length_replicate, List.length_cons, List.length_nil, *]; done) | (simp only [List.size_toArray, List.length_cons, List.length_nil, sz_alloc, sz_put, sz_drew] at *; omega)))) only [MapAt, Hp_drew, Hp_alloc_old, Hp_alloc_new, Hp_put_same, Hp_put_other, *])) only [hcast1, hl1, hlen12, Int.sub_self, decide_true, cond_true, Pick_bool, cond_true, p_eql, Gd_true, GdE_true]
  refine CallF_by Try.call16 (sweep_spec hA17 hso17 E (by omega)) ?_
  rintro _ w18 ⟨rfl, hx18, soon18, us18, cu18, hso18, hA18⟩
  have hf0 : A12.filter (AE.live E) = [] := by
    have e : (bl (A12.filter (AE.live E))) = [] := by
      rw [bl_live, hbl12]
      simp [sweepB]
    exact List.map_eq_nil_iff.1 e
  rw [hf0] at hA18
  simp (disch := first | omega | trivial | assumption | (first | omega | (simp only [List.length_cons, List.length_nil, sz_alloc, sz_put, sz_drew]; done) | (simp only [List.length_replicate, List.length_cons, List.length_nil, *]; done) | (simp only [List.size_toArray, List.length_cons, List.length_nil, sz_alloc, sz_put, sz_drew] at *; omega)) | ((repeat' (first | exact allOne_bc _ | exact allOne_nil | (refine allOne_int _ _ _ ?_) | (refine allOne_sl _ _ _ _ ?_) | (refine allOne_ptr _ _ ?_) | (refine allOne_map _ _ ?_) | (refine allOne_bool _ _ ?_) | (refine allOne_str _ _ ?_) | (refine allOne_iface _ _ _ ?_) | (refine allOne_app _ _ ?_ ?_))); done) | (simp only [cells_agg, cells_int, cells_bool, cells_str, cells_ptr, cells_sl, cells_map, cells_func, cells_iface, List.size_toArray, Array.size_append, bc_length, List.length_cons, List.length_nil, Nat.zero_add, Nat.reduceAdd, *]; done) | (simp (disch := (first | assumption | (first | omega | (simp only [List.length_cons, List.length_nil, sz_alloc, sz_put, sz_drew]; done) | (simp only [List.length_replicate, List.length_cons, List.length_nil, *]; done) | (simp only [List.size_toArray, List.length_cons, List.length_nil, sz_alloc, sz_put, sz_drew] at *; omega)))) only [MapAt, Hp_drew, Hp_alloc_old, Hp_alloc_new, Hp_put_same, Hp_put_other, *])) only [hcast1, hcast0, hf0, hlen12, List.length_nil, Pick_bool, p_eql, Gd_true, GdE_true, List.length_nil]
  refine CallF_by Try.call20 (total_spec hA18) ?_
  rintro _ w19 ⟨rfl, hw19⟩
  obtain rfl : w18 = w19 := hw19.symm
  have ht : totalB (bl ([] : List AE)) = 0 := rfl
  simp (disch := first | omega | trivial | assumption | (first | omega | (simp only [List.length_cons, List.length_nil, sz_alloc, sz_put, sz_drew]; done) | (simp only [List.length_replicate, List.length_cons, List.length_nil, *]; done) | (simp only [List.size_toArray, List.length_cons, List.length_nil, sz_alloc, sz_put, sz_drew] at *; omega)) | ((repeat' (first | exact allOne_bc _ | exact allOne_nil | (refine allOne_int _ _ _ ?_) | (refine allOne_sl _ _ _ _ ?_) | (refine allOne_ptr _ _ ?_) | (refine allOne_map _ _ ?_) | (refine allOne_bool _ _ ?_) | (refine allOne_str _ _ ?_) | (refine allOne_iface _ _ _ ?_) | (refine allOne_app _ _ ?_ ?_))); done) | (simp only [cells_agg, cells_int, cells_bool, cells_str, cells_ptr, cells_sl, cells_map, cells_func, cells_iface, List.size_toArray, Array.size_append, bc_length, List.length_cons, List.length_nil, Nat.zero_add, Nat.reduceAdd, *]; done) | (simp (disch := (first | assumption | (first | omega | (simp only [List.length_cons, List.length_nil, sz_alloc, sz_put, sz_drew]; done) | (simp only [List.length_replicate, List.length_cons, List.length_nil, *]; done) | (simp only [List.size_toArray, List.length_cons, List.length_nil, sz_alloc, sz_put, sz_drew] at *; omega)))) only [MapAt, Hp_drew, Hp_alloc_old, Hp_alloc_new, Hp_put_same, Hp_put_other, *])) only [ht, decide_true, p_eql]
  refine ⟨rfl, ?_⟩
  have hm : ∀ b, areaM (sz w1 + 2) (sz w1) (sz w1 + 1) b → sz w ≤ b := fun b hm => by rcases hm with e | e | e <;> omega
  have j1 := ((hx1.trans hx4 fun _ _ h => h).trans hx5 fun _ _ h => h).trans hx8 fun _ _ h => h
  have j2 := ((j1.trans2 (M := fun b => sz w ≤ b) hx9 (fun _ _ h => h.elim) fun b _ h => hm b h).trans2 (M := fun b => sz w ≤ b) hx11 (fun _ _ h => h) fun _ _ h => h.elim).trans2 (M := fun b => sz w ≤ b) hx12 (fun _ _ h => h) fun b _ h => hm b h
  have j3 := ((j2.trans2 (M := fun b => sz w ≤ b) hx13 (fun _ _ h => h) fun _ _ h => h.elim).trans2 (M := fun b => sz w ≤ b) hx14 (fun _ _ h => h) fun _ _ h => h.elim).trans2 (M := fun b => sz w ≤ b) hx15 (fun _ _ h => h) fun _ _ h => h.elim
  have j4 := (j3.trans2 (M := fun b => sz w ≤ b) hx17 (fun _ _ h => h) fun b _ h => hm b h).trans2 (M := fun b => sz w ≤ b) hx18 (fun _ _ h => h) fun b _ h => hm b h
  exact j4.mono fun b hb h => by omega
end Go.Proofs
