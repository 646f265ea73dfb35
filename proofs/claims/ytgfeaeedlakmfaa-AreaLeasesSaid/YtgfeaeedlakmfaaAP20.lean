/- A part of the proof: A.P20. -/
import Derived.Test.YtgfeaeedlakmfaaAP19
import Derived.Test.YtgfeaeedlakmfaaLEqs
set_option linter.unusedVariables false
set_option linter.unusedSimpArgs false
set_option linter.unusedSectionVars false
namespace Go.Proofs
open Go Go.Lf
set_option maxRecDepth 20000
set_option maxHeartbeats 2000000
set_option linter.unusedSimpArgs false
set_option linter.unusedVariables false
abbrev zkey : List UInt8 := List.replicate 32 0
theorem known_spec (w : World) : Calls Try.prog 5 #[] w (retK fun v w' => v = .bool true ∧ Ext (fun _ => False) w w') := by
  refine F5_ok _ _ ?_
  unfold F5
  let Q : Nat → Prop := fun b => b < sz w ∨ sz w + 3 ≤ b
  refine CallF_by Try.call6 (new_good w 10 4 rfl Q (fun b h => h)) ?_
  rintro _ w1 ⟨rfl, hx1, hs1, soon1, cm1, us1, cu1, hA1, hso1⟩
  have z32 : (List.replicate 32 (0 : UInt8)).length = 32 := by simp
  have t5 : Int.toNat 5 = 5 := rfl
  have t4 : Int.toNat 4 = 4 := rfl
  have hb0 : (some (⟨sz w + 2, 0, none⟩ : Addr)).isNone = false := rfl
  simp (disch := first | omega | trivial | assumption | (first | omega | (simp only [List.length_cons, List.length_nil, sz_alloc, sz_put, sz_drew]; done) | (simp only [List.length_replicate, List.length_cons, List.length_nil, *]; done) | (simp only [List.size_toArray, List.length_cons, List.length_nil, sz_alloc, sz_put, sz_drew] at *; omega)) | ((repeat' (first | exact allOne_bc _ | exact allOne_nil | (refine allOne_int _ _ _ ?_) | (refine allOne_sl _ _ _ _ ?_) | (refine allOne_ptr _ _ ?_) | (refine allOne_map _ _ ?_) | (refine allOne_bool _ _ ?_) | (refine allOne_str _ _ ?_) | (refine allOne_iface _ _ _ ?_) | (refine allOne_app _ _ ?_ ?_))); done) | (simp only [cells_agg, cells_int, cells_bool, cells_str, cells_ptr, cells_sl, cells_map, cells_func, cells_iface, List.size_toArray, Array.size_append, bc_length, List.length_cons, List.length_nil, Nat.zero_add, Nat.reduceAdd, *]; done) | (simp (disch := (first | assumption | (first | omega | (simp only [List.length_cons, List.length_nil, sz_alloc, sz_put, sz_drew]; done) | (simp only [List.length_replicate, List.length_cons, List.length_nil, *]; done) | (simp only [List.size_toArray, List.length_cons, List.length_nil, sz_alloc, sz_put, sz_drew] at *; omega)))) only [MapAt, Hp_drew, Hp_alloc_old, Hp_alloc_new, Hp_put_same, Hp_put_other, *])) only [decide_true, cond_false, p_eqlNilP Try.runUnderlying24, t5, t4, hb0, Pick_bool, cond_false, p_neq, p_extract0, p_extract1, cells_int, cells_sl, Branch_bool, Gdn_true, Bool.not_true, true_and, Bool.false_eq_true, false_implies, forall_const, splice_bc, splice_lit, Nat.sub_self, Nat.reduceSub, List.set_cons_zero, List.set_cons_succ, List.length_replicate, bld39_1_3, mk37]
  have hQn : ∀ b, sz w1 ≤ b → Q b := fun b hb => .inr (by omega)
  have hQo : ∀ b, Q b → ¬ areaM (sz w + 2) (sz w) (sz w + 1) b := fun b hb hm => by
    rcases hb with hb | hb <;> rcases hm with hm | hm | hm <;> omega
  have hx2 : Ext (fun _ => False) w1 (w1.alloc (Obj.cells (bc (List.replicate 5 0)).toArray 5)) := (Ext.refl _ _).alloc _
  have hd2 : Bytes 5 (w1.alloc (Obj.cells (bc (List.replicate 5 0)).toArray 5)) (.slice (some ⟨sz w1, 0, none⟩) 5 5) (List.replicate 5 0) (fun b => b = sz w1) := by
    have := Vec.fresh (w := w1) (e := 5) (z := 1) (n := 5) (bc (List.replicate 5 0)).toArray (by simp [bc_length])
    exact this
  refine CallF_by Try.call10 (put_spec (hA1.ext hx2 fun _ _ _ => not_false) hso1 0 (by simp) ⟨zkey, List.replicate 5 0, 0, 9⟩ _ hd2 z32 (fun b hb hm => ?_) (by simp) (fun b hb => hQn b (by rw [sz_alloc] at hb; omega)) hQo) ?_
  · rcases hm with hm | hm | hm <;> omega
  rintro _ w3 ⟨rfl, hx3, A3, soon3, cm3, us3, cu3, hbl3, hso3, hA3⟩
  have hp1 : putB 10 4 0 ⟨zkey, List.replicate 5 0, 0, 9⟩ (bl []) = (15, []) := by kernel_rfl
  rw [hp1] at hbl3
  rw [hp1]
  have hA30 : A3 = [] := by cases A3 with | nil => rfl | cons a l => simp [bl] at hbl3
  subst hA30
  simp (disch := first | omega | trivial | assumption | (first | omega | (simp only [List.length_cons, List.length_nil, sz_alloc, sz_put, sz_drew]; done) | (simp only [List.length_replicate, List.length_cons, List.length_nil, *]; done) | (simp only [List.size_toArray, List.length_cons, List.length_nil, sz_alloc, sz_put, sz_drew] at *; omega)) | ((repeat' (first | exact allOne_bc _ | exact allOne_nil | (refine allOne_int _ _ _ ?_) | (refine allOne_sl _ _ _ _ ?_) | (refine allOne_ptr _ _ ?_) | (refine allOne_map _ _ ?_) | (refine allOne_bool _ _ ?_) | (refine allOne_str _ _ ?_) | (refine allOne_iface _ _ _ ?_) | (refine allOne_app _ _ ?_ ?_))); done) | (simp only [cells_agg, cells_int, cells_bool, cells_str, cells_ptr, cells_sl, cells_map, cells_func, cells_iface, List.size_toArray, Array.size_append, bc_length, List.length_cons, List.length_nil, Nat.zero_add, Nat.reduceAdd, *]; done) | (simp (disch := (first | assumption | (first | omega | (simp only [List.length_cons, List.length_nil, sz_alloc, sz_put, sz_drew]; done) | (simp only [List.length_replicate, List.length_cons, List.length_nil, *]; done) | (simp only [List.size_toArray, List.length_cons, List.length_nil, sz_alloc, sz_put, sz_drew] at *; omega)))) only [MapAt, Hp_drew, Hp_alloc_old, Hp_alloc_new, Hp_put_same, Hp_put_other, *])) only [decide_true, cond_true, Pick_bool, cond_true, p_eql, Gd_true]
  have hs3 := hx3.size
  have hx4 : Ext (fun _ => False) w3 (w3.alloc (Obj.cells (bc (List.replicate 4 0)).toArray 5)) := (Ext.refl _ _).alloc _
  have hd4 : Bytes 5 (w3.alloc (Obj.cells (bc (List.replicate 4 0)).toArray 5)) (.slice (some ⟨sz w3, 0, none⟩) 4 4) (List.replicate 4 0) (fun b => b = sz w3) := by
    have := Vec.fresh (w := w3) (e := 5) (z := 1) (n := 4) (bc (List.replicate 4 0)).toArray (by simp [bc_length])
    exact this
  rw [sz_alloc] at hs3
  refine CallF_by Try.call10 (put_spec (hA3.ext hx4 fun _ _ _ => not_false) hso3 0 (by simp) ⟨zkey, List.replicate 4 0, 0, 9⟩ _ hd4 z32 (fun b hb hm => ?_) (by simp) (fun b hb => hQn b (by rw [sz_alloc] at hb; omega)) hQo) ?_
  · rcases hm with hm | hm | hm <;> omega
  rintro _ w5 ⟨rfl, hx5, A5, soon5, cm5, us5, cu5, hbl5, hso5, hA5⟩
  have hp2 : putB 10 4 0 ⟨zkey, List.replicate 4 0, 0, 9⟩ (bl []) = (0, [⟨zkey, List.replicate 4 0, 0, 9⟩]) := by kernel_rfl
  rw [hp2] at hbl5
  rw [hp2]
  simp (disch := first | omega | trivial | assumption | (first | omega | (simp only [List.length_cons, List.length_nil, sz_alloc, sz_put, sz_drew]; done) | (simp only [List.length_replicate, List.length_cons, List.length_nil, *]; done) | (simp only [List.size_toArray, List.length_cons, List.length_nil, sz_alloc, sz_put, sz_drew] at *; omega)) | ((repeat' (first | exact allOne_bc _ | exact allOne_nil | (refine allOne_int _ _ _ ?_) | (refine allOne_sl _ _ _ _ ?_) | (refine allOne_ptr _ _ ?_) | (refine allOne_map _ _ ?_) | (refine allOne_bool _ _ ?_) | (refine allOne_str _ _ ?_) | (refine allOne_iface _ _ _ ?_) | (refine allOne_app _ _ ?_ ?_))); done) | (simp only [cells_agg, cells_int, cells_bool, cells_str, cells_ptr, cells_sl, cells_map, cells_func, cells_iface, List.size_toArray, Array.size_append, bc_length, List.length_cons, List.length_nil, Nat.zero_add, Nat.reduceAdd, *]; done) | (simp (disch := (first | assumption | (first | omega | (simp only [List.length_cons, List.length_nil, sz_alloc, sz_put, sz_drew]; done) | (simp only [List.length_replicate, List.length_cons, List.length_nil, *]; done) | (simp only [List.size_toArray, List.length_cons, List.length_nil, sz_alloc, sz_put, sz_drew] at *; omega)))) only [MapAt, Hp_drew, Hp_alloc_old, Hp_alloc_new, Hp_put_same, Hp_put_other, *])) only [decide_true, cond_true, Pick_bool, cond_true, p_eql, Gd_true, GdE_true]
  refine CallF_by Try.call20 (total_spec hA5) ?_
  rintro _ w6 ⟨rfl, rfl⟩
  have ht : totalB (bl A5) = 4 := by rw [hbl5]; decide +kernel
  have hu : usedB (bl A5) 0 = 4 := by rw [hbl5]; decide +kernel
  simp (disch := first | omega | trivial | assumption | (first | omega | (simp only [List.length_cons, List.length_nil, sz_alloc, sz_put, sz_drew]; done) | (simp only [List.length_replicate, List.length_cons, List.length_nil, *]; done) | (simp only [List.size_toArray, List.length_cons, List.length_nil, sz_alloc, sz_put, sz_drew] at *; omega)) | ((repeat' (first | exact allOne_bc _ | exact allOne_nil | (refine allOne_int _ _ _ ?_) | (refine allOne_sl _ _ _ _ ?_) | (refine allOne_ptr _ _ ?_) | (refine allOne_map _ _ ?_) | (refine allOne_bool _ _ ?_) | (refine allOne_str _ _ ?_) | (refine allOne_iface _ _ _ ?_) | (refine allOne_app _ _ ?_ ?_))); done) | (simp only [cells_agg, cells_int, cells_bool, cells_str, cells_ptr, cells_sl, cells_map, cells_func, cells_iface, List.size_toArray, Array.size_append, bc_length, List.length_cons, List.length_nil, Nat.zero_add, Nat.reduceAdd, *]; done) | (simp (disch := (first | assumption | (first | omega | (simp only [List.length_cons, List.length_nil, sz_alloc, sz_put, sz_drew]; done) | (simp only [List.length_replicate, List.length_cons, List.length_nil, *]; done) | (simp only [List.size_toArray, List.length_cons, List.length_nil, sz_alloc, sz_put, sz_drew] at *; omega)))) only [MapAt, Hp_drew, Hp_alloc_old, Hp_alloc_new, Hp_put_same, Hp_put_other, *])) only [ht, decide_true, cond_true, Pick_bool, cond_true, p_eql, Gd_true, GdE_true]
  refine CallF_by Try.call22 (used_spec hA5 0) ?_
  rintro _ w7 ⟨rfl, rfl⟩
  simp (disch := first | omega | trivial | assumption | (first | omega | (simp only [List.length_cons, List.length_nil, sz_alloc, sz_put, sz_drew]; done) | (simp only [List.length_replicate, List.length_cons, List.length_nil, *]; done) | (simp only [List.size_toArray, List.length_cons, List.length_nil, sz_alloc, sz_put, sz_drew] at *; omega)) | ((repeat' (first | exact allOne_bc _ | exact allOne_nil | (refine allOne_int _ _ _ ?_) | (refine allOne_sl _ _ _ _ ?_) | (refine allOne_ptr _ _ ?_) | (refine allOne_map _ _ ?_) | (refine allOne_bool _ _ ?_) | (refine allOne_str _ _ ?_) | (refine allOne_iface _ _ _ ?_) | (refine allOne_app _ _ ?_ ?_))); done) | (simp only [cells_agg, cells_int, cells_bool, cells_str, cells_ptr, cells_sl, cells_map, cells_func, cells_iface, List.size_toArray, Array.size_append, bc_length, List.length_cons, List.length_nil, Nat.zero_add, Nat.reduceAdd, *]; done) | (simp (disch := (first | assumption | (first | omega | (simp only [List.length_cons, List.length_nil, sz_alloc, sz_put, sz_drew]; done) | (simp only [List.length_replicate, List.length_cons, List.length_nil, *]; done) | (simp only [List.size_toArray, List.length_cons, List.length_nil, sz_alloc, sz_put, sz_drew] at *; omega)))) only [MapAt, Hp_drew, Hp_alloc_old, Hp_alloc_new, Hp_put_same, Hp_put_other, *])) only [hu, decide_true, p_eql, true_and]
  have hall := ((hx1.trans2 (M := fun b => sz w ≤ b) hx2 (fun _ _ h => h.elim) fun _ _ h => h.elim).trans2 (M := fun b => sz w ≤ b) hx3 (fun _ _ h => h) fun b _ h => by rcases h with h | h | h <;> omega)
  have hall2 := ((hall.trans2 (M := fun b => sz w ≤ b) hx4 (fun _ _ h => h) fun _ _ h => h.elim).trans2 (M := fun b => sz w ≤ b) hx5 (fun _ _ h => h) fun b _ h => by rcases h with h | h | h <;> omega)
  exact hall2.mono fun b hb h => by omega
end Go.Proofs
