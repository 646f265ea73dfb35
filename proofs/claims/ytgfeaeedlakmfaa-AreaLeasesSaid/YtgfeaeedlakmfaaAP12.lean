/- A part of the proof: A.P12. -/
import Derived.Test.YtgfeaeedlakmfaaAP11
set_option linter.unusedVariables false
set_option linter.unusedSimpArgs false
set_option linter.unusedSectionVars false
namespace Go.Proofs
open Go Go.Lf
set_option maxRecDepth 20000
set_option maxHeartbeats 2000000
set_option linter.unusedSimpArgs false
set_option linter.unusedVariables false
theorem cmpB_at : ∀ (n : Nat) (a b : List UInt8) (x y : UInt8), a.take n = b.take n → a[n]? = some x → b[n]? = some y → x ≠ y → (cmpB a b < 0 ↔ x < y)
  | 0, u :: a, v :: b, x, y, _, hx, hy, hne => by
    simp at hx hy; subst hx hy
    show Lib.compareBytes (u :: a) (v :: b) < 0 ↔ _
    unfold Lib.compareBytes
    by_cases h : u < v
    · rw [if_pos h]; simp [h]
    · rw [if_neg h]
      have : v < u := UInt8.lt_of_le_of_ne (UInt8.not_lt.1 h) fun e => hne e.symm
      rw [if_pos this]; simp [h]
  | n + 1, u :: a, v :: b, x, y, ht, hx, hy, hne => by
    simp only [List.take_succ_cons, List.cons.injEq] at ht
    obtain ⟨rfl, ht⟩ := ht
    show Lib.compareBytes (u :: a) (u :: b) < 0 ↔ _
    unfold Lib.compareBytes
    rw [if_neg (UInt8.lt_irrefl u), if_neg (UInt8.lt_irrefl u)]
    exact cmpB_at n a b x y ht (by simpa using hx) (by simpa using hy) hne
  | _, [], _, x, y, _, hx, _, _ => by simp at hx
  | _, _ :: _, [], x, y, _, _, hy, _ => by simp at hy
theorem less_spec (a b : List UInt8) (ha : a.length = 32) (hb : b.length = 32) (w : World) : Calls Try.prog 26 #[idv a, idv b] w (retK fun v w' => v = .bool (decide (cmpB a b < 0)) ∧ Ext (fun _ => False) w w') := by
  refine F26_ok _ _ _ _ ?_
  unfold F26
  simp (disch := first | omega | trivial | assumption | (first | omega | (simp only [List.length_cons, List.length_nil, sz_alloc, sz_put, sz_drew]; done) | (simp only [List.length_replicate, List.length_cons, List.length_nil, *]; done) | (simp only [List.size_toArray, List.length_cons, List.length_nil, sz_alloc, sz_put, sz_drew] at *; omega)) | ((repeat' (first | exact allOne_bc _ | exact allOne_nil | (refine allOne_int _ _ _ ?_) | (refine allOne_sl _ _ _ _ ?_) | (refine allOne_ptr _ _ ?_) | (refine allOne_map _ _ ?_) | (refine allOne_bool _ _ ?_) | (refine allOne_str _ _ ?_) | (refine allOne_iface _ _ _ ?_) | (refine allOne_app _ _ ?_ ?_))); done) | (simp only [cells_agg, cells_int, cells_bool, cells_str, cells_ptr, cells_sl, cells_map, cells_func, cells_iface, List.size_toArray, Array.size_append, bc_length, List.length_cons, List.length_nil, Nat.zero_add, Nat.reduceAdd, *]; done) | (simp (disch := (first | assumption | (first | omega | (simp only [List.length_cons, List.length_nil, sz_alloc, sz_put, sz_drew]; done) | (simp only [List.length_replicate, List.length_cons, List.length_nil, *]; done) | (simp only [List.size_toArray, List.length_cons, List.length_nil, sz_alloc, sz_put, sz_drew] at *; omega)))) only [MapAt, Hp_drew, Hp_alloc_old, Hp_alloc_new, Hp_put_same, Hp_put_other, *])) only [r_box, sz_alloc, cells_agg, forall_const]
  obtain ⟨J, hJ⟩ : ∃ J : Value → World → Prop, J = fun v w3 => ∃ n : Nat, v = i64 (n : Int) ∧ n ≤ 32 ∧ a.take n = b.take n ∧ Ext (fun _ => False) w w3 ∧ Hp w3 (sz w) = some (Obj.cells (bc a).toArray 35 (0, 0)) ∧ Hp w3 (sz w + 1) = some (Obj.cells (bc b).toArray 35 (0, 0)) := ⟨_, rfl⟩
  refine Loop1 J (fun v _ => 32 - (match v with | .int _ n => n.toNat | _ => 0)) (by
    rw [hJ]
    exact ⟨0, rfl, by omega, by simp, ((Ext.refl _ w).alloc _).alloc _, by (simp (disch := (first | assumption | (first | omega | (simp only [List.length_cons, List.length_nil, sz_alloc, sz_put, sz_drew]; done) | (simp only [List.length_replicate, List.length_cons, List.length_nil, *]; done) | (simp only [List.size_toArray, List.length_cons, List.length_nil, sz_alloc, sz_put, sz_drew] at *; omega)))) only [MapAt, Hp_drew, Hp_alloc_old, Hp_alloc_new, Hp_put_same, Hp_put_other, *]), by (simp (disch := (first | assumption | (first | omega | (simp only [List.length_cons, List.length_nil, sz_alloc, sz_put, sz_drew]; done) | (simp only [List.length_replicate, List.length_cons, List.length_nil, *]; done) | (simp only [List.size_toArray, List.length_cons, List.length_nil, sz_alloc, sz_put, sz_drew] at *; omega)))) only [MapAt, Hp_drew, Hp_alloc_old, Hp_alloc_new, Hp_put_same, Hp_put_other, *])⟩) ?_
  intro v w3 h3
  rw [hJ] at h3
  obtain ⟨n, rfl, hn, ht, hx, h1, h2⟩ := h3
  by_cases hlt : n < 32
  · have hlt' : ((n : Int) < 32) := by omega
    have ga : (bc a)[n]? = some (.int .u8 (a[n]'(by omega)).toNat) := by rw [bc_get, List.getElem?_eq_getElem (by omega)]; rfl
    have gb : (bc b)[n]? = some (.int .u8 (b[n]'(by omega)).toNat) := by rw [bc_get, List.getElem?_eq_getElem (by omega)]; rfl
    have hl := bc_length a
    have hl2 := bc_length b
    simp (disch := first | omega | trivial | assumption | (first | omega | (simp only [List.length_cons, List.length_nil, sz_alloc, sz_put, sz_drew]; done) | (simp only [List.length_replicate, List.length_cons, List.length_nil, *]; done) | (simp only [List.size_toArray, List.length_cons, List.length_nil, sz_alloc, sz_put, sz_drew] at *; omega)) | ((repeat' (first | exact allOne_bc _ | exact allOne_nil | (refine allOne_int _ _ _ ?_) | (refine allOne_sl _ _ _ _ ?_) | (refine allOne_ptr _ _ ?_) | (refine allOne_map _ _ ?_) | (refine allOne_bool _ _ ?_) | (refine allOne_str _ _ ?_) | (refine allOne_iface _ _ _ ?_) | (refine allOne_app _ _ ?_ ?_))); done) | (simp only [cells_agg, cells_int, cells_bool, cells_str, cells_ptr, cells_sl, cells_map, cells_func, cells_iface, List.size_toArray, Array.size_append, bc_length, List.length_cons, List.length_nil, Nat.zero_add, Nat.reduceAdd, *]; done) | (simp (disch := (first | assumption | (first | omega | (simp only [List.length_cons, List.length_nil, sz_alloc, sz_put, sz_drew]; done) | (simp only [List.length_replicate, List.length_cons, List.length_nil, *]; done) | (simp only [List.size_toArray, List.length_cons, List.length_nil, sz_alloc, sz_put, sz_drew] at *; omega)))) only [MapAt, Hp_drew, Hp_alloc_old, Hp_alloc_new, Hp_put_same, Hp_put_other, *])) only [hlt', h1, h2, ga, gb, p_add, p_lss, p_neq, L1_cells, Hp_drew, Branch_bool, List.getElem?_toArray, Option.elim_some, Nat.zero_add, decide_eq_true_eq, decide_eq_false_iff_not, Bool.not_eq_true', Bool.not_eq_false', forall_const, wr_in, Int.toNat_natCast, Nat.mul_one, ix35, ld5]
    have h9 : (¬(((a[n]'(by omega)).toNat : Int) = ((b[n]'(by omega)).toNat : Int))) → (cmpB a b < 0 ↔ (a[n]'(by omega)) < (b[n]'(by omega))) := fun h => cmpB_at n a b _ _ ht (List.getElem?_eq_getElem (by omega)) (List.getElem?_eq_getElem (by omega)) fun e => h (by rw [e])
    refine ⟨⟨fun h => ⟨?_, hx.drew.drew⟩, fun h => ?_⟩, fun h => absurd trivial h⟩
    · congr 1
      rw [decide_eq_decide, h9 h, UInt8.lt_iff_toNat_lt]
      omega
    · have e : (a[n]'(by omega)) = (b[n]'(by omega)) := UInt8.toNat_inj.1 (by omega)
      refine ⟨?_, by omega⟩
      rw [hJ]
      refine ⟨n + 1, by simp, hlt, ?_, hx.drew, by (simp (disch := (first | assumption | (first | omega | (simp only [List.length_cons, List.length_nil, sz_alloc, sz_put, sz_drew]; done) | (simp only [List.length_replicate, List.length_cons, List.length_nil, *]; done) | (simp only [List.size_toArray, List.length_cons, List.length_nil, sz_alloc, sz_put, sz_drew] at *; omega)))) only [MapAt, Hp_drew, Hp_alloc_old, Hp_alloc_new, Hp_put_same, Hp_put_other, *]), by (simp (disch := (first | assumption | (first | omega | (simp only [List.length_cons, List.length_nil, sz_alloc, sz_put, sz_drew]; done) | (simp only [List.length_replicate, List.length_cons, List.length_nil, *]; done) | (simp only [List.size_toArray, List.length_cons, List.length_nil, sz_alloc, sz_put, sz_drew] at *; omega)))) only [MapAt, Hp_drew, Hp_alloc_old, Hp_alloc_new, Hp_put_same, Hp_put_other, *])⟩
      rw [List.take_add_one, List.take_add_one, ht, List.getElem?_eq_getElem (by omega), List.getElem?_eq_getElem (by omega), e]
  · have hlt' : ¬ ((n : Int) < 32) := by omega
    have hn32 : n = 32 := by omega
    have e : a = b := by rw [← List.take_length (l := a), ha, ← hn32, ht, hn32, ← hb, List.take_length]
    simp (disch := first | omega | trivial | assumption | (first | omega | (simp only [List.length_cons, List.length_nil, sz_alloc, sz_put, sz_drew]; done) | (simp only [List.length_replicate, List.length_cons, List.length_nil, *]; done) | (simp only [List.size_toArray, List.length_cons, List.length_nil, sz_alloc, sz_put, sz_drew] at *; omega)) | ((repeat' (first | exact allOne_bc _ | exact allOne_nil | (refine allOne_int _ _ _ ?_) | (refine allOne_sl _ _ _ _ ?_) | (refine allOne_ptr _ _ ?_) | (refine allOne_map _ _ ?_) | (refine allOne_bool _ _ ?_) | (refine allOne_str _ _ ?_) | (refine allOne_iface _ _ _ ?_) | (refine allOne_app _ _ ?_ ?_))); done) | (simp only [cells_agg, cells_int, cells_bool, cells_str, cells_ptr, cells_sl, cells_map, cells_func, cells_iface, List.size_toArray, Array.size_append, bc_length, List.length_cons, List.length_nil, Nat.zero_add, Nat.reduceAdd, *]; done) | (simp (disch := (first | assumption | (first | omega | (simp only [List.length_cons, List.length_nil, sz_alloc, sz_put, sz_drew]; done) | (simp only [List.length_replicate, List.length_cons, List.length_nil, *]; done) | (simp only [List.size_toArray, List.length_cons, List.length_nil, sz_alloc, sz_put, sz_drew] at *; omega)))) only [MapAt, Hp_drew, Hp_alloc_old, Hp_alloc_new, Hp_put_same, Hp_put_other, *])) only [hlt', p_add, p_lss, Branch_bool, decide_eq_true_eq, decide_eq_false_iff_not, true_and, false_implies, wr_in, Int.toNat_natCast]
    subst e
    rw [cmpB_self]
    exact fun _ => ⟨rfl, hx⟩
end Go.Proofs
