/- A part of the proof: A.P5. -/
import Derived.Test.YtgfeaeedlakmfaaAP4
set_option linter.unusedVariables false
set_option linter.unusedSimpArgs false
set_option linter.unusedSectionVars false
namespace Go.Proofs
open Go Go.Lf
set_option maxRecDepth 20000
set_option maxHeartbeats 2000000
set_option linter.unusedSimpArgs false
set_option linter.unusedVariables false
theorem isort_nil {w : World} : Calls Try.prog 38 #[.slice none 0 0, i64 0, i64 0, .func (.func 29) #[] #[]] w (retK fun v w' => v = .tuple #[] ∧ w' = w) := by
  refine F38_ok _ _ _ _ _ _ ?_
  unfold F38
  simp (disch := first | omega | trivial | assumption | (first | omega | (simp only [List.length_cons, List.length_nil, sz_alloc, sz_put, sz_drew]; done) | (simp only [List.length_replicate, List.length_cons, List.length_nil, *]; done) | (simp only [List.size_toArray, List.length_cons, List.length_nil, sz_alloc, sz_put, sz_drew] at *; omega)) | ((repeat' (first | exact allOne_bc _ | exact allOne_nil | (refine allOne_int _ _ _ ?_) | (refine allOne_sl _ _ _ _ ?_) | (refine allOne_ptr _ _ ?_) | (refine allOne_map _ _ ?_) | (refine allOne_bool _ _ ?_) | (refine allOne_str _ _ ?_) | (refine allOne_iface _ _ _ ?_) | (refine allOne_app _ _ ?_ ?_))); done) | (simp only [cells_agg, cells_int, cells_bool, cells_str, cells_ptr, cells_sl, cells_map, cells_func, cells_iface, List.size_toArray, Array.size_append, bc_length, List.length_cons, List.length_nil, Nat.zero_add, Nat.reduceAdd, *]; done) | (simp (disch := (first | assumption | (first | omega | (simp only [List.length_cons, List.length_nil, sz_alloc, sz_put, sz_drew]; done) | (simp only [List.length_replicate, List.length_cons, List.length_nil, *]; done) | (simp only [List.size_toArray, List.length_cons, List.length_nil, sz_alloc, sz_put, sz_drew] at *; omega)))) only [MapAt, Hp_drew, Hp_alloc_old, Hp_alloc_new, Hp_put_same, Hp_put_other, *])) only [p_add, true_and, forall_const, wr_in]
  refine Loop1 (fun v w1 => v = i64 1 ∧ w1 = w) (fun _ _ => 0) ⟨rfl, rfl⟩ ?_
  rintro _ _ ⟨rfl, rfl⟩
  simp (disch := first | omega | trivial | assumption | (first | omega | (simp only [List.length_cons, List.length_nil, sz_alloc, sz_put, sz_drew]; done) | (simp only [List.length_replicate, List.length_cons, List.length_nil, *]; done) | (simp only [List.size_toArray, List.length_cons, List.length_nil, sz_alloc, sz_put, sz_drew] at *; omega)) | ((repeat' (first | exact allOne_bc _ | exact allOne_nil | (refine allOne_int _ _ _ ?_) | (refine allOne_sl _ _ _ _ ?_) | (refine allOne_ptr _ _ ?_) | (refine allOne_map _ _ ?_) | (refine allOne_bool _ _ ?_) | (refine allOne_str _ _ ?_) | (refine allOne_iface _ _ _ ?_) | (refine allOne_app _ _ ?_ ?_))); done) | (simp only [cells_agg, cells_int, cells_bool, cells_str, cells_ptr, cells_sl, cells_map, cells_func, cells_iface, List.size_toArray, Array.size_append, bc_length, List.length_cons, List.length_nil, Nat.zero_add, Nat.reduceAdd, *]; done) | (simp (disch := (first | assumption | (first | omega | (simp only [List.length_cons, List.length_nil, sz_alloc, sz_put, sz_drew]; done) | (simp only [List.length_replicate, List.length_cons, List.length_nil, *]; done) | (simp only [List.size_toArray, List.length_cons, List.length_nil, sz_alloc, sz_put, sz_drew] at *; omega)))) only [MapAt, Hp_drew, Hp_alloc_old, Hp_alloc_new, Hp_put_same, Hp_put_other, *])) only [p_add, p_lss, Branch_bool, Nat.reduceLT, decide_eq_true_eq, decide_eq_false_iff_not, and_true, implies_true, wr_in]
  exact fun h => by omega
theorem isort_sl {w : World} {v : Value} {L : List BV} {Q : Nat → Prop} (h : Sl bcell 39 35 w v L Q) (hk : ∀ x ∈ L, x.1.key.length = 32 ∧ oneCell x.2) (hn : L.length ≤ 1000000) :
    Calls Try.prog 38 #[v, i64 0, i64 L.length, .func (.func 29) #[] #[]] w (retK fun u w' => u = .tuple #[] ∧ Ext (fun b => some b = blockOf v) w w' ∧ ∃ L', L'.Perm L ∧ L'.Pairwise leK ∧ Sl bcell 39 35 w' v L' Q) := by
  obtain ⟨hl, hh⟩ := h
  rcases hh with ⟨rfl, rfl⟩ | ⟨b, o, cap, row, rfl, h2, h3, h4, h5, h6⟩
  · refine Calls.ret_mono isort_nil ?_
    rintro u w' ⟨rfl, rfl⟩
    exact ⟨rfl, Ext.refl _ _, [], List.Perm.refl _, List.Pairwise.nil, Sl.nil _ _ _ _ _⟩
  · refine Calls.ret_mono (isort_spec h3 h5 hk h2 hn) ?_
    rintro u w' ⟨rfl, hx, L', row', hp, hs, hb, hsz, hr⟩
    refine ⟨rfl, hx.mono fun b _ e => by rw [e]; rfl, L', hp, hs, fun x hx => hl x (hp.mem_iff.1 hx), .inr ⟨b, o, cap, row', by rw [hp.length_eq], by rw [hp.length_eq]; exact h2, hb, by rw [hsz]; exact h4, hr, h6⟩⟩
theorem pdq_sl {w : World} {v : Value} {L : List BV} {Q : Nat → Prop} (h : Sl bcell 39 35 w v L Q) (hk : ∀ x ∈ L, x.1.key.length = 32 ∧ oneCell x.2) (hn : L.length ≤ 12) (q : Int) :
    Calls Try.prog 36 #[v, i64 0, i64 L.length, i64 q, .func (.func 29) #[] #[]] w (retK fun u w' => u = .tuple #[] ∧ Ext (fun b => some b = blockOf v) w w' ∧ ∃ L', L'.Perm L ∧ L'.Pairwise leK ∧ Sl bcell 39 35 w' v L' Q) := by
  refine F36_ok _ _ _ _ _ _ _ ?_
  unfold F36
  refine Loop5 (fun a b c d e w1 => a = i64 0 ∧ b = i64 L.length ∧ w1 = w) (fun _ _ _ _ _ _ => 0) ⟨rfl, rfl, rfl⟩ ?_
  rintro _ _ v3 v10 v11 w1 ⟨rfl, rfl, rfl⟩ _
  rw [p_sub, wr_in _ (by omega), p_leq, show decide ((L.length : Int) - 0 ≤ 12) = true from by rw [decide_eq_true_eq]; omega, Branch_true]
  refine CallF_by Try.call38 (isort_sl h hk (by omega)) ?_
  rintro u w' ⟨rfl, hh⟩
  exact ⟨rfl, hh⟩
theorem sort_sl {w : World} {v : Value} {L : List BV} {Q : Nat → Prop} (h : Sl bcell 39 35 w v L Q) (hk : ∀ x ∈ L, x.1.key.length = 32 ∧ oneCell x.2) (hn : L.length ≤ 12) :
    Calls Try.prog 32 #[v, .func (.func 29) #[] #[]] w (retK fun u w' => Ext (fun b => some b = blockOf v) w w' ∧ ∃ L', L'.Perm L ∧ L'.Pairwise leK ∧ Sl bcell 39 35 w' v L' Q) := by
  refine F32_ok _ _ _ _ ?_
  unfold F32
  obtain ⟨a, cap, rfl⟩ := h.form
  simp (disch := first | omega | trivial | assumption | (first | omega | (simp only [List.length_cons, List.length_nil, sz_alloc, sz_put, sz_drew]; done) | (simp only [List.length_replicate, List.length_cons, List.length_nil, *]; done) | (simp only [List.size_toArray, List.length_cons, List.length_nil, sz_alloc, sz_put, sz_drew] at *; omega)) | ((repeat' (first | exact allOne_bc _ | exact allOne_nil | (refine allOne_int _ _ _ ?_) | (refine allOne_sl _ _ _ _ ?_) | (refine allOne_ptr _ _ ?_) | (refine allOne_map _ _ ?_) | (refine allOne_bool _ _ ?_) | (refine allOne_str _ _ ?_) | (refine allOne_iface _ _ _ ?_) | (refine allOne_app _ _ ?_ ?_))); done) | (simp only [cells_agg, cells_int, cells_bool, cells_str, cells_ptr, cells_sl, cells_map, cells_func, cells_iface, List.size_toArray, Array.size_append, bc_length, List.length_cons, List.length_nil, Nat.zero_add, Nat.reduceAdd, *]; done) | (simp (disch := (first | assumption | (first | omega | (simp only [List.length_cons, List.length_nil, sz_alloc, sz_put, sz_drew]; done) | (simp only [List.length_replicate, List.length_cons, List.length_nil, *]; done) | (simp only [List.size_toArray, List.length_cons, List.length_nil, sz_alloc, sz_put, sz_drew] at *; omega)))) only [MapAt, Hp_drew, Hp_alloc_old, Hp_alloc_new, Hp_put_same, Hp_put_other, *])) only [len47, cv3_74]
  have e : IntKind.u64.wrap (L.length : Int) = (L.length : Int) := by
    show (L.length : Int) % 18446744073709551616 = _
    omega
  rw [e]
  refine CallF_by Try.call37 (len_spec _ (by omega) w) ?_
  rintro _ w1 ⟨⟨q, rfl⟩, rfl⟩
  refine CallF_by Try.call36 (pdq_sl h hk hn q) ?_
  rintro u w' ⟨rfl, hh⟩
  exact hh
end Go.Proofs
