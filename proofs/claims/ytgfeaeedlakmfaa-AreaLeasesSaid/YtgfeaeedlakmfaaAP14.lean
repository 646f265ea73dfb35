/- A part of the proof: A.P14. -/
import Derived.Test.YtgfeaeedlakmfaaAP13
set_option linter.unusedVariables false
set_option linter.unusedSimpArgs false
set_option linter.unusedSectionVars false
namespace Go.Proofs
open Go Go.Lf
set_option maxRecDepth 20000
set_option maxHeartbeats 2000000
set_option linter.unusedSimpArgs false
set_option linter.unusedVariables false
theorem brow {row : Array Value} {o i : Nat} {R : List BV} {y : BV} (hr : VRow bcell 35 row o R) (hy : R[i]? = some y) (hk : y.1.key.length = 32) :
    row.extract (o + i * 35) (o + i * 35 + 35) = (bc y.1.key).toArray ++ #[y.2, i64 y.1.src, i64 y.1.exp] ∧ row.extract (o + i * 35) (o + i * 35 + 32) = (bc y.1.key).toArray ∧
    row[o + i * 35 + 32]? = some y.2 ∧ row[o + i * 35 + 33]? = some (i64 y.1.src) ∧ row[o + i * 35 + 34]? = some (i64 y.1.exp) ∧ o + i * 35 + 35 ≤ row.size := by
  have hlt : i < R.length := (List.getElem?_eq_some_iff.1 hy).1
  have hid := idx_lt (z := 35) hlt
  have hsz := hr.2.1
  have hg := hr.get hy
  rw [bcell_arr] at hg
  have hc : ∀ j, j < 3 → (bcell y)[32 + j]? = #[y.2, i64 y.1.src, i64 y.1.exp][j]? := fun j hj => by
    unfold bcell; rw [List.getElem?_append_right (by simp [bc_length, hk])]; simp [bc_length, hk]
  refine ⟨hg, ?_, ?_, ?_, ?_, by omega⟩
  · have e : row.extract (o + i * 35) (o + i * 35 + 32) = (row.extract (o + i * 35) (o + i * 35 + 35)).extract 0 32 := by
      rw [Array.extract_extract]; congr 1 <;> omega
    rw [e, hg, ext_bc _ hk]
  · rw [hr.2.2 i y hy 32 (by decide)]; exact hc 0 (by decide)
  · rw [hr.2.2 i y hy 33 (by decide)]; exact hc 1 (by decide)
  · rw [hr.2.2 i y hy 34 (by decide)]; exact hc 2 (by decide)
section
variable {w : World} {x : Nat} {room quota : Int} {s : Value} {R : List BV} {Q : Nat → Prop}
theorem rused_spec (h : RefC w x room quota s R Q) (hlen : R.length ≤ 1000000) (src : Int) : Calls Try.prog 23 #[ptr x 0, i64 src] w (retK fun v w' => v = i64 (usedB (bR R) src) ∧ w' = w) := by
  refine F23_ok _ _ _ _ ?_
  unfold F23
  have hp := h.hp
  obtain ⟨a, cap, hs⟩ := h.sl.form
  subst hs
  refine Loop2 (fun v u w1 => ∃ i : Nat, u = i64 (i : Int) ∧ i ≤ R.length ∧ v = i64 (usedB (bR (R.take i)) src) ∧ w1 = w) (fun _ u _ => R.length - (match u with | .int _ n => n.toNat | _ => 0)) ⟨0, rfl, Nat.zero_le _, rfl, rfl⟩ ?_
  rintro _ _ w1 ⟨i, rfl, hi, rfl, rfl⟩ _
  by_cases hlt : i < R.length
  · have hlt' : ((i : Int) < (R.length : Int)) := by omega
    obtain ⟨b, o, cap', row, e, hcap, hb, ho, hr, hq⟩ := h.sl.at (by intro e; rw [e] at hlt; cases hlt)
    cases e
    obtain ⟨y, hy⟩ : ∃ y, R[i]? = some y := ⟨_, List.getElem?_eq_getElem hlt⟩
    have hym := List.mem_of_getElem? hy
    have hd := h.data y hym
    have hk := h.klen y hym
    obtain ⟨-, -, g32, g33, g34, -⟩ := brow hr hy hk
    obtain ⟨da, dc, hdv⟩ := Vec.slice hd
    rw [hdv] at g32
    have hxt := total_take R (i + 1)
    have ht0 := total_nonneg (bR (R.take i))
    have hu0 := used_le (bR (R.take i)) src
    rw [bR_take_succ hy, total_append, total_cons] at hxt
    have ht := h.htot
    have hz : totalB [] = 0 := rfl
    have hstep : usedB (bR (R.take (i + 1))) src = usedB (bR (R.take i)) src + (if y.1.src = src then (y.1.data.length : Int) else 0) := by
      rw [bR_take_succ hy, used_append, used_cons]; simp [usedB, lenOf]
    simp (disch := first | omega | trivial | assumption | (first | omega | (simp only [List.length_cons, List.length_nil, sz_alloc, sz_put, sz_drew]; done) | (simp only [List.length_replicate, List.length_cons, List.length_nil, *]; done) | (simp only [List.size_toArray, List.length_cons, List.length_nil, sz_alloc, sz_put, sz_drew] at *; omega)) | ((repeat' (first | exact allOne_bc _ | exact allOne_nil | (refine allOne_int _ _ _ ?_) | (refine allOne_sl _ _ _ _ ?_) | (refine allOne_ptr _ _ ?_) | (refine allOne_map _ _ ?_) | (refine allOne_bool _ _ ?_) | (refine allOne_str _ _ ?_) | (refine allOne_iface _ _ _ ?_) | (refine allOne_app _ _ ?_ ?_))); done) | (simp only [cells_agg, cells_int, cells_bool, cells_str, cells_ptr, cells_sl, cells_map, cells_func, cells_iface, List.size_toArray, Array.size_append, bc_length, List.length_cons, List.length_nil, Nat.zero_add, Nat.reduceAdd, *]; done) | (simp (disch := (first | assumption | (first | omega | (simp only [List.length_cons, List.length_nil, sz_alloc, sz_put, sz_drew]; done) | (simp only [List.length_replicate, List.length_cons, List.length_nil, *]; done) | (simp only [List.size_toArray, List.length_cons, List.length_nil, sz_alloc, sz_put, sz_drew] at *; omega)))) only [MapAt, Hp_drew, Hp_alloc_old, Hp_alloc_new, Hp_put_same, Hp_put_other, *])) only [hp, hb, hlt', g32, g33, NilCk_ptr, p_add, p_lss, p_eql, L1_cells, Branch_bool, List.getElem?_toArray, List.getElem?_cons_zero, List.getElem?_cons_succ, Option.elim_some, Nat.zero_add, decide_eq_true_eq, decide_eq_false_iff_not, and_true, forall_const, wr_in, Int.toNat_natCast, len37, fld39_1, fld39_2, ix47, len47, fld50_2, ld3, ld37, ld47]
    refine ⟨Join1 (fun v w2 => v = i64 (usedB (bR (R.take (i + 1))) src) ∧ w2 = w1) ⟨fun e => ⟨by rw [hstep, if_pos e], rfl⟩, fun e => ⟨by rw [hstep, if_neg e, Int.add_zero], rfl⟩⟩ ?_, fun h => absurd trivial h⟩
    rintro _ _ ⟨rfl, rfl⟩
    exact ⟨⟨i + 1, by simp, hlt, rfl, rfl⟩, by omega⟩
  · have hlt' : ¬ ((i : Int) < (R.length : Int)) := by omega
    have hi' : i = R.length := by omega
    simp (disch := first | omega | trivial | assumption | (first | omega | (simp only [List.length_cons, List.length_nil, sz_alloc, sz_put, sz_drew]; done) | (simp only [List.length_replicate, List.length_cons, List.length_nil, *]; done) | (simp only [List.size_toArray, List.length_cons, List.length_nil, sz_alloc, sz_put, sz_drew] at *; omega)) | ((repeat' (first | exact allOne_bc _ | exact allOne_nil | (refine allOne_int _ _ _ ?_) | (refine allOne_sl _ _ _ _ ?_) | (refine allOne_ptr _ _ ?_) | (refine allOne_map _ _ ?_) | (refine allOne_bool _ _ ?_) | (refine allOne_str _ _ ?_) | (refine allOne_iface _ _ _ ?_) | (refine allOne_app _ _ ?_ ?_))); done) | (simp only [cells_agg, cells_int, cells_bool, cells_str, cells_ptr, cells_sl, cells_map, cells_func, cells_iface, List.size_toArray, Array.size_append, bc_length, List.length_cons, List.length_nil, Nat.zero_add, Nat.reduceAdd, *]; done) | (simp (disch := (first | assumption | (first | omega | (simp only [List.length_cons, List.length_nil, sz_alloc, sz_put, sz_drew]; done) | (simp only [List.length_replicate, List.length_cons, List.length_nil, *]; done) | (simp only [List.size_toArray, List.length_cons, List.length_nil, sz_alloc, sz_put, sz_drew] at *; omega)))) only [MapAt, Hp_drew, Hp_alloc_old, Hp_alloc_new, Hp_put_same, Hp_put_other, *])) only [hp, hlt', NilCk_ptr, p_add, p_lss, L1_cells, Branch_bool, List.getElem?_toArray, List.getElem?_cons_zero, List.getElem?_cons_succ, Option.elim_some, Nat.zero_add, decide_eq_true_eq, decide_eq_false_iff_not, and_true, true_and, false_implies, forall_const, wr_in, Int.toNat_natCast, len47, fld50_2, ld47]
    subst hi'
    rw [List.take_length]
    exact fun _ => rfl
end
end Go.Proofs
