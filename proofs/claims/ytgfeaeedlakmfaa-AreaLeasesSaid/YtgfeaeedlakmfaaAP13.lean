/- A part of the proof: A.P13. -/
import Derived.Test.YtgfeaeedlakmfaaAP12
set_option linter.unusedVariables false
set_option linter.unusedSimpArgs false
set_option linter.unusedSectionVars false
namespace Go.Proofs
open Go Go.Lf
set_option maxRecDepth 20000
set_option maxHeartbeats 2000000
set_option linter.unusedSimpArgs false
set_option linter.unusedVariables false
abbrev bR (R : List BV) : List Blk := R.map (·.1)
structure RefC (w : World) (x : Nat) (room quota : Int) (s : Value) (R : List BV) (Q : Nat → Prop) : Prop where
  hp : Hp w x = some (.cells #[i64 room, i64 quota, s] 50 (0, 0))
  sl : Sl bcell 39 35 w s R Q
  klen : ∀ y ∈ R, y.1.key.length = 32
  data : ∀ y ∈ R, Bytes 5 w y.2 y.1.data Q
  hQ : ∀ b, Q b → b ≠ x
  htot : totalB (bR R) ≤ 1073741824
theorem bR_take_succ {R : List BV} {i : Nat} {y : BV} (h : R[i]? = some y) : bR (R.take (i + 1)) = bR (R.take i) ++ [y.1] := by
  rw [List.take_add_one, h]; simp
theorem total_take (R : List BV) (i : Nat) : totalB (bR (R.take i)) ≤ totalB (bR R) := by
  have : bR R = bR (R.take i) ++ bR (R.drop i) := by rw [← List.map_append, List.take_append_drop]
  rw [this, total_append]
  have := total_nonneg (bR (R.drop i)); omega
section
variable {w : World} {x : Nat} {room quota : Int} {s : Value} {R : List BV} {Q : Nat → Prop}
theorem rtotal_spec (h : RefC w x room quota s R Q) (hlen : R.length ≤ 1000000) : Calls Try.prog 21 #[ptr x 0] w (retK fun v w' => v = i64 (totalB (bR R)) ∧ w' = w) := by
  refine F21_ok _ _ _ ?_
  unfold F21
  have hp := h.hp
  obtain ⟨a, cap, hs⟩ := h.sl.form
  subst hs
  refine Loop2 (fun v u w1 => ∃ i : Nat, u = i64 (i : Int) ∧ i ≤ R.length ∧ v = i64 (totalB (bR (R.take i))) ∧ w1 = w) (fun _ u _ => R.length - (match u with | .int _ n => n.toNat | _ => 0)) ⟨0, rfl, Nat.zero_le _, rfl, rfl⟩ ?_
  rintro _ _ w1 ⟨i, rfl, hi, rfl, rfl⟩ _
  by_cases hlt : i < R.length
  · have hlt' : ((i : Int) < (R.length : Int)) := by omega
    obtain ⟨b, o, cap', row, e, hcap, hb, ho, hr, hq⟩ := h.sl.at (by intro e; rw [e] at hlt; cases hlt)
    cases e
    obtain ⟨y, hy⟩ : ∃ y, R[i]? = some y := ⟨_, List.getElem?_eq_getElem hlt⟩
    have hym := List.mem_of_getElem? hy
    have hd := h.data y hym
    have hk := h.klen y hym
    have hget := hr.2.2 i y hy 32 (by decide)
    have e32 : (bcell y)[32]? = some y.2 := by
      unfold bcell; rw [List.getElem?_append_right (by simp [bc_length, hk])]; simp [bc_length, hk]
    rw [e32] at hget
    obtain ⟨da, dc, hdv⟩ := Vec.slice hd
    rw [hdv] at hget
    have hxt := total_take R (i + 1)
    have ht0 := total_nonneg (bR (R.take i))
    rw [bR_take_succ hy, total_append, total_cons] at hxt
    have ht := h.htot
    have hz : totalB [] = 0 := rfl
    simp (disch := first | omega | trivial | assumption | (first | omega | (simp only [List.length_cons, List.length_nil, sz_alloc, sz_put, sz_drew]; done) | (simp only [List.length_replicate, List.length_cons, List.length_nil, *]; done) | (simp only [List.size_toArray, List.length_cons, List.length_nil, sz_alloc, sz_put, sz_drew] at *; omega)) | ((repeat' (first | exact allOne_bc _ | exact allOne_nil | (refine allOne_int _ _ _ ?_) | (refine allOne_sl _ _ _ _ ?_) | (refine allOne_ptr _ _ ?_) | (refine allOne_map _ _ ?_) | (refine allOne_bool _ _ ?_) | (refine allOne_str _ _ ?_) | (refine allOne_iface _ _ _ ?_) | (refine allOne_app _ _ ?_ ?_))); done) | (simp only [cells_agg, cells_int, cells_bool, cells_str, cells_ptr, cells_sl, cells_map, cells_func, cells_iface, List.size_toArray, Array.size_append, bc_length, List.length_cons, List.length_nil, Nat.zero_add, Nat.reduceAdd, *]; done) | (simp (disch := (first | assumption | (first | omega | (simp only [List.length_cons, List.length_nil, sz_alloc, sz_put, sz_drew]; done) | (simp only [List.length_replicate, List.length_cons, List.length_nil, *]; done) | (simp only [List.size_toArray, List.length_cons, List.length_nil, sz_alloc, sz_put, sz_drew] at *; omega)))) only [MapAt, Hp_drew, Hp_alloc_old, Hp_alloc_new, Hp_put_same, Hp_put_other, *])) only [hp, hb, hlt', hget, NilCk_ptr, p_add, p_lss, L1_cells, Branch_bool, List.getElem?_toArray, List.getElem?_cons_zero, List.getElem?_cons_succ, Option.elim_some, Nat.zero_add, decide_eq_true_eq, decide_eq_false_iff_not, and_true, forall_const, wr_in, Int.toNat_natCast, len37, fld39_1, ix47, len47, fld50_2, ld37, ld47]
    refine ⟨⟨⟨i + 1, by simp, hlt, ?_⟩, by omega⟩, fun h => absurd trivial h⟩
    rw [bR_take_succ hy, total_append, total_cons, hz, Int.add_zero]
  · have hlt' : ¬ ((i : Int) < (R.length : Int)) := by omega
    have hi' : i = R.length := by omega
    simp (disch := first | omega | trivial | assumption | (first | omega | (simp only [List.length_cons, List.length_nil, sz_alloc, sz_put, sz_drew]; done) | (simp only [List.length_replicate, List.length_cons, List.length_nil, *]; done) | (simp only [List.size_toArray, List.length_cons, List.length_nil, sz_alloc, sz_put, sz_drew] at *; omega)) | ((repeat' (first | exact allOne_bc _ | exact allOne_nil | (refine allOne_int _ _ _ ?_) | (refine allOne_sl _ _ _ _ ?_) | (refine allOne_ptr _ _ ?_) | (refine allOne_map _ _ ?_) | (refine allOne_bool _ _ ?_) | (refine allOne_str _ _ ?_) | (refine allOne_iface _ _ _ ?_) | (refine allOne_app _ _ ?_ ?_))); done) | (simp only [cells_agg, cells_int, cells_bool, cells_str, cells_ptr, cells_sl, cells_map, cells_func, cells_iface, List.size_toArray, Array.size_append, bc_length, List.length_cons, List.length_nil, Nat.zero_add, Nat.reduceAdd, *]; done) | (simp (disch := (first | assumption | (first | omega | (simp only [List.length_cons, List.length_nil, sz_alloc, sz_put, sz_drew]; done) | (simp only [List.length_replicate, List.length_cons, List.length_nil, *]; done) | (simp only [List.size_toArray, List.length_cons, List.length_nil, sz_alloc, sz_put, sz_drew] at *; omega)))) only [MapAt, Hp_drew, Hp_alloc_old, Hp_alloc_new, Hp_put_same, Hp_put_other, *])) only [hp, hlt', NilCk_ptr, p_add, p_lss, L1_cells, Branch_bool, List.getElem?_toArray, List.getElem?_cons_zero, List.getElem?_cons_succ, Option.elim_some, Nat.zero_add, decide_eq_true_eq, decide_eq_false_iff_not, and_true, true_and, false_implies, wr_in, Int.toNat_natCast, len47, fld50_2, ld47]
    subst hi'
    rw [List.take_length]
    exact fun _ => rfl
end
end Go.Proofs
