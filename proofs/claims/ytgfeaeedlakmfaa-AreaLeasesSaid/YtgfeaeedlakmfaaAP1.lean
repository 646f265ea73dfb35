/- A part of the proof: A.P1. -/
import Derived.Test.YtgfeaeedlakmfaaAF1
set_option linter.unusedVariables false
set_option linter.unusedSimpArgs false
set_option linter.unusedSectionVars false
namespace Go.Proofs
open Go Go.Lf
set_option maxRecDepth 20000
set_option maxHeartbeats 2000000
set_option linter.unusedSimpArgs false
set_option linter.unusedVariables false
theorem tmod_emod (a n : Int) (hn : 1 ≤ n) : (a % n = if a.tmod n < 0 then a.tmod n + n else a.tmod n) ∧ -n < a.tmod n ∧ a.tmod n < n := by
  have h := Int.tmod_eq_emod (a := a) (b := n)
  have h1 := Int.emod_nonneg a (show n ≠ 0 by omega)
  have h2 := Int.emod_lt_of_pos a (show 0 < n by omega)
  split at h
  · simp only [Int.ofNat_zero, Int.sub_zero] at h
    rw [h]; refine ⟨?_, by omega, by omega⟩
    rw [if_neg (by omega)]
  · by_cases hz : a % n = 0
    · exfalso
      rename_i hx
      exact hx (.inr (Int.dvd_of_emod_eq_zero hz))
    · rw [h]; refine ⟨?_, by omega, by omega⟩
      rw [if_pos (by omega)]; omega
theorem within_spec (a n : Int) (hn : 1 ≤ n ∧ n ≤ 9223372036854775807) (w : World) :
    Calls Try.prog 8 #[i64 a, i64 n] w (retK fun v w' => v = i64 (a % n) ∧ w' = w) := by
  refine F8_ok _ _ _ _ ?_
  unfold F8
  obtain ⟨h2, h3⟩ := tmod_emod a n hn.1
  simp (disch := first | omega | trivial | assumption | (first | omega | (simp only [List.length_cons, List.length_nil, sz_alloc, sz_put, sz_drew]; done) | (simp only [List.length_replicate, List.length_cons, List.length_nil, *]; done) | (simp only [List.size_toArray, List.length_cons, List.length_nil, sz_alloc, sz_put, sz_drew] at *; omega)) | ((repeat' (first | exact allOne_bc _ | exact allOne_nil | (refine allOne_int _ _ _ ?_) | (refine allOne_sl _ _ _ _ ?_) | (refine allOne_ptr _ _ ?_) | (refine allOne_map _ _ ?_) | (refine allOne_bool _ _ ?_) | (refine allOne_str _ _ ?_) | (refine allOne_iface _ _ _ ?_) | (refine allOne_app _ _ ?_ ?_))); done) | (simp only [cells_agg, cells_int, cells_bool, cells_str, cells_ptr, cells_sl, cells_map, cells_func, cells_iface, List.size_toArray, Array.size_append, bc_length, List.length_cons, List.length_nil, Nat.zero_add, Nat.reduceAdd, *]; done) | (simp (disch := (first | assumption | (first | omega | (simp only [List.length_cons, List.length_nil, sz_alloc, sz_put, sz_drew]; done) | (simp only [List.length_replicate, List.length_cons, List.length_nil, *]; done) | (simp only [List.size_toArray, List.length_cons, List.length_nil, sz_alloc, sz_put, sz_drew] at *; omega)))) only [MapAt, Hp_drew, Hp_alloc_old, Hp_alloc_new, Hp_put_same, Hp_put_other, *])) only [p_add, p_lss, p_rem, Branch_bool, decide_eq_true_eq, decide_eq_false_iff_not, and_true]
  refine ⟨fun h => ?_, fun h => ?_⟩
  · rw [h2, if_pos h, wr_in _ (by omega)]
  · rw [h2, if_neg h]
/-- used counts -/
theorem count_spec (w : World) (p mb ub : Nat) (soon room quota total s n : Int) (us : Ents Int) (cu : Nat) (u : Int)
    (hp : Hp w p = some (.cells #[i64 soon, i64 room, i64 quota, .map (some mb), .map (some ub), i64 total] 57 (0, 0)))
    (hu : MapAt w ub (fun n => i64 n) us cu) (hg : (mget us s).getD (i64 0) = i64 u) :
    Calls Try.prog 25 #[ptr p 0, i64 s, i64 n] w (retK fun v w' => v = .tuple #[] ∧
      w' = put (put w ub (.map (entsOf (fun n => i64 n) (mset us s (i64 (wr (u + n))) cu)) (mclock us s cu))) p (.cells #[i64 soon, i64 room, i64 quota, .map (some mb), .map (some ub), i64 (wr (total + n))] 57 (0, 0))) := by
  refine F25_ok _ _ _ _ _ ?_
  unfold F25
  have hpu : p ≠ ub := fun e => by subst e; unfold MapAt at hu; rw [hp] at hu; cases hu
  have hpl := Hp_lt hp
  simp (disch := first | omega | trivial | assumption | (first | omega | (simp only [List.length_cons, List.length_nil, sz_alloc, sz_put, sz_drew]; done) | (simp only [List.length_replicate, List.length_cons, List.length_nil, *]; done) | (simp only [List.size_toArray, List.length_cons, List.length_nil, sz_alloc, sz_put, sz_drew] at *; omega)) | ((repeat' (first | exact allOne_bc _ | exact allOne_nil | (refine allOne_int _ _ _ ?_) | (refine allOne_sl _ _ _ _ ?_) | (refine allOne_ptr _ _ ?_) | (refine allOne_map _ _ ?_) | (refine allOne_bool _ _ ?_) | (refine allOne_str _ _ ?_) | (refine allOne_iface _ _ _ ?_) | (refine allOne_app _ _ ?_ ?_))); done) | (simp only [cells_agg, cells_int, cells_bool, cells_str, cells_ptr, cells_sl, cells_map, cells_func, cells_iface, List.size_toArray, Array.size_append, bc_length, List.length_cons, List.length_nil, Nat.zero_add, Nat.reduceAdd, *]; done) | (simp (disch := (first | assumption | (first | omega | (simp only [List.length_cons, List.length_nil, sz_alloc, sz_put, sz_drew]; done) | (simp only [List.length_replicate, List.length_cons, List.length_nil, *]; done) | (simp only [List.size_toArray, List.length_cons, List.length_nil, sz_alloc, sz_put, sz_drew] at *; omega)))) only [MapAt, Hp_drew, Hp_alloc_old, Hp_alloc_new, Hp_put_same, Hp_put_other, *])) only [hp, q_lookup (enc := fun n => i64 n) key3 Try.runUnderlying55 Try.zeroValue3 hu s trivial (fun _ _ => trivial), hg, r_mapUpdate (enc := fun n => i64 n) key3 Try.runUnderlying55 hu s trivial (fun _ _ => trivial), NilCk_ptr, p_add, L1_cells, St_cells, Hp_put_other, cells_int, List.getElem?_toArray, List.getElem?_cons_zero, List.getElem?_cons_succ, Option.elim_some, Nat.zero_add, List.size_toArray, List.length_cons, List.length_nil, Nat.reduceAdd, Nat.reduceLeDiff, if_pos, true_and, and_self, splice_lit, List.set_cons_zero, List.set_cons_succ, wr_in, fld57_4, fld57_5, ld3, ld55, st3]

end Go.Proofs
