/- A part of the proof: A.P19. -/
import Derived.Test.YtgfeaeedlakmfaaAP18
set_option linter.unusedVariables false
set_option linter.unusedSimpArgs false
set_option linter.unusedSectionVars false
namespace Go.Proofs
open Go Go.Lf
set_option maxRecDepth 20000
set_option maxHeartbeats 2000000
set_option linter.unusedSimpArgs false
set_option linter.unusedVariables false
theorem within_prop (a n : Int) (hn : 1 ≤ n) : 0 ≤ a % n ∧ a % n < n := ⟨Int.emod_nonneg a (by omega), Int.emod_lt_of_pos a (by omega)⟩
def keyOf (n : Int) : List UInt8 := ((List.replicate 32 (0 : UInt8)).set 0 (UInt8.ofNat (n % 3).toNat)).set 31 (UInt8.ofNat (n.tdiv 3 % 4).toNat)
theorem keyOf_length (n : Int) : (keyOf n).length = 32 := by simp [keyOf]
def keys12 : List (List UInt8) := [keyOf 0, keyOf 1, keyOf 2, keyOf 3, keyOf 4, keyOf 5, keyOf 6, keyOf 7, keyOf 8, keyOf 9, keyOf 10, keyOf 11]
theorem keyOf_mem (n : Int) : keyOf n ∈ keys12 := by
  have h1 := within_prop n 3 (by decide)
  have h2 := within_prop (n.tdiv 3) 4 (by decide)
  obtain ⟨m, hm, h3, h4⟩ : ∃ m : Int, (0 ≤ m ∧ m < 12) ∧ m % 3 = n % 3 ∧ m.tdiv 3 % 4 = n.tdiv 3 % 4 := by
    refine ⟨n % 3 + 3 * (n.tdiv 3 % 4), by omega, by omega, ?_⟩
    have : (n % 3 + 3 * (n.tdiv 3 % 4)).tdiv 3 = (n % 3 + 3 * (n.tdiv 3 % 4)) / 3 := Int.tdiv_eq_ediv_of_nonneg (by omega)
    omega
  have e : keyOf n = keyOf m := by unfold keyOf; rw [h3, h4]
  rw [e]
  obtain ⟨j, rfl⟩ : ∃ j : Nat, m = (j : Int) := ⟨m.toNat, by omega⟩
  have hj : j < 12 := by omega
  match j, hj with
  | 0, _ => simp [keys12]
  | 1, _ => simp [keys12]
  | 2, _ => simp [keys12]
  | 3, _ => simp [keys12]
  | 4, _ => simp [keys12]
  | 5, _ => simp [keys12]
  | 6, _ => simp [keys12]
  | 7, _ => simp [keys12]
  | 8, _ => simp [keys12]
  | 9, _ => simp [keys12]
  | 10, _ => simp [keys12]
  | 11, _ => simp [keys12]
theorem set_bcn (k : List UInt8) (j : Nat) (n : Int) (h : 0 ≤ n ∧ n < 256) : (bc k).set j (.int .u8 n) = bc (k.set j (UInt8.ofNat n.toNat)) := by
  rw [← set_bc]
  congr 2
  have : (UInt8.ofNat n.toNat).toNat = n.toNat := by
    rw [UInt8.toNat_ofNat']; omega
  rw [this]; omega
theorem tdiv_bound (n : Int) (hn : -9223372036854775808 ≤ n ∧ n ≤ 9223372036854775807) : -9223372036854775808 ≤ n.tdiv 3 ∧ n.tdiv 3 ≤ 9223372036854775807 := by
  by_cases h : 0 ≤ n
  · rw [Int.tdiv_eq_ediv_of_nonneg h]; omega
  · have e : n = -(-n) := by omega
    rw [e, Int.neg_tdiv, Int.tdiv_eq_ediv_of_nonneg (by omega)]; omega
theorem key_spec (n : Int) (hn : -9223372036854775808 ≤ n ∧ n ≤ 9223372036854775807) (w : World) : Calls Try.prog 9 #[i64 n] w (retK fun v w' => v = idv (keyOf n) ∧ Ext (fun _ => False) w w') := by
  refine F9_ok _ _ _ ?_
  unfold F9
  simp (disch := first | omega | trivial | assumption | (first | omega | (simp only [List.length_cons, List.length_nil, sz_alloc, sz_put, sz_drew]; done) | (simp only [List.length_replicate, List.length_cons, List.length_nil, *]; done) | (simp only [List.size_toArray, List.length_cons, List.length_nil, sz_alloc, sz_put, sz_drew] at *; omega)) | ((repeat' (first | exact allOne_bc _ | exact allOne_nil | (refine allOne_int _ _ _ ?_) | (refine allOne_sl _ _ _ _ ?_) | (refine allOne_ptr _ _ ?_) | (refine allOne_map _ _ ?_) | (refine allOne_bool _ _ ?_) | (refine allOne_str _ _ ?_) | (refine allOne_iface _ _ _ ?_) | (refine allOne_app _ _ ?_ ?_))); done) | (simp only [cells_agg, cells_int, cells_bool, cells_str, cells_ptr, cells_sl, cells_map, cells_func, cells_iface, List.size_toArray, Array.size_append, bc_length, List.length_cons, List.length_nil, Nat.zero_add, Nat.reduceAdd, *]; done) | (simp (disch := (first | assumption | (first | omega | (simp only [List.length_cons, List.length_nil, sz_alloc, sz_put, sz_drew]; done) | (simp only [List.length_replicate, List.length_cons, List.length_nil, *]; done) | (simp only [List.size_toArray, List.length_cons, List.length_nil, sz_alloc, sz_put, sz_drew] at *; omega)))) only [MapAt, Hp_drew, Hp_alloc_old, Hp_alloc_new, Hp_put_same, Hp_put_other, *])) only [p_quo, sz_alloc, cells_agg, Nat.zero_add, Nat.mul_one, ix35, ld35, al35, zv35]
  refine CallF_by Try.call8 (within_spec n 3 (by decide) _) ?_
  rintro _ _ ⟨rfl, rfl⟩
  have h1 := within_prop n 3 (by decide)
  have h2 := within_prop (n.tdiv 3) 4 (by decide)
  have htd : -9223372036854775808 ≤ n.tdiv 3 ∧ n.tdiv 3 ≤ 9223372036854775807 := tdiv_bound n hn
  simp (disch := first | omega | trivial | assumption | (first | omega | (simp only [List.length_cons, List.length_nil, sz_alloc, sz_put, sz_drew]; done) | (simp only [List.length_replicate, List.length_cons, List.length_nil, *]; done) | (simp only [List.size_toArray, List.length_cons, List.length_nil, sz_alloc, sz_put, sz_drew] at *; omega)) | ((repeat' (first | exact allOne_bc _ | exact allOne_nil | (refine allOne_int _ _ _ ?_) | (refine allOne_sl _ _ _ _ ?_) | (refine allOne_ptr _ _ ?_) | (refine allOne_map _ _ ?_) | (refine allOne_bool _ _ ?_) | (refine allOne_str _ _ ?_) | (refine allOne_iface _ _ _ ?_) | (refine allOne_app _ _ ?_ ?_))); done) | (simp only [cells_agg, cells_int, cells_bool, cells_str, cells_ptr, cells_sl, cells_map, cells_func, cells_iface, List.size_toArray, Array.size_append, bc_length, List.length_cons, List.length_nil, Nat.zero_add, Nat.reduceAdd, *]; done) | (simp (disch := (first | assumption | (first | omega | (simp only [List.length_cons, List.length_nil, sz_alloc, sz_put, sz_drew]; done) | (simp only [List.length_replicate, List.length_cons, List.length_nil, *]; done) | (simp only [List.size_toArray, List.length_cons, List.length_nil, sz_alloc, sz_put, sz_drew] at *; omega)))) only [MapAt, Hp_drew, Hp_alloc_old, Hp_alloc_new, Hp_put_same, Hp_put_other, *])) only [u8w, wr_in, cv3_5, st5]
  refine CallF_by Try.call8 (within_spec _ 4 (by decide) _) ?_
  rintro _ _ ⟨rfl, rfl⟩
  have e1 : n % 3 % 256 = n % 3 := by omega
  have e2 : n.tdiv 3 % 4 % 256 = n.tdiv 3 % 4 := by omega
  obtain ⟨K1, hK1⟩ : ∃ K1, K1 = (List.replicate 32 (0 : UInt8)).set 0 (UInt8.ofNat (n % 3).toNat) := ⟨_, rfl⟩
  have hKey : keyOf n = K1.set 31 (UInt8.ofNat (n.tdiv 3 % 4).toNat) := by rw [hK1]; rfl
  have s1 : (bc (List.replicate 32 0)).set 0 (.int .u8 (n % 3)) = bc K1 := by rw [hK1]; exact set_bcn _ 0 _ (by omega)
  have s2 : (bc K1).set 31 (.int .u8 (n.tdiv 3 % 4)) = bc (keyOf n) := by rw [hKey]; exact set_bcn _ 31 _ (by omega)
  have l1 : K1.length = 32 := by rw [hK1]; simp
  have l2 := keyOf_length n
  have s3 : splice (bc K1).toArray 31 #[Value.int .u8 (n.tdiv 3 % 4)] = (bc (keyOf n)).toArray := by rw [splice_lit _ _ _ (by rw [bc_length, l1]; decide), s2]
  have t0 : Int.toNat 0 = 0 := rfl
  have t31 : Int.toNat 31 = 31 := rfl
  have s4 : splice (bc (List.replicate 32 0)).toArray 0 (bc (keyOf n)).toArray = (bc (keyOf n)).toArray := splice_bc_all (by rw [l2]; simp)
  generalize keyOf n = K2 at *
  simp (disch := first | omega | trivial | assumption | (first | omega | (simp only [List.length_cons, List.length_nil, sz_alloc, sz_put, sz_drew]; done) | (simp only [List.length_replicate, List.length_cons, List.length_nil, *]; done) | (simp only [List.size_toArray, List.length_cons, List.length_nil, sz_alloc, sz_put, sz_drew] at *; omega)) | ((repeat' (first | exact allOne_bc _ | exact allOne_nil | (refine allOne_int _ _ _ ?_) | (refine allOne_sl _ _ _ _ ?_) | (refine allOne_ptr _ _ ?_) | (refine allOne_map _ _ ?_) | (refine allOne_bool _ _ ?_) | (refine allOne_str _ _ ?_) | (refine allOne_iface _ _ _ ?_) | (refine allOne_app _ _ ?_ ?_))); done) | (simp only [cells_agg, cells_int, cells_bool, cells_str, cells_ptr, cells_sl, cells_map, cells_func, cells_iface, List.size_toArray, Array.size_append, bc_length, List.length_cons, List.length_nil, Nat.zero_add, Nat.reduceAdd, *]; done) | (simp (disch := (first | assumption | (first | omega | (simp only [List.length_cons, List.length_nil, sz_alloc, sz_put, sz_drew]; done) | (simp only [List.length_replicate, List.length_cons, List.length_nil, *]; done) | (simp only [List.size_toArray, List.length_cons, List.length_nil, sz_alloc, sz_put, sz_drew] at *; omega)))) only [MapAt, Hp_drew, Hp_alloc_old, Hp_alloc_new, Hp_put_same, Hp_put_other, *])) only [e1, e2, s1, s3, s4, l1, l2, t0, t31, put_allocN, Ln_cells, St_cells, Hp_alloc_new, Hp_alloc_old, Hp_put_same, cells_agg, cells_int, Nat.zero_add, List.size_toArray, List.length_cons, List.length_nil, Nat.reduceAdd, Nat.reduceLeDiff, if_pos, true_and, and_self, ext_bc0, splice_lit, bc_length, List.length_replicate, u8w, cv3_5, st5, st35]
  exact (((Ext.refl _ w).alloc _).alloc _).put _ _ (by omega)
/-- same: rows of the same blocks are the same -/
theorem same_spec {w : World} {a b : Value} {L M : List BV} {Q Q' Q1 Q2 : Nat → Prop} (hL : Sl bcell 39 35 w a L Q) (hM : Sl bcell 39 35 w b M Q') (hLd : ∀ y ∈ L, y.1.key.length = 32 ∧ Bytes 5 w y.2 y.1.data Q1) (hMd : ∀ y ∈ M, Bytes 5 w y.2 y.1.data Q2)
    (he : L.map (·.1) = M.map (·.1)) (hlen : L.length ≤ 1000000) : Calls Try.prog 18 #[a, b] w (retK fun v w' => v = .bool true ∧ Ext (fun _ => False) w w') := by
  refine F18_ok _ _ _ _ ?_
  unfold F18
  have hll : L.length = M.length := by have := congrArg List.length he; simpa using this
  obtain ⟨sa, sc, hs⟩ := hL.form
  obtain ⟨ta, tc, ht⟩ := hM.form
  subst hs ht
  simp (disch := first | omega | trivial | assumption | (first | omega | (simp only [List.length_cons, List.length_nil, sz_alloc, sz_put, sz_drew]; done) | (simp only [List.length_replicate, List.length_cons, List.length_nil, *]; done) | (simp only [List.size_toArray, List.length_cons, List.length_nil, sz_alloc, sz_put, sz_drew] at *; omega)) | ((repeat' (first | exact allOne_bc _ | exact allOne_nil | (refine allOne_int _ _ _ ?_) | (refine allOne_sl _ _ _ _ ?_) | (refine allOne_ptr _ _ ?_) | (refine allOne_map _ _ ?_) | (refine allOne_bool _ _ ?_) | (refine allOne_str _ _ ?_) | (refine allOne_iface _ _ _ ?_) | (refine allOne_app _ _ ?_ ?_))); done) | (simp only [cells_agg, cells_int, cells_bool, cells_str, cells_ptr, cells_sl, cells_map, cells_func, cells_iface, List.size_toArray, Array.size_append, bc_length, List.length_cons, List.length_nil, Nat.zero_add, Nat.reduceAdd, *]; done) | (simp (disch := (first | assumption | (first | omega | (simp only [List.length_cons, List.length_nil, sz_alloc, sz_put, sz_drew]; done) | (simp only [List.length_replicate, List.length_cons, List.length_nil, *]; done) | (simp only [List.size_toArray, List.length_cons, List.length_nil, sz_alloc, sz_put, sz_drew] at *; omega)))) only [MapAt, Hp_drew, Hp_alloc_old, Hp_alloc_new, Hp_put_same, Hp_put_other, *])) only [hll, decide_true, p_neq, Branch_bool, Bool.not_true, true_and, Bool.false_eq_true, false_implies, forall_const, len47]
  refine Loop1 (fun v w1 => ∃ i : Nat, v = i64 (i : Int) ∧ i ≤ L.length ∧ Ext (fun _ => False) w w1) (fun u _ => L.length - (match u with | .int _ n => n.toNat | _ => 0)) ⟨0, rfl, Nat.zero_le _, Ext.refl _ _⟩ ?_
  rintro _ w1 ⟨i, rfl, hi, hx⟩
  by_cases hlt : i < L.length
  · have hlt' : ((i : Int) < (M.length : Int)) := by omega
    obtain ⟨b1, o1, cap1, row1, e1, hcap1, hb1, ho1, hr1, hq1⟩ := (hL.ext hx.drew fun _ _ _ => not_false).at (by intro e; rw [e] at hlt; cases hlt)
    obtain ⟨b2, o2, cap2, row2, e2, hcap2, hb2, ho2, hr2, hq2⟩ := (hM.ext hx.drew fun _ _ _ => not_false).at (by intro e; rw [e] at hll; simp at hll; rw [hll] at hlt; cases hlt)
    cases e1; cases e2
    obtain ⟨x, hx1⟩ : ∃ x, L[i]? = some x := ⟨_, List.getElem?_eq_getElem hlt⟩
    obtain ⟨y, hy1⟩ : ∃ y, M[i]? = some y := ⟨_, List.getElem?_eq_getElem (by omega)⟩
    have hxy : x.1 = y.1 := by
      have := congrArg (fun l => l[i]?) he
      simp only [List.getElem?_map, hx1, hy1, Option.map_some, Option.some.injEq] at this
      exact this
    have hxk := (hLd x (List.mem_of_getElem? hx1)).1
    have hyk : y.1.key.length = 32 := by rw [← hxy]; exact hxk
    have hdx := Vec.ext (hLd x (List.mem_of_getElem? hx1)).2 hx.drew fun _ _ _ => not_false
    have hdy := Vec.ext (hMd y (List.mem_of_getElem? hy1)) hx.drew fun _ _ _ => not_false
    have c1 := fun K => QRun_eq (run_toStr (P := Try.prog) hdx 37 9 Try.runUnderlying37 Try.runUnderlying9 Try.runUnderlying5) K
    have c2 := fun K => QRun_eq (run_toStr (P := Try.prog) hdy 37 9 Try.runUnderlying37 Try.runUnderlying9 Try.runUnderlying5) K
    obtain ⟨-, gk1, g132, g133, g134, gsz1⟩ := brow hr1 hx1 hxk
    obtain ⟨-, gk2, g232, g233, g234, gsz2⟩ := brow hr2 hy1 hyk
    rw [hxy] at gk1 g133 g134 c1
    have hlt2 : ((i : Int) < (L.length : Int)) := by omega
    simp (disch := first | omega | trivial | assumption | (first | omega | (simp only [List.length_cons, List.length_nil, sz_alloc, sz_put, sz_drew]; done) | (simp only [List.length_replicate, List.length_cons, List.length_nil, *]; done) | (simp only [List.size_toArray, List.length_cons, List.length_nil, sz_alloc, sz_put, sz_drew] at *; omega)) | ((repeat' (first | exact allOne_bc _ | exact allOne_nil | (refine allOne_int _ _ _ ?_) | (refine allOne_sl _ _ _ _ ?_) | (refine allOne_ptr _ _ ?_) | (refine allOne_map _ _ ?_) | (refine allOne_bool _ _ ?_) | (refine allOne_str _ _ ?_) | (refine allOne_iface _ _ _ ?_) | (refine allOne_app _ _ ?_ ?_))); done) | (simp only [cells_agg, cells_int, cells_bool, cells_str, cells_ptr, cells_sl, cells_map, cells_func, cells_iface, List.size_toArray, Array.size_append, bc_length, List.length_cons, List.length_nil, Nat.zero_add, Nat.reduceAdd, *]; done) | (simp (disch := (first | assumption | (first | omega | (simp only [List.length_cons, List.length_nil, sz_alloc, sz_put, sz_drew]; done) | (simp only [List.length_replicate, List.length_cons, List.length_nil, *]; done) | (simp only [List.size_toArray, List.length_cons, List.length_nil, sz_alloc, sz_put, sz_drew] at *; omega)))) only [MapAt, Hp_drew, Hp_alloc_old, Hp_alloc_new, Hp_put_same, Hp_put_other, *])) only [hlt', hb1, hb2, gk1, gk2, g132, g133, g134, g232, g233, g234, c1, c2, decide_true, cond_false, Pick_bool, cond_false, p_add, p_lss, p_neq, L1_cells, Ln_cells, Branch_bool, Gdn_true, Option.elim_some, Nat.add_zero, if_pos, Bool.not_true, and_true, true_and, Bool.true_eq_false, Bool.false_eq_true, false_implies, forall_const, p_neqStr, wr_in, Int.toNat_natCast, neqb35, fld39_0, fld39_1, fld39_2, fld39_3, ix47, ld3, ld35, ld37]
    exact ⟨⟨i + 1, by simp, hlt, hx.drew⟩, by omega⟩
  · have hlt' : ¬ ((i : Int) < (M.length : Int)) := by omega
    simp (disch := first | omega | trivial | assumption | (first | omega | (simp only [List.length_cons, List.length_nil, sz_alloc, sz_put, sz_drew]; done) | (simp only [List.length_replicate, List.length_cons, List.length_nil, *]; done) | (simp only [List.size_toArray, List.length_cons, List.length_nil, sz_alloc, sz_put, sz_drew] at *; omega)) | ((repeat' (first | exact allOne_bc _ | exact allOne_nil | (refine allOne_int _ _ _ ?_) | (refine allOne_sl _ _ _ _ ?_) | (refine allOne_ptr _ _ ?_) | (refine allOne_map _ _ ?_) | (refine allOne_bool _ _ ?_) | (refine allOne_str _ _ ?_) | (refine allOne_iface _ _ _ ?_) | (refine allOne_app _ _ ?_ ?_))); done) | (simp only [cells_agg, cells_int, cells_bool, cells_str, cells_ptr, cells_sl, cells_map, cells_func, cells_iface, List.size_toArray, Array.size_append, bc_length, List.length_cons, List.length_nil, Nat.zero_add, Nat.reduceAdd, *]; done) | (simp (disch := (first | assumption | (first | omega | (simp only [List.length_cons, List.length_nil, sz_alloc, sz_put, sz_drew]; done) | (simp only [List.length_replicate, List.length_cons, List.length_nil, *]; done) | (simp only [List.size_toArray, List.length_cons, List.length_nil, sz_alloc, sz_put, sz_drew] at *; omega)))) only [MapAt, Hp_drew, Hp_alloc_old, Hp_alloc_new, Hp_put_same, Hp_put_other, *])) only [hlt', decide_false, p_add, p_lss, Branch_bool, true_and, Bool.false_eq_true, false_implies, forall_const, wr_in, Int.toNat_natCast]
    exact hx
end Go.Proofs
