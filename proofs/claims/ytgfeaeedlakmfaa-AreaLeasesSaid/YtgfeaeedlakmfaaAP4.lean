/- A part of the proof: A.P4. -/
import Derived.Test.YtgfeaeedlakmfaaAP3
import Derived.Test.YtgfeaeedlakmfaaAF2
import Derived.Test.YtgfeaeedlakmfaaABlk
set_option linter.unusedVariables false
set_option linter.unusedSimpArgs false
set_option linter.unusedSectionVars false
namespace Go.Proofs
open Go Go.Lf
set_option maxRecDepth 20000
set_option maxHeartbeats 2000000
set_option linter.unusedSimpArgs false
set_option linter.unusedVariables false
theorem compare_spec {w : World} {x y : Value} {a b : List UInt8} (hx : BOf w x a) (hy : BOf w y b) : Calls Try.prog 30 #[x, y] w (retK fun v w' => v = i64 (cmpB a b) ∧ w' = w) := by
  refine F30_ok _ _ _ _ ?_
  unfold F30
  rw [CallF_ext (e := Extern.BytealgCompare.compare) Try.func34 (by kernel_rfl) (by kernel_rfl) (by kernel_rfl) (by kernel_rfl) (run_compare hx hy)]
  exact ⟨rfl, rfl⟩
theorem cmp_spec {w : World} {x y : BV} (hx : x.1.key.length = 32) (hy : y.1.key.length = 32) :
    Calls Try.prog 29 #[.agg (bcell x).toArray, .agg (bcell y).toArray] w (retK fun v w' => v = i64 (cmpB x.1.key y.1.key) ∧ Ext (fun _ => False) w w') := by
  refine F29_ok _ _ _ _ ?_
  unfold F29
  rw [bcell_arr, bcell_arr]
  simp (disch := first | omega | trivial | assumption | (first | omega | (simp only [List.length_cons, List.length_nil, sz_alloc, sz_put, sz_drew]; done) | (simp only [List.length_replicate, List.length_cons, List.length_nil, *]; done) | (simp only [List.size_toArray, List.length_cons, List.length_nil, sz_alloc, sz_put, sz_drew] at *; omega)) | ((repeat' (first | exact allOne_bc _ | exact allOne_nil | (refine allOne_int _ _ _ ?_) | (refine allOne_sl _ _ _ _ ?_) | (refine allOne_ptr _ _ ?_) | (refine allOne_map _ _ ?_) | (refine allOne_bool _ _ ?_) | (refine allOne_str _ _ ?_) | (refine allOne_iface _ _ _ ?_) | (refine allOne_app _ _ ?_ ?_))); done) | (simp only [cells_agg, cells_int, cells_bool, cells_str, cells_ptr, cells_sl, cells_map, cells_func, cells_iface, List.size_toArray, Array.size_append, bc_length, List.length_cons, List.length_nil, Nat.zero_add, Nat.reduceAdd, *]; done) | (simp (disch := (first | assumption | (first | omega | (simp only [List.length_cons, List.length_nil, sz_alloc, sz_put, sz_drew]; done) | (simp only [List.length_replicate, List.length_cons, List.length_nil, *]; done) | (simp only [List.size_toArray, List.length_cons, List.length_nil, sz_alloc, sz_put, sz_drew] at *; omega)))) only [MapAt, Hp_drew, Hp_alloc_old, Hp_alloc_new, Hp_put_same, Hp_put_other, *])) only [r_box, sz_alloc, cells_agg, Nat.add_zero, slA35, fld39_0]
  refine CallF_by Try.call30 (compare_spec (a := x.1.key) (b := y.1.key) ?_ ?_) ?_
  · refine .inr ⟨sz w, 0, 32, _, _, _, by rw [hx], (Hp_alloc_old _ _ _ (by rw [sz_alloc]; omega)).trans (Hp_alloc_new _ _ _ rfl), fun j hj => ?_⟩
    rw [Nat.zero_add, Array.getElem?_append_left (by simp [bc_length]; exact hj)]; simp
  · refine .inr ⟨sz w + 1, 0, 32, _, _, _, by rw [hy], (Hp_alloc_new _ _ _ (by rw [sz_alloc])), fun j hj => ?_⟩
    rw [Nat.zero_add, Array.getElem?_append_left (by simp [bc_length]; exact hj)]; simp
  · rintro v w' ⟨rfl, rfl⟩
    exact ⟨rfl, ((((Ext.refl _ w).alloc _).alloc _).drew)⟩
theorem big47_size : big47.size = 256 := by kernel_rfl
set_option maxRecDepth 10000 in
theorem len64_spec (x : Int) (h : 0 ≤ x ∧ x ≤ 255) (w : World) : Calls Try.prog 47 #[.int .u64 x] w (retK fun v w' => (∃ n : Int, v = i64 n) ∧ w' = w) := by
  refine F47_ok _ _ _ ?_
  unfold F47
  have hb := big47_size
  simp (disch := first | omega | trivial | assumption | (first | omega | (simp only [List.length_cons, List.length_nil, sz_alloc, sz_put, sz_drew]; done) | (simp only [List.length_replicate, List.length_cons, List.length_nil, *]; done) | (simp only [List.size_toArray, List.length_cons, List.length_nil, sz_alloc, sz_put, sz_drew] at *; omega)) | ((repeat' (first | exact allOne_bc _ | exact allOne_nil | (refine allOne_int _ _ _ ?_) | (refine allOne_sl _ _ _ _ ?_) | (refine allOne_ptr _ _ ?_) | (refine allOne_map _ _ ?_) | (refine allOne_bool _ _ ?_) | (refine allOne_str _ _ ?_) | (refine allOne_iface _ _ _ ?_) | (refine allOne_app _ _ ?_ ?_))); done) | (simp only [cells_agg, cells_int, cells_bool, cells_str, cells_ptr, cells_sl, cells_map, cells_func, cells_iface, List.size_toArray, Array.size_append, bc_length, List.length_cons, List.length_nil, Nat.zero_add, Nat.reduceAdd, *]; done) | (simp (disch := (first | assumption | (first | omega | (simp only [List.length_cons, List.length_nil, sz_alloc, sz_put, sz_drew]; done) | (simp only [List.length_replicate, List.length_cons, List.length_nil, *]; done) | (simp only [List.size_toArray, List.length_cons, List.length_nil, sz_alloc, sz_put, sz_drew] at *; omega)))) only [MapAt, Hp_drew, Hp_alloc_old, Hp_alloc_new, Hp_put_same, Hp_put_other, *])) only [p_geq, Branch_bool, decide_eq_true_eq, decide_eq_false_iff_not, forall_const]
  refine Join2 (fun a b w' => a = .int .u64 x ∧ (∃ n, b = i64 n) ∧ w' = w) ⟨fun h' => by omega, fun _ => ⟨rfl, ⟨_, rfl⟩, rfl⟩⟩ ?_
  rintro _ _ w1 ⟨rfl, ⟨n1, rfl⟩, e1⟩
  refine Join2 (fun a b w' => a = .int .u64 x ∧ (∃ n, b = i64 n) ∧ w' = w) ?_ ?_
  · simp (disch := first | omega | trivial | assumption | (first | omega | (simp only [List.length_cons, List.length_nil, sz_alloc, sz_put, sz_drew]; done) | (simp only [List.length_replicate, List.length_cons, List.length_nil, *]; done) | (simp only [List.size_toArray, List.length_cons, List.length_nil, sz_alloc, sz_put, sz_drew] at *; omega)) | ((repeat' (first | exact allOne_bc _ | exact allOne_nil | (refine allOne_int _ _ _ ?_) | (refine allOne_sl _ _ _ _ ?_) | (refine allOne_ptr _ _ ?_) | (refine allOne_map _ _ ?_) | (refine allOne_bool _ _ ?_) | (refine allOne_str _ _ ?_) | (refine allOne_iface _ _ _ ?_) | (refine allOne_app _ _ ?_ ?_))); done) | (simp only [cells_agg, cells_int, cells_bool, cells_str, cells_ptr, cells_sl, cells_map, cells_func, cells_iface, List.size_toArray, Array.size_append, bc_length, List.length_cons, List.length_nil, Nat.zero_add, Nat.reduceAdd, *]; done) | (simp (disch := (first | assumption | (first | omega | (simp only [List.length_cons, List.length_nil, sz_alloc, sz_put, sz_drew]; done) | (simp only [List.length_replicate, List.length_cons, List.length_nil, *]; done) | (simp only [List.size_toArray, List.length_cons, List.length_nil, sz_alloc, sz_put, sz_drew] at *; omega)))) only [MapAt, Hp_drew, Hp_alloc_old, Hp_alloc_new, Hp_put_same, Hp_put_other, *])) only [p_add, p_geq, Branch_bool, decide_eq_true_eq, decide_eq_false_iff_not, true_and]
    exact ⟨fun h' => by omega, fun _ => ⟨⟨_, rfl⟩, e1⟩⟩
  rintro _ _ w1 ⟨rfl, ⟨n1, rfl⟩, e1⟩
  refine Join2 (fun a b w' => a = .int .u64 x ∧ (∃ n, b = i64 n) ∧ w' = w) ?_ ?_
  · simp (disch := first | omega | trivial | assumption | (first | omega | (simp only [List.length_cons, List.length_nil, sz_alloc, sz_put, sz_drew]; done) | (simp only [List.length_replicate, List.length_cons, List.length_nil, *]; done) | (simp only [List.size_toArray, List.length_cons, List.length_nil, sz_alloc, sz_put, sz_drew] at *; omega)) | ((repeat' (first | exact allOne_bc _ | exact allOne_nil | (refine allOne_int _ _ _ ?_) | (refine allOne_sl _ _ _ _ ?_) | (refine allOne_ptr _ _ ?_) | (refine allOne_map _ _ ?_) | (refine allOne_bool _ _ ?_) | (refine allOne_str _ _ ?_) | (refine allOne_iface _ _ _ ?_) | (refine allOne_app _ _ ?_ ?_))); done) | (simp only [cells_agg, cells_int, cells_bool, cells_str, cells_ptr, cells_sl, cells_map, cells_func, cells_iface, List.size_toArray, Array.size_append, bc_length, List.length_cons, List.length_nil, Nat.zero_add, Nat.reduceAdd, *]; done) | (simp (disch := (first | assumption | (first | omega | (simp only [List.length_cons, List.length_nil, sz_alloc, sz_put, sz_drew]; done) | (simp only [List.length_replicate, List.length_cons, List.length_nil, *]; done) | (simp only [List.size_toArray, List.length_cons, List.length_nil, sz_alloc, sz_put, sz_drew] at *; omega)))) only [MapAt, Hp_drew, Hp_alloc_old, Hp_alloc_new, Hp_put_same, Hp_put_other, *])) only [p_add, p_geq, Branch_bool, decide_eq_true_eq, decide_eq_false_iff_not, true_and]
    exact ⟨fun h' => by omega, fun _ => ⟨⟨_, rfl⟩, e1⟩⟩
  rintro _ _ w1 ⟨rfl, ⟨n1, rfl⟩, e1⟩
  have hw : x % 256 < big47.size := by omega
  have hw0 : 0 ≤ x % 256 := by omega
  simp (disch := first | omega | trivial | assumption | (first | omega | (simp only [List.length_cons, List.length_nil, sz_alloc, sz_put, sz_drew]; done) | (simp only [List.length_replicate, List.length_cons, List.length_nil, *]; done) | (simp only [List.size_toArray, List.length_cons, List.length_nil, sz_alloc, sz_put, sz_drew] at *; omega)) | ((repeat' (first | exact allOne_bc _ | exact allOne_nil | (refine allOne_int _ _ _ ?_) | (refine allOne_sl _ _ _ _ ?_) | (refine allOne_ptr _ _ ?_) | (refine allOne_map _ _ ?_) | (refine allOne_bool _ _ ?_) | (refine allOne_str _ _ ?_) | (refine allOne_iface _ _ _ ?_) | (refine allOne_app _ _ ?_ ?_))); done) | (simp only [cells_agg, cells_int, cells_bool, cells_str, cells_ptr, cells_sl, cells_map, cells_func, cells_iface, List.size_toArray, Array.size_append, bc_length, List.length_cons, List.length_nil, Nat.zero_add, Nat.reduceAdd, *]; done) | (simp (disch := (first | assumption | (first | omega | (simp only [List.length_cons, List.length_nil, sz_alloc, sz_put, sz_drew]; done) | (simp only [List.length_replicate, List.length_cons, List.length_nil, *]; done) | (simp only [List.size_toArray, List.length_cons, List.length_nil, sz_alloc, sz_put, sz_drew] at *; omega)))) only [MapAt, Hp_drew, Hp_alloc_old, Hp_alloc_new, Hp_put_same, Hp_put_other, *])) only [p_add, u8w, i64w, ixs9, cv5_3, cv86_5]
  exact ⟨⟨_, rfl⟩, e1⟩
theorem len_spec (x : Int) (h : 0 ≤ x ∧ x ≤ 255) (w : World) : Calls Try.prog 37 #[.int .u64 x] w (retK fun v w' => (∃ n : Int, v = i64 n) ∧ w' = w) := by
  refine F37_ok _ _ _ ?_
  unfold F37
  simp (disch := first | omega | trivial | assumption | (first | omega | (simp only [List.length_cons, List.length_nil, sz_alloc, sz_put, sz_drew]; done) | (simp only [List.length_replicate, List.length_cons, List.length_nil, *]; done) | (simp only [List.size_toArray, List.length_cons, List.length_nil, sz_alloc, sz_put, sz_drew] at *; omega)) | ((repeat' (first | exact allOne_bc _ | exact allOne_nil | (refine allOne_int _ _ _ ?_) | (refine allOne_sl _ _ _ _ ?_) | (refine allOne_ptr _ _ ?_) | (refine allOne_map _ _ ?_) | (refine allOne_bool _ _ ?_) | (refine allOne_str _ _ ?_) | (refine allOne_iface _ _ _ ?_) | (refine allOne_app _ _ ?_ ?_))); done) | (simp only [cells_agg, cells_int, cells_bool, cells_str, cells_ptr, cells_sl, cells_map, cells_func, cells_iface, List.size_toArray, Array.size_append, bc_length, List.length_cons, List.length_nil, Nat.zero_add, Nat.reduceAdd, *]; done) | (simp (disch := (first | assumption | (first | omega | (simp only [List.length_cons, List.length_nil, sz_alloc, sz_put, sz_drew]; done) | (simp only [List.length_replicate, List.length_cons, List.length_nil, *]; done) | (simp only [List.size_toArray, List.length_cons, List.length_nil, sz_alloc, sz_put, sz_drew] at *; omega)))) only [MapAt, Hp_drew, Hp_alloc_old, Hp_alloc_new, Hp_put_same, Hp_put_other, *])) only [Branch_bool, true_and, Bool.false_eq_true, false_implies, forall_const, cv74_84]
  refine CallF_by Try.call47 (len64_spec x h w) ?_
  rintro v w' ⟨⟨n, rfl⟩, rfl⟩
  exact ⟨⟨_, rfl⟩, rfl⟩
theorem bval_ok (x : BV) (h : x.1.key.length = 32) (hd : oneCell x.2) : ok35 (.agg (bcell x).toArray) := by
  refine ⟨_, rfl, by simp [bcell_length x h], fun u hu => ?_⟩
  simp only [bcell, List.mem_append, List.mem_cons] at hu
  rcases hu with hu | rfl | rfl | rfl | hu
  · exact bc_one _ _ hu
  · exact hd
  · trivial
  · trivial
  · cases hu
theorem bval_one (x : BV) (hd : oneCell x.2) : allOne (bcell x).toArray := by
  intro u hu
  simp only [bcell, List.mem_append, List.mem_cons] at hu
  rcases hu with hu | rfl | rfl | rfl | hu
  · exact bc_one _ _ hu
  · exact hd
  · trivial
  · trivial
  · cases hu
/-- insertion sort over a row of blocks -/
theorem isort_spec {w : World} {b o cap : Nat} {row : Array Value} {L : List BV} (hb : Hp w b = some (.cells row 39 (0, 0))) (hr : VRow bcell 35 row o L) (hk : ∀ x ∈ L, x.1.key.length = 32 ∧ oneCell x.2) (hcap : L.length ≤ cap) (hn : L.length ≤ 1000000) :
    Calls Try.prog 38 #[.slice (some ⟨b, o, none⟩) L.length cap, i64 0, i64 L.length, .func (.func 29) #[] #[]] w (retK fun v w' => v = .tuple #[] ∧ Ext (fun x => x = b) w w' ∧
      ∃ L' row', L'.Perm L ∧ L'.Pairwise leK ∧ Hp w' b = some (.cells row' 39 (0, 0)) ∧ row'.size = row.size ∧ VRow bcell 35 row' o L') := by
  refine F38_ok _ _ _ _ _ _ ?_
  unfold F38
  simp (disch := first | omega | trivial | assumption | (first | omega | (simp only [List.length_cons, List.length_nil, sz_alloc, sz_put, sz_drew]; done) | (simp only [List.length_replicate, List.length_cons, List.length_nil, *]; done) | (simp only [List.size_toArray, List.length_cons, List.length_nil, sz_alloc, sz_put, sz_drew] at *; omega)) | ((repeat' (first | exact allOne_bc _ | exact allOne_nil | (refine allOne_int _ _ _ ?_) | (refine allOne_sl _ _ _ _ ?_) | (refine allOne_ptr _ _ ?_) | (refine allOne_map _ _ ?_) | (refine allOne_bool _ _ ?_) | (refine allOne_str _ _ ?_) | (refine allOne_iface _ _ _ ?_) | (refine allOne_app _ _ ?_ ?_))); done) | (simp only [cells_agg, cells_int, cells_bool, cells_str, cells_ptr, cells_sl, cells_map, cells_func, cells_iface, List.size_toArray, Array.size_append, bc_length, List.length_cons, List.length_nil, Nat.zero_add, Nat.reduceAdd, *]; done) | (simp (disch := (first | assumption | (first | omega | (simp only [List.length_cons, List.length_nil, sz_alloc, sz_put, sz_drew]; done) | (simp only [List.length_replicate, List.length_cons, List.length_nil, *]; done) | (simp only [List.size_toArray, List.length_cons, List.length_nil, sz_alloc, sz_put, sz_drew] at *; omega)))) only [MapAt, Hp_drew, Hp_alloc_old, Hp_alloc_new, Hp_put_same, Hp_put_other, *])) only [p_add, true_and, forall_const, wr_in]
  by_cases h1 : L.length ≤ 1
  · refine Loop1 (fun v w1 => v = i64 1 ∧ w1 = w) (fun _ _ => 0) ⟨rfl, rfl⟩ ?_
    rintro _ _ ⟨rfl, rfl⟩
    simp (disch := first | omega | trivial | assumption | (first | omega | (simp only [List.length_cons, List.length_nil, sz_alloc, sz_put, sz_drew]; done) | (simp only [List.length_replicate, List.length_cons, List.length_nil, *]; done) | (simp only [List.size_toArray, List.length_cons, List.length_nil, sz_alloc, sz_put, sz_drew] at *; omega)) | ((repeat' (first | exact allOne_bc _ | exact allOne_nil | (refine allOne_int _ _ _ ?_) | (refine allOne_sl _ _ _ _ ?_) | (refine allOne_ptr _ _ ?_) | (refine allOne_map _ _ ?_) | (refine allOne_bool _ _ ?_) | (refine allOne_str _ _ ?_) | (refine allOne_iface _ _ _ ?_) | (refine allOne_app _ _ ?_ ?_))); done) | (simp only [cells_agg, cells_int, cells_bool, cells_str, cells_ptr, cells_sl, cells_map, cells_func, cells_iface, List.size_toArray, Array.size_append, bc_length, List.length_cons, List.length_nil, Nat.zero_add, Nat.reduceAdd, *]; done) | (simp (disch := (first | assumption | (first | omega | (simp only [List.length_cons, List.length_nil, sz_alloc, sz_put, sz_drew]; done) | (simp only [List.length_replicate, List.length_cons, List.length_nil, *]; done) | (simp only [List.size_toArray, List.length_cons, List.length_nil, sz_alloc, sz_put, sz_drew] at *; omega)))) only [MapAt, Hp_drew, Hp_alloc_old, Hp_alloc_new, Hp_put_same, Hp_put_other, *])) only [p_add, p_lss, Branch_bool, Nat.reduceLT, decide_eq_true_eq, decide_eq_false_iff_not, wr_in]
    refine ⟨fun h => by omega, fun _ => ⟨Ext.refl _ _, L, row, List.Perm.refl _, ?_, hb, rfl, hr⟩⟩
    match L, h1 with
    | [], _ => exact List.Pairwise.nil
    | [x], _ => exact List.pairwise_singleton _ _
  obtain ⟨x0, R0, rfl⟩ : ∃ x R, L = x :: R := by cases L with | nil => simp at h1 | cons x R => exact ⟨x, R, rfl⟩
  generalize hL : x0 :: R0 = L at *
  refine Loop1 (fun v w1 => ∃ (T R : List BV) (row1 : Array Value), v = i64 (T.length : Int) ∧ 1 ≤ T.length ∧ (T ++ R).Perm L ∧ T.Pairwise leK ∧ Ext (fun x => x = b) w w1 ∧ Hp w1 b = some (.cells row1 39 (0, 0)) ∧ row1.size = row.size ∧ VRow bcell 35 row1 o (T ++ R))
    (fun v w1 => L.length - (match v with | .int _ n => n.toNat | _ => 0)) ⟨[x0], R0, row, rfl, Nat.le_refl _, by rw [← hL]; exact List.Perm.refl _, List.pairwise_singleton _ _, Ext.refl _ _, hb, rfl, by rw [← hL] at hr; exact hr⟩ ?_
  rintro _ w1 ⟨T, R, row1, rfl, hT, hp, hs, hx, hb1, hs1, hr1⟩
  have hlen := hp.length_eq
  rw [List.length_append] at hlen
  simp (disch := first | omega | trivial | assumption | (first | omega | (simp only [List.length_cons, List.length_nil, sz_alloc, sz_put, sz_drew]; done) | (simp only [List.length_replicate, List.length_cons, List.length_nil, *]; done) | (simp only [List.size_toArray, List.length_cons, List.length_nil, sz_alloc, sz_put, sz_drew] at *; omega)) | ((repeat' (first | exact allOne_bc _ | exact allOne_nil | (refine allOne_int _ _ _ ?_) | (refine allOne_sl _ _ _ _ ?_) | (refine allOne_ptr _ _ ?_) | (refine allOne_map _ _ ?_) | (refine allOne_bool _ _ ?_) | (refine allOne_str _ _ ?_) | (refine allOne_iface _ _ _ ?_) | (refine allOne_app _ _ ?_ ?_))); done) | (simp only [cells_agg, cells_int, cells_bool, cells_str, cells_ptr, cells_sl, cells_map, cells_func, cells_iface, List.size_toArray, Array.size_append, bc_length, List.length_cons, List.length_nil, Nat.zero_add, Nat.reduceAdd, *]; done) | (simp (disch := (first | assumption | (first | omega | (simp only [List.length_cons, List.length_nil, sz_alloc, sz_put, sz_drew]; done) | (simp only [List.length_replicate, List.length_cons, List.length_nil, *]; done) | (simp only [List.size_toArray, List.length_cons, List.length_nil, sz_alloc, sz_put, sz_drew] at *; omega)))) only [MapAt, Hp_drew, Hp_alloc_old, Hp_alloc_new, Hp_put_same, Hp_put_other, *])) only [p_add, p_lss, Branch_bool, decide_eq_true_eq, decide_eq_false_iff_not, wr_in, Int.toNat_natCast]
  refine ⟨fun hlt => ?_, fun hge => ?_⟩
  · cases R with
    | nil => simp at hlen; omega
    | cons x R =>
    have hkx : ∀ y ∈ T ++ x :: R, y.1.key.length = 32 ∧ oneCell y.2 := fun y hy => hk y (hp.mem_iff.1 hy)
    refine Loop1 (fun v w2 => ∃ (P S : List BV) (row2 : Array Value), v = i64 (P.length : Int) ∧ P.length + S.length = T.length ∧ (P ++ x :: (S ++ R)).Perm L ∧ (P ++ S).Pairwise leK ∧ (∀ y ∈ S, leK x y) ∧
        Ext (fun x => x = b) w w2 ∧ Hp w2 b = some (.cells row2 39 (0, 0)) ∧ row2.size = row.size ∧ VRow bcell 35 row2 o (P ++ x :: (S ++ R)))
      (fun v w1 => match v with | .int _ n => n.toNat | _ => 0) ⟨T, [], row1, rfl, rfl, hp, by simpa using hs, by simp, hx, hb1, hs1, hr1⟩ ?_
    rintro _ w2 ⟨P, S, row2, rfl, hPS, hp2, hs2, hS, hx2, hb2, hsz2, hr2⟩
    have hlen2 := hp2.length_eq
    simp only [List.length_append, List.length_cons] at hlen2 hlen
    simp (disch := first | omega | trivial | assumption | (first | omega | (simp only [List.length_cons, List.length_nil, sz_alloc, sz_put, sz_drew]; done) | (simp only [List.length_replicate, List.length_cons, List.length_nil, *]; done) | (simp only [List.size_toArray, List.length_cons, List.length_nil, sz_alloc, sz_put, sz_drew] at *; omega)) | ((repeat' (first | exact allOne_bc _ | exact allOne_nil | (refine allOne_int _ _ _ ?_) | (refine allOne_sl _ _ _ _ ?_) | (refine allOne_ptr _ _ ?_) | (refine allOne_map _ _ ?_) | (refine allOne_bool _ _ ?_) | (refine allOne_str _ _ ?_) | (refine allOne_iface _ _ _ ?_) | (refine allOne_app _ _ ?_ ?_))); done) | (simp only [cells_agg, cells_int, cells_bool, cells_str, cells_ptr, cells_sl, cells_map, cells_func, cells_iface, List.size_toArray, Array.size_append, bc_length, List.length_cons, List.length_nil, Nat.zero_add, Nat.reduceAdd, *]; done) | (simp (disch := (first | assumption | (first | omega | (simp only [List.length_cons, List.length_nil, sz_alloc, sz_put, sz_drew]; done) | (simp only [List.length_replicate, List.length_cons, List.length_nil, *]; done) | (simp only [List.size_toArray, List.length_cons, List.length_nil, sz_alloc, sz_put, sz_drew] at *; omega)))) only [MapAt, Hp_drew, Hp_alloc_old, Hp_alloc_new, Hp_put_same, Hp_put_other, *])) only [Pick_bool, p_sub, p_gtr, Hp_drew, wr_in, Int.toNat_natCast, ix47, ld39]
    rcases List.eq_nil_or_concat P with rfl | ⟨P', y, rfl⟩
    · have hc : decide ((0 : Int) < ((0 : Nat) : Int)) = false := rfl
      simp only [List.length_nil, Nat.zero_add] at hPS hlen2 ⊢
      simp (disch := first | omega | trivial | assumption | (first | omega | (simp only [List.length_cons, List.length_nil, sz_alloc, sz_put, sz_drew]; done) | (simp only [List.length_replicate, List.length_cons, List.length_nil, *]; done) | (simp only [List.size_toArray, List.length_cons, List.length_nil, sz_alloc, sz_put, sz_drew] at *; omega)) | ((repeat' (first | exact allOne_bc _ | exact allOne_nil | (refine allOne_int _ _ _ ?_) | (refine allOne_sl _ _ _ _ ?_) | (refine allOne_ptr _ _ ?_) | (refine allOne_map _ _ ?_) | (refine allOne_bool _ _ ?_) | (refine allOne_str _ _ ?_) | (refine allOne_iface _ _ _ ?_) | (refine allOne_app _ _ ?_ ?_))); done) | (simp only [cells_agg, cells_int, cells_bool, cells_str, cells_ptr, cells_sl, cells_map, cells_func, cells_iface, List.size_toArray, Array.size_append, bc_length, List.length_cons, List.length_nil, Nat.zero_add, Nat.reduceAdd, *]; done) | (simp (disch := (first | assumption | (first | omega | (simp only [List.length_cons, List.length_nil, sz_alloc, sz_put, sz_drew]; done) | (simp only [List.length_replicate, List.length_cons, List.length_nil, *]; done) | (simp only [List.size_toArray, List.length_cons, List.length_nil, sz_alloc, sz_put, sz_drew] at *; omega)))) only [MapAt, Hp_drew, Hp_alloc_old, Hp_alloc_new, Hp_put_same, Hp_put_other, *])) only [hc, cond_false, cond_false, Hp_drew, Branch_bool, Gd_false, GdE_false, true_and, Bool.false_eq_true, false_implies, forall_const]
      refine ⟨⟨x :: S, R, row2, by rw [List.length_cons, ← hPS]; simp, by simp, by simpa using hp2, ?_, hx2.drew, hb2, hsz2, by simpa using hr2⟩, by omega⟩
      rw [List.pairwise_cons]
      exact ⟨hS, by simpa using hs2⟩
    · obtain ⟨m, hm, hm'⟩ : ∃ m, (P' ++ [y]).length = m + 1 ∧ P'.length = m := ⟨P'.length, by simp, rfl⟩
      rw [List.concat_eq_append] at *
      rw [hm] at hPS hlen2 ⊢
      have hc : decide ((0 : Int) < ((m + 1 : Nat) : Int)) = true := by rw [decide_eq_true_eq]; omega
      have hi : (((m + 1 : Nat) : Int) - 1) = (m : Int) := by omega
      have gy : ((P' ++ [y]) ++ x :: (S ++ R))[m]? = some y := by simp [hm']
      have gx : ((P' ++ [y]) ++ x :: (S ++ R))[m + 1]? = some x := by rw [List.getElem?_append_right (by omega), hm]; simp
      have kx := hk x (hp2.mem_iff.1 (by simp))
      have ky := hk y (hp2.mem_iff.1 (by simp))
      have ex := hr2.get gx
      have ey := hr2.get gy
      have hsz := hr2.2.1
      have hll : ((P' ++ [y]) ++ x :: (S ++ R)).length = L.length := hp2.length_eq
      rw [hll] at hsz
      have hl1 : (m + 1) * 35 + 35 ≤ L.length * 35 := idx_lt (by omega)
      have hl0 : m * 35 + 35 ≤ L.length * 35 := idx_lt (by omega)
      have ax := bval_one x kx.2
      have ay := bval_one y ky.2
      have lx := bcell_length x kx.1
      have ly := bcell_length y ky.1
      simp (disch := first | omega | trivial | assumption | (first | omega | (simp only [List.length_cons, List.length_nil, sz_alloc, sz_put, sz_drew]; done) | (simp only [List.length_replicate, List.length_cons, List.length_nil, *]; done) | (simp only [List.size_toArray, List.length_cons, List.length_nil, sz_alloc, sz_put, sz_drew] at *; omega)) | ((repeat' (first | exact allOne_bc _ | exact allOne_nil | (refine allOne_int _ _ _ ?_) | (refine allOne_sl _ _ _ _ ?_) | (refine allOne_ptr _ _ ?_) | (refine allOne_map _ _ ?_) | (refine allOne_bool _ _ ?_) | (refine allOne_str _ _ ?_) | (refine allOne_iface _ _ _ ?_) | (refine allOne_app _ _ ?_ ?_))); done) | (simp only [cells_agg, cells_int, cells_bool, cells_str, cells_ptr, cells_sl, cells_map, cells_func, cells_iface, List.size_toArray, Array.size_append, bc_length, List.length_cons, List.length_nil, Nat.zero_add, Nat.reduceAdd, *]; done) | (simp (disch := (first | assumption | (first | omega | (simp only [List.length_cons, List.length_nil, sz_alloc, sz_put, sz_drew]; done) | (simp only [List.length_replicate, List.length_cons, List.length_nil, *]; done) | (simp only [List.size_toArray, List.length_cons, List.length_nil, sz_alloc, sz_put, sz_drew] at *; omega)))) only [MapAt, Hp_drew, Hp_alloc_old, Hp_alloc_new, Hp_put_same, Hp_put_other, *])) only [hc, cond_true, hi, ex, ey, hb2, cond_true, p_sub, Ln_cells, Hp_drew, Gd_true, GdE_true, if_pos, forall_const, wr_in, Int.toNat_natCast, ix47, ld39]
      show CallF Try.prog 29 #[.agg (bcell x).toArray, .agg (bcell y).toArray] w2.drew _
      refine CallF_by Try.call29 (cmp_spec kx.1 ky.1) ?_
      rintro v w3 ⟨rfl, hx3⟩
      have hb3 : Hp w3 b = some (.cells row2 39 (0, 0)) := hx3.at (by exact hb2) not_false
      have hb3l := Hp_lt hb3
      have hss : (splice row2 (o + (m + 1) * 35) (bcell y).toArray).size = row2.size := splice_size (by rw [List.size_toArray, ly]; omega)
      simp (disch := first | omega | trivial | assumption | (first | omega | (simp only [List.length_cons, List.length_nil, sz_alloc, sz_put, sz_drew]; done) | (simp only [List.length_replicate, List.length_cons, List.length_nil, *]; done) | (simp only [List.size_toArray, List.length_cons, List.length_nil, sz_alloc, sz_put, sz_drew] at *; omega)) | ((repeat' (first | exact allOne_bc _ | exact allOne_nil | (refine allOne_int _ _ _ ?_) | (refine allOne_sl _ _ _ _ ?_) | (refine allOne_ptr _ _ ?_) | (refine allOne_map _ _ ?_) | (refine allOne_bool _ _ ?_) | (refine allOne_str _ _ ?_) | (refine allOne_iface _ _ _ ?_) | (refine allOne_app _ _ ?_ ?_))); done) | (simp only [cells_agg, cells_int, cells_bool, cells_str, cells_ptr, cells_sl, cells_map, cells_func, cells_iface, List.size_toArray, Array.size_append, bc_length, List.length_cons, List.length_nil, Nat.zero_add, Nat.reduceAdd, *]; done) | (simp (disch := (first | assumption | (first | omega | (simp only [List.length_cons, List.length_nil, sz_alloc, sz_put, sz_drew]; done) | (simp only [List.length_replicate, List.length_cons, List.length_nil, *]; done) | (simp only [List.size_toArray, List.length_cons, List.length_nil, sz_alloc, sz_put, sz_drew] at *; omega)))) only [MapAt, Hp_drew, Hp_alloc_old, Hp_alloc_new, Hp_put_same, Hp_put_other, *])) only [ex, ey, hb3, lx, ly, hss, p_lss, Ln_cells, St_cells, Hp_drew, Hp_put_same, cells_agg, Branch_bool, List.size_toArray, if_pos, decide_eq_true_eq, decide_eq_false_iff_not, true_and, forall_const, st39]
      have hr3 := hr2.set (i := m + 1) (x := y) (by omega) ly
      have hr4 := hr3.set (i := m) (x := x) (by rw [List.length_set]; omega) lx
      have e4 : ((((P' ++ [y]) ++ x :: (S ++ R)).set (m + 1) y).set m x) = P' ++ x :: ((y :: S) ++ R) := by
        rw [List.append_assoc, List.set_append_right _ _ (by omega), hm', show m + 1 - m = 1 by omega, List.set_append_right _ _ (by omega), hm']
        simp
      rw [e4] at hr4
      refine ⟨fun hlt2 => ⟨⟨P', y :: S, _, by rw [hm'], by rw [List.length_cons]; omega, ?_, by simpa using hs2, ?_, ?_, rfl, ?_, hr4⟩, Nat.lt_succ_self _⟩, fun hge => ⟨⟨(P' ++ [y]) ++ x :: S, R, row2, ?_, ?_, by simpa using hp2, ?_, ?_, rfl, hsz2, by simpa using hr2⟩, by omega⟩⟩
      · refine List.Perm.trans ?_ hp2
        rw [List.append_assoc]
        exact (List.Perm.swap y x _).append_left P'
      · intro z hz
        rcases List.mem_cons.1 hz with rfl | hz
        · exact Int.le_of_lt hlt2
        · exact hS z hz
      · exact ((((hx2.drew).trans hx3 fun _ _ h => h.elim).drew).put _ _ fun _ => rfl).put _ _ fun _ => rfl
      · rw [splice_size (by rw [List.size_toArray, lx, hss]; omega), hss, hsz2]
      · simp only [List.length_append, List.length_cons, List.length_nil]; congr 1; omega
      · simp only [List.length_append, List.length_cons, List.length_nil]; omega
      · have hyx : leK y x := leK_of_not hge
        rw [List.pairwise_append] at hs2 ⊢
        refine ⟨hs2.1, ?_, fun a ha z hz => ?_⟩
        · rw [List.pairwise_cons]; exact ⟨hS, hs2.2.1⟩
        · rcases List.mem_cons.1 hz with rfl | hz
          · rcases List.mem_append.1 ha with ha | ha
            · have := (List.pairwise_append.1 hs2.1).2.2 a ha y (by simp)
              exact leK_trans this hyx
            · rw [List.mem_singleton.1 ha]; exact hyx
          · exact hs2.2.2 a ha z hz
      · exact (hx2.drew).trans hx3 fun _ _ h => h.elim
  · refine ⟨hx, T ++ R, row1, hp, ?_, hb1, hs1, hr1⟩
    have : R = [] := List.length_eq_zero_iff.1 (by omega)
    rw [this, List.append_nil]; exact hs
end Go.Proofs
