/- A part of the proof: A.P17. -/
import Derived.Test.YtgfeaeedlakmfaaAP16
set_option linter.unusedVariables false
set_option linter.unusedSimpArgs false
set_option linter.unusedSectionVars false
namespace Go.Proofs
open Go Go.Lf
set_option maxRecDepth 20000
set_option maxHeartbeats 2000000
set_option linter.unusedSimpArgs false
set_option linter.unusedVariables false
theorem rnew_bad (w : World) (room quota : Int) (h : okArgs room quota = false) : Calls Try.prog 7 #[i64 room, i64 quota] w (retK fun v w' => v = .tuple #[.pointer none, i64 1] ∧ w' = w) := by
  refine F7_ok _ _ _ _ ?_
  unfold F7
  have h' : ¬ (1 ≤ room ∧ room ≤ 1073741824 ∧ 1 ≤ quota ∧ quota ≤ 1073741824) := of_decide_eq_false h
  by_cases h1 : room < 1
  · have e1 : decide (room < 1) = true := decide_eq_true h1
    simp (disch := first | omega | trivial | assumption | (first | omega | (simp only [List.length_cons, List.length_nil, sz_alloc, sz_put, sz_drew]; done) | (simp only [List.length_replicate, List.length_cons, List.length_nil, *]; done) | (simp only [List.size_toArray, List.length_cons, List.length_nil, sz_alloc, sz_put, sz_drew] at *; omega)) | ((repeat' (first | exact allOne_bc _ | exact allOne_nil | (refine allOne_int _ _ _ ?_) | (refine allOne_sl _ _ _ _ ?_) | (refine allOne_ptr _ _ ?_) | (refine allOne_map _ _ ?_) | (refine allOne_bool _ _ ?_) | (refine allOne_str _ _ ?_) | (refine allOne_iface _ _ _ ?_) | (refine allOne_app _ _ ?_ ?_))); done) | (simp only [cells_agg, cells_int, cells_bool, cells_str, cells_ptr, cells_sl, cells_map, cells_func, cells_iface, List.size_toArray, Array.size_append, bc_length, List.length_cons, List.length_nil, Nat.zero_add, Nat.reduceAdd, *]; done) | (simp (disch := (first | assumption | (first | omega | (simp only [List.length_cons, List.length_nil, sz_alloc, sz_put, sz_drew]; done) | (simp only [List.length_replicate, List.length_cons, List.length_nil, *]; done) | (simp only [List.size_toArray, List.length_cons, List.length_nil, sz_alloc, sz_put, sz_drew] at *; omega)))) only [MapAt, Hp_drew, Hp_alloc_old, Hp_alloc_new, Hp_put_same, Hp_put_other, *])) only [e1, cond_true, Pick_bool, cond_true, p_lss, r_box, cells_agg, cells_int, Branch_bool, Gdn_false, and_self, Bool.true_eq_false, false_implies, implies_true, splice_lit, List.set_cons_zero, List.set_cons_succ, bld50_0_1]
  have e1 : decide (room < 1) = false := decide_eq_false h1
  by_cases h2 : 1073741824 < room
  · have e2 : decide (1073741824 < room) = true := decide_eq_true h2
    simp (disch := first | omega | trivial | assumption | (first | omega | (simp only [List.length_cons, List.length_nil, sz_alloc, sz_put, sz_drew]; done) | (simp only [List.length_replicate, List.length_cons, List.length_nil, *]; done) | (simp only [List.size_toArray, List.length_cons, List.length_nil, sz_alloc, sz_put, sz_drew] at *; omega)) | ((repeat' (first | exact allOne_bc _ | exact allOne_nil | (refine allOne_int _ _ _ ?_) | (refine allOne_sl _ _ _ _ ?_) | (refine allOne_ptr _ _ ?_) | (refine allOne_map _ _ ?_) | (refine allOne_bool _ _ ?_) | (refine allOne_str _ _ ?_) | (refine allOne_iface _ _ _ ?_) | (refine allOne_app _ _ ?_ ?_))); done) | (simp only [cells_agg, cells_int, cells_bool, cells_str, cells_ptr, cells_sl, cells_map, cells_func, cells_iface, List.size_toArray, Array.size_append, bc_length, List.length_cons, List.length_nil, Nat.zero_add, Nat.reduceAdd, *]; done) | (simp (disch := (first | assumption | (first | omega | (simp only [List.length_cons, List.length_nil, sz_alloc, sz_put, sz_drew]; done) | (simp only [List.length_replicate, List.length_cons, List.length_nil, *]; done) | (simp only [List.size_toArray, List.length_cons, List.length_nil, sz_alloc, sz_put, sz_drew] at *; omega)))) only [MapAt, Hp_drew, Hp_alloc_old, Hp_alloc_new, Hp_put_same, Hp_put_other, *])) only [e1, e2, cond_true, cond_false, Pick_bool, cond_true, cond_false, p_lss, p_gtr, r_box, cells_agg, cells_int, Branch_bool, Gdn_true, Gdn_false, and_self, Bool.true_eq_false, false_implies, implies_true, splice_lit, List.set_cons_zero, List.set_cons_succ, bld50_0_1]
  have e2 : decide (1073741824 < room) = false := decide_eq_false h2
  by_cases h3 : quota < 1
  · have e3 : decide (quota < 1) = true := decide_eq_true h3
    simp (disch := first | omega | trivial | assumption | (first | omega | (simp only [List.length_cons, List.length_nil, sz_alloc, sz_put, sz_drew]; done) | (simp only [List.length_replicate, List.length_cons, List.length_nil, *]; done) | (simp only [List.size_toArray, List.length_cons, List.length_nil, sz_alloc, sz_put, sz_drew] at *; omega)) | ((repeat' (first | exact allOne_bc _ | exact allOne_nil | (refine allOne_int _ _ _ ?_) | (refine allOne_sl _ _ _ _ ?_) | (refine allOne_ptr _ _ ?_) | (refine allOne_map _ _ ?_) | (refine allOne_bool _ _ ?_) | (refine allOne_str _ _ ?_) | (refine allOne_iface _ _ _ ?_) | (refine allOne_app _ _ ?_ ?_))); done) | (simp only [cells_agg, cells_int, cells_bool, cells_str, cells_ptr, cells_sl, cells_map, cells_func, cells_iface, List.size_toArray, Array.size_append, bc_length, List.length_cons, List.length_nil, Nat.zero_add, Nat.reduceAdd, *]; done) | (simp (disch := (first | assumption | (first | omega | (simp only [List.length_cons, List.length_nil, sz_alloc, sz_put, sz_drew]; done) | (simp only [List.length_replicate, List.length_cons, List.length_nil, *]; done) | (simp only [List.size_toArray, List.length_cons, List.length_nil, sz_alloc, sz_put, sz_drew] at *; omega)))) only [MapAt, Hp_drew, Hp_alloc_old, Hp_alloc_new, Hp_put_same, Hp_put_other, *])) only [e1, e2, e3, cond_true, cond_false, Pick_bool, cond_true, cond_false, p_lss, p_gtr, r_box, cells_agg, cells_int, Branch_bool, Gdn_true, Gdn_false, and_self, Bool.true_eq_false, false_implies, implies_true, splice_lit, List.set_cons_zero, List.set_cons_succ, bld50_0_1]
  have e3 : decide (quota < 1) = false := decide_eq_false h3
  have e4 : decide (1073741824 < quota) = true := decide_eq_true (by omega)
  simp (disch := first | omega | trivial | assumption | (first | omega | (simp only [List.length_cons, List.length_nil, sz_alloc, sz_put, sz_drew]; done) | (simp only [List.length_replicate, List.length_cons, List.length_nil, *]; done) | (simp only [List.size_toArray, List.length_cons, List.length_nil, sz_alloc, sz_put, sz_drew] at *; omega)) | ((repeat' (first | exact allOne_bc _ | exact allOne_nil | (refine allOne_int _ _ _ ?_) | (refine allOne_sl _ _ _ _ ?_) | (refine allOne_ptr _ _ ?_) | (refine allOne_map _ _ ?_) | (refine allOne_bool _ _ ?_) | (refine allOne_str _ _ ?_) | (refine allOne_iface _ _ _ ?_) | (refine allOne_app _ _ ?_ ?_))); done) | (simp only [cells_agg, cells_int, cells_bool, cells_str, cells_ptr, cells_sl, cells_map, cells_func, cells_iface, List.size_toArray, Array.size_append, bc_length, List.length_cons, List.length_nil, Nat.zero_add, Nat.reduceAdd, *]; done) | (simp (disch := (first | assumption | (first | omega | (simp only [List.length_cons, List.length_nil, sz_alloc, sz_put, sz_drew]; done) | (simp only [List.length_replicate, List.length_cons, List.length_nil, *]; done) | (simp only [List.size_toArray, List.length_cons, List.length_nil, sz_alloc, sz_put, sz_drew] at *; omega)))) only [MapAt, Hp_drew, Hp_alloc_old, Hp_alloc_new, Hp_put_same, Hp_put_other, *])) only [e1, e2, e3, e4, cond_false, Pick_bool, cond_false, p_lss, p_gtr, r_box, cells_agg, cells_int, Branch_bool, Gdn_true, and_self, Bool.true_eq_false, false_implies, implies_true, splice_lit, List.set_cons_zero, List.set_cons_succ, bld50_0_1]
theorem rnew_good (w : World) (room quota : Int) (h : okArgs room quota = true) (Q : Nat → Prop) (hQ : ∀ b, Q b → b ≠ sz w) :
    Calls Try.prog 7 #[i64 room, i64 quota] w (retK fun v w' => v = .tuple #[ptr (sz w) 0, i64 0] ∧ Ext (fun _ => False) w w' ∧ sz w' = sz w + 1 ∧ RefC w' (sz w) room quota (.slice none 0 0) [] Q) := by
  refine F7_ok _ _ _ _ ?_
  unfold F7
  have h' : 1 ≤ room ∧ room ≤ 1073741824 ∧ 1 ≤ quota ∧ quota ≤ 1073741824 := of_decide_eq_true h
  have e1 : decide (room < 1) = false := decide_eq_false (by omega)
  have e2 : decide (1073741824 < room) = false := decide_eq_false (by omega)
  have e3 : decide (quota < 1) = false := decide_eq_false (by omega)
  have e4 : decide (1073741824 < quota) = false := decide_eq_false (by omega)
  simp (disch := first | omega | trivial | assumption | (first | omega | (simp only [List.length_cons, List.length_nil, sz_alloc, sz_put, sz_drew]; done) | (simp only [List.length_replicate, List.length_cons, List.length_nil, *]; done) | (simp only [List.size_toArray, List.length_cons, List.length_nil, sz_alloc, sz_put, sz_drew] at *; omega)) | ((repeat' (first | exact allOne_bc _ | exact allOne_nil | (refine allOne_int _ _ _ ?_) | (refine allOne_sl _ _ _ _ ?_) | (refine allOne_ptr _ _ ?_) | (refine allOne_map _ _ ?_) | (refine allOne_bool _ _ ?_) | (refine allOne_str _ _ ?_) | (refine allOne_iface _ _ _ ?_) | (refine allOne_app _ _ ?_ ?_))); done) | (simp only [cells_agg, cells_int, cells_bool, cells_str, cells_ptr, cells_sl, cells_map, cells_func, cells_iface, List.size_toArray, Array.size_append, bc_length, List.length_cons, List.length_nil, Nat.zero_add, Nat.reduceAdd, *]; done) | (simp (disch := (first | assumption | (first | omega | (simp only [List.length_cons, List.length_nil, sz_alloc, sz_put, sz_drew]; done) | (simp only [List.length_replicate, List.length_cons, List.length_nil, *]; done) | (simp only [List.size_toArray, List.length_cons, List.length_nil, sz_alloc, sz_put, sz_drew] at *; omega)))) only [MapAt, Hp_drew, Hp_alloc_old, Hp_alloc_new, Hp_put_same, Hp_put_other, *])) only [e1, e2, e3, e4, cond_false, Pick_bool, cond_false, p_lss, p_gtr, r_box, sz_alloc, cells_agg, cells_int, Branch_bool, Gdn_true, true_and, Bool.false_eq_true, false_implies, forall_const, splice_lit, List.set_cons_zero, List.set_cons_succ, bld50_0_1]
  refine ⟨(Ext.refl _ w).alloc _, ⟨Hp_alloc_new _ _ _ rfl, Sl.nil _ _ _ _ _, by simp, by simp, hQ, by decide⟩⟩
def neK (k : List UInt8) (y : BV) : Bool := decide (¬ y.1.key = k)
def liveK (k : List UInt8) (now : Int) (y : BV) : Bool := decide (y.1.key = k ∧ now < y.1.exp)
section
variable {w : World} {x : Nat} {room quota : Int} {s : Value} {R : List BV} {Q : Nat → Prop}
theorem rdrop_spec (h : RefC w x room quota s R Q) (k : List UInt8) (hk0 : k.length = 32) (hlen : R.length ≤ 1000000) (hQn : ∀ b, sz w ≤ b → Q b) :
    Calls Try.prog 15 #[ptr x 0, idv k] w (retK fun v w' => v = .bool (decide ((R.filter (neK k)).length < R.length)) ∧ Ext (fun b => b = x) w w' ∧ ∃ s', RefC w' x room quota s' (R.filter (neK k)) Q) := by
  refine F15_ok _ _ _ _ ?_
  unfold F15
  have hlx := Hp_lt h.hp
  obtain ⟨a, cap, hs⟩ := h.sl.form
  subst hs
  simp (disch := first | omega | trivial | assumption | (first | omega | (simp only [List.length_cons, List.length_nil, sz_alloc, sz_put, sz_drew]; done) | (simp only [List.length_replicate, List.length_cons, List.length_nil, *]; done) | (simp only [List.size_toArray, List.length_cons, List.length_nil, sz_alloc, sz_put, sz_drew] at *; omega)) | ((repeat' (first | exact allOne_bc _ | exact allOne_nil | (refine allOne_int _ _ _ ?_) | (refine allOne_sl _ _ _ _ ?_) | (refine allOne_ptr _ _ ?_) | (refine allOne_map _ _ ?_) | (refine allOne_bool _ _ ?_) | (refine allOne_str _ _ ?_) | (refine allOne_iface _ _ _ ?_) | (refine allOne_app _ _ ?_ ?_))); done) | (simp only [cells_agg, cells_int, cells_bool, cells_str, cells_ptr, cells_sl, cells_map, cells_func, cells_iface, List.size_toArray, Array.size_append, bc_length, List.length_cons, List.length_nil, Nat.zero_add, Nat.reduceAdd, *]; done) | (simp (disch := (first | assumption | (first | omega | (simp only [List.length_cons, List.length_nil, sz_alloc, sz_put, sz_drew]; done) | (simp only [List.length_replicate, List.length_cons, List.length_nil, *]; done) | (simp only [List.size_toArray, List.length_cons, List.length_nil, sz_alloc, sz_put, sz_drew] at *; omega)))) only [MapAt, Hp_drew, Hp_alloc_old, Hp_alloc_new, Hp_put_same, Hp_put_other, *])) only [NilCk_ptr, r_box, Hp_drew, cells_agg, Nat.zero_add, forall_const, fld50_2, ld35, ld47]
  obtain ⟨J, hJ⟩ : ∃ J : Value → Value → World → Prop, J = fun v u w1 => ∃ i : Nat, u = i64 (i : Int) ∧ i ≤ R.length ∧ Ext (fun _ => False) w w1 ∧ Hp w1 (sz w) = some (.cells (bc k).toArray 35 (0, 0)) ∧ Sl bcell 39 35 w1 v ((R.take i).filter (neK k)) (fun b => sz w < b) := ⟨_, rfl⟩
  refine Loop2 J (fun _ u _ => R.length - (match u with | .int _ n => n.toNat | _ => 0)) (by rw [hJ]; exact ⟨0, rfl, Nat.zero_le _, (Ext.refl _ _).alloc _, Hp_alloc_new _ _ _ rfl, Sl.nil _ _ _ _ _⟩) ?_
  intro v u w1 hj
  rw [hJ] at hj
  obtain ⟨i, rfl, hi, hx1, hk1, hsl⟩ := hj
  have h1 := h.ext hx1 fun _ _ _ => not_false
  have hp := h1.hp
  have hfl : ((R.take i).filter (neK k)).length ≤ 1000000 := Nat.le_trans (List.length_filter_le _ _) (Nat.le_trans (List.length_take_le _ _) (by omega))
  have hs1 := hx1.size
  have hlx1 := Hp_lt hp
  have hlk1 := Hp_lt hk1
  by_cases hlt : i < R.length
  · have hlt' : ((i : Int) < (R.length : Int)) := by omega
    obtain ⟨b, o, cap', row, e, hcap, hb, ho, hr, hq⟩ := h1.sl.at (by intro e; rw [e] at hlt; cases hlt)
    cases e
    obtain ⟨y, hy⟩ : ∃ y, R[i]? = some y := ⟨_, List.getElem?_eq_getElem hlt⟩
    have hym := List.mem_of_getElem? hy
    have hk := h.klen y hym
    have hone := h.one hym
    have hstep : (R.take (i + 1)).filter (neK k) = (R.take i).filter (neK k) ++ (if ¬ y.1.key = k then [y] else []) := by
      rw [List.take_add_one, hy, List.filter_append]
      congr 1
      show List.filter _ [y] = _
      rw [List.filter_cons]
      by_cases e : y.1.key = k <;> simp [neK, e]
    obtain ⟨g35, g0, g32, g33, g34, gsz⟩ := brow hr hy hk
    obtain ⟨va, vc, hv⟩ := hsl.form
    have hcc : ∀ v ∈ [Value.agg ((bc y.1.key).toArray ++ #[y.2, i64 y.1.src, i64 y.1.exp])], v.cells.size = 35 := by simp [cells_agg, bc_length, hk]
    simp (disch := first | omega | trivial | assumption | (first | omega | (simp only [List.length_cons, List.length_nil, sz_alloc, sz_put, sz_drew]; done) | (simp only [List.length_replicate, List.length_cons, List.length_nil, *]; done) | (simp only [List.size_toArray, List.length_cons, List.length_nil, sz_alloc, sz_put, sz_drew] at *; omega)) | ((repeat' (first | exact allOne_bc _ | exact allOne_nil | (refine allOne_int _ _ _ ?_) | (refine allOne_sl _ _ _ _ ?_) | (refine allOne_ptr _ _ ?_) | (refine allOne_map _ _ ?_) | (refine allOne_bool _ _ ?_) | (refine allOne_str _ _ ?_) | (refine allOne_iface _ _ _ ?_) | (refine allOne_app _ _ ?_ ?_))); done) | (simp only [cells_agg, cells_int, cells_bool, cells_str, cells_ptr, cells_sl, cells_map, cells_func, cells_iface, List.size_toArray, Array.size_append, bc_length, List.length_cons, List.length_nil, Nat.zero_add, Nat.reduceAdd, *]; done) | (simp (disch := (first | assumption | (first | omega | (simp only [List.length_cons, List.length_nil, sz_alloc, sz_put, sz_drew]; done) | (simp only [List.length_replicate, List.length_cons, List.length_nil, *]; done) | (simp only [List.size_toArray, List.length_cons, List.length_nil, sz_alloc, sz_put, sz_drew] at *; omega)))) only [MapAt, Hp_drew, Hp_alloc_old, Hp_alloc_new, Hp_put_same, Hp_put_other, *])) only [hp, hb, hlt', hk1, hk0, g0, g35, bs47_1 _ hcc, p_add, p_lss, L1_cells, Ln_cells, Hp_drew, sz_drew, Branch_bool, List.getElem?_toArray, List.getElem?_cons_zero, List.getElem?_cons_succ, Option.elim_some, Nat.zero_add, Nat.add_zero, List.size_toArray, Nat.reduceLeDiff, if_pos, decide_eq_true_eq, decide_eq_false_iff_not, Bool.not_eq_true', Bool.not_eq_false', forall_const, ext_bc0, bc_length, wr_in, Int.toNat_natCast, neqb35, fld39_0, ix47, len47, ld35, ld39, bs47_1]
    refine ⟨Join1 (fun v' w2 => Ext (fun _ => False) w w2 ∧ Hp w2 (sz w) = some (.cells (bc k).toArray 35 (0, 0)) ∧ Sl bcell 39 35 w2 v' ((R.take (i + 1)).filter (neK k)) (fun b => sz w < b)) ⟨fun hl => ?_, fun hl => ?_⟩ ?_, fun h => absurd trivial h⟩
    · have hslD : Sl bcell 39 35 w1.drew v ((R.take i).filter (neK k)) (fun b => sz w < b) := hsl.ext ((Ext.refl (fun _ => False) w1).drew) fun _ _ _ => not_false
      refine app1 hslD y hk hone hfl 47 _ (by rw [catC_one, Array.toArray_toList, bcell_arr]) ?_
      intro v' w' hv' hx'
      have hx'' : Ext (fun b => some b = blockOf v) w1 w' := ((Ext.refl _ w1).drew).trans hx' fun _ _ h => h
      have hbv : ∀ b, some b = blockOf v → sz w < b := fun b e => ((hsl.vec (by decide)).block e).1
      refine ⟨hx1.trans hx'' fun b' _ e => ?_, hx''.at hk1 fun e => ?_, ?_⟩
      · have := hbv _ e; omega
      · have := hbv _ e; omega
      · rw [hstep, if_pos hl]
        exact hv'.mono fun b' _ hb' => by rcases hb' with hb' | hb'; exact hb'; rw [sz_drew] at hb'; omega
    · rw [hstep, if_neg (fun hn => hn (by simpa using hl)), List.append_nil]; exact ⟨hx1.drew, by (simp (disch := (first | assumption | (first | omega | (simp only [List.length_cons, List.length_nil, sz_alloc, sz_put, sz_drew]; done) | (simp only [List.length_replicate, List.length_cons, List.length_nil, *]; done) | (simp only [List.size_toArray, List.length_cons, List.length_nil, sz_alloc, sz_put, sz_drew] at *; omega)))) only [MapAt, Hp_drew, Hp_alloc_old, Hp_alloc_new, Hp_put_same, Hp_put_other, *]), hsl.ext ((Ext.refl (fun _ => False) w1).drew) fun _ _ _ => not_false⟩
    · rintro v' w2 ⟨hx2, hk2, hs2⟩
      refine ⟨?_, by omega⟩
      rw [hJ]; exact ⟨i + 1, by simp, hlt, hx2, hk2, hs2⟩
  · have hlt' : ¬ ((i : Int) < (R.length : Int)) := by omega
    have hi' : i = R.length := by omega
    subst hi'
    rw [List.take_length] at hsl hfl
    obtain ⟨va, vc, hv⟩ := hsl.form
    subst hv
    have hfl' := List.length_filter_le (neK k) R
    simp (disch := first | omega | trivial | assumption | (first | omega | (simp only [List.length_cons, List.length_nil, sz_alloc, sz_put, sz_drew]; done) | (simp only [List.length_replicate, List.length_cons, List.length_nil, *]; done) | (simp only [List.size_toArray, List.length_cons, List.length_nil, sz_alloc, sz_put, sz_drew] at *; omega)) | ((repeat' (first | exact allOne_bc _ | exact allOne_nil | (refine allOne_int _ _ _ ?_) | (refine allOne_sl _ _ _ _ ?_) | (refine allOne_ptr _ _ ?_) | (refine allOne_map _ _ ?_) | (refine allOne_bool _ _ ?_) | (refine allOne_str _ _ ?_) | (refine allOne_iface _ _ _ ?_) | (refine allOne_app _ _ ?_ ?_))); done) | (simp only [cells_agg, cells_int, cells_bool, cells_str, cells_ptr, cells_sl, cells_map, cells_func, cells_iface, List.size_toArray, Array.size_append, bc_length, List.length_cons, List.length_nil, Nat.zero_add, Nat.reduceAdd, *]; done) | (simp (disch := (first | assumption | (first | omega | (simp only [List.length_cons, List.length_nil, sz_alloc, sz_put, sz_drew]; done) | (simp only [List.length_replicate, List.length_cons, List.length_nil, *]; done) | (simp only [List.size_toArray, List.length_cons, List.length_nil, sz_alloc, sz_put, sz_drew] at *; omega)))) only [MapAt, Hp_drew, Hp_alloc_old, Hp_alloc_new, Hp_put_same, Hp_put_other, *])) only [hp, hlt', p_add, p_lss, L1_cells, St_cells, cells_sl, Branch_bool, List.getElem?_toArray, List.getElem?_cons_zero, List.getElem?_cons_succ, Option.elim_some, Nat.zero_add, List.size_toArray, List.length_cons, List.length_nil, Nat.reduceAdd, Nat.reduceLeDiff, if_pos, decide_eq_true_eq, decide_eq_false_iff_not, true_and, and_self, false_implies, splice_lit, Nat.sub_self, List.set_cons_zero, List.set_cons_succ, wr_in, Int.toNat_natCast, len47, st47]
    intro _
    have hx2 : Ext (fun b => b = x) w1 (put w1 x (Obj.cells #[i64 room, i64 quota, Value.slice va (List.filter (neK k) R).length vc] 50)) := (Ext.refl _ _).put _ _ fun _ => rfl
    refine ⟨by congr 1; simp, (hx1.mono fun _ _ h => h.elim).trans hx2 fun _ _ h => h, _, ⟨Hp_put_same _ _ _ hlx1, ?_, fun y hy => h.klen y (List.mem_filter.1 hy).1, fun y hy => Vec.ext (h1.data y (List.mem_filter.1 hy).1) hx2 fun b' _ hq e => h.hQ b' hq e, h.hQ, ?_⟩⟩
    · exact (hsl.ext hx2 fun b' _ hq e => by omega).mono fun b' _ hq => hQn b' (by omega)
    · exact Int.le_trans (total_sublist (List.Sublist.map _ List.filter_sublist)) h.htot
theorem rget_spec (h : RefC w x room quota s R Q) (k : List UInt8) (hk0 : k.length = 32) (now : Int) (hlen : R.length ≤ 1000000) :
    Calls Try.prog 13 #[ptr x 0, idv k, i64 now] w (retK fun v w' => Ext (fun _ => False) w w' ∧ ∃ d : Value, v = .tuple #[d, .bool (R.find? (liveK k now)).isSome] ∧
      Bytes 5 w' d (match R.find? (liveK k now) with | some y => y.1.data | none => []) Q) := by
  refine F13_ok _ _ _ _ _ ?_
  unfold F13
  have hlx := Hp_lt h.hp
  obtain ⟨a, cap, hs⟩ := h.sl.form
  subst hs
  simp (disch := first | omega | trivial | assumption | (first | omega | (simp only [List.length_cons, List.length_nil, sz_alloc, sz_put, sz_drew]; done) | (simp only [List.length_replicate, List.length_cons, List.length_nil, *]; done) | (simp only [List.size_toArray, List.length_cons, List.length_nil, sz_alloc, sz_put, sz_drew] at *; omega)) | ((repeat' (first | exact allOne_bc _ | exact allOne_nil | (refine allOne_int _ _ _ ?_) | (refine allOne_sl _ _ _ _ ?_) | (refine allOne_ptr _ _ ?_) | (refine allOne_map _ _ ?_) | (refine allOne_bool _ _ ?_) | (refine allOne_str _ _ ?_) | (refine allOne_iface _ _ _ ?_) | (refine allOne_app _ _ ?_ ?_))); done) | (simp only [cells_agg, cells_int, cells_bool, cells_str, cells_ptr, cells_sl, cells_map, cells_func, cells_iface, List.size_toArray, Array.size_append, bc_length, List.length_cons, List.length_nil, Nat.zero_add, Nat.reduceAdd, *]; done) | (simp (disch := (first | assumption | (first | omega | (simp only [List.length_cons, List.length_nil, sz_alloc, sz_put, sz_drew]; done) | (simp only [List.length_replicate, List.length_cons, List.length_nil, *]; done) | (simp only [List.size_toArray, List.length_cons, List.length_nil, sz_alloc, sz_put, sz_drew] at *; omega)))) only [MapAt, Hp_drew, Hp_alloc_old, Hp_alloc_new, Hp_put_same, Hp_put_other, *])) only [NilCk_ptr, r_box, Hp_drew, cells_agg, Nat.zero_add, forall_const, fld50_2, ld35, ld47]
  obtain ⟨J, hJ⟩ : ∃ J : Value → World → Prop, J = fun u w1 => ∃ i : Nat, u = i64 (i : Int) ∧ i ≤ R.length ∧ Ext (fun _ => False) w w1 ∧ Hp w1 (sz w) = some (.cells (bc k).toArray 35 (0, 0)) ∧ ∀ y ∈ R.take i, liveK k now y = false := ⟨_, rfl⟩
  refine Loop1 J (fun u _ => R.length - (match u with | .int _ n => n.toNat | _ => 0)) (by rw [hJ]; exact ⟨0, rfl, Nat.zero_le _, (Ext.refl _ _).alloc _, Hp_alloc_new _ _ _ rfl, by simp⟩) ?_
  intro u w1 hj
  rw [hJ] at hj
  obtain ⟨i, rfl, hi, hx1, hk1, hno⟩ := hj
  have h1 := h.ext hx1 fun _ _ _ => not_false
  have hp := h1.hp
  have hs1 := hx1.size
  have hlx1 := Hp_lt hp
  have hlk1 := Hp_lt hk1
  by_cases hlt : i < R.length
  · have hlt' : ((i : Int) < (R.length : Int)) := by omega
    obtain ⟨b, o, cap', row, e, hcap, hb, ho, hr, hq⟩ := h1.sl.at (by intro e; rw [e] at hlt; cases hlt)
    cases e
    obtain ⟨y, hy⟩ : ∃ y, R[i]? = some y := ⟨_, List.getElem?_eq_getElem hlt⟩
    have hym := List.mem_of_getElem? hy
    have hk := h.klen y hym
    have hd := h1.data y hym
    have hdec : R = R.take i ++ y :: R.drop (i + 1) := by
      conv => lhs; rw [← List.take_append_drop i R]
      rw [List.drop_eq_getElem_cons hlt]
      rw [List.getElem?_eq_getElem hlt] at hy; cases hy; rfl
    have hfind : liveK k now y = true → R.find? (liveK k now) = some y := fun hl => by
      rw [hdec, List.find?_append, List.find?_eq_none.2 fun z hz => by rw [hno z hz]; simp, Option.none_or, List.find?_cons, hl]
    have hnext : liveK k now y = false → ∀ z ∈ R.take (i + 1), liveK k now z = false := fun hl z hz => by
      rw [List.take_add_one, hy, List.mem_append] at hz
      rcases hz with hz | hz
      · exact hno z hz
      · simp at hz; subst hz; exact hl
    obtain ⟨da, dc, hdv⟩ := Vec.slice hd
    obtain ⟨g35, g0, g32, g33, g34, gsz⟩ := brow hr hy hk
    by_cases hyk : y.1.key = k
    · have e1 : decide (y.1.key = k) = true := decide_eq_true hyk
      by_cases hyl : now < y.1.exp
      · have e2 : decide (now < y.1.exp) = true := decide_eq_true hyl
        simp (disch := first | omega | trivial | assumption | (first | omega | (simp only [List.length_cons, List.length_nil, sz_alloc, sz_put, sz_drew]; done) | (simp only [List.length_replicate, List.length_cons, List.length_nil, *]; done) | (simp only [List.size_toArray, List.length_cons, List.length_nil, sz_alloc, sz_put, sz_drew] at *; omega)) | ((repeat' (first | exact allOne_bc _ | exact allOne_nil | (refine allOne_int _ _ _ ?_) | (refine allOne_sl _ _ _ _ ?_) | (refine allOne_ptr _ _ ?_) | (refine allOne_map _ _ ?_) | (refine allOne_bool _ _ ?_) | (refine allOne_str _ _ ?_) | (refine allOne_iface _ _ _ ?_) | (refine allOne_app _ _ ?_ ?_))); done) | (simp only [cells_agg, cells_int, cells_bool, cells_str, cells_ptr, cells_sl, cells_map, cells_func, cells_iface, List.size_toArray, Array.size_append, bc_length, List.length_cons, List.length_nil, Nat.zero_add, Nat.reduceAdd, *]; done) | (simp (disch := (first | assumption | (first | omega | (simp only [List.length_cons, List.length_nil, sz_alloc, sz_put, sz_drew]; done) | (simp only [List.length_replicate, List.length_cons, List.length_nil, *]; done) | (simp only [List.size_toArray, List.length_cons, List.length_nil, sz_alloc, sz_put, sz_drew] at *; omega)))) only [MapAt, Hp_drew, Hp_alloc_old, Hp_alloc_new, Hp_put_same, Hp_put_other, *])) only [hp, hb, hlt', hk1, hk0, g0, g32, g34, e1, e2, cond_true, NilCk_ptr, Pick_bool, cond_true, p_add, p_lss, p_gtr, L1_cells, Ln_cells, Hp_drew, Branch_bool, Gd_true, List.getElem?_toArray, List.getElem?_cons_zero, List.getElem?_cons_succ, Option.elim_some, Nat.zero_add, Nat.add_zero, List.size_toArray, Nat.reduceLeDiff, if_pos, decide_eq_true_eq, decide_eq_false_iff_not, and_true, Bool.true_eq_false, false_implies, forall_const, ext_bc0, bc_length, wr_in, Int.toNat_natCast, eqlb35, fld39_0, fld39_1, fld39_3, ix47, len47, fld50_2, ld3, ld35, ld37, ld47]
        have hf := hfind (decide_eq_true ⟨hyk, hyl⟩)
        rw [hf]
        exact ⟨⟨hx1.drew, y.2, rfl, Vec.ext hd ((Ext.refl (fun _ => False) w1).drew) fun _ _ _ => not_false⟩, fun h => absurd trivial h⟩
      · have e2 : decide (now < y.1.exp) = false := decide_eq_false hyl
        simp (disch := first | omega | trivial | assumption | (first | omega | (simp only [List.length_cons, List.length_nil, sz_alloc, sz_put, sz_drew]; done) | (simp only [List.length_replicate, List.length_cons, List.length_nil, *]; done) | (simp only [List.size_toArray, List.length_cons, List.length_nil, sz_alloc, sz_put, sz_drew] at *; omega)) | ((repeat' (first | exact allOne_bc _ | exact allOne_nil | (refine allOne_int _ _ _ ?_) | (refine allOne_sl _ _ _ _ ?_) | (refine allOne_ptr _ _ ?_) | (refine allOne_map _ _ ?_) | (refine allOne_bool _ _ ?_) | (refine allOne_str _ _ ?_) | (refine allOne_iface _ _ _ ?_) | (refine allOne_app _ _ ?_ ?_))); done) | (simp only [cells_agg, cells_int, cells_bool, cells_str, cells_ptr, cells_sl, cells_map, cells_func, cells_iface, List.size_toArray, Array.size_append, bc_length, List.length_cons, List.length_nil, Nat.zero_add, Nat.reduceAdd, *]; done) | (simp (disch := (first | assumption | (first | omega | (simp only [List.length_cons, List.length_nil, sz_alloc, sz_put, sz_drew]; done) | (simp only [List.length_replicate, List.length_cons, List.length_nil, *]; done) | (simp only [List.size_toArray, List.length_cons, List.length_nil, sz_alloc, sz_put, sz_drew] at *; omega)))) only [MapAt, Hp_drew, Hp_alloc_old, Hp_alloc_new, Hp_put_same, Hp_put_other, *])) only [hp, hb, hlt', hk1, hk0, g0, g32, g34, e1, e2, cond_true, NilCk_ptr, Pick_bool, cond_true, p_add, p_lss, p_gtr, L1_cells, Ln_cells, Hp_drew, Branch_bool, Gd_true, List.getElem?_toArray, List.getElem?_cons_zero, List.getElem?_cons_succ, Option.elim_some, Nat.zero_add, Nat.add_zero, List.size_toArray, Nat.reduceLeDiff, if_pos, decide_eq_true_eq, decide_eq_false_iff_not, true_and, Bool.false_eq_true, false_implies, forall_const, ext_bc0, bc_length, wr_in, Int.toNat_natCast, eqlb35, fld39_0, fld39_1, fld39_3, ix47, len47, fld50_2, ld3, ld35, ld37, ld47]
        refine ⟨⟨?_, by omega⟩, fun h => absurd trivial h⟩
        rw [hJ]
        exact ⟨i + 1, by simp, hlt, hx1.drew, by (simp (disch := (first | assumption | (first | omega | (simp only [List.length_cons, List.length_nil, sz_alloc, sz_put, sz_drew]; done) | (simp only [List.length_replicate, List.length_cons, List.length_nil, *]; done) | (simp only [List.size_toArray, List.length_cons, List.length_nil, sz_alloc, sz_put, sz_drew] at *; omega)))) only [MapAt, Hp_drew, Hp_alloc_old, Hp_alloc_new, Hp_put_same, Hp_put_other, *]), hnext (decide_eq_false fun h => hyl h.2)⟩
    · have e1 : decide (y.1.key = k) = false := decide_eq_false hyk
      simp (disch := first | omega | trivial | assumption | (first | omega | (simp only [List.length_cons, List.length_nil, sz_alloc, sz_put, sz_drew]; done) | (simp only [List.length_replicate, List.length_cons, List.length_nil, *]; done) | (simp only [List.size_toArray, List.length_cons, List.length_nil, sz_alloc, sz_put, sz_drew] at *; omega)) | ((repeat' (first | exact allOne_bc _ | exact allOne_nil | (refine allOne_int _ _ _ ?_) | (refine allOne_sl _ _ _ _ ?_) | (refine allOne_ptr _ _ ?_) | (refine allOne_map _ _ ?_) | (refine allOne_bool _ _ ?_) | (refine allOne_str _ _ ?_) | (refine allOne_iface _ _ _ ?_) | (refine allOne_app _ _ ?_ ?_))); done) | (simp only [cells_agg, cells_int, cells_bool, cells_str, cells_ptr, cells_sl, cells_map, cells_func, cells_iface, List.size_toArray, Array.size_append, bc_length, List.length_cons, List.length_nil, Nat.zero_add, Nat.reduceAdd, *]; done) | (simp (disch := (first | assumption | (first | omega | (simp only [List.length_cons, List.length_nil, sz_alloc, sz_put, sz_drew]; done) | (simp only [List.length_replicate, List.length_cons, List.length_nil, *]; done) | (simp only [List.size_toArray, List.length_cons, List.length_nil, sz_alloc, sz_put, sz_drew] at *; omega)))) only [MapAt, Hp_drew, Hp_alloc_old, Hp_alloc_new, Hp_put_same, Hp_put_other, *])) only [hp, hb, hlt', hk1, hk0, g0, g32, e1, cond_false, Pick_bool, cond_false, p_add, p_lss, L1_cells, Ln_cells, Hp_drew, Branch_bool, Gd_false, List.getElem?_toArray, List.getElem?_cons_zero, List.getElem?_cons_succ, Option.elim_some, Nat.zero_add, Nat.add_zero, List.size_toArray, Nat.reduceLeDiff, if_pos, decide_eq_true_eq, decide_eq_false_iff_not, true_and, Bool.false_eq_true, false_implies, forall_const, ext_bc0, bc_length, wr_in, Int.toNat_natCast, eqlb35, fld39_0, fld39_1, ix47, len47, ld35, ld37]
      refine ⟨⟨?_, by omega⟩, fun h => absurd trivial h⟩
      rw [hJ]
      exact ⟨i + 1, by simp, hlt, hx1.drew, by (simp (disch := (first | assumption | (first | omega | (simp only [List.length_cons, List.length_nil, sz_alloc, sz_put, sz_drew]; done) | (simp only [List.length_replicate, List.length_cons, List.length_nil, *]; done) | (simp only [List.size_toArray, List.length_cons, List.length_nil, sz_alloc, sz_put, sz_drew] at *; omega)))) only [MapAt, Hp_drew, Hp_alloc_old, Hp_alloc_new, Hp_put_same, Hp_put_other, *]), hnext (decide_eq_false fun h => hyk h.1)⟩
  · have hlt' : ¬ ((i : Int) < (R.length : Int)) := by omega
    have hi' : i = R.length := by omega
    subst hi'
    rw [List.take_length] at hno
    have hf : R.find? (liveK k now) = none := List.find?_eq_none.2 fun z hz => by rw [hno z hz]; simp
    simp (disch := first | omega | trivial | assumption | (first | omega | (simp only [List.length_cons, List.length_nil, sz_alloc, sz_put, sz_drew]; done) | (simp only [List.length_replicate, List.length_cons, List.length_nil, *]; done) | (simp only [List.size_toArray, List.length_cons, List.length_nil, sz_alloc, sz_put, sz_drew] at *; omega)) | ((repeat' (first | exact allOne_bc _ | exact allOne_nil | (refine allOne_int _ _ _ ?_) | (refine allOne_sl _ _ _ _ ?_) | (refine allOne_ptr _ _ ?_) | (refine allOne_map _ _ ?_) | (refine allOne_bool _ _ ?_) | (refine allOne_str _ _ ?_) | (refine allOne_iface _ _ _ ?_) | (refine allOne_app _ _ ?_ ?_))); done) | (simp only [cells_agg, cells_int, cells_bool, cells_str, cells_ptr, cells_sl, cells_map, cells_func, cells_iface, List.size_toArray, Array.size_append, bc_length, List.length_cons, List.length_nil, Nat.zero_add, Nat.reduceAdd, *]; done) | (simp (disch := (first | assumption | (first | omega | (simp only [List.length_cons, List.length_nil, sz_alloc, sz_put, sz_drew]; done) | (simp only [List.length_replicate, List.length_cons, List.length_nil, *]; done) | (simp only [List.size_toArray, List.length_cons, List.length_nil, sz_alloc, sz_put, sz_drew] at *; omega)))) only [MapAt, Hp_drew, Hp_alloc_old, Hp_alloc_new, Hp_put_same, Hp_put_other, *])) only [hp, hlt', p_add, p_lss, L1_cells, Branch_bool, List.getElem?_toArray, List.getElem?_cons_zero, List.getElem?_cons_succ, Option.elim_some, decide_eq_true_eq, decide_eq_false_iff_not, true_and, false_implies, Nat.sub_self, wr_in, Int.toNat_natCast, len47]
    rw [hf]
    exact fun _ => ⟨hx1, _, rfl, Vec.nil _ _ _ _⟩
end
end Go.Proofs
