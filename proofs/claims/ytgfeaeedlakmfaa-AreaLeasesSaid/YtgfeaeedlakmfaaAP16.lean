/- A part of the proof: A.P16. -/
import Derived.Test.YtgfeaeedlakmfaaAP15
set_option linter.unusedVariables false
set_option linter.unusedSimpArgs false
set_option linter.unusedSectionVars false
namespace Go.Proofs
open Go Go.Lf
set_option maxRecDepth 20000
set_option maxHeartbeats 2000000
set_option linter.unusedSimpArgs false
set_option linter.unusedVariables false
def liveV (now : Int) (y : BV) : Bool := decide (now < y.1.exp)
section
variable {w : World} {x : Nat} {room quota : Int} {s : Value} {R : List BV} {Q : Nat → Prop}
theorem RefC.one (h : RefC w x room quota s R Q) {y : BV} (hy : y ∈ R) : allOne (bcell y).toArray := by
  obtain ⟨a, c, e⟩ := Vec.slice (h.data y hy)
  exact bval_one y (by rw [e]; trivial)
theorem RefC.ext {w' : World} {M : Nat → Prop} (h : RefC w x room quota s R Q) (hx : Ext M w w') (hq : ∀ b, b < sz w → Q b ∨ b = x → ¬ M b) : RefC w' x room quota s R Q :=
  ⟨hx.at h.hp (hq _ (Hp_lt h.hp) (.inr rfl)), h.sl.ext hx fun b hb hQ => hq b hb (.inl hQ), h.klen, fun y hy => Vec.ext (h.data y hy) hx fun b hb hQ => hq b hb (.inl hQ), h.hQ, h.htot⟩
theorem total_sublist {l l' : List Blk} (h : l.Sublist l') : totalB l ≤ totalB l' := by
  induction h with
  | slnil => exact Int.le_refl _
  | cons a _ ih => rw [total_cons]; omega
  | cons_cons a _ ih => rw [total_cons, total_cons]; omega
theorem rsweep_spec (h : RefC w x room quota s R Q) (now : Int) (hlen : R.length ≤ 1000000) (hQn : ∀ b, sz w ≤ b → Q b) :
    Calls Try.prog 17 #[ptr x 0, i64 now] w (retK fun v w' => v = i64 ((R.length : Int) - ((R.filter (liveV now)).length : Int)) ∧ Ext (fun b => b = x) w w' ∧ ∃ s', RefC w' x room quota s' (R.filter (liveV now)) Q) := by
  refine F17_ok _ _ _ _ ?_
  unfold F17
  have hlx := Hp_lt h.hp
  obtain ⟨a, cap, hs⟩ := h.sl.form
  subst hs
  obtain ⟨J, hJ⟩ : ∃ J : Value → Value → World → Prop, J = fun v u w1 => ∃ i : Nat, u = i64 (i : Int) ∧ i ≤ R.length ∧ Ext (fun _ => False) w w1 ∧ Sl bcell 39 35 w1 v ((R.take i).filter (liveV now)) (fun b => sz w ≤ b) := ⟨_, rfl⟩
  refine Loop2 J (fun _ u _ => R.length - (match u with | .int _ n => n.toNat | _ => 0)) (by rw [hJ]; exact ⟨0, rfl, Nat.zero_le _, Ext.refl _ _, Sl.nil _ _ _ _ _⟩) ?_
  intro v u w1 hj _
  rw [hJ] at hj
  obtain ⟨i, rfl, hi, hx1, hsl⟩ := hj
  have h1 := h.ext hx1 fun _ _ _ => not_false
  have hp := h1.hp
  have hfl : ((R.take i).filter (liveV now)).length ≤ 1000000 := Nat.le_trans (List.length_filter_le _ _) (Nat.le_trans (List.length_take_le _ _) (by omega))
  have hs1 := hx1.size
  have hlx1 := Hp_lt hp
  by_cases hlt : i < R.length
  · have hlt' : ((i : Int) < (R.length : Int)) := by omega
    obtain ⟨b, o, cap', row, e, hcap, hb, ho, hr, hq⟩ := h1.sl.at (by intro e; rw [e] at hlt; cases hlt)
    cases e
    obtain ⟨y, hy⟩ : ∃ y, R[i]? = some y := ⟨_, List.getElem?_eq_getElem hlt⟩
    have hym := List.mem_of_getElem? hy
    have hk := h.klen y hym
    have hone := h.one hym
    have hstep : (R.take (i + 1)).filter (liveV now) = (R.take i).filter (liveV now) ++ (if now < y.1.exp then [y] else []) := by
      rw [List.take_add_one, hy, List.filter_append]
      congr 1
      show List.filter _ [y] = _
      rw [List.filter_cons]; simp [liveV]
    obtain ⟨g35, -, g32, g33, g34, gsz⟩ := brow hr hy hk
    obtain ⟨va, vc, hv⟩ := hsl.form
    have hcc : ∀ v ∈ [Value.agg ((bc y.1.key).toArray ++ #[y.2, i64 y.1.src, i64 y.1.exp])], v.cells.size = 35 := by simp [cells_agg, bc_length, hk]
    simp (disch := first | omega | trivial | assumption | (first | omega | (simp only [List.length_cons, List.length_nil, sz_alloc, sz_put, sz_drew]; done) | (simp only [List.length_replicate, List.length_cons, List.length_nil, *]; done) | (simp only [List.size_toArray, List.length_cons, List.length_nil, sz_alloc, sz_put, sz_drew] at *; omega)) | ((repeat' (first | exact allOne_bc _ | exact allOne_nil | (refine allOne_int _ _ _ ?_) | (refine allOne_sl _ _ _ _ ?_) | (refine allOne_ptr _ _ ?_) | (refine allOne_map _ _ ?_) | (refine allOne_bool _ _ ?_) | (refine allOne_str _ _ ?_) | (refine allOne_iface _ _ _ ?_) | (refine allOne_app _ _ ?_ ?_))); done) | (simp only [cells_agg, cells_int, cells_bool, cells_str, cells_ptr, cells_sl, cells_map, cells_func, cells_iface, List.size_toArray, Array.size_append, bc_length, List.length_cons, List.length_nil, Nat.zero_add, Nat.reduceAdd, *]; done) | (simp (disch := (first | assumption | (first | omega | (simp only [List.length_cons, List.length_nil, sz_alloc, sz_put, sz_drew]; done) | (simp only [List.length_replicate, List.length_cons, List.length_nil, *]; done) | (simp only [List.size_toArray, List.length_cons, List.length_nil, sz_alloc, sz_put, sz_drew] at *; omega)))) only [MapAt, Hp_drew, Hp_alloc_old, Hp_alloc_new, Hp_put_same, Hp_put_other, *])) only [hp, hb, hlt', g34, g35, bs47_1 _ hcc, NilCk_ptr, p_add, p_lss, p_gtr, L1_cells, Ln_cells, Branch_bool, List.getElem?_toArray, List.getElem?_cons_zero, List.getElem?_cons_succ, Option.elim_some, Nat.zero_add, if_pos, decide_eq_true_eq, decide_eq_false_iff_not, forall_const, wr_in, Int.toNat_natCast, fld39_3, ix47, len47, fld50_2, ld3, ld39, ld47, bs47_1]
    refine ⟨Join1 (fun v' w2 => Ext (fun _ => False) w w2 ∧ Sl bcell 39 35 w2 v' ((R.take (i + 1)).filter (liveV now)) (fun b => sz w ≤ b)) ⟨fun hl => ?_, fun hl => ?_⟩ ?_, fun h => absurd trivial h⟩
    · refine app1 hsl y hk hone hfl 47 _ (by rw [catC_one, Array.toArray_toList, bcell_arr]) ?_
      intro v' w' hv' hx'
      refine ⟨hx1.trans hx' fun b' _ e => ?_, ?_⟩
      · have := ((hsl.vec (by decide)).block e).1; omega
      · rw [hstep, if_pos hl]
        exact hv'.mono fun b' _ hb' => by rcases hb' with hb' | hb'; exact hb'; omega
    · rw [hstep, if_neg hl, List.append_nil]; exact ⟨hx1, hsl⟩
    · rintro v' w2 ⟨hx2, hs2⟩
      refine ⟨?_, by omega⟩
      rw [hJ]; exact ⟨i + 1, by simp, hlt, hx2, hs2⟩
  · have hlt' : ¬ ((i : Int) < (R.length : Int)) := by omega
    have hi' : i = R.length := by omega
    subst hi'
    rw [List.take_length] at hsl hfl
    obtain ⟨va, vc, hv⟩ := hsl.form
    subst hv
    have hfl' := List.length_filter_le (liveV now) R
    simp (disch := first | omega | trivial | assumption | (first | omega | (simp only [List.length_cons, List.length_nil, sz_alloc, sz_put, sz_drew]; done) | (simp only [List.length_replicate, List.length_cons, List.length_nil, *]; done) | (simp only [List.size_toArray, List.length_cons, List.length_nil, sz_alloc, sz_put, sz_drew] at *; omega)) | ((repeat' (first | exact allOne_bc _ | exact allOne_nil | (refine allOne_int _ _ _ ?_) | (refine allOne_sl _ _ _ _ ?_) | (refine allOne_ptr _ _ ?_) | (refine allOne_map _ _ ?_) | (refine allOne_bool _ _ ?_) | (refine allOne_str _ _ ?_) | (refine allOne_iface _ _ _ ?_) | (refine allOne_app _ _ ?_ ?_))); done) | (simp only [cells_agg, cells_int, cells_bool, cells_str, cells_ptr, cells_sl, cells_map, cells_func, cells_iface, List.size_toArray, Array.size_append, bc_length, List.length_cons, List.length_nil, Nat.zero_add, Nat.reduceAdd, *]; done) | (simp (disch := (first | assumption | (first | omega | (simp only [List.length_cons, List.length_nil, sz_alloc, sz_put, sz_drew]; done) | (simp only [List.length_replicate, List.length_cons, List.length_nil, *]; done) | (simp only [List.size_toArray, List.length_cons, List.length_nil, sz_alloc, sz_put, sz_drew] at *; omega)))) only [MapAt, Hp_drew, Hp_alloc_old, Hp_alloc_new, Hp_put_same, Hp_put_other, *])) only [hp, hlt', NilCk_ptr, p_add, p_sub, p_lss, L1_cells, St_cells, cells_sl, Branch_bool, List.getElem?_toArray, List.getElem?_cons_zero, List.getElem?_cons_succ, Option.elim_some, Nat.zero_add, List.size_toArray, List.length_cons, List.length_nil, Nat.reduceAdd, Nat.reduceLeDiff, if_pos, decide_eq_true_eq, decide_eq_false_iff_not, true_and, and_self, false_implies, forall_const, splice_lit, Nat.sub_self, List.set_cons_zero, List.set_cons_succ, wr_in, Int.toNat_natCast, len47, fld50_2, ld47, st47]
    intro _
    have hx2 : Ext (fun b => b = x) w1 (put w1 x (Obj.cells #[i64 room, i64 quota, Value.slice va (List.filter (liveV now) R).length vc] 50)) := (Ext.refl _ _).put _ _ fun _ => rfl
    refine ⟨(hx1.mono fun _ _ h => h.elim).trans hx2 fun _ _ h => h, _, ⟨Hp_put_same _ _ _ hlx1, ?_, fun y hy => h.klen y (List.mem_filter.1 hy).1, fun y hy => Vec.ext (h1.data y (List.mem_filter.1 hy).1) hx2 fun b' _ hq e => h.hQ b' hq e, h.hQ, ?_⟩⟩
    · exact (hsl.ext hx2 fun b' _ hq e => by omega).mono fun b' _ hq => hQn b' hq
    · exact Int.le_trans (total_sublist (List.Sublist.map _ List.filter_sublist)) h.htot
end
end Go.Proofs
