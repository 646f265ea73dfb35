/- A part of the proof: A.P23. -/
import Derived.Test.YtgfeaeedlakmfaaAP22
set_option linter.unusedVariables false
set_option linter.unusedSimpArgs false
set_option linter.unusedSectionVars false
namespace Go.Proofs
open Go Go.Lf
set_option maxRecDepth 20000
set_option maxHeartbeats 2000000
set_option linter.unusedSimpArgs false
set_option linter.unusedVariables false
section
variable {w0 w13 w21 : World} {p mb ub x B : Nat} {room quota now src e : Int} {A : List AE} {R : List BV} {s : Value} {soon : Int} {cm : Nat} {us : Ents Int} {cu : Nat} {k l : List UInt8} {dv : Value} {k2 K : Value → World → Prop}
theorem QL_free {L H c : Nat} (h1 : L ≤ c) (h2 : c < H) : ¬ QL p mb ub x L H c := fun h => by have := h.2.2.2.2; omega
theorem put_tail (f : Fix w0 p mb ub x room quota) (hx : Ext (fun _ => False) w13 w21) (h : ∀ H, PlC w21 p mb ub x room quota (sz w13) H A R s soon cm us cu) (hM : ∀ b, M4 p mb ub x b → b < sz w13)
    (hB : Hp w21 B = some (.cells ((bc k).toArray ++ #[dv, i64 src, i64 e]) 39 (0, 0))) (hBl : sz w13 ≤ B) (hd : Bytes 5 w21 dv l (fun c => sz w13 ≤ c)) (hl : l.length ≤ 1000) (hk : k.length = 32) (hk12 : k ∈ keys12)
    (hK : ∀ W', Ext (M4 p mb ub x) w13 W' → PlS W' p mb ub x room quota 0 0 → k2 (i64 now) W') : F3x3 (i64 now) (ptr B 0) (ptr p 0) (ptr x 0) k2 w21 K := by
  obtain ⟨da, dc, rfl⟩ := Vec.slice hd
  have hBlt := Hp_lt hB
  have hs := hx.size
  unfold F3x3
  simp (disch := first | omega | trivial | assumption | (first | omega | (simp only [List.length_cons, List.length_nil, sz_alloc, sz_put, sz_drew]; done) | (simp only [List.length_replicate, List.length_cons, List.length_nil, *]; done) | (simp only [List.size_toArray, List.length_cons, List.length_nil, sz_alloc, sz_put, sz_drew] at *; omega)) | ((repeat' (first | exact allOne_bc _ | exact allOne_nil | (refine allOne_int _ _ _ ?_) | (refine allOne_sl _ _ _ _ ?_) | (refine allOne_ptr _ _ ?_) | (refine allOne_map _ _ ?_) | (refine allOne_bool _ _ ?_) | (refine allOne_str _ _ ?_) | (refine allOne_iface _ _ _ ?_) | (refine allOne_app _ _ ?_ ?_))); done) | (simp only [cells_agg, cells_int, cells_bool, cells_str, cells_ptr, cells_sl, cells_map, cells_func, cells_iface, List.size_toArray, Array.size_append, bc_length, List.length_cons, List.length_nil, Nat.zero_add, Nat.reduceAdd, *]; done) | (simp (disch := (first | assumption | (first | omega | (simp only [List.length_cons, List.length_nil, sz_alloc, sz_put, sz_drew]; done) | (simp only [List.length_replicate, List.length_cons, List.length_nil, *]; done) | (simp only [List.size_toArray, List.length_cons, List.length_nil, sz_alloc, sz_put, sz_drew] at *; omega)))) only [MapAt, Hp_drew, Hp_alloc_old, Hp_alloc_new, Hp_put_same, Hp_put_other, *])) only [hB, hk, bs37_0, put_allocN, L1_cells, Ln_cells, St_cells, Hp_drew, Hp_alloc_new, Hp_alloc_old, sz_alloc, cells_agg, List.getElem?_toArray, List.getElem?_cons_zero, Option.elim_some, Nat.zero_add, List.size_toArray, List.length_cons, List.length_nil, Nat.reduceAdd, Nat.reduceLeDiff, if_pos, and_self, forall_const, ext_bca, get_bc, splice_bca, bc_length, Array.size_append, Nat.sub_self, List.length_replicate, fld39_1, ld37, ld39, bs37_0, st39, al39, zv39]
  obtain ⟨w26, hw26⟩ : ∃ w26, w26 = w21.alloc (Obj.cells ((bc k).toArray ++ #[Value.slice da l.length dc, i64 src, i64 e]) 39) := ⟨_, rfl⟩
  have hx26 : Ext (fun _ => False) w21 w26 := by rw [hw26]; exact (Ext.refl _ _).alloc _
  have hs26 : sz w26 = sz w21 + 1 := by rw [hw26]; (first | omega | (simp only [List.length_cons, List.length_nil, sz_alloc, sz_put, sz_drew]; done) | (simp only [List.length_replicate, List.length_cons, List.length_nil, *]; done) | (simp only [List.size_toArray, List.length_cons, List.length_nil, sz_alloc, sz_put, sz_drew] at *; omega))
  have hC26 : Hp w26 (sz w21) = some (Obj.cells ((bc k).toArray ++ #[Value.slice da l.length dc, i64 src, i64 e]) 39) := by rw [hw26]; exact Hp_alloc_new _ _ _ rfl
  rw [← hw26]
  try rw [← hs26]
  refine dupB (Vec.ext hd hx26 fun _ _ _ => not_false) (by omega) 37 ?_
  intro v120 w28 hv hx28
  have hC28 := hx28.at hC26 not_false
  have hB28 := (hx26.trans hx28 fun _ _ h => h).at hB not_false
  have hC28l := Hp_lt hC28
  have hB28l := Hp_lt hB28
  have hCB : sz w21 ≠ B := by omega
  obtain ⟨va, vc, rfl⟩ := Vec.slice hv
  simp (disch := first | omega | trivial | assumption | (first | omega | (simp only [List.length_cons, List.length_nil, sz_alloc, sz_put, sz_drew]; done) | (simp only [List.length_replicate, List.length_cons, List.length_nil, *]; done) | (simp only [List.size_toArray, List.length_cons, List.length_nil, sz_alloc, sz_put, sz_drew] at *; omega)) | ((repeat' (first | exact allOne_bc _ | exact allOne_nil | (refine allOne_int _ _ _ ?_) | (refine allOne_sl _ _ _ _ ?_) | (refine allOne_ptr _ _ ?_) | (refine allOne_map _ _ ?_) | (refine allOne_bool _ _ ?_) | (refine allOne_str _ _ ?_) | (refine allOne_iface _ _ _ ?_) | (refine allOne_app _ _ ?_ ?_))); done) | (simp only [cells_agg, cells_int, cells_bool, cells_str, cells_ptr, cells_sl, cells_map, cells_func, cells_iface, List.size_toArray, Array.size_append, bc_length, List.length_cons, List.length_nil, Nat.zero_add, Nat.reduceAdd, *]; done) | (simp (disch := (first | assumption | (first | omega | (simp only [List.length_cons, List.length_nil, sz_alloc, sz_put, sz_drew]; done) | (simp only [List.length_replicate, List.length_cons, List.length_nil, *]; done) | (simp only [List.size_toArray, List.length_cons, List.length_nil, sz_alloc, sz_put, sz_drew] at *; omega)))) only [MapAt, Hp_drew, Hp_alloc_old, Hp_alloc_new, Hp_put_same, Hp_put_other, *])) only [hC28, hB28, hk, Ln_cells, St_cells, Hp_put_same, Hp_put_other, cells_sl, Nat.zero_add, List.size_toArray, List.length_cons, List.length_nil, Nat.reduceAdd, Nat.reduceLeDiff, if_pos, and_self, ext_bca, splice_bc, splice_lit, bc_length, Array.size_append, Nat.sub_self, List.set_cons_zero, st37]
  obtain ⟨w29, hw29⟩ : ∃ w29, w29 = (put w28 (sz w21) (Obj.cells ((bc k).toArray ++ #[Value.slice va l.length vc, i64 src, i64 e]) 39)).drew := ⟨_, rfl⟩
  have hx29 : Ext (fun b => b = sz w21) w28 w29 := by rw [hw29]; exact ((Ext.refl (fun b => b = sz w21) _).put _ _ fun _ => rfl).drew
  have hC29 : Hp w29 (sz w21) = some (Obj.cells ((bc k).toArray ++ #[Value.slice va l.length vc, i64 src, i64 e]) 39) := by rw [hw29]; (simp (disch := (first | assumption | (first | omega | (simp only [List.length_cons, List.length_nil, sz_alloc, sz_put, sz_drew]; done) | (simp only [List.length_replicate, List.length_cons, List.length_nil, *]; done) | (simp only [List.size_toArray, List.length_cons, List.length_nil, sz_alloc, sz_put, sz_drew] at *; omega)))) only [MapAt, Hp_drew, Hp_alloc_old, Hp_alloc_new, Hp_put_same, Hp_put_other, *])
  rw [← hw29]
  have hx2129 : Ext (fun _ => False) w21 w29 := (hx26.trans hx28 fun _ _ h => h).trans2 hx29 (fun _ _ h => h) fun b hb e => by omega
  have hB29 := hx2129.at hB not_false
  have hs29 := hx2129.size
  have hs28 := hx29.size
  have hx28s := hx28.size
  have hd29 : Bytes 5 w29 (.slice da l.length dc) l (fun c => sz w13 ≤ c ∧ c < sz w29) := (Vec.ext hd hx2129 fun _ _ _ => not_false).mono fun c hc hq => ⟨hq, hc⟩
  have hv29 : Bytes 5 w29 (.slice va l.length vc) l (fun c => sz w13 ≤ c ∧ c < sz w29) := (Vec.extc hv hx29 fun b row hb hq e => by subst e; rw [hC28] at hb; simp at hb).mono fun c hc hq => ⟨by omega, hc⟩
  have h29 := (h (sz w29)).ext hx2129 fun _ _ _ => not_false
  clear hw29
  have hnM : ∀ c, sz w13 ≤ c ∧ c < sz w29 → ¬ M4 p mb ub x c := fun c hc hm => by have := hM c hm; omega
  refine CallF_by Try.call10 (put_first f h29 (Nat.le_refl _) now ⟨k, l, src, e⟩ hk hv29 hnM (by show l.length ≤ _; omega)) ?_
  rintro _ w30 ⟨rfl, hx30, A', soon', cm', us', cu', h30⟩
  have hBn : ¬ M4 p mb ub x B := fun hm => by have := hM B hm; omega
  have hCn : ¬ M4 p mb ub x (sz w21) := fun hm => by have := hM _ hm; omega
  have hB30 := hx30.at hB29 hBn
  have hd30 := Vec.ext hd29 hx30 fun c _ hc => hnM c hc
  have hv30 := Vec.ext hv29 hx30 fun c _ hc => hnM c hc
  have hs30 := hx30.size
  simp (disch := first | omega | trivial | assumption | (first | omega | (simp only [List.length_cons, List.length_nil, sz_alloc, sz_put, sz_drew]; done) | (simp only [List.length_replicate, List.length_cons, List.length_nil, *]; done) | (simp only [List.size_toArray, List.length_cons, List.length_nil, sz_alloc, sz_put, sz_drew] at *; omega)) | ((repeat' (first | exact allOne_bc _ | exact allOne_nil | (refine allOne_int _ _ _ ?_) | (refine allOne_sl _ _ _ _ ?_) | (refine allOne_ptr _ _ ?_) | (refine allOne_map _ _ ?_) | (refine allOne_bool _ _ ?_) | (refine allOne_str _ _ ?_) | (refine allOne_iface _ _ _ ?_) | (refine allOne_app _ _ ?_ ?_))); done) | (simp only [cells_agg, cells_int, cells_bool, cells_str, cells_ptr, cells_sl, cells_map, cells_func, cells_iface, List.size_toArray, Array.size_append, bc_length, List.length_cons, List.length_nil, Nat.zero_add, Nat.reduceAdd, *]; done) | (simp (disch := (first | assumption | (first | omega | (simp only [List.length_cons, List.length_nil, sz_alloc, sz_put, sz_drew]; done) | (simp only [List.length_replicate, List.length_cons, List.length_nil, *]; done) | (simp only [List.size_toArray, List.length_cons, List.length_nil, sz_alloc, sz_put, sz_drew] at *; omega)))) only [MapAt, Hp_drew, Hp_alloc_old, Hp_alloc_new, Hp_put_same, Hp_put_other, *])) only [hB30, hk, Ln_cells, Nat.zero_add, List.size_toArray, List.length_cons, List.length_nil, Nat.reduceAdd, Nat.reduceLeDiff, if_pos, true_and, ext_bca, bc_length, Array.size_append]
  refine CallF_by Try.call11 (put_second f h30 hs30 hk hk12 hd30 hnM (by show l.length ≤ _; omega)) ?_
  rintro _ w31 ⟨rfl, hx31, h31⟩
  have hs31 := hx31.size
  simp (disch := first | omega | trivial | assumption | (first | omega | (simp only [List.length_cons, List.length_nil, sz_alloc, sz_put, sz_drew]; done) | (simp only [List.length_replicate, List.length_cons, List.length_nil, *]; done) | (simp only [List.size_toArray, List.length_cons, List.length_nil, sz_alloc, sz_put, sz_drew] at *; omega)) | ((repeat' (first | exact allOne_bc _ | exact allOne_nil | (refine allOne_int _ _ _ ?_) | (refine allOne_sl _ _ _ _ ?_) | (refine allOne_ptr _ _ ?_) | (refine allOne_map _ _ ?_) | (refine allOne_bool _ _ ?_) | (refine allOne_str _ _ ?_) | (refine allOne_iface _ _ _ ?_) | (refine allOne_app _ _ ?_ ?_))); done) | (simp only [cells_agg, cells_int, cells_bool, cells_str, cells_ptr, cells_sl, cells_map, cells_func, cells_iface, List.size_toArray, Array.size_append, bc_length, List.length_cons, List.length_nil, Nat.zero_add, Nat.reduceAdd, *]; done) | (simp (disch := (first | assumption | (first | omega | (simp only [List.length_cons, List.length_nil, sz_alloc, sz_put, sz_drew]; done) | (simp only [List.length_replicate, List.length_cons, List.length_nil, *]; done) | (simp only [List.size_toArray, List.length_cons, List.length_nil, sz_alloc, sz_put, sz_drew] at *; omega)))) only [MapAt, Hp_drew, Hp_alloc_old, Hp_alloc_new, Hp_put_same, Hp_put_other, *])) only [decide_true, p_neq, Branch_bool, Bool.not_true, true_and, Bool.false_eq_true, false_implies, forall_const]
  have hx1331 : Ext (M4 p mb ub x) w13 w31 := ((hx.trans hx2129 fun _ _ h => h).trans2 hx30 (fun _ _ h => h.elim) fun _ _ h => h).trans hx31 fun _ _ h => h
  have hC31 := hx31.at (hx30.at hC29 hCn) hCn
  have hv31 := Vec.ext hv30 hx31 fun c _ hc => hnM c hc
  have hsC : sz w21 < sz w29 := by omega
  have hfree : ∀ c, sz w13 ≤ c ∧ c < sz w29 → ¬ (QL p mb ub x (sz w13) (sz w29) c ∨ M4 p mb ub x c) := fun c hc hm => hm.elim (QL_free hc.1 hc.2) (hnM c hc)
  clear hB hB28 hC28 hC26 hB29 hC29 hB30
  obtain ⟨J, hJ⟩ : ∃ J : Value → World → Prop, J = fun v w32 => ∃ (j : Nat) (l' : List UInt8), v = i64 (j : Int) ∧ j ≤ l.length ∧ l'.length = l.length ∧ Ext (M4 p mb ub x) w13 w32 ∧ PlS w32 p mb ub x room quota (sz w13) (sz w29) ∧
      Hp w32 (sz w21) = some (Obj.cells ((bc k).toArray ++ #[Value.slice va l.length vc, i64 src, i64 e]) 39) ∧ Bytes 5 w32 (.slice va l.length vc) l' (fun c => sz w13 ≤ c ∧ c < sz w29) := ⟨_, rfl⟩
  refine Loop1 J (fun v _ => l.length - (match v with | .int _ n => n.toNat | _ => 0)) (by rw [hJ]; exact ⟨0, l, rfl, Nat.zero_le _, rfl, hx1331, h31, hC31, hv31⟩) ?_
  intro v w32 hj
  rw [hJ] at hj
  obtain ⟨j, l', rfl, hjl, hll, hx32, h32, hC32, hv32⟩ := hj
  unfold F3x1
  by_cases hlt : j < l.length
  · have hlt' : ((j : Int) < (l.length : Int)) := by omega
    rcases hv32.2 with ⟨e1, e2⟩ | ⟨m, o, cap, row, e1, hcap, hm, hoc, hrow, hq⟩
    · omega
    simp only [Value.slice.injEq] at e1
    obtain ⟨e2, e3, e4⟩ := e1
    subst e2 e4
    have hml := Hp_lt hm
    simp (disch := first | omega | trivial | assumption | (first | omega | (simp only [List.length_cons, List.length_nil, sz_alloc, sz_put, sz_drew]; done) | (simp only [List.length_replicate, List.length_cons, List.length_nil, *]; done) | (simp only [List.size_toArray, List.length_cons, List.length_nil, sz_alloc, sz_put, sz_drew] at *; omega)) | ((repeat' (first | exact allOne_bc _ | exact allOne_nil | (refine allOne_int _ _ _ ?_) | (refine allOne_sl _ _ _ _ ?_) | (refine allOne_ptr _ _ ?_) | (refine allOne_map _ _ ?_) | (refine allOne_bool _ _ ?_) | (refine allOne_str _ _ ?_) | (refine allOne_iface _ _ _ ?_) | (refine allOne_app _ _ ?_ ?_))); done) | (simp only [cells_agg, cells_int, cells_bool, cells_str, cells_ptr, cells_sl, cells_map, cells_func, cells_iface, List.size_toArray, Array.size_append, bc_length, List.length_cons, List.length_nil, Nat.zero_add, Nat.reduceAdd, *]; done) | (simp (disch := (first | assumption | (first | omega | (simp only [List.length_cons, List.length_nil, sz_alloc, sz_put, sz_drew]; done) | (simp only [List.length_replicate, List.length_cons, List.length_nil, *]; done) | (simp only [List.size_toArray, List.length_cons, List.length_nil, sz_alloc, sz_put, sz_drew] at *; omega)))) only [MapAt, Hp_drew, Hp_alloc_old, Hp_alloc_new, Hp_put_same, Hp_put_other, *])) only [hC32, hk, hlt', hm, p_add, p_lss, L1_cells, St_cells, cells_int, Branch_bool, List.getElem?_toArray, List.getElem?_cons_zero, Option.elim_some, Nat.zero_add, List.size_toArray, List.length_cons, List.length_nil, if_pos, decide_eq_true_eq, decide_eq_false_iff_not, true_and, forall_const, get_bc, Nat.sub_self, wr_in, Int.toNat_natCast, Nat.mul_one, ix37, len37, fld39_1, ld37, st5]
    refine ⟨⟨?_, by omega⟩, fun h => absurd trivial h⟩
    have hmC : m ≠ sz w21 := fun e => by subst e; rw [hC32] at hm; simp at hm
    have hxp : Ext (fun b => b = m) w32 (put w32 m (Obj.cells (splice row (o + j) #[Value.int IntKind.u8 238]) 5)) := (Ext.refl _ _).put _ _ fun _ => rfl
    rw [hJ]
    refine ⟨j + 1, l'.set j 238, by simp, hlt, by simpa using hll, hx32.trans2 hxp (fun _ _ h => h) (fun b hb e => by omega), h32.ext hxp fun b _ hb e => by subst e; exact hfree _ hq hb, (Hp_put_other _ _ _ _ fun e => hmC e.symm).trans hC32, ?_⟩
    have hsp : (splice row (o + j) #[Value.int IntKind.u8 238]).size = row.size := splice_size (by simp; omega)
    refine ⟨by simp [bc_length], .inr ⟨m, o, vc, _, by rw [List.length_set, hll], by rw [List.length_set]; exact hcap, Hp_put_same _ _ _ hml, by rw [hsp]; exact hoc, fun i hi => ?_, hq⟩⟩
    rw [List.length_set] at hi
    rw [splice_get (by simp; omega), bc_get, List.getElem?_set]
    simp only [List.size_toArray, List.length_cons, List.length_nil, Nat.zero_add]
    by_cases hij : j = i
    · subst hij
      rw [if_pos (by omega), if_pos rfl, if_pos (by omega)]
      simp
    · rw [if_neg (by omega), if_neg hij, hrow i hi, bc_get]
  · have hlt' : ¬ ((j : Int) < (l.length : Int)) := by omega
    simp (disch := first | omega | trivial | assumption | (first | omega | (simp only [List.length_cons, List.length_nil, sz_alloc, sz_put, sz_drew]; done) | (simp only [List.length_replicate, List.length_cons, List.length_nil, *]; done) | (simp only [List.size_toArray, List.length_cons, List.length_nil, sz_alloc, sz_put, sz_drew] at *; omega)) | ((repeat' (first | exact allOne_bc _ | exact allOne_nil | (refine allOne_int _ _ _ ?_) | (refine allOne_sl _ _ _ _ ?_) | (refine allOne_ptr _ _ ?_) | (refine allOne_map _ _ ?_) | (refine allOne_bool _ _ ?_) | (refine allOne_str _ _ ?_) | (refine allOne_iface _ _ _ ?_) | (refine allOne_app _ _ ?_ ?_))); done) | (simp only [cells_agg, cells_int, cells_bool, cells_str, cells_ptr, cells_sl, cells_map, cells_func, cells_iface, List.size_toArray, Array.size_append, bc_length, List.length_cons, List.length_nil, Nat.zero_add, Nat.reduceAdd, *]; done) | (simp (disch := (first | assumption | (first | omega | (simp only [List.length_cons, List.length_nil, sz_alloc, sz_put, sz_drew]; done) | (simp only [List.length_replicate, List.length_cons, List.length_nil, *]; done) | (simp only [List.size_toArray, List.length_cons, List.length_nil, sz_alloc, sz_put, sz_drew] at *; omega)))) only [MapAt, Hp_drew, Hp_alloc_old, Hp_alloc_new, Hp_put_same, Hp_put_other, *])) only [hC32, hk, hlt', p_add, p_lss, L1_cells, Branch_bool, List.getElem?_toArray, List.getElem?_cons_zero, Option.elim_some, Nat.zero_add, decide_eq_true_eq, decide_eq_false_iff_not, true_and, false_implies, get_bc, Nat.sub_self, wr_in, Int.toNat_natCast, len37, fld39_1, ld37]
    refine fun _ => hK w32 hx32 ?_
    obtain ⟨A2, R2, s2, soon2, cm2, us2, cu2, h2⟩ := h32
    exact ⟨A2, R2, s2, soon2, cm2, us2, cu2, h2.mono fun b _ _ => .inr (Nat.zero_le _)⟩
end
end Go.Proofs
