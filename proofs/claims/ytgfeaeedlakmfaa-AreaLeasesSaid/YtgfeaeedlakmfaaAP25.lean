/- A part of the proof: A.P25. -/
import Derived.Test.YtgfeaeedlakmfaaAP24
set_option linter.unusedVariables false
set_option linter.unusedSimpArgs false
set_option linter.unusedSectionVars false
namespace Go.Proofs
open Go Go.Lf
set_option maxRecDepth 20000
set_option maxHeartbeats 2000000
set_option linter.unusedSimpArgs false
set_option linter.unusedVariables false
abbrev callRow (kind key size source for_ : Int) : Array Value := #[i64 kind, i64 key, i64 size, i64 source, i64 for_]
section
variable {w0 w13 : World} {p mb ub x cb kb : Nat} {room quota now i kind key size source for_ : Int} {A : List AE} {R : List BV} {s : Value} {soon : Int} {cm : Nat} {us : Ents Int} {cu : Nat} {k : List UInt8} {k2 K : Value → World → Prop}
theorem PlC.at13 (h : PlC w13 p mb ub x room quota 0 0 A R s soon cm us cu) {W : World} (hx : Ext (fun _ => False) w13 W) (H : Nat) : PlC W p mb ub x room quota (sz w13) H A R s soon cm us cu :=
  (h.mono (L' := sz w13) (H' := H) fun b hb _ => .inl hb).ext hx fun _ _ _ => not_false
theorem M4.lt (h : PlC w13 p mb ub x room quota 0 0 A R s soon cm us cu) {b : Nat} (hb : M4 p mb ub x b) : b < sz w13 := by
  have := h.lt
  rcases hb with rfl | rfl | rfl | rfl <;> omega
theorem put_case (f : Fix w0 p mb ub x room quota) (h : PlC w13 p mb ub x room quota 0 0 A R s soon cm us cu) (hk : k.length = 32) (hk12 : k ∈ keys12) (hi : 0 ≤ i ∧ i ≤ 100)
    (hc : Hp w13 cb = some (.cells (callRow kind key size source for_) 33 (0, 0))) (hkb : Hp w13 kb = some (.cells (bc k).toArray 35 (0, 0)))
    (hK : ∀ W', Ext (M4 p mb ub x) w13 W' → PlS W' p mb ub x room quota 0 0 → k2 (i64 now) W') : F3x18 (i64 now) (i64 i) (ptr cb 0) (ptr kb 0) (ptr p 0) (ptr x 0) k2 w13 K := by
  have hcl := Hp_lt hc
  have hkl := Hp_lt hkb
  have z32 : (List.replicate 32 (0 : UInt8)).length = 32 := by simp
  have e0 : k.length = (List.replicate 32 (0 : UInt8)).length := by rw [hk, z32]
  unfold F3x18
  simp (disch := first | omega | trivial | assumption | (first | omega | (simp only [List.length_cons, List.length_nil, sz_alloc, sz_put, sz_drew]; done) | (simp only [List.length_replicate, List.length_cons, List.length_nil, *]; done) | (simp only [List.size_toArray, List.length_cons, List.length_nil, sz_alloc, sz_put, sz_drew] at *; omega)) | ((repeat' (first | exact allOne_bc _ | exact allOne_nil | (refine allOne_int _ _ _ ?_) | (refine allOne_sl _ _ _ _ ?_) | (refine allOne_ptr _ _ ?_) | (refine allOne_map _ _ ?_) | (refine allOne_bool _ _ ?_) | (refine allOne_str _ _ ?_) | (refine allOne_iface _ _ _ ?_) | (refine allOne_app _ _ ?_ ?_))); done) | (simp only [cells_agg, cells_int, cells_bool, cells_str, cells_ptr, cells_sl, cells_map, cells_func, cells_iface, List.size_toArray, Array.size_append, bc_length, List.length_cons, List.length_nil, Nat.zero_add, Nat.reduceAdd, *]; done) | (simp (disch := (first | assumption | (first | omega | (simp only [List.length_cons, List.length_nil, sz_alloc, sz_put, sz_drew]; done) | (simp only [List.length_replicate, List.length_cons, List.length_nil, *]; done) | (simp only [List.size_toArray, List.length_cons, List.length_nil, sz_alloc, sz_put, sz_drew] at *; omega)))) only [MapAt, Hp_drew, Hp_alloc_old, Hp_alloc_new, Hp_put_same, Hp_put_other, *])) only [hc, hkb, hk, p_rem, p_quo, put_allocN, L1_cells, Ln_cells, St_cells, Hp_drew, Hp_alloc_new, Hp_alloc_old, sz_drew, cells_agg, List.getElem?_toArray, List.getElem?_cons_zero, List.getElem?_cons_succ, Option.elim_some, Nat.zero_add, List.size_toArray, List.length_cons, List.length_nil, Nat.reduceAdd, Nat.reduceLeDiff, if_pos, and_true, true_and, reduceCtorEq, forall_const, ext_bc, ext_bc0, get_bc, splice_bc, bc_length, Array.size_append, Nat.reduceSub, List.length_replicate, wr_in, fld33_3, fld33_4, bld39_0_2_3, ld3, ld35, st39, al39, zv39]
  have fin : ∀ W B src e, Ext (fun _ => False) w13 W → Hp W B = some (.cells ((bc k).toArray ++ #[.slice none 0 0, i64 src, i64 e]) 39 (0, 0)) → sz w13 ≤ B → LoopF 1 [(Value.int .i64 0)] W fun v20_2 w20 k4 => F3x4 (i64 now) (i64 i) (ptr cb 0) (ptr B 0) v20_2 (ptr p 0) (ptr x 0) k2 k4 w20 K := fun W B src e hx hB hBl =>
    put_loop f hx (fun H => h.at13 hx H) (fun b hb => M4.lt h hb) hB hBl hk hk12 hi hc rfl hK
  refine ⟨?_, ?_⟩
  · refine CallF_by Try.call8 (within_spec source 4 (by decide) _) ?_
    rintro _ w16 ⟨rfl, rfl⟩
    simp (disch := first | omega | trivial | assumption | (first | omega | (simp only [List.length_cons, List.length_nil, sz_alloc, sz_put, sz_drew]; done) | (simp only [List.length_replicate, List.length_cons, List.length_nil, *]; done) | (simp only [List.size_toArray, List.length_cons, List.length_nil, sz_alloc, sz_put, sz_drew] at *; omega)) | ((repeat' (first | exact allOne_bc _ | exact allOne_nil | (refine allOne_int _ _ _ ?_) | (refine allOne_sl _ _ _ _ ?_) | (refine allOne_ptr _ _ ?_) | (refine allOne_map _ _ ?_) | (refine allOne_bool _ _ ?_) | (refine allOne_str _ _ ?_) | (refine allOne_iface _ _ _ ?_) | (refine allOne_app _ _ ?_ ?_))); done) | (simp only [cells_agg, cells_int, cells_bool, cells_str, cells_ptr, cells_sl, cells_map, cells_func, cells_iface, List.size_toArray, Array.size_append, bc_length, List.length_cons, List.length_nil, Nat.zero_add, Nat.reduceAdd, *]; done) | (simp (disch := (first | assumption | (first | omega | (simp only [List.length_cons, List.length_nil, sz_alloc, sz_put, sz_drew]; done) | (simp only [List.length_replicate, List.length_cons, List.length_nil, *]; done) | (simp only [List.size_toArray, List.length_cons, List.length_nil, sz_alloc, sz_put, sz_drew] at *; omega)))) only [MapAt, Hp_drew, Hp_alloc_old, Hp_alloc_new, Hp_put_same, Hp_put_other, *])) only [hc, hkb, hk, p_sub, L1_cells, Ln_cells, Hp_drew, Hp_alloc_old, sz_drew, List.getElem?_toArray, List.getElem?_cons_zero, List.getElem?_cons_succ, Option.elim_some, Nat.zero_add, List.size_toArray, Nat.reduceLeDiff, if_pos, true_and, ext_bc0, bc_length]
    refine ⟨?_, ?_⟩
    · refine CallF_by Try.call8 (within_spec for_ 12 (by decide) _) ?_
      rintro _ w17 ⟨rfl, rfl⟩
      simp (disch := first | omega | trivial | assumption | (first | omega | (simp only [List.length_cons, List.length_nil, sz_alloc, sz_put, sz_drew]; done) | (simp only [List.length_replicate, List.length_cons, List.length_nil, *]; done) | (simp only [List.size_toArray, List.length_cons, List.length_nil, sz_alloc, sz_put, sz_drew] at *; omega)) | ((repeat' (first | exact allOne_bc _ | exact allOne_nil | (refine allOne_int _ _ _ ?_) | (refine allOne_sl _ _ _ _ ?_) | (refine allOne_ptr _ _ ?_) | (refine allOne_map _ _ ?_) | (refine allOne_bool _ _ ?_) | (refine allOne_str _ _ ?_) | (refine allOne_iface _ _ _ ?_) | (refine allOne_app _ _ ?_ ?_))); done) | (simp only [cells_agg, cells_int, cells_bool, cells_str, cells_ptr, cells_sl, cells_map, cells_func, cells_iface, List.size_toArray, Array.size_append, bc_length, List.length_cons, List.length_nil, Nat.zero_add, Nat.reduceAdd, *]; done) | (simp (disch := (first | assumption | (first | omega | (simp only [List.length_cons, List.length_nil, sz_alloc, sz_put, sz_drew]; done) | (simp only [List.length_replicate, List.length_cons, List.length_nil, *]; done) | (simp only [List.size_toArray, List.length_cons, List.length_nil, sz_alloc, sz_put, sz_drew] at *; omega)))) only [MapAt, Hp_drew, Hp_alloc_old, Hp_alloc_new, Hp_put_same, Hp_put_other, *])) only [hkb, hk, p_add, put_allocN, Ln_cells, St_cells, Hp_drew, Hp_alloc_new, Hp_alloc_old, sz_drew, cells_agg, cells_int, Nat.zero_add, List.size_toArray, List.length_cons, List.length_nil, Nat.reduceAdd, Nat.reduceLeDiff, if_pos, true_and, and_self, ext_bc0, splice_bc, splice_lit, splice_id, splice_bca, bc_length, Array.size_append, Nat.reduceSub, List.set_cons_zero, List.set_cons_succ, List.length_replicate, wr_in, bld39_0_2_3, st39]
      exact fin _ _ _ _ (((Ext.refl _ _).drew).alloc _) (Hp_alloc_new _ _ _ (by rw [sz_drew])) (Nat.le_refl _)
    · refine CallF_by Try.call8 (within_spec for_ 12 (by decide) _) ?_
      rintro _ w17 ⟨rfl, rfl⟩
      simp (disch := first | omega | trivial | assumption | (first | omega | (simp only [List.length_cons, List.length_nil, sz_alloc, sz_put, sz_drew]; done) | (simp only [List.length_replicate, List.length_cons, List.length_nil, *]; done) | (simp only [List.size_toArray, List.length_cons, List.length_nil, sz_alloc, sz_put, sz_drew] at *; omega)) | ((repeat' (first | exact allOne_bc _ | exact allOne_nil | (refine allOne_int _ _ _ ?_) | (refine allOne_sl _ _ _ _ ?_) | (refine allOne_ptr _ _ ?_) | (refine allOne_map _ _ ?_) | (refine allOne_bool _ _ ?_) | (refine allOne_str _ _ ?_) | (refine allOne_iface _ _ _ ?_) | (refine allOne_app _ _ ?_ ?_))); done) | (simp only [cells_agg, cells_int, cells_bool, cells_str, cells_ptr, cells_sl, cells_map, cells_func, cells_iface, List.size_toArray, Array.size_append, bc_length, List.length_cons, List.length_nil, Nat.zero_add, Nat.reduceAdd, *]; done) | (simp (disch := (first | assumption | (first | omega | (simp only [List.length_cons, List.length_nil, sz_alloc, sz_put, sz_drew]; done) | (simp only [List.length_replicate, List.length_cons, List.length_nil, *]; done) | (simp only [List.size_toArray, List.length_cons, List.length_nil, sz_alloc, sz_put, sz_drew] at *; omega)))) only [MapAt, Hp_drew, Hp_alloc_old, Hp_alloc_new, Hp_put_same, Hp_put_other, *])) only [hkb, hk, p_add, put_allocN, Ln_cells, St_cells, Hp_drew, Hp_alloc_new, Hp_alloc_old, cells_agg, cells_int, Nat.zero_add, List.size_toArray, List.length_cons, List.length_nil, Nat.reduceAdd, Nat.reduceLeDiff, if_pos, true_and, and_self, ext_bc0, splice_bc, splice_lit, splice_id, splice_bca, bc_length, Array.size_append, Nat.reduceSub, List.set_cons_zero, List.set_cons_succ, List.length_replicate, wr_in, bld39_0_2_3, st39]
      exact fin _ _ _ _ (((Ext.refl _ _).drew).alloc _) (Hp_alloc_new _ _ _ (by rw [sz_drew])) (Nat.le_refl _)
  · refine CallF_by Try.call8 (within_spec source 4 (by decide) _) ?_
    rintro _ w16 ⟨rfl, rfl⟩
    simp (disch := first | omega | trivial | assumption | (first | omega | (simp only [List.length_cons, List.length_nil, sz_alloc, sz_put, sz_drew]; done) | (simp only [List.length_replicate, List.length_cons, List.length_nil, *]; done) | (simp only [List.size_toArray, List.length_cons, List.length_nil, sz_alloc, sz_put, sz_drew] at *; omega)) | ((repeat' (first | exact allOne_bc _ | exact allOne_nil | (refine allOne_int _ _ _ ?_) | (refine allOne_sl _ _ _ _ ?_) | (refine allOne_ptr _ _ ?_) | (refine allOne_map _ _ ?_) | (refine allOne_bool _ _ ?_) | (refine allOne_str _ _ ?_) | (refine allOne_iface _ _ _ ?_) | (refine allOne_app _ _ ?_ ?_))); done) | (simp only [cells_agg, cells_int, cells_bool, cells_str, cells_ptr, cells_sl, cells_map, cells_func, cells_iface, List.size_toArray, Array.size_append, bc_length, List.length_cons, List.length_nil, Nat.zero_add, Nat.reduceAdd, *]; done) | (simp (disch := (first | assumption | (first | omega | (simp only [List.length_cons, List.length_nil, sz_alloc, sz_put, sz_drew]; done) | (simp only [List.length_replicate, List.length_cons, List.length_nil, *]; done) | (simp only [List.size_toArray, List.length_cons, List.length_nil, sz_alloc, sz_put, sz_drew] at *; omega)))) only [MapAt, Hp_drew, Hp_alloc_old, Hp_alloc_new, Hp_put_same, Hp_put_other, *])) only [hc, hkb, hk, p_sub, L1_cells, Ln_cells, Hp_drew, Hp_alloc_old, List.getElem?_toArray, List.getElem?_cons_zero, List.getElem?_cons_succ, Option.elim_some, Nat.zero_add, List.size_toArray, Nat.reduceLeDiff, if_pos, true_and, ext_bc0, bc_length]
    refine CallF_by Try.call8 (within_spec for_ 12 (by decide) _) ?_
    rintro _ w17 ⟨rfl, rfl⟩
    simp (disch := first | omega | trivial | assumption | (first | omega | (simp only [List.length_cons, List.length_nil, sz_alloc, sz_put, sz_drew]; done) | (simp only [List.length_replicate, List.length_cons, List.length_nil, *]; done) | (simp only [List.size_toArray, List.length_cons, List.length_nil, sz_alloc, sz_put, sz_drew] at *; omega)) | ((repeat' (first | exact allOne_bc _ | exact allOne_nil | (refine allOne_int _ _ _ ?_) | (refine allOne_sl _ _ _ _ ?_) | (refine allOne_ptr _ _ ?_) | (refine allOne_map _ _ ?_) | (refine allOne_bool _ _ ?_) | (refine allOne_str _ _ ?_) | (refine allOne_iface _ _ _ ?_) | (refine allOne_app _ _ ?_ ?_))); done) | (simp only [cells_agg, cells_int, cells_bool, cells_str, cells_ptr, cells_sl, cells_map, cells_func, cells_iface, List.size_toArray, Array.size_append, bc_length, List.length_cons, List.length_nil, Nat.zero_add, Nat.reduceAdd, *]; done) | (simp (disch := (first | assumption | (first | omega | (simp only [List.length_cons, List.length_nil, sz_alloc, sz_put, sz_drew]; done) | (simp only [List.length_replicate, List.length_cons, List.length_nil, *]; done) | (simp only [List.size_toArray, List.length_cons, List.length_nil, sz_alloc, sz_put, sz_drew] at *; omega)))) only [MapAt, Hp_drew, Hp_alloc_old, Hp_alloc_new, Hp_put_same, Hp_put_other, *])) only [hkb, hk, p_add, put_allocN, Ln_cells, St_cells, Hp_drew, Hp_alloc_new, Hp_alloc_old, cells_agg, cells_int, Nat.zero_add, List.size_toArray, List.length_cons, List.length_nil, Nat.reduceAdd, Nat.reduceLeDiff, if_pos, true_and, and_self, ext_bc0, splice_bc, splice_lit, splice_id, splice_bca, bc_length, Array.size_append, Nat.reduceSub, List.set_cons_zero, List.set_cons_succ, List.length_replicate, wr_in, bld39_0_2_3, st39]
    exact fin _ _ _ _ (((Ext.refl _ _).drew).alloc _) (Hp_alloc_new _ _ _ (by rw [sz_drew])) (Nat.le_refl _)
theorem getB_find {A : List AE} (hn : (A.map fun x => x.b.key).Nodup) (k : List UInt8) (now : Int) : (A.find? (AE.is k)).any (AE.live now) = (getB k now (bl A)).isSome ∧
    (match A.find? (AE.is k) with | some x => if now < x.b.exp then x.b.data else [] | none => []) = (match getB k now (bl A) with | some y => y.data | none => []) := by
  cases hf : A.find? (AE.is k) with
  | none =>
    have : getB k now (bl A) = none := List.find?_eq_none.2 fun y hy => by
      obtain ⟨z, hz, rfl⟩ := List.mem_map.1 hy
      have := List.find?_eq_none.1 hf z hz
      simp only [AE.is, decide_eq_true_eq] at this ⊢
      exact fun e => this e.1.symm
    rw [this]; exact ⟨rfl, rfl⟩
  | some x =>
    obtain ⟨hxm, hxk⟩ := find_mem hf
    by_cases hl : now < x.b.exp
    · have : getB k now (bl A) = some x.b := by
        cases hg : getB k now (bl A) with
        | none =>
          have := List.find?_eq_none.1 hg x.b (List.mem_map_of_mem hxm)
          simp [hxk, hl] at this
        | some y =>
          have hy := List.mem_of_find?_eq_some hg
          have hy' := List.find?_some hg
          simp only [decide_eq_true_eq] at hy'
          obtain ⟨z, hz, rfl⟩ := List.mem_map.1 hy
          rw [inj_of_nodup (f := fun x : AE => x.b.key) hn hz hxm (by show z.b.key = x.b.key; rw [hy'.1, hxk])]
      rw [this]
      refine ⟨?_, ?_⟩
      · show decide (now < x.b.exp) = true; exact decide_eq_true hl
      · show (if now < x.b.exp then x.b.data else []) = _; rw [if_pos hl]
    · have : getB k now (bl A) = none := List.find?_eq_none.2 fun y hy => by
        obtain ⟨z, hz, rfl⟩ := List.mem_map.1 hy
        simp only [decide_eq_true_eq]
        intro e
        have := inj_of_nodup (f := fun x : AE => x.b.key) hn hz hxm (by show z.b.key = x.b.key; rw [e.1, hxk])
        rw [this] at e; exact hl e.2
      rw [this]
      refine ⟨?_, ?_⟩
      · show decide (now < x.b.exp) = false; exact decide_eq_false hl
      · show (if now < x.b.exp then x.b.data else []) = _; rw [if_neg hl]
theorem getB_R (R : List BV) (k : List UInt8) (now : Int) : (R.find? (liveK k now)).isSome = (getB k now (bR R)).isSome ∧ (match R.find? (liveK k now) with | some y => y.1.data | none => []) = (match getB k now (bR R) with | some y => y.data | none => []) := by
  have : getB k now (bR R) = (R.find? (liveK k now)).map (·.1) := by
    unfold getB; rw [bR, List.find?_map]; rfl
  rw [this]
  cases R.find? (liveK k now) <;> exact ⟨rfl, rfl⟩
theorem get_case (h : PlC w13 p mb ub x room quota 0 0 A R s soon cm us cu) (hk : k.length = 32)
    (hkb : Hp w13 kb = some (.cells (bc k).toArray 35 (0, 0)))
    (hK : ∀ W', Ext (M4 p mb ub x) w13 W' → PlS W' p mb ub x room quota 0 0 → k2 (i64 now) W') : F3x16 (i64 now) (ptr kb 0) (ptr p 0) (ptr x 0) k2 w13 K := by
  have hkl := Hp_lt hkb
  have hl := h.len
  unfold F3x16
  simp (disch := first | omega | trivial | assumption | (first | omega | (simp only [List.length_cons, List.length_nil, sz_alloc, sz_put, sz_drew]; done) | (simp only [List.length_replicate, List.length_cons, List.length_nil, *]; done) | (simp only [List.size_toArray, List.length_cons, List.length_nil, sz_alloc, sz_put, sz_drew] at *; omega)) | ((repeat' (first | exact allOne_bc _ | exact allOne_nil | (refine allOne_int _ _ _ ?_) | (refine allOne_sl _ _ _ _ ?_) | (refine allOne_ptr _ _ ?_) | (refine allOne_map _ _ ?_) | (refine allOne_bool _ _ ?_) | (refine allOne_str _ _ ?_) | (refine allOne_iface _ _ _ ?_) | (refine allOne_app _ _ ?_ ?_))); done) | (simp only [cells_agg, cells_int, cells_bool, cells_str, cells_ptr, cells_sl, cells_map, cells_func, cells_iface, List.size_toArray, Array.size_append, bc_length, List.length_cons, List.length_nil, Nat.zero_add, Nat.reduceAdd, *]; done) | (simp (disch := (first | assumption | (first | omega | (simp only [List.length_cons, List.length_nil, sz_alloc, sz_put, sz_drew]; done) | (simp only [List.length_replicate, List.length_cons, List.length_nil, *]; done) | (simp only [List.size_toArray, List.length_cons, List.length_nil, sz_alloc, sz_put, sz_drew] at *; omega)))) only [MapAt, Hp_drew, Hp_alloc_old, Hp_alloc_new, Hp_put_same, Hp_put_other, *])) only [hkb, hk, Ln_cells, Nat.zero_add, List.size_toArray, Nat.reduceLeDiff, if_pos, ext_bc0, bc_length, ld35]
  refine CallF_by Try.call12 (get_spec h.a k hk now) ?_
  rintro _ w69 ⟨hx1, d, rfl, hd⟩
  have hkb1 := hx1.at hkb not_false
  have h1 := h.ext hx1 fun _ _ _ => not_false
  simp (disch := first | omega | trivial | assumption | (first | omega | (simp only [List.length_cons, List.length_nil, sz_alloc, sz_put, sz_drew]; done) | (simp only [List.length_replicate, List.length_cons, List.length_nil, *]; done) | (simp only [List.size_toArray, List.length_cons, List.length_nil, sz_alloc, sz_put, sz_drew] at *; omega)) | ((repeat' (first | exact allOne_bc _ | exact allOne_nil | (refine allOne_int _ _ _ ?_) | (refine allOne_sl _ _ _ _ ?_) | (refine allOne_ptr _ _ ?_) | (refine allOne_map _ _ ?_) | (refine allOne_bool _ _ ?_) | (refine allOne_str _ _ ?_) | (refine allOne_iface _ _ _ ?_) | (refine allOne_app _ _ ?_ ?_))); done) | (simp only [cells_agg, cells_int, cells_bool, cells_str, cells_ptr, cells_sl, cells_map, cells_func, cells_iface, List.size_toArray, Array.size_append, bc_length, List.length_cons, List.length_nil, Nat.zero_add, Nat.reduceAdd, *]; done) | (simp (disch := (first | assumption | (first | omega | (simp only [List.length_cons, List.length_nil, sz_alloc, sz_put, sz_drew]; done) | (simp only [List.length_replicate, List.length_cons, List.length_nil, *]; done) | (simp only [List.size_toArray, List.length_cons, List.length_nil, sz_alloc, sz_put, sz_drew] at *; omega)))) only [MapAt, Hp_drew, Hp_alloc_old, Hp_alloc_new, Hp_put_same, Hp_put_other, *])) only [hkb1, hk, p_extract0, p_extract1, Ln_cells, Nat.zero_add, List.size_toArray, Nat.reduceLeDiff, if_pos, ext_bc0, bc_length]
  refine CallF_by Try.call13 (rget_spec h1.r k hk now (by omega)) ?_
  rintro _ w70 ⟨hx2, q, rfl, hq⟩
  obtain ⟨g1, g2⟩ := getB_find h.a.good.keys k now
  obtain ⟨g3, g4⟩ := getB_R R k now
  have g5 := get_perm h.rel k now
  have hd' := Eq.subst (motive := fun l => Bytes 5 w69 d l (fun b => sz w13 ≤ b)) g2 hd
  have hq' := Eq.subst (motive := fun l => Bytes 5 w70 q l (QL p mb ub x 0 0)) g4 hq
  rw [g1, g3, g5]
  rw [g5] at hd'
  generalize (match getB k now (bR R) with | some y => y.data | none => []) = gl at hd' hq'
  have c1 := fun K => QRun_eq (run_toStr (P := Try.prog) (Vec.ext hd' hx2 fun _ _ _ => not_false) 37 9 Try.runUnderlying37 Try.runUnderlying9 Try.runUnderlying5) K
  have c2 := fun K => QRun_eq (run_toStr (P := Try.prog) hq' 37 9 Try.runUnderlying37 Try.runUnderlying9 Try.runUnderlying5) K
  simp (disch := first | omega | trivial | assumption | (first | omega | (simp only [List.length_cons, List.length_nil, sz_alloc, sz_put, sz_drew]; done) | (simp only [List.length_replicate, List.length_cons, List.length_nil, *]; done) | (simp only [List.size_toArray, List.length_cons, List.length_nil, sz_alloc, sz_put, sz_drew] at *; omega)) | ((repeat' (first | exact allOne_bc _ | exact allOne_nil | (refine allOne_int _ _ _ ?_) | (refine allOne_sl _ _ _ _ ?_) | (refine allOne_ptr _ _ ?_) | (refine allOne_map _ _ ?_) | (refine allOne_bool _ _ ?_) | (refine allOne_str _ _ ?_) | (refine allOne_iface _ _ _ ?_) | (refine allOne_app _ _ ?_ ?_))); done) | (simp only [cells_agg, cells_int, cells_bool, cells_str, cells_ptr, cells_sl, cells_map, cells_func, cells_iface, List.size_toArray, Array.size_append, bc_length, List.length_cons, List.length_nil, Nat.zero_add, Nat.reduceAdd, *]; done) | (simp (disch := (first | assumption | (first | omega | (simp only [List.length_cons, List.length_nil, sz_alloc, sz_put, sz_drew]; done) | (simp only [List.length_replicate, List.length_cons, List.length_nil, *]; done) | (simp only [List.size_toArray, List.length_cons, List.length_nil, sz_alloc, sz_put, sz_drew] at *; omega)))) only [MapAt, Hp_drew, Hp_alloc_old, Hp_alloc_new, Hp_put_same, Hp_put_other, *])) only [c1, c2, decide_true, cond_false, p_neqBool Try.runUnderlying4, beq_self_eq_true, Pick_bool, cond_false, p_extract0, p_extract1, Branch_bool, Gdn_true, Bool.not_true, true_and, Bool.false_eq_true, false_implies, forall_const, p_neqStr]
  have hx := hx1.trans hx2 fun _ _ h => h
  exact hK _ (hx.mono fun _ _ h => h.elim) ⟨A, R, s, soon, cm, us, cu, h.ext hx fun _ _ _ => not_false⟩
theorem bl_drop (A : List AE) (k : List UInt8) : bl (A.filter fun x => !AE.is k x) = dropB k (bl A) := by
  unfold dropB
  rw [bl, List.filter_map]
  congr 1
  apply List.filter_congr
  intro x _
  show (!decide (k = x.b.key)) = decide (¬ x.b.key = k)
  by_cases e : k = x.b.key
  · simp [e]
  · have : ¬ x.b.key = k := fun h => e h.symm
    simp [e, this]
theorem bR_drop (R : List BV) (k : List UInt8) : bR (R.filter (neK k)) = dropB k (bR R) := by
  unfold dropB; rw [bR, List.filter_map]; rfl
theorem drop_case (f : Fix w0 p mb ub x room quota) (h : PlC w13 p mb ub x room quota 0 0 A R s soon cm us cu) (hk : k.length = 32)
    (hkb : Hp w13 kb = some (.cells (bc k).toArray 35 (0, 0))) (hkM : ¬ M4 p mb ub x kb)
    (hK : ∀ W', Ext (M4 p mb ub x) w13 W' → PlS W' p mb ub x room quota 0 0 → k2 (i64 now) W') : F3x15 (i64 now) (ptr kb 0) (ptr p 0) (ptr x 0) k2 w13 K := by
  have hkl := Hp_lt hkb
  have hl := h.len
  have hlt := h.lt
  unfold F3x15
  have hxd : Ext (fun _ => False) w13 w13.drew := (Ext.refl _ _).drew
  simp (disch := first | omega | trivial | assumption | (first | omega | (simp only [List.length_cons, List.length_nil, sz_alloc, sz_put, sz_drew]; done) | (simp only [List.length_replicate, List.length_cons, List.length_nil, *]; done) | (simp only [List.size_toArray, List.length_cons, List.length_nil, sz_alloc, sz_put, sz_drew] at *; omega)) | ((repeat' (first | exact allOne_bc _ | exact allOne_nil | (refine allOne_int _ _ _ ?_) | (refine allOne_sl _ _ _ _ ?_) | (refine allOne_ptr _ _ ?_) | (refine allOne_map _ _ ?_) | (refine allOne_bool _ _ ?_) | (refine allOne_str _ _ ?_) | (refine allOne_iface _ _ _ ?_) | (refine allOne_app _ _ ?_ ?_))); done) | (simp only [cells_agg, cells_int, cells_bool, cells_str, cells_ptr, cells_sl, cells_map, cells_func, cells_iface, List.size_toArray, Array.size_append, bc_length, List.length_cons, List.length_nil, Nat.zero_add, Nat.reduceAdd, *]; done) | (simp (disch := (first | assumption | (first | omega | (simp only [List.length_cons, List.length_nil, sz_alloc, sz_put, sz_drew]; done) | (simp only [List.length_replicate, List.length_cons, List.length_nil, *]; done) | (simp only [List.size_toArray, List.length_cons, List.length_nil, sz_alloc, sz_put, sz_drew] at *; omega)))) only [MapAt, Hp_drew, Hp_alloc_old, Hp_alloc_new, Hp_put_same, Hp_put_other, *])) only [hkb, hk, Ln_cells, Hp_drew, Nat.zero_add, List.size_toArray, Nat.reduceLeDiff, if_pos, ext_bc0, bc_length, ld35]
  have h1 := h.ext hxd fun _ _ _ => not_false
  refine CallF_by Try.call14 (drop_spec h1.a k hk) ?_
  rintro _ w71 ⟨rfl, hx1, us', cu', hA⟩
  have hx1' : Ext (M4 p mb ub x) w13 w71 := hxd.trans2 hx1 (fun _ _ h => h.elim) fun b _ hm => by rcases hm with e | e | e <;> simp [M4, e]
  have hkb1 := hx1'.at hkb hkM
  have hr1 := h1.r.ext hx1 fun c _ hq hm => by
    rcases hq with hq | rfl
    · exact hm.elim hq.1 fun hm => hm.elim hq.2.1 hq.2.2.1
    · exact hm.elim f.ne.1 fun hm => hm.elim f.ne.2.1 f.ne.2.2
  simp (disch := first | omega | trivial | assumption | (first | omega | (simp only [List.length_cons, List.length_nil, sz_alloc, sz_put, sz_drew]; done) | (simp only [List.length_replicate, List.length_cons, List.length_nil, *]; done) | (simp only [List.size_toArray, List.length_cons, List.length_nil, sz_alloc, sz_put, sz_drew] at *; omega)) | ((repeat' (first | exact allOne_bc _ | exact allOne_nil | (refine allOne_int _ _ _ ?_) | (refine allOne_sl _ _ _ _ ?_) | (refine allOne_ptr _ _ ?_) | (refine allOne_map _ _ ?_) | (refine allOne_bool _ _ ?_) | (refine allOne_str _ _ ?_) | (refine allOne_iface _ _ _ ?_) | (refine allOne_app _ _ ?_ ?_))); done) | (simp only [cells_agg, cells_int, cells_bool, cells_str, cells_ptr, cells_sl, cells_map, cells_func, cells_iface, List.size_toArray, Array.size_append, bc_length, List.length_cons, List.length_nil, Nat.zero_add, Nat.reduceAdd, *]; done) | (simp (disch := (first | assumption | (first | omega | (simp only [List.length_cons, List.length_nil, sz_alloc, sz_put, sz_drew]; done) | (simp only [List.length_replicate, List.length_cons, List.length_nil, *]; done) | (simp only [List.size_toArray, List.length_cons, List.length_nil, sz_alloc, sz_put, sz_drew] at *; omega)))) only [MapAt, Hp_drew, Hp_alloc_old, Hp_alloc_new, Hp_put_same, Hp_put_other, *])) only [hkb1, hk, Ln_cells, Nat.zero_add, List.size_toArray, Nat.reduceLeDiff, if_pos, true_and, ext_bc0, bc_length]
  refine CallF_by Try.call15 (rdrop_spec hr1 k hk (by omega) fun b hb => ?_) ?_
  · have := hx1'.size
    exact ⟨by omega, by omega, by omega, by omega, .inr (Nat.zero_le _)⟩
  rintro _ w72 ⟨rfl, hx2, s', hr⟩
  have e1 : (A.find? (AE.is k)).isSome = decide ((R.filter (neK k)).length < R.length) := by
    rw [← hasK_find, drop_said h.rel.perm k]
    have a1 : (dropB k (bR R)).length = (R.filter (neK k)).length := by rw [← bR_drop, bR, List.length_map]
    rw [a1, bR, List.length_map]
  rw [e1]
  simp (disch := first | omega | trivial | assumption | (first | omega | (simp only [List.length_cons, List.length_nil, sz_alloc, sz_put, sz_drew]; done) | (simp only [List.length_replicate, List.length_cons, List.length_nil, *]; done) | (simp only [List.size_toArray, List.length_cons, List.length_nil, sz_alloc, sz_put, sz_drew] at *; omega)) | ((repeat' (first | exact allOne_bc _ | exact allOne_nil | (refine allOne_int _ _ _ ?_) | (refine allOne_sl _ _ _ _ ?_) | (refine allOne_ptr _ _ ?_) | (refine allOne_map _ _ ?_) | (refine allOne_bool _ _ ?_) | (refine allOne_str _ _ ?_) | (refine allOne_iface _ _ _ ?_) | (refine allOne_app _ _ ?_ ?_))); done) | (simp only [cells_agg, cells_int, cells_bool, cells_str, cells_ptr, cells_sl, cells_map, cells_func, cells_iface, List.size_toArray, Array.size_append, bc_length, List.length_cons, List.length_nil, Nat.zero_add, Nat.reduceAdd, *]; done) | (simp (disch := (first | assumption | (first | omega | (simp only [List.length_cons, List.length_nil, sz_alloc, sz_put, sz_drew]; done) | (simp only [List.length_replicate, List.length_cons, List.length_nil, *]; done) | (simp only [List.size_toArray, List.length_cons, List.length_nil, sz_alloc, sz_put, sz_drew] at *; omega)))) only [MapAt, Hp_drew, Hp_alloc_old, Hp_alloc_new, Hp_put_same, Hp_put_other, *])) only [p_neqBool Try.runUnderlying4, beq_self_eq_true, Branch_bool, Bool.not_true, true_and, Bool.false_eq_true, false_implies, forall_const]
  refine hK _ (hx1'.trans hx2 fun b _ e => by simp [M4, e]) ⟨_, _, s', soon, cm, us', cu', hA.ext hx2 fun c _ hq e => ?_, fun y hy => h.so y (List.mem_filter.1 hy).1, hr, ?_, fun y hy => h.keys y (List.mem_filter.1 hy).1⟩
  · subst e
    rcases hq with hq | hq
    · exact hq.2.2.2.1 rfl
    · exact hq.elim f.ne.1 fun hm => hm.elim f.ne.2.1 f.ne.2.2
  · rw [bl_drop, bR_drop]; exact h.rel.drop k
theorem sweep_case (f : Fix w0 p mb ub x room quota) (h : PlC w13 p mb ub x room quota 0 0 A R s soon cm us cu)
    (hK : ∀ W', Ext (M4 p mb ub x) w13 W' → PlS W' p mb ub x room quota 0 0 → k2 (i64 now) W') : F3x13 (i64 now) (ptr p 0) (ptr x 0) k2 w13 K := by
  have hl := h.len
  have hlt := h.lt
  unfold F3x13
  refine CallF_by Try.call16 (sweep_spec h.a h.so now (by omega)) ?_
  rintro _ w73 ⟨rfl, hx1, soon', us', cu', hso, hA⟩
  have hx1' : Ext (M4 p mb ub x) w13 w73 := hx1.mono fun b _ hm => by rcases hm with e | e | e <;> simp [M4, e]
  have hr1 := h.r.ext hx1 fun c _ hq hm => by
    rcases hq with hq | rfl
    · exact hm.elim hq.1 fun hm => hm.elim hq.2.1 hq.2.2.1
    · exact hm.elim f.ne.1 fun hm => hm.elim f.ne.2.1 f.ne.2.2
  refine CallF_by Try.call17 (rsweep_spec hr1 now (by omega) fun b hb => ?_) ?_
  · have := hx1'.size
    exact ⟨by omega, by omega, by omega, by omega, .inr (Nat.zero_le _)⟩
  rintro _ w74 ⟨rfl, hx2, s', hr⟩
  have hrel := h.rel.sweep now
  rw [← bl_live, ← bR_live] at hrel
  have e1 : (A.filter (AE.live now)).length = (R.filter (liveV now)).length := by
    have := hrel.perm.length_eq
    simpa [bl, bR] using this
  rw [e1, hl.2]
  simp (disch := first | omega | trivial | assumption | (first | omega | (simp only [List.length_cons, List.length_nil, sz_alloc, sz_put, sz_drew]; done) | (simp only [List.length_replicate, List.length_cons, List.length_nil, *]; done) | (simp only [List.size_toArray, List.length_cons, List.length_nil, sz_alloc, sz_put, sz_drew] at *; omega)) | ((repeat' (first | exact allOne_bc _ | exact allOne_nil | (refine allOne_int _ _ _ ?_) | (refine allOne_sl _ _ _ _ ?_) | (refine allOne_ptr _ _ ?_) | (refine allOne_map _ _ ?_) | (refine allOne_bool _ _ ?_) | (refine allOne_str _ _ ?_) | (refine allOne_iface _ _ _ ?_) | (refine allOne_app _ _ ?_ ?_))); done) | (simp only [cells_agg, cells_int, cells_bool, cells_str, cells_ptr, cells_sl, cells_map, cells_func, cells_iface, List.size_toArray, Array.size_append, bc_length, List.length_cons, List.length_nil, Nat.zero_add, Nat.reduceAdd, *]; done) | (simp (disch := (first | assumption | (first | omega | (simp only [List.length_cons, List.length_nil, sz_alloc, sz_put, sz_drew]; done) | (simp only [List.length_replicate, List.length_cons, List.length_nil, *]; done) | (simp only [List.size_toArray, List.length_cons, List.length_nil, sz_alloc, sz_put, sz_drew] at *; omega)))) only [MapAt, Hp_drew, Hp_alloc_old, Hp_alloc_new, Hp_put_same, Hp_put_other, *])) only [decide_true, p_neq, Branch_bool, Bool.not_true, true_and, Bool.false_eq_true, false_implies, forall_const]
  refine hK _ (hx1'.trans hx2 fun b _ e => by simp [M4, e]) ⟨_, _, s', soon', cm, us', cu', hA.ext hx2 fun c _ hq e => ?_, hso, hr, hrel, fun y hy => h.keys y (List.mem_filter.1 hy).1⟩
  subst e
  rcases hq with hq | hq
  · exact hq.2.2.2.1 rfl
  · exact hq.elim f.ne.1 fun hm => hm.elim f.ne.2.1 f.ne.2.2
theorem switch_case (f : Fix w0 p mb ub x room quota) (h : PlC w13 p mb ub x room quota 0 0 A R s soon cm us cu) (hk : k.length = 32) (hk12 : k ∈ keys12) (hi : 0 ≤ i ∧ i ≤ 100) (hnow : 0 ≤ now ∧ now ≤ 1000)
    (hc : Hp w13 cb = some (.cells (callRow kind key size source for_) 33 (0, 0))) (hkb : Hp w13 kb = some (.cells (bc k).toArray 35 (0, 0))) (hkM : ¬ M4 p mb ub x kb) (c : Int)
    (hK : ∀ now' W', now ≤ now' → now' ≤ now + 5 → Ext (M4 p mb ub x) w13 W' → PlS W' p mb ub x room quota 0 0 → k2 (i64 now') W') :
    F3x20 (i64 now) (i64 i) (ptr cb 0) (ptr kb 0) (ptr p 0) (ptr x 0) (i64 c) (.bool (decide (c = 0 ∨ c = 1 ∨ c = 2))) k2 w13 K := by
  have hK0 := fun W' => hK now W' (Int.le_refl _) (by omega)
  have hcl := Hp_lt hc
  unfold F3x20
  by_cases h0 : c = 0 ∨ c = 1 ∨ c = 2
  · rw [decide_eq_true h0]
    simp (disch := first | omega | trivial | assumption | (first | omega | (simp only [List.length_cons, List.length_nil, sz_alloc, sz_put, sz_drew]; done) | (simp only [List.length_replicate, List.length_cons, List.length_nil, *]; done) | (simp only [List.size_toArray, List.length_cons, List.length_nil, sz_alloc, sz_put, sz_drew] at *; omega)) | ((repeat' (first | exact allOne_bc _ | exact allOne_nil | (refine allOne_int _ _ _ ?_) | (refine allOne_sl _ _ _ _ ?_) | (refine allOne_ptr _ _ ?_) | (refine allOne_map _ _ ?_) | (refine allOne_bool _ _ ?_) | (refine allOne_str _ _ ?_) | (refine allOne_iface _ _ _ ?_) | (refine allOne_app _ _ ?_ ?_))); done) | (simp only [cells_agg, cells_int, cells_bool, cells_str, cells_ptr, cells_sl, cells_map, cells_func, cells_iface, List.size_toArray, Array.size_append, bc_length, List.length_cons, List.length_nil, Nat.zero_add, Nat.reduceAdd, *]; done) | (simp (disch := (first | assumption | (first | omega | (simp only [List.length_cons, List.length_nil, sz_alloc, sz_put, sz_drew]; done) | (simp only [List.length_replicate, List.length_cons, List.length_nil, *]; done) | (simp only [List.size_toArray, List.length_cons, List.length_nil, sz_alloc, sz_put, sz_drew] at *; omega)))) only [MapAt, Hp_drew, Hp_alloc_old, Hp_alloc_new, Hp_put_same, Hp_put_other, *])) only [p_eql, Branch_bool, decide_eq_true_eq, decide_eq_false_iff_not, and_true, Bool.true_eq_false, false_implies, forall_const]
    exact put_case f h hk hk12 hi hc hkb hK0
  rw [decide_eq_false h0]
  by_cases h3 : c = 3
  · simp (disch := first | omega | trivial | assumption | (first | omega | (simp only [List.length_cons, List.length_nil, sz_alloc, sz_put, sz_drew]; done) | (simp only [List.length_replicate, List.length_cons, List.length_nil, *]; done) | (simp only [List.size_toArray, List.length_cons, List.length_nil, sz_alloc, sz_put, sz_drew] at *; omega)) | ((repeat' (first | exact allOne_bc _ | exact allOne_nil | (refine allOne_int _ _ _ ?_) | (refine allOne_sl _ _ _ _ ?_) | (refine allOne_ptr _ _ ?_) | (refine allOne_map _ _ ?_) | (refine allOne_bool _ _ ?_) | (refine allOne_str _ _ ?_) | (refine allOne_iface _ _ _ ?_) | (refine allOne_app _ _ ?_ ?_))); done) | (simp only [cells_agg, cells_int, cells_bool, cells_str, cells_ptr, cells_sl, cells_map, cells_func, cells_iface, List.size_toArray, Array.size_append, bc_length, List.length_cons, List.length_nil, Nat.zero_add, Nat.reduceAdd, *]; done) | (simp (disch := (first | assumption | (first | omega | (simp only [List.length_cons, List.length_nil, sz_alloc, sz_put, sz_drew]; done) | (simp only [List.length_replicate, List.length_cons, List.length_nil, *]; done) | (simp only [List.size_toArray, List.length_cons, List.length_nil, sz_alloc, sz_put, sz_drew] at *; omega)))) only [MapAt, Hp_drew, Hp_alloc_old, Hp_alloc_new, Hp_put_same, Hp_put_other, *])) only [h3, decide_true, p_eql, Branch_bool, and_true, true_and, Bool.true_eq_false, Bool.false_eq_true, false_implies, forall_const]
    exact get_case h hk hkb hK0
  have e3 : decide (c = 3) = false := decide_eq_false h3
  unfold F3x17
  by_cases h4 : c = 4
  · subst h4
    simp (disch := first | omega | trivial | assumption | (first | omega | (simp only [List.length_cons, List.length_nil, sz_alloc, sz_put, sz_drew]; done) | (simp only [List.length_replicate, List.length_cons, List.length_nil, *]; done) | (simp only [List.size_toArray, List.length_cons, List.length_nil, sz_alloc, sz_put, sz_drew] at *; omega)) | ((repeat' (first | exact allOne_bc _ | exact allOne_nil | (refine allOne_int _ _ _ ?_) | (refine allOne_sl _ _ _ _ ?_) | (refine allOne_ptr _ _ ?_) | (refine allOne_map _ _ ?_) | (refine allOne_bool _ _ ?_) | (refine allOne_str _ _ ?_) | (refine allOne_iface _ _ _ ?_) | (refine allOne_app _ _ ?_ ?_))); done) | (simp only [cells_agg, cells_int, cells_bool, cells_str, cells_ptr, cells_sl, cells_map, cells_func, cells_iface, List.size_toArray, Array.size_append, bc_length, List.length_cons, List.length_nil, Nat.zero_add, Nat.reduceAdd, *]; done) | (simp (disch := (first | assumption | (first | omega | (simp only [List.length_cons, List.length_nil, sz_alloc, sz_put, sz_drew]; done) | (simp only [List.length_replicate, List.length_cons, List.length_nil, *]; done) | (simp only [List.size_toArray, List.length_cons, List.length_nil, sz_alloc, sz_put, sz_drew] at *; omega)))) only [MapAt, Hp_drew, Hp_alloc_old, Hp_alloc_new, Hp_put_same, Hp_put_other, *])) only [e3, decide_true, p_eql, Branch_bool, decide_eq_true_eq, decide_eq_false_iff_not, and_true, true_and, Bool.true_eq_false, Bool.false_eq_true, false_implies, forall_const]
    exact drop_case f h hk hkb hkM hK0
  have e4 : decide (c = 4) = false := decide_eq_false h4
  by_cases h5 : c = 5
  · subst h5
    simp (disch := first | omega | trivial | assumption | (first | omega | (simp only [List.length_cons, List.length_nil, sz_alloc, sz_put, sz_drew]; done) | (simp only [List.length_replicate, List.length_cons, List.length_nil, *]; done) | (simp only [List.size_toArray, List.length_cons, List.length_nil, sz_alloc, sz_put, sz_drew] at *; omega)) | ((repeat' (first | exact allOne_bc _ | exact allOne_nil | (refine allOne_int _ _ _ ?_) | (refine allOne_sl _ _ _ _ ?_) | (refine allOne_ptr _ _ ?_) | (refine allOne_map _ _ ?_) | (refine allOne_bool _ _ ?_) | (refine allOne_str _ _ ?_) | (refine allOne_iface _ _ _ ?_) | (refine allOne_app _ _ ?_ ?_))); done) | (simp only [cells_agg, cells_int, cells_bool, cells_str, cells_ptr, cells_sl, cells_map, cells_func, cells_iface, List.size_toArray, Array.size_append, bc_length, List.length_cons, List.length_nil, Nat.zero_add, Nat.reduceAdd, *]; done) | (simp (disch := (first | assumption | (first | omega | (simp only [List.length_cons, List.length_nil, sz_alloc, sz_put, sz_drew]; done) | (simp only [List.length_replicate, List.length_cons, List.length_nil, *]; done) | (simp only [List.size_toArray, List.length_cons, List.length_nil, sz_alloc, sz_put, sz_drew] at *; omega)))) only [MapAt, Hp_drew, Hp_alloc_old, Hp_alloc_new, Hp_put_same, Hp_put_other, *])) only [e3, e4, decide_true, p_eql, Branch_bool, and_true, true_and, Bool.true_eq_false, Bool.false_eq_true, false_implies, forall_const]
    exact sweep_case f h hK0
  have e5 : decide (c = 5) = false := decide_eq_false h5
  unfold F3x14
  by_cases h6 : c = 6
  · subst h6
    simp (disch := first | omega | trivial | assumption | (first | omega | (simp only [List.length_cons, List.length_nil, sz_alloc, sz_put, sz_drew]; done) | (simp only [List.length_replicate, List.length_cons, List.length_nil, *]; done) | (simp only [List.size_toArray, List.length_cons, List.length_nil, sz_alloc, sz_put, sz_drew] at *; omega)) | ((repeat' (first | exact allOne_bc _ | exact allOne_nil | (refine allOne_int _ _ _ ?_) | (refine allOne_sl _ _ _ _ ?_) | (refine allOne_ptr _ _ ?_) | (refine allOne_map _ _ ?_) | (refine allOne_bool _ _ ?_) | (refine allOne_str _ _ ?_) | (refine allOne_iface _ _ _ ?_) | (refine allOne_app _ _ ?_ ?_))); done) | (simp only [cells_agg, cells_int, cells_bool, cells_str, cells_ptr, cells_sl, cells_map, cells_func, cells_iface, List.size_toArray, Array.size_append, bc_length, List.length_cons, List.length_nil, Nat.zero_add, Nat.reduceAdd, *]; done) | (simp (disch := (first | assumption | (first | omega | (simp only [List.length_cons, List.length_nil, sz_alloc, sz_put, sz_drew]; done) | (simp only [List.length_replicate, List.length_cons, List.length_nil, *]; done) | (simp only [List.size_toArray, List.length_cons, List.length_nil, sz_alloc, sz_put, sz_drew] at *; omega)))) only [MapAt, Hp_drew, Hp_alloc_old, Hp_alloc_new, Hp_put_same, Hp_put_other, *])) only [e3, e4, e5, hc, decide_true, p_eql, L1_cells, Branch_bool, List.getElem?_toArray, List.getElem?_cons_zero, List.getElem?_cons_succ, Option.elim_some, Nat.zero_add, and_true, true_and, Bool.true_eq_false, Bool.false_eq_true, false_implies, forall_const, fld33_4, ld3]
    refine CallF_by Try.call8 (within_spec for_ 6 (by decide) _) ?_
    rintro _ w75 ⟨rfl, rfl⟩
    have := within_prop for_ 6 (by decide)
    simp (disch := first | omega | trivial | assumption | (first | omega | (simp only [List.length_cons, List.length_nil, sz_alloc, sz_put, sz_drew]; done) | (simp only [List.length_replicate, List.length_cons, List.length_nil, *]; done) | (simp only [List.size_toArray, List.length_cons, List.length_nil, sz_alloc, sz_put, sz_drew] at *; omega)) | ((repeat' (first | exact allOne_bc _ | exact allOne_nil | (refine allOne_int _ _ _ ?_) | (refine allOne_sl _ _ _ _ ?_) | (refine allOne_ptr _ _ ?_) | (refine allOne_map _ _ ?_) | (refine allOne_bool _ _ ?_) | (refine allOne_str _ _ ?_) | (refine allOne_iface _ _ _ ?_) | (refine allOne_app _ _ ?_ ?_))); done) | (simp only [cells_agg, cells_int, cells_bool, cells_str, cells_ptr, cells_sl, cells_map, cells_func, cells_iface, List.size_toArray, Array.size_append, bc_length, List.length_cons, List.length_nil, Nat.zero_add, Nat.reduceAdd, *]; done) | (simp (disch := (first | assumption | (first | omega | (simp only [List.length_cons, List.length_nil, sz_alloc, sz_put, sz_drew]; done) | (simp only [List.length_replicate, List.length_cons, List.length_nil, *]; done) | (simp only [List.size_toArray, List.length_cons, List.length_nil, sz_alloc, sz_put, sz_drew] at *; omega)))) only [MapAt, Hp_drew, Hp_alloc_old, Hp_alloc_new, Hp_put_same, Hp_put_other, *])) only [p_add, wr_in]
    exact hK _ _ (by omega) (by omega) (Ext.refl _ _) ⟨A, R, s, soon, cm, us, cu, h⟩
  have e6 : decide (c = 6) = false := decide_eq_false h6
  simp (disch := first | omega | trivial | assumption | (first | omega | (simp only [List.length_cons, List.length_nil, sz_alloc, sz_put, sz_drew]; done) | (simp only [List.length_replicate, List.length_cons, List.length_nil, *]; done) | (simp only [List.size_toArray, List.length_cons, List.length_nil, sz_alloc, sz_put, sz_drew] at *; omega)) | ((repeat' (first | exact allOne_bc _ | exact allOne_nil | (refine allOne_int _ _ _ ?_) | (refine allOne_sl _ _ _ _ ?_) | (refine allOne_ptr _ _ ?_) | (refine allOne_map _ _ ?_) | (refine allOne_bool _ _ ?_) | (refine allOne_str _ _ ?_) | (refine allOne_iface _ _ _ ?_) | (refine allOne_app _ _ ?_ ?_))); done) | (simp only [cells_agg, cells_int, cells_bool, cells_str, cells_ptr, cells_sl, cells_map, cells_func, cells_iface, List.size_toArray, Array.size_append, bc_length, List.length_cons, List.length_nil, Nat.zero_add, Nat.reduceAdd, *]; done) | (simp (disch := (first | assumption | (first | omega | (simp only [List.length_cons, List.length_nil, sz_alloc, sz_put, sz_drew]; done) | (simp only [List.length_replicate, List.length_cons, List.length_nil, *]; done) | (simp only [List.size_toArray, List.length_cons, List.length_nil, sz_alloc, sz_put, sz_drew] at *; omega)))) only [MapAt, Hp_drew, Hp_alloc_old, Hp_alloc_new, Hp_put_same, Hp_put_other, *])) only [e3, e4, e5, e6, p_eql, Branch_bool, Nat.zero_add, true_and, Bool.false_eq_true, false_implies, forall_const, fld33_4, ld3]
  exact hK0 _ (Ext.refl _ _) ⟨A, R, s, soon, cm, us, cu, h⟩
end
end Go.Proofs
