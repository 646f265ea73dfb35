/- A part of the proof: A.P11. -/
import Derived.Test.YtgfeaeedlakmfaaAP10
set_option linter.unusedVariables false
set_option linter.unusedSimpArgs false
set_option linter.unusedSectionVars false
namespace Go.Proofs
open Go Go.Lf
set_option maxRecDepth 20000
set_option maxHeartbeats 2000000
set_option linter.unusedSimpArgs false
set_option linter.unusedVariables false
theorem mem_total {l : List Blk} {b : Blk} (h : b ∈ l) : (b.data.length : Int) ≤ totalB l := by
  induction l with
  | nil => cases h
  | cons c l ih =>
    rw [total_cons]
    have := total_nonneg l
    rcases List.mem_cons.1 h with rfl | h
    · omega
    · have := ih h; omega
section
variable {w : World} {p mb ub : Nat} {room quota soon : Int} {cm : Nat} {A : List AE} {Q : Nat → Prop} {us : Ents Int} {cu : Nat}
/-- All: the blocks, rising by their keys; their bytes are copies. -/
theorem all_spec (h : AreaC w p mb ub room quota soon cm A Q us cu) (hlen : A.length ≤ 12) :
    Calls Try.prog 19 #[ptr p 0] w (retK fun v w' => Ext (fun _ => False) w w' ∧ ∃ L : List BV, (L.map (·.1)).Perm (bl A) ∧ L.Pairwise leK ∧ Sl bcell 39 35 w' v L (fun b => sz w ≤ b) ∧ ∀ x ∈ L, Bytes 5 w' x.2 x.1.data (fun b => sz w ≤ b)) := by
  refine F19_ok _ _ _ ?_
  unfold F19
  obtain ⟨I, hI⟩ : ∃ I : Value → World → Prop, I = fun v w' => Ext (fun _ => False) w w' ∧ ∃ L : List BV, (L.map (·.1)).Perm (bl A) ∧ L.Pairwise leK ∧ Sl bcell 39 35 w' v L (fun b => sz w ≤ b) ∧ ∀ x ∈ L, Bytes 5 w' x.2 x.1.data (fun b => sz w ≤ b) := ⟨_, rfl⟩
  rw [← hI]
  have hp := h.hp
  simp (disch := first | omega | trivial | assumption | (first | omega | (simp only [List.length_cons, List.length_nil, sz_alloc, sz_put, sz_drew]; done) | (simp only [List.length_replicate, List.length_cons, List.length_nil, *]; done) | (simp only [List.size_toArray, List.length_cons, List.length_nil, sz_alloc, sz_put, sz_drew] at *; omega)) | ((repeat' (first | exact allOne_bc _ | exact allOne_nil | (refine allOne_int _ _ _ ?_) | (refine allOne_sl _ _ _ _ ?_) | (refine allOne_ptr _ _ ?_) | (refine allOne_map _ _ ?_) | (refine allOne_bool _ _ ?_) | (refine allOne_str _ _ ?_) | (refine allOne_iface _ _ _ ?_) | (refine allOne_app _ _ ?_ ?_))); done) | (simp only [cells_agg, cells_int, cells_bool, cells_str, cells_ptr, cells_sl, cells_map, cells_func, cells_iface, List.size_toArray, Array.size_append, bc_length, List.length_cons, List.length_nil, Nat.zero_add, Nat.reduceAdd, *]; done) | (simp (disch := (first | assumption | (first | omega | (simp only [List.length_cons, List.length_nil, sz_alloc, sz_put, sz_drew]; done) | (simp only [List.length_replicate, List.length_cons, List.length_nil, *]; done) | (simp only [List.size_toArray, List.length_cons, List.length_nil, sz_alloc, sz_put, sz_drew] at *; omega)))) only [MapAt, Hp_drew, Hp_alloc_old, Hp_alloc_new, Hp_put_same, Hp_put_other, *])) only [hp, NilCk_ptr, L1_cells, cells_agg, List.getElem?_toArray, List.getElem?_cons_zero, List.getElem?_cons_succ, Option.elim_some, Nat.zero_add, forall_const, fld39_1, fld57_3, ld37, ld54, al39, zv39]
  refine CallF_by Try.call28 (values_spec w mb) ?_
  rintro v w1 ⟨rfl, rfl⟩
  have hx1 : Ext (fun _ => False) w (w.alloc (.cells #[.map (some mb)] 54 (0, 0))) := (Ext.refl _ w).alloc _
  refine CallF_by Try.call27 (sorted_spec (h.ext hx1 fun _ _ _ => not_false) (sz w) (Hp_alloc_new _ _ _ rfl) hlen) ?_
  rintro v w2 ⟨L, hpL, ho, hs, hx2⟩
  have hxx : Ext (fun _ => False) w w2 := hx1.trans hx2 fun _ _ h => h
  have hs' := hs.mono (Q' := fun b => sz w + 1 ≤ b) fun b _ hb => by rw [sz_alloc] at hb; exact hb
  have hd : ∀ x ∈ L, Bytes 5 w2 x.2 x.1.data (fun b => b < sz w) := fun x hx => by
    obtain ⟨y, hy, rfl⟩ := List.mem_map.1 (hpL.mem_iff.1 hx)
    exact (Vec.mono (h.good.data y hy) (Q' := fun b => b < sz w) fun b hb _ => hb).ext hxx fun _ _ _ => not_false
  clear hs hx1 hx2
  have hlen' : L.length ≤ 12 := by rw [hpL.length_eq, List.length_map]; exact hlen
  have hbl : (L.map (·.1)).Perm (bl A) := by
    have := hpL.map (fun x : BV => x.1)
    rwa [List.map_map] at this
  have hlk : ∀ x ∈ L, x.1.key.length = 32 := fun x hx => by
    obtain ⟨y, hy, rfl⟩ := List.mem_map.1 (hpL.mem_iff.1 hx)
    exact h.good.klen y hy
  rcases hs'.2 with ⟨rfl, rfl⟩ | ⟨b, o, cap, row, rfl, hcap, hb, hoc, hr, hbq⟩
  · simp (disch := first | omega | trivial | assumption | (first | omega | (simp only [List.length_cons, List.length_nil, sz_alloc, sz_put, sz_drew]; done) | (simp only [List.length_replicate, List.length_cons, List.length_nil, *]; done) | (simp only [List.size_toArray, List.length_cons, List.length_nil, sz_alloc, sz_put, sz_drew] at *; omega)) | ((repeat' (first | exact allOne_bc _ | exact allOne_nil | (refine allOne_int _ _ _ ?_) | (refine allOne_sl _ _ _ _ ?_) | (refine allOne_ptr _ _ ?_) | (refine allOne_map _ _ ?_) | (refine allOne_bool _ _ ?_) | (refine allOne_str _ _ ?_) | (refine allOne_iface _ _ _ ?_) | (refine allOne_app _ _ ?_ ?_))); done) | (simp only [cells_agg, cells_int, cells_bool, cells_str, cells_ptr, cells_sl, cells_map, cells_func, cells_iface, List.size_toArray, Array.size_append, bc_length, List.length_cons, List.length_nil, Nat.zero_add, Nat.reduceAdd, *]; done) | (simp (disch := (first | assumption | (first | omega | (simp only [List.length_cons, List.length_nil, sz_alloc, sz_put, sz_drew]; done) | (simp only [List.length_replicate, List.length_cons, List.length_nil, *]; done) | (simp only [List.size_toArray, List.length_cons, List.length_nil, sz_alloc, sz_put, sz_drew] at *; omega)))) only [MapAt, Hp_drew, Hp_alloc_old, Hp_alloc_new, Hp_put_same, Hp_put_other, *])) only [len47]
    refine Loop1 (fun v w3 => v = i64 0 ∧ w3 = w2) (fun _ _ => 0) ⟨rfl, rfl⟩ ?_
    rintro _ _ ⟨rfl, rfl⟩
    simp (disch := first | omega | trivial | assumption | (first | omega | (simp only [List.length_cons, List.length_nil, sz_alloc, sz_put, sz_drew]; done) | (simp only [List.length_replicate, List.length_cons, List.length_nil, *]; done) | (simp only [List.size_toArray, List.length_cons, List.length_nil, sz_alloc, sz_put, sz_drew] at *; omega)) | ((repeat' (first | exact allOne_bc _ | exact allOne_nil | (refine allOne_int _ _ _ ?_) | (refine allOne_sl _ _ _ _ ?_) | (refine allOne_ptr _ _ ?_) | (refine allOne_map _ _ ?_) | (refine allOne_bool _ _ ?_) | (refine allOne_str _ _ ?_) | (refine allOne_iface _ _ _ ?_) | (refine allOne_app _ _ ?_ ?_))); done) | (simp only [cells_agg, cells_int, cells_bool, cells_str, cells_ptr, cells_sl, cells_map, cells_func, cells_iface, List.size_toArray, Array.size_append, bc_length, List.length_cons, List.length_nil, Nat.zero_add, Nat.reduceAdd, *]; done) | (simp (disch := (first | assumption | (first | omega | (simp only [List.length_cons, List.length_nil, sz_alloc, sz_put, sz_drew]; done) | (simp only [List.length_replicate, List.length_cons, List.length_nil, *]; done) | (simp only [List.size_toArray, List.length_cons, List.length_nil, sz_alloc, sz_put, sz_drew] at *; omega)))) only [MapAt, Hp_drew, Hp_alloc_old, Hp_alloc_new, Hp_put_same, Hp_put_other, *])) only [p_add, p_lss, Branch_bool, Nat.reduceLT, decide_eq_true_eq, decide_eq_false_iff_not, wr_in]
    refine ⟨fun h => absurd h (by simp), fun _ => ?_⟩
    rw [hI]
    exact ⟨hxx, [], hbl, ho, Sl.nil _ _ _ _ _, by simp⟩
  simp (disch := first | omega | trivial | assumption | (first | omega | (simp only [List.length_cons, List.length_nil, sz_alloc, sz_put, sz_drew]; done) | (simp only [List.length_replicate, List.length_cons, List.length_nil, *]; done) | (simp only [List.size_toArray, List.length_cons, List.length_nil, sz_alloc, sz_put, sz_drew] at *; omega)) | ((repeat' (first | exact allOne_bc _ | exact allOne_nil | (refine allOne_int _ _ _ ?_) | (refine allOne_sl _ _ _ _ ?_) | (refine allOne_ptr _ _ ?_) | (refine allOne_map _ _ ?_) | (refine allOne_bool _ _ ?_) | (refine allOne_str _ _ ?_) | (refine allOne_iface _ _ _ ?_) | (refine allOne_app _ _ ?_ ?_))); done) | (simp only [cells_agg, cells_int, cells_bool, cells_str, cells_ptr, cells_sl, cells_map, cells_func, cells_iface, List.size_toArray, Array.size_append, bc_length, List.length_cons, List.length_nil, Nat.zero_add, Nat.reduceAdd, *]; done) | (simp (disch := (first | assumption | (first | omega | (simp only [List.length_cons, List.length_nil, sz_alloc, sz_put, sz_drew]; done) | (simp only [List.length_replicate, List.length_cons, List.length_nil, *]; done) | (simp only [List.size_toArray, List.length_cons, List.length_nil, sz_alloc, sz_put, sz_drew] at *; omega)))) only [MapAt, Hp_drew, Hp_alloc_old, Hp_alloc_new, Hp_put_same, Hp_put_other, *])) only [len47]
  obtain ⟨J, hJ⟩ : ∃ J : Value → World → Prop, J = fun v w3 => ∃ (i : Nat) (L' : List BV) (row' : Array Value), v = i64 (i : Int) ∧ i ≤ L.length ∧ L'.map (·.1) = L.map (·.1) ∧ Ext (fun x => x = b) w2 w3 ∧ Hp w3 b = some (.cells row' 39 (0, 0)) ∧ row'.size = row.size ∧ VRow bcell 35 row' o L' ∧
      ∀ j x, L'[j]? = some x → (j < i → Bytes 5 w3 x.2 x.1.data (fun b => sz w2 ≤ b)) ∧ (i ≤ j → Bytes 5 w3 x.2 x.1.data (fun b => b < sz w)) := ⟨_, rfl⟩
  refine Loop1 J (fun v _ => L.length - (match v with | .int _ n => n.toNat | _ => 0)) (by
    rw [hJ]
    exact ⟨0, L, row, rfl, Nat.zero_le _, rfl, Ext.refl _ _, hb, rfl, hr, fun j x hx => ⟨fun h => absurd h (Nat.not_lt_zero _), fun _ => hd x (List.mem_of_getElem? hx)⟩⟩) ?_
  intro v w3 hJ3
  rw [hJ] at hJ3
  obtain ⟨i, L', row', rfl, hi, hmap, hx3, hb3, hsz3, hr3, hdat⟩ := hJ3
  have hll : L'.length = L.length := by have := congrArg List.length hmap; simpa using this
  have htot := h.htot
  by_cases hlt : i < L.length
  · have hlt' : ((i : Int) < (L.length : Int)) := by omega
    obtain ⟨x, hx⟩ : ∃ x, L'[i]? = some x := ⟨_, List.getElem?_eq_getElem (by omega)⟩
    have hdx := (hdat i x hx).2 (Nat.le_refl _)
    have hxm : x ∈ L' := List.mem_of_getElem? hx
    have hxl : x.1 ∈ L.map (·.1) := by rw [← hmap]; exact List.mem_map_of_mem (f := fun x : BV => x.1) hxm
    have hxk : x.1.key.length = 32 := by obtain ⟨y, hy, e⟩ := List.mem_map.1 hxl; rw [← e]; exact hlk y hy
    have hxt := mem_total (hbl.mem_iff.1 hxl)
    have hget := hr3.get hx
    have hcell := fun (u : Value) => hr3.setCell (x' := (x.1, u)) (v := u) (j := 32) hx (by decide) (by simp [bcell, List.set_append_right, bc_length, hxk])
    obtain ⟨⟨k, data, s, e⟩, d⟩ := x
    simp only at hxk hxt hdx
    obtain ⟨da, dc, rfl⟩ := Vec.slice hdx
    rw [bcell_arr] at hget
    simp only at hget
    have hbd := hr3.2.1
    have hid := idx_lt (z := 35) hlt
    rw [hll] at hbd
    have hin : o + i * 35 + 35 ≤ row'.size := by omega
    have hlb3 := Hp_lt hb3
    simp (disch := first | omega | trivial | assumption | (first | omega | (simp only [List.length_cons, List.length_nil, sz_alloc, sz_put, sz_drew]; done) | (simp only [List.length_replicate, List.length_cons, List.length_nil, *]; done) | (simp only [List.size_toArray, List.length_cons, List.length_nil, sz_alloc, sz_put, sz_drew] at *; omega)) | ((repeat' (first | exact allOne_bc _ | exact allOne_nil | (refine allOne_int _ _ _ ?_) | (refine allOne_sl _ _ _ _ ?_) | (refine allOne_ptr _ _ ?_) | (refine allOne_map _ _ ?_) | (refine allOne_bool _ _ ?_) | (refine allOne_str _ _ ?_) | (refine allOne_iface _ _ _ ?_) | (refine allOne_app _ _ ?_ ?_))); done) | (simp only [cells_agg, cells_int, cells_bool, cells_str, cells_ptr, cells_sl, cells_map, cells_func, cells_iface, List.size_toArray, Array.size_append, bc_length, List.length_cons, List.length_nil, Nat.zero_add, Nat.reduceAdd, *]; done) | (simp (disch := (first | assumption | (first | omega | (simp only [List.length_cons, List.length_nil, sz_alloc, sz_put, sz_drew]; done) | (simp only [List.length_replicate, List.length_cons, List.length_nil, *]; done) | (simp only [List.size_toArray, List.length_cons, List.length_nil, sz_alloc, sz_put, sz_drew] at *; omega)))) only [MapAt, Hp_drew, Hp_alloc_old, Hp_alloc_new, Hp_put_same, Hp_put_other, *])) only [hlt', hb3, hget, hxk, p_add, p_lss, put_allocN, L1_cells, Ln_cells, St_cells, Hp_alloc_new, cells_agg, Branch_bool, List.getElem?_toArray, List.getElem?_cons_zero, Option.elim_some, Nat.zero_add, List.size_toArray, List.length_cons, List.length_nil, Nat.reduceAdd, Nat.reduceLeDiff, if_pos, decide_eq_true_eq, decide_eq_false_iff_not, and_self, forall_const, get_bc, splice_bca, bc_length, Array.size_append, Nat.sub_self, List.length_replicate, wr_in, Int.toNat_natCast, fld39_1, ix47, ld39, st39]
    refine ⟨?_, fun h => absurd trivial h⟩
    have hx5 : Ext (fun _ => False) w3 (w3.alloc (Obj.cells ((bc k).toArray ++ #[Value.slice da data.length dc, i64 s, i64 e]) 39)) := (Ext.refl _ w3).alloc _
    refine CallF_by Try.call24 (clone_spec (Vec.ext hdx hx5 fun _ _ _ => not_false) (by omega)) ?_
    rintro u w6 ⟨hu, hx6⟩
    have hxx6 : Ext (fun _ => False) w3 w6 := hx5.trans hx6 fun _ _ h => h
    have hb6 := hxx6.at hb3 not_false
    have hlb6 := Hp_lt hb6
    obtain ⟨ua, uc, rfl⟩ := Vec.slice hu
    have hs6 : (splice row' (o + i * 35 + 32) #[Value.slice ua data.length uc]).size = row'.size := splice_size (by simp; omega)
    simp (disch := first | omega | trivial | assumption | (first | omega | (simp only [List.length_cons, List.length_nil, sz_alloc, sz_put, sz_drew]; done) | (simp only [List.length_replicate, List.length_cons, List.length_nil, *]; done) | (simp only [List.size_toArray, List.length_cons, List.length_nil, sz_alloc, sz_put, sz_drew] at *; omega)) | ((repeat' (first | exact allOne_bc _ | exact allOne_nil | (refine allOne_int _ _ _ ?_) | (refine allOne_sl _ _ _ _ ?_) | (refine allOne_ptr _ _ ?_) | (refine allOne_map _ _ ?_) | (refine allOne_bool _ _ ?_) | (refine allOne_str _ _ ?_) | (refine allOne_iface _ _ _ ?_) | (refine allOne_app _ _ ?_ ?_))); done) | (simp only [cells_agg, cells_int, cells_bool, cells_str, cells_ptr, cells_sl, cells_map, cells_func, cells_iface, List.size_toArray, Array.size_append, bc_length, List.length_cons, List.length_nil, Nat.zero_add, Nat.reduceAdd, *]; done) | (simp (disch := (first | assumption | (first | omega | (simp only [List.length_cons, List.length_nil, sz_alloc, sz_put, sz_drew]; done) | (simp only [List.length_replicate, List.length_cons, List.length_nil, *]; done) | (simp only [List.size_toArray, List.length_cons, List.length_nil, sz_alloc, sz_put, sz_drew] at *; omega)))) only [MapAt, Hp_drew, Hp_alloc_old, Hp_alloc_new, Hp_put_same, Hp_put_other, *])) only [hb6, St_cells, cells_sl, Nat.zero_add, List.size_toArray, List.length_cons, List.length_nil, if_pos, true_and, st37]
    have hx7 : Ext (fun x => x = b) w6 (put w6 b (Obj.cells (splice row' (o + i * 35 + 32) #[Value.slice ua data.length uc]) 39)) := (Ext.refl _ _).put _ _ fun _ => rfl
    have hx37 : Ext (fun x => x = b) w3 (put w6 b (Obj.cells (splice row' (o + i * 35 + 32) #[Value.slice ua data.length uc]) 39)) := (hxx6.mono fun _ _ h => h.elim).trans hx7 fun _ _ h => h
    have hs23 := hx3.size
    have hlb2 := Hp_lt hb
    have hs35 := hx5.size
    subst hJ
    refine ⟨⟨i + 1, _, _, by simp, hlt, ?_, hx3.trans hx37 fun _ _ h => h, Hp_put_same _ _ _ hlb6, by rw [hs6, hsz3], hcell _, ?_⟩, by omega⟩
    · rw [List.map_set, ← hmap]
      have : (L'.map (·.1))[i]? = some ⟨k, data, s, e⟩ := by rw [List.getElem?_map, hx]; rfl
      apply List.ext_getElem?
      intro m
      rw [List.getElem?_set]
      by_cases e1 : i = m
      · subst e1; rw [if_pos rfl, if_pos (List.getElem?_eq_some_iff.1 this).1]; exact this.symm
      · rw [if_neg e1]
    · intro j x hj
      rw [List.getElem?_set] at hj
      by_cases e1 : i = j
      · subst e1
        rw [if_pos rfl, if_pos (by omega)] at hj
        cases hj
        refine ⟨fun _ => ?_, fun h => by omega⟩
        refine (Vec.ext hu hx7 fun b' _ hq e => by subst e; omega).mono fun b' _ hq => by omega
      · rw [if_neg e1] at hj
        have := hdat j x hj
        refine ⟨fun h => (this.1 (by omega)).ext hx37 fun b' _ hq e => by omega, fun h => (this.2 (by omega)).ext hx37 fun b' _ hq e => by omega⟩
  · have hge : ¬ ((i : Int) < (L.length : Int)) := by omega
    simp (disch := first | omega | trivial | assumption | (first | omega | (simp only [List.length_cons, List.length_nil, sz_alloc, sz_put, sz_drew]; done) | (simp only [List.length_replicate, List.length_cons, List.length_nil, *]; done) | (simp only [List.size_toArray, List.length_cons, List.length_nil, sz_alloc, sz_put, sz_drew] at *; omega)) | ((repeat' (first | exact allOne_bc _ | exact allOne_nil | (refine allOne_int _ _ _ ?_) | (refine allOne_sl _ _ _ _ ?_) | (refine allOne_ptr _ _ ?_) | (refine allOne_map _ _ ?_) | (refine allOne_bool _ _ ?_) | (refine allOne_str _ _ ?_) | (refine allOne_iface _ _ _ ?_) | (refine allOne_app _ _ ?_ ?_))); done) | (simp only [cells_agg, cells_int, cells_bool, cells_str, cells_ptr, cells_sl, cells_map, cells_func, cells_iface, List.size_toArray, Array.size_append, bc_length, List.length_cons, List.length_nil, Nat.zero_add, Nat.reduceAdd, *]; done) | (simp (disch := (first | assumption | (first | omega | (simp only [List.length_cons, List.length_nil, sz_alloc, sz_put, sz_drew]; done) | (simp only [List.length_replicate, List.length_cons, List.length_nil, *]; done) | (simp only [List.size_toArray, List.length_cons, List.length_nil, sz_alloc, sz_put, sz_drew] at *; omega)))) only [MapAt, Hp_drew, Hp_alloc_old, Hp_alloc_new, Hp_put_same, Hp_put_other, *])) only [hge, p_add, p_lss, Branch_bool, decide_eq_true_eq, decide_eq_false_iff_not, true_and, false_implies, wr_in, Int.toNat_natCast]
    intro _
    rw [hI]
    have hi' : i = L.length := by omega
    refine ⟨hxx.trans hx3 fun b' hb' e => by omega, L', by rw [hmap]; exact hbl, ?_, ⟨fun x hx => hr3.1 x hx, .inr ⟨b, o, cap, row', by rw [hll], by rw [hll]; exact hcap, hb3, by rw [hsz3]; exact hoc, hr3, by omega⟩⟩, ?_⟩
    · have : ∀ l : List BV, l.Pairwise leK ↔ (l.map (·.1)).Pairwise (fun x y => cmpB x.key y.key ≤ 0) := fun l => by rw [List.pairwise_map]; rfl
      rw [this, hmap, ← this]; exact ho
    · intro x hx
      obtain ⟨j, hj⟩ := List.getElem?_of_mem hx
      have hjl := (List.getElem?_eq_some_iff.1 hj).1
      have hs := hxx.size
      exact ((hdat j x hj).1 (by omega)).mono fun b' _ hq => by omega
end
end Go.Proofs
