/- A part of the proof: A.P6. -/
import Derived.Test.YtgfeaeedlakmfaaAP5
import Derived.Test.YtgfeaeedlakmfaaAArea
set_option linter.unusedVariables false
set_option linter.unusedSimpArgs false
set_option linter.unusedSectionVars false
namespace Go.Proofs
open Go Go.Lf
set_option maxRecDepth 20000
set_option maxHeartbeats 2000000
set_option linter.unusedSimpArgs false
set_option linter.unusedVariables false
/-- What the blocks of an area's list are. -/
structure GoodA (w : World) (A : List AE) (cm : Nat) (Q : Nat → Prop) : Prop where
  keys : (A.map fun x => x.b.key).Nodup
  borns : (A.map fun x => x.2).Nodup
  old : ∀ x ∈ A, x.2 < cm
  klen : ∀ x ∈ A, x.b.key.length = 32
  data : ∀ x ∈ A, Bytes 5 w x.1.2 x.b.data Q
abbrev areaCells (soon room quota : Int) (mb ub : Nat) (total : Int) : Array Value := #[i64 soon, i64 room, i64 quota, .map (some mb), .map (some ub), i64 total]
structure AreaC (w : World) (p mb ub : Nat) (room quota soon : Int) (cm : Nat) (A : List AE) (Q : Nat → Prop) (us : Ents Int) (cu : Nat) : Prop where
  hp : Hp w p = some (.cells (areaCells soon room quota mb ub (totalB (bl A))) 57 (0, 0))
  hm : MapAt w mb idv (ents A) cm
  hu : MapAt w ub (fun n => i64 n) us cu
  hus : ∀ s, (mget us s).getD (i64 0) = i64 (usedB (bl A) s)
  good : GoodA w A cm Q
  hQ : ∀ b, Q b → b ≠ p ∧ b ≠ mb ∧ b ≠ ub
  hroom : 0 ≤ room ∧ room ≤ 1073741824
  hquota : 0 ≤ quota ∧ quota ≤ 1073741824
  htot : totalB (bl A) ≤ 1073741824
  hne : mb ≠ ub
def areaM (p mb ub : Nat) (b : Nat) : Prop := b = p ∨ b = mb ∨ b = ub
theorem GoodA.ext {w w' : World} {A : List AE} {cm : Nat} {Q M : Nat → Prop} (h : GoodA w A cm Q) (x : Ext M w w') (hq : ∀ b, b < sz w → Q b → ¬ M b) : GoodA w' A cm Q :=
  ⟨h.keys, h.borns, h.old, h.klen, fun y hy => Vec.ext (h.data y hy) x hq⟩
theorem AreaC.ext {w w' : World} {p mb ub : Nat} {room quota soon : Int} {cm : Nat} {A : List AE} {Q M : Nat → Prop} {us : Ents Int} {cu : Nat} (h : AreaC w p mb ub room quota soon cm A Q us cu) (x : Ext M w w')
    (hq : ∀ b, b < sz w → (Q b ∨ areaM p mb ub b) → ¬ M b) : AreaC w' p mb ub room quota soon cm A Q us cu :=
  ⟨x.at h.hp (hq _ (Hp_lt h.hp) (.inr (.inl rfl))), x.at h.hm (hq _ (Hp_lt h.hm) (.inr (.inr (.inl rfl)))), x.at h.hu (hq _ (Hp_lt h.hu) (.inr (.inr (.inr rfl)))), h.hus, h.good.ext x fun b hb hQ => hq b hb (.inl hQ), h.hQ, h.hroom, h.hquota, h.htot, h.hne⟩
section
variable {w : World} {p mb ub : Nat} {room quota soon : Int} {cm : Nat} {A : List AE} {Q : Nat → Prop} {us : Ents Int} {cu : Nat}
theorem AreaC.ne (h : AreaC w p mb ub room quota soon cm A Q us cu) : p ≠ mb ∧ p ≠ ub ∧ mb ≠ ub := by
  have hp := h.hp
  have hm : Hp w mb = _ := h.hm
  have hu : Hp w ub = _ := h.hu
  refine ⟨fun e => ?_, fun e => ?_, h.hne⟩
  · subst e; rw [hp] at hm; cases hm
  · subst e; rw [hp] at hu; cases hu
theorem total_spec (h : AreaC w p mb ub room quota soon cm A Q us cu) : Calls Try.prog 20 #[ptr p 0] w (retK fun v w' => v = i64 (totalB (bl A)) ∧ w' = w) := by
  refine F20_ok _ _ _ ?_
  unfold F20
  have hp := h.hp
  simp (disch := first | omega | trivial | assumption | (first | omega | (simp only [List.length_cons, List.length_nil, sz_alloc, sz_put, sz_drew]; done) | (simp only [List.length_replicate, List.length_cons, List.length_nil, *]; done) | (simp only [List.size_toArray, List.length_cons, List.length_nil, sz_alloc, sz_put, sz_drew] at *; omega)) | ((repeat' (first | exact allOne_bc _ | exact allOne_nil | (refine allOne_int _ _ _ ?_) | (refine allOne_sl _ _ _ _ ?_) | (refine allOne_ptr _ _ ?_) | (refine allOne_map _ _ ?_) | (refine allOne_bool _ _ ?_) | (refine allOne_str _ _ ?_) | (refine allOne_iface _ _ _ ?_) | (refine allOne_app _ _ ?_ ?_))); done) | (simp only [cells_agg, cells_int, cells_bool, cells_str, cells_ptr, cells_sl, cells_map, cells_func, cells_iface, List.size_toArray, Array.size_append, bc_length, List.length_cons, List.length_nil, Nat.zero_add, Nat.reduceAdd, *]; done) | (simp (disch := (first | assumption | (first | omega | (simp only [List.length_cons, List.length_nil, sz_alloc, sz_put, sz_drew]; done) | (simp only [List.length_replicate, List.length_cons, List.length_nil, *]; done) | (simp only [List.size_toArray, List.length_cons, List.length_nil, sz_alloc, sz_put, sz_drew] at *; omega)))) only [MapAt, Hp_drew, Hp_alloc_old, Hp_alloc_new, Hp_put_same, Hp_put_other, *])) only [hp, NilCk_ptr, L1_cells, List.getElem?_toArray, List.getElem?_cons_zero, List.getElem?_cons_succ, Option.elim_some, Nat.zero_add, and_true, fld57_5, ld3]
theorem used_spec (h : AreaC w p mb ub room quota soon cm A Q us cu) (s : Int) : Calls Try.prog 22 #[ptr p 0, i64 s] w (retK fun v w' => v = i64 (usedB (bl A) s) ∧ w' = w) := by
  refine F22_ok _ _ _ _ ?_
  unfold F22
  have hp := h.hp
  simp (disch := first | omega | trivial | assumption | (first | omega | (simp only [List.length_cons, List.length_nil, sz_alloc, sz_put, sz_drew]; done) | (simp only [List.length_replicate, List.length_cons, List.length_nil, *]; done) | (simp only [List.size_toArray, List.length_cons, List.length_nil, sz_alloc, sz_put, sz_drew] at *; omega)) | ((repeat' (first | exact allOne_bc _ | exact allOne_nil | (refine allOne_int _ _ _ ?_) | (refine allOne_sl _ _ _ _ ?_) | (refine allOne_ptr _ _ ?_) | (refine allOne_map _ _ ?_) | (refine allOne_bool _ _ ?_) | (refine allOne_str _ _ ?_) | (refine allOne_iface _ _ _ ?_) | (refine allOne_app _ _ ?_ ?_))); done) | (simp only [cells_agg, cells_int, cells_bool, cells_str, cells_ptr, cells_sl, cells_map, cells_func, cells_iface, List.size_toArray, Array.size_append, bc_length, List.length_cons, List.length_nil, Nat.zero_add, Nat.reduceAdd, *]; done) | (simp (disch := (first | assumption | (first | omega | (simp only [List.length_cons, List.length_nil, sz_alloc, sz_put, sz_drew]; done) | (simp only [List.length_replicate, List.length_cons, List.length_nil, *]; done) | (simp only [List.size_toArray, List.length_cons, List.length_nil, sz_alloc, sz_put, sz_drew] at *; omega)))) only [MapAt, Hp_drew, Hp_alloc_old, Hp_alloc_new, Hp_put_same, Hp_put_other, *])) only [hp, q_lookup (enc := fun n => i64 n) key3 Try.runUnderlying55 Try.zeroValue3 h.hu s trivial (fun _ _ => trivial), h.hus s, NilCk_ptr, L1_cells, List.getElem?_toArray, List.getElem?_cons_zero, List.getElem?_cons_succ, Option.elim_some, Nat.zero_add, and_true, fld57_4, ld55]
theorem ents_ok (hg : ∀ x ∈ A, x.b.key.length = 32) : ∀ x ∈ ents A, x.1.length = 32 := by
  intro x hx
  obtain ⟨y, hy, rfl⟩ := List.mem_map.1 hx
  exact hg y hy
theorem lookA (A : List AE) (cm : Nat) {k : List UInt8} (hk : k.length = 32) (hg : ∀ x ∈ A, x.b.key.length = 32) (w : World) (mb : Nat) (h : Hp w mb = some (.map (entsOf idv (ents A)) cm)) (K : Value → Prop) :
    QRun Try.prog (Instr.lookup 54 (.map (some mb)) (idv k) true) w K = K (.tuple #[((A.find? (AE.is k)).map fun x => Value.agg (bcell x.1).toArray).getD z39, .bool ((A.find? (AE.is k)).map fun x => Value.agg (bcell x.1).toArray).isSome]) := by
  rw [q_lookup2 key35 Try.runUnderlying54 hz39 (m := ents A) (c := cm) h k hk (ents_ok hg), mget_ents]
theorem delA (A : List AE) (cm : Nat) {k : List UInt8} (hk : k.length = 32) (hg : ∀ x ∈ A, x.b.key.length = 32) (hn : (A.map fun x => x.b.key).Nodup) (w : World) (mb : Nat) (h : Hp w mb = some (.map (entsOf idv (ents A)) cm)) (X R : Nat) (K : Value → World → Prop) :
    Run Try.prog (Builtin.delete_ #[54, X] R #[.map (some mb), idv k]) w K = K (.tuple #[]) (put w mb (.map (entsOf idv (ents (A.filter fun x => !AE.is k x))) cm)) := by
  rw [r_delete key35 Try.runUnderlying54 (m := ents A) (c := cm) h k hk (ents_ok hg), mdel_ents A k hn]
theorem drop_spec (h : AreaC w p mb ub room quota soon cm A Q us cu) (k : List UInt8) (hk : k.length = 32) :
    Calls Try.prog 14 #[ptr p 0, idv k] w (retK fun v w' => v = .bool (A.find? (AE.is k)).isSome ∧ Ext (areaM p mb ub) w w' ∧ ∃ us' cu', AreaC w' p mb ub room quota soon cm (A.filter fun x => !AE.is k x) Q us' cu') := by
  refine F14_ok _ _ _ _ ?_
  unfold F14
  have hp := h.hp
  have hm : Hp w mb = some (.map (entsOf idv (ents A)) cm) := h.hm
  have hlp := Hp_lt hp
  have hlm := Hp_lt hm
  cases hf : A.find? (AE.is k) with
  | none =>
    simp (disch := first | omega | trivial | assumption | (first | omega | (simp only [List.length_cons, List.length_nil, sz_alloc, sz_put, sz_drew]; done) | (simp only [List.length_replicate, List.length_cons, List.length_nil, *]; done) | (simp only [List.size_toArray, List.length_cons, List.length_nil, sz_alloc, sz_put, sz_drew] at *; omega)) | ((repeat' (first | exact allOne_bc _ | exact allOne_nil | (refine allOne_int _ _ _ ?_) | (refine allOne_sl _ _ _ _ ?_) | (refine allOne_ptr _ _ ?_) | (refine allOne_map _ _ ?_) | (refine allOne_bool _ _ ?_) | (refine allOne_str _ _ ?_) | (refine allOne_iface _ _ _ ?_) | (refine allOne_app _ _ ?_ ?_))); done) | (simp only [cells_agg, cells_int, cells_bool, cells_str, cells_ptr, cells_sl, cells_map, cells_func, cells_iface, List.size_toArray, Array.size_append, bc_length, List.length_cons, List.length_nil, Nat.zero_add, Nat.reduceAdd, *]; done) | (simp (disch := (first | assumption | (first | omega | (simp only [List.length_cons, List.length_nil, sz_alloc, sz_put, sz_drew]; done) | (simp only [List.length_replicate, List.length_cons, List.length_nil, *]; done) | (simp only [List.size_toArray, List.length_cons, List.length_nil, sz_alloc, sz_put, sz_drew] at *; omega)))) only [MapAt, Hp_drew, Hp_alloc_old, Hp_alloc_new, Hp_put_same, Hp_put_other, *])) only [hp, lookA A cm hk h.good.klen, hf, Option.map_none, Option.getD_none, Option.isSome_none, NilCk_ptr, p_extract0, p_extract1, r_box, put_allocN, L1_cells, Ln_cells, St_cells, Hp_drew, Hp_alloc_new, Hp_alloc_old, sz_alloc, sz_drew, cells_agg, Branch_bool, List.getElem?_toArray, List.getElem?_cons_zero, List.getElem?_cons_succ, Option.elim_some, Nat.zero_add, List.size_toArray, List.length_cons, List.length_nil, Nat.reduceAdd, Nat.reduceLeDiff, if_pos, true_and, and_self, Bool.false_eq_true, false_implies, forall_const, ext_bc0, splice_bca, bc_length, Array.size_append, List.length_replicate, fld39_1, fld39_2, fld57_3, ld3, ld35, ld37, ld54, st39, al39, zv39]
    have hx : Ext (fun _ => False) w (((w.alloc (.cells (bc k).toArray 35 (0, 0))).drew).alloc (.cells ((bc (List.replicate 32 0)).toArray ++ #[Value.slice none 0 0, i64 0, i64 0]) 39 (0, 0))) := (((Ext.refl _ w).alloc _).drew).alloc _
    have hA : A.filter (fun x => !AE.is k x) = A := List.filter_eq_self.2 fun x hx => by have := List.find?_eq_none.1 hf x hx; simpa using this
    refine ⟨hx.mono fun _ _ h => h.elim, us, cu, ?_⟩
    rw [hA]
    exact h.ext hx fun _ _ _ => not_false
  | some x =>
    obtain ⟨hxm, hxk⟩ := find_mem hf
    obtain ⟨⟨⟨xk, xd, xs, xe⟩, d⟩, born⟩ := x
    have hd : Bytes 5 w d xd Q := h.good.data _ hxm
    have hkl : xk.length = 32 := h.good.klen _ hxm
    obtain ⟨da, dc, rfl⟩ := Vec.slice hd
    obtain ⟨hnp, hnu, hnm⟩ := h.ne
    have hdp := drop_perm h.good.keys hf
    have hbp : (bl ((({ key := xk, data := xd, src := xs, exp := xe }, Value.slice da xd.length dc), born) :: A.filter fun x => !AE.is k x)).Perm (bl A) := hdp.map _
    have htot : totalB (bl A) = (xd.length : Int) + totalB (bl (A.filter fun x => !AE.is k x)) := by rw [← total_perm hbp, bl, List.map_cons, total_cons]; rfl
    have hused : ∀ s, usedB (bl A) s = (if xs = s then (xd.length : Int) else 0) + usedB (bl (A.filter fun x => !AE.is k x)) s := fun s => by rw [← used_perm hbp, bl, List.map_cons, used_cons]; rfl
    have ht0 := total_nonneg (bl (A.filter fun x => !AE.is k x))
    have htA := h.htot
    have hu0 : Hp w ub = some (.map (entsOf (fun n => i64 n) us) cu) := h.hu
    have hlu := Hp_lt hu0
    simp (disch := first | omega | trivial | assumption | (first | omega | (simp only [List.length_cons, List.length_nil, sz_alloc, sz_put, sz_drew]; done) | (simp only [List.length_replicate, List.length_cons, List.length_nil, *]; done) | (simp only [List.size_toArray, List.length_cons, List.length_nil, sz_alloc, sz_put, sz_drew] at *; omega)) | ((repeat' (first | exact allOne_bc _ | exact allOne_nil | (refine allOne_int _ _ _ ?_) | (refine allOne_sl _ _ _ _ ?_) | (refine allOne_ptr _ _ ?_) | (refine allOne_map _ _ ?_) | (refine allOne_bool _ _ ?_) | (refine allOne_str _ _ ?_) | (refine allOne_iface _ _ _ ?_) | (refine allOne_app _ _ ?_ ?_))); done) | (simp only [cells_agg, cells_int, cells_bool, cells_str, cells_ptr, cells_sl, cells_map, cells_func, cells_iface, List.size_toArray, Array.size_append, bc_length, List.length_cons, List.length_nil, Nat.zero_add, Nat.reduceAdd, *]; done) | (simp (disch := (first | assumption | (first | omega | (simp only [List.length_cons, List.length_nil, sz_alloc, sz_put, sz_drew]; done) | (simp only [List.length_replicate, List.length_cons, List.length_nil, *]; done) | (simp only [List.size_toArray, List.length_cons, List.length_nil, sz_alloc, sz_put, sz_drew] at *; omega)))) only [MapAt, Hp_drew, Hp_alloc_old, Hp_alloc_new, Hp_put_same, Hp_put_other, *])) only [hp, lookA A cm hk h.good.klen, hf, Option.map_some, Option.getD_some, Option.isSome_some, bcell_arr, delA A cm hk h.good.klen h.good.keys, hkl, NilCk_ptr, p_neg, p_extract0, p_extract1, r_box, put_allocN, L1_cells, Ln_cells, St_cells, Hp_drew, Hp_alloc_new, Hp_alloc_old, Hp_put_other, sz_alloc, sz_drew, cells_agg, Branch_bool, List.getElem?_toArray, List.getElem?_cons_zero, List.getElem?_cons_succ, Option.elim_some, Nat.zero_add, List.size_toArray, List.length_cons, List.length_nil, Nat.reduceAdd, Nat.reduceLeDiff, if_pos, and_true, true_and, and_self, Bool.true_eq_false, false_implies, forall_const, ext_bc0, get_bc, splice_bca, bc_length, Array.size_append, Nat.sub_self, Nat.reduceSub, List.length_replicate, wr_in, len37, fld39_1, fld39_2, fld57_3, ld3, ld35, ld37, ld54, st39, al39, zv39]
    refine CallF_by Try.call25 (count_spec _ p mb ub soon room quota (totalB (bl A)) xs (0 - (xd.length : Int)) us cu (usedB (bl A) xs) (by (simp (disch := (first | assumption | (first | omega | (simp only [List.length_cons, List.length_nil, sz_alloc, sz_put, sz_drew]; done) | (simp only [List.length_replicate, List.length_cons, List.length_nil, *]; done) | (simp only [List.size_toArray, List.length_cons, List.length_nil, sz_alloc, sz_put, sz_drew] at *; omega)))) only [MapAt, Hp_drew, Hp_alloc_old, Hp_alloc_new, Hp_put_same, Hp_put_other, *])) (by (simp (disch := (first | assumption | (first | omega | (simp only [List.length_cons, List.length_nil, sz_alloc, sz_put, sz_drew]; done) | (simp only [List.length_replicate, List.length_cons, List.length_nil, *]; done) | (simp only [List.size_toArray, List.length_cons, List.length_nil, sz_alloc, sz_put, sz_drew] at *; omega)))) only [MapAt, Hp_drew, Hp_alloc_old, Hp_alloc_new, Hp_put_same, Hp_put_other, *])) (h.hus xs)) ?_
    rintro v w' ⟨rfl, rfl⟩
    generalize hw4 : put ((w.alloc (Obj.cells (bc k).toArray 35)).drew.alloc (Obj.cells ((bc xk).toArray ++ #[Value.slice da xd.length dc, i64 xs, i64 xe]) 39)).drew mb (Obj.map (entsOf idv (ents (List.filter (fun x => !AE.is k x) A))) cm) = w4
    have hx4 : Ext (areaM p mb ub) w w4 := by
      rw [← hw4]
      exact ((((((Ext.refl _ w).alloc _).drew).alloc _).drew).put _ _ fun _ => .inr (.inl rfl))
    have hm4 : Hp w4 mb = some (.map (entsOf idv (ents (A.filter fun x => !AE.is k x))) cm) := by rw [← hw4]; exact Hp_put_same _ _ _ (by (first | omega | (simp only [List.length_cons, List.length_nil, sz_alloc, sz_put, sz_drew]; done) | (simp only [List.length_replicate, List.length_cons, List.length_nil, *]; done) | (simp only [List.size_toArray, List.length_cons, List.length_nil, sz_alloc, sz_put, sz_drew] at *; omega)))
    have hs4 := hx4.size
    have hx6 := (hx4.put ub (.map (entsOf (fun n => i64 n) (mset us xs (i64 (wr (usedB (bl A) xs + (0 - (xd.length : Int))))) cu)) (mclock us xs cu)) fun _ => .inr (.inr rfl)).put p (.cells (areaCells soon room quota mb ub (wr (totalB (bl A) + (0 - (xd.length : Int))))) 57 (0, 0)) fun _ => .inl rfl
    have hsub : ∀ y, y ∈ A.filter (fun x => !AE.is k x) → y ∈ A := fun y hy => (List.mem_filter.1 hy).1
    have hue := used_le (bl A) xs
    have hue' := hused xs
    rw [if_pos rfl] at hue'
    have hu1 := used_le (bl (A.filter fun x => !AE.is k x)) xs
    refine ⟨hx6, _, _, ⟨?_, ?_, Hp_put_other _ _ _ _ (fun e => hnu e.symm) |>.trans (Hp_put_same _ _ _ (by omega)), ?_, ⟨?_, ?_, ?_, ?_, ?_⟩, h.hQ, h.hroom, h.hquota, by omega, h.hne⟩⟩
    · rw [Hp_put_same _ _ _ (by rw [sz_put]; omega), wr_in _ (by omega), show totalB (bl A) + (0 - (xd.length : Int)) = totalB (bl (A.filter fun x => !AE.is k x)) by omega]
    · exact (Hp_put_other _ _ _ _ fun e => hnp e.symm).trans ((Hp_put_other _ _ _ _ h.hne).trans hm4)
    · intro s
      rw [mget_mset]
      by_cases hs : s = xs
      · subst hs
        rw [if_pos rfl, Option.getD_some, wr_in _ (by omega), hue']
        congr 1; omega
      · rw [if_neg hs, h.hus s, hused s, if_neg fun e => hs e.symm, Int.zero_add]
    · exact (List.Sublist.map _ List.filter_sublist).nodup h.good.keys
    · exact (List.Sublist.map _ List.filter_sublist).nodup h.good.borns
    · exact fun y hy => h.good.old y (hsub y hy)
    · exact fun y hy => h.good.klen y (hsub y hy)
    · refine fun y hy => Vec.ext (h.good.data y (hsub y hy)) hx6 fun b _ hq hb => ?_
      have := h.hQ b hq
      rcases hb with e | e | e
      · exact this.1 e
      · exact this.2.1 e
      · exact this.2.2 e
end
end Go.Proofs
