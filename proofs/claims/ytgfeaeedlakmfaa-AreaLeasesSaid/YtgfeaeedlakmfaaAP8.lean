/- A part of the proof: A.P8. -/
import Derived.Test.YtgfeaeedlakmfaaAP7
import Derived.Test.YtgfeaeedlakmfaaAF3
set_option linter.unusedVariables false
set_option linter.unusedSimpArgs false
set_option linter.unusedSectionVars false
namespace Go.Proofs
open Go Go.Lf
set_option maxRecDepth 20000
set_option maxHeartbeats 2000000
set_option linter.unusedSimpArgs false
set_option linter.unusedVariables false
def sweepB (now : Int) (l : List Blk) : List Blk := l.filter fun b => decide (now < b.exp)
def reletB (k : List UInt8) (e : Int) (x : Blk) : Blk := if x.key = k then { x with exp := max x.exp e } else x
def hasK (k : List UInt8) (l : List Blk) : Bool := l.any fun x => decide (k = x.key)
def putB (room quota now : Int) (b : Blk) (l : List Blk) : Int × List Blk :=
  if b.src < 0 ∨ b.exp ≤ now then (1, l) else if 6000 < (b.data.length : Int) then (5, l) else
  if hasK b.key (sweepB now l) = true then (0, (sweepB now l).map (reletB b.key b.exp))
  else if quota - usedB (sweepB now l) b.src < (b.data.length : Int) then (15, sweepB now l) else if room - totalB (sweepB now l) < (b.data.length : Int) then (16, sweepB now l) else (0, sweepB now l ++ [b])
theorem bl_live (now : Int) (A : List AE) : bl (A.filter (AE.live now)) = sweepB now (bl A) := by
  unfold sweepB; rw [bl, List.filter_map]; rfl
theorem bl_relet (k : List UInt8) (e : Int) (A : List AE) : bl (A.map (relet k e)) = (bl A).map (reletB k e) := by
  simp only [bl, List.map_map]
  refine List.map_congr_left fun x _ => ?_
  show (relet k e x).b = reletB k e x.b
  unfold relet reletB
  split <;> rfl
theorem hasK_find (k : List UInt8) (A : List AE) : hasK k (bl A) = (A.find? (AE.is k)).isSome := by
  unfold hasK
  rw [List.any_map, Bool.eq_iff_iff, List.any_eq_true, List.find?_isSome]
  rfl
theorem total_relet (k : List UInt8) (e : Int) (l : List Blk) : totalB (l.map (reletB k e)) = totalB l := by
  unfold totalB; rw [List.map_map]; congr 1
  refine List.map_congr_left fun x _ => ?_
  show ((reletB k e x).data.length : Int) = _
  unfold reletB; split <;> rfl
theorem used_relet (k : List UInt8) (e : Int) (l : List Blk) (s : Int) : usedB (l.map (reletB k e)) s = usedB l s := by
  unfold usedB; rw [List.map_map]; congr 1
  refine List.map_congr_left fun x _ => ?_
  show lenOf s (reletB k e x) = _
  unfold reletB lenOf; split <;> rfl
section
variable {w : World} {p mb ub : Nat} {room quota soon : Int} {cm : Nat} {A : List AE} {Q : Nat → Prop} {us : Ents Int} {cu : Nat}
theorem updNew (A : List AE) (cm : Nat) (k data : List UInt8) (s e : Int) (d : Value) (hk : k.length = 32) (hg : ∀ x ∈ A, x.b.key.length = 32) (hf : A.find? (AE.is k) = none) (w : World) (mb : Nat) (h : Hp w mb = some (.map (entsOf idv (ents A)) cm)) (K : Unit → World → Prop) :
    Run Try.prog (Instr.mapUpdate 54 (.map (some mb)) (idv k) (.agg ((bc k).toArray ++ #[d, i64 s, i64 e]))) w K = K () (put w mb (.map (entsOf idv (ents (A ++ [((⟨k, data, s, e⟩, d), cm)]))) (cm + 1))) := by
  rw [r_mapUpdate key35 Try.runUnderlying54 (m := ents A) (c := cm) h k hk (ents_ok hg)]
  have h1 : mset (ents A) k (.agg ((bc k).toArray ++ #[d, i64 s, i64 e])) cm = ents (A ++ [((⟨k, data, s, e⟩, d), cm)]) := by
    rw [← mset_ents_new A ((⟨k, data, s, e⟩, d), cm) hf, bcell_arr]; rfl
  have h2 : mclock (ents A) k cm = cm + 1 := by unfold mclock; rw [mget_ents, hf]; rfl
  rw [h1, h2]
theorem updOld (A : List AE) (cm : Nat) (k data : List UInt8) (s e e' : Int) (d : Value) (born : Nat) (hk : k.length = 32) (hg : ∀ x ∈ A, x.b.key.length = 32) (hn : (A.map fun x => x.b.key).Nodup) (hf : A.find? (AE.is k) = some ((⟨k, data, s, e⟩, d), born)) (w : World) (mb : Nat) (h : Hp w mb = some (.map (entsOf idv (ents A)) cm)) (K : Unit → World → Prop) :
    Run Try.prog (Instr.mapUpdate 54 (.map (some mb)) (idv k) (.agg ((bc k).toArray ++ #[d, i64 s, i64 (max e e')]))) w K = K () (put w mb (.map (entsOf idv (ents (A.map (relet k e')))) cm)) := by
  rw [r_mapUpdate key35 Try.runUnderlying54 (m := ents A) (c := cm) h k hk (ents_ok hg)]
  have hre : relet k e' ((⟨k, data, s, e⟩, d), born) = ((⟨k, data, s, max e e'⟩, d), born) := by unfold relet; exact if_pos rfl
  have h1 : mset (ents A) k (.agg ((bc k).toArray ++ #[d, i64 s, i64 (max e e')])) cm = ents (A.map (relet k e')) := by
    rw [← mset_ents_old e' cm A k _ hf hn, hre, bcell_arr]
  have h2 : mclock (ents A) k cm = cm := by unfold mclock; rw [mget_ents, hf]; rfl
  rw [h1, h2]
theorem lookU (us : Ents Int) (cu : Nat) (s : Int) (w : World) (ub : Nat) (h : Hp w ub = some (.map (entsOf (fun n => i64 n) us) cu)) (K : Value → Prop) :
    QRun Try.prog (Instr.lookup 55 (.map (some ub)) (i64 s) false) w K = K ((mget us s).getD (i64 0)) :=
  q_lookup (enc := fun n => i64 n) (m := us) (c := cu) key3 Try.runUnderlying55 Try.zeroValue3 h s trivial (fun _ _ => trivial) K
theorem put_spec (h : AreaC w p mb ub room quota soon cm A Q us cu) (hsoon : ∀ x ∈ A, soon ≤ x.b.exp) (now : Int) (hlen : A.length ≤ 1000000) (b : Blk) (d : Value) {Qd : Nat → Prop} (hd : Bytes 5 w d b.data Qd) (hk : b.key.length = 32)
    (hQd : ∀ b, Qd b → ¬ areaM p mb ub b) (hdl : b.data.length ≤ 1000000) (hQn : ∀ b, sz w ≤ b → Q b) (hQo : ∀ b, Q b → ¬ areaM p mb ub b) :
    Calls Try.prog 10 #[ptr p 0, .agg ((bc b.key).toArray ++ #[d, i64 b.src, i64 b.exp]), i64 now] w (retK fun v w' => v = i64 (putB room quota now b (bl A)).1 ∧ Ext (areaM p mb ub) w w' ∧
      ∃ A' soon' cm' us' cu', bl A' = (putB room quota now b (bl A)).2 ∧ (∀ x ∈ A', soon' ≤ x.b.exp) ∧ AreaC w' p mb ub room quota soon' cm' A' Q us' cu') := by
  obtain ⟨k, data, s, e⟩ := b
  obtain ⟨da, dc, rfl⟩ := Vec.slice hd
  simp only at hk hdl hd ⊢
  refine F10_ok _ _ _ _ _ ?_
  unfold F10
  have hp := h.hp
  have hlp := Hp_lt hp
  have hlm := Hp_lt h.hm
  have hlu := Hp_lt h.hu
  have hw0 : p < sz w ∧ mb < sz w ∧ ub < sz w := ⟨hlp, hlm, hlu⟩
  obtain ⟨I, hI⟩ : ∃ I : Value → World → Prop, I = fun v w' => v = i64 (putB room quota now ⟨k, data, s, e⟩ (bl A)).1 ∧ Ext (areaM p mb ub) w w' ∧
      ∃ A' soon' cm' us' cu', bl A' = (putB room quota now ⟨k, data, s, e⟩ (bl A)).2 ∧ (∀ x ∈ A', soon' ≤ x.b.exp) ∧ AreaC w' p mb ub room quota soon' cm' A' Q us' cu' := ⟨_, rfl⟩
  rw [← hI]
  have hxb : Ext (fun _ => False) w (w.alloc (.cells ((bc k).toArray ++ #[Value.slice da data.length dc, i64 s, i64 e]) 39 (0, 0))) := (Ext.refl _ _).alloc _
  have hret : ∀ n : Int, putB room quota now ⟨k, data, s, e⟩ (bl A) = (n, bl A) → I (i64 n) (w.alloc (.cells ((bc k).toArray ++ #[Value.slice da data.length dc, i64 s, i64 e]) 39 (0, 0))) := fun n hn => by
    rw [hI]
    exact ⟨by rw [hn], hxb.mono fun _ _ h => h.elim, A, soon, cm, us, cu, by rw [hn], hsoon, h.ext hxb fun _ _ _ => not_false⟩
  by_cases hc1 : s < 0
  · have h1 : decide (s < 0) = true := decide_eq_true hc1
    simp (disch := first | omega | trivial | assumption | (first | omega | (simp only [List.length_cons, List.length_nil, sz_alloc, sz_put, sz_drew]; done) | (simp only [List.length_replicate, List.length_cons, List.length_nil, *]; done) | (simp only [List.size_toArray, List.length_cons, List.length_nil, sz_alloc, sz_put, sz_drew] at *; omega)) | ((repeat' (first | exact allOne_bc _ | exact allOne_nil | (refine allOne_int _ _ _ ?_) | (refine allOne_sl _ _ _ _ ?_) | (refine allOne_ptr _ _ ?_) | (refine allOne_map _ _ ?_) | (refine allOne_bool _ _ ?_) | (refine allOne_str _ _ ?_) | (refine allOne_iface _ _ _ ?_) | (refine allOne_app _ _ ?_ ?_))); done) | (simp only [cells_agg, cells_int, cells_bool, cells_str, cells_ptr, cells_sl, cells_map, cells_func, cells_iface, List.size_toArray, Array.size_append, bc_length, List.length_cons, List.length_nil, Nat.zero_add, Nat.reduceAdd, *]; done) | (simp (disch := (first | assumption | (first | omega | (simp only [List.length_cons, List.length_nil, sz_alloc, sz_put, sz_drew]; done) | (simp only [List.length_replicate, List.length_cons, List.length_nil, *]; done) | (simp only [List.size_toArray, List.length_cons, List.length_nil, sz_alloc, sz_put, sz_drew] at *; omega)))) only [MapAt, Hp_drew, Hp_alloc_old, Hp_alloc_new, Hp_put_same, Hp_put_other, *])) only [h1, hk, cond_true, Pick_bool, cond_true, p_lss, r_box, L1_cells, Hp_alloc_new, cells_agg, Branch_bool, Gdn_false, List.getElem?_toArray, List.getElem?_cons_zero, List.getElem?_cons_succ, Option.elim_some, Nat.zero_add, and_true, Bool.true_eq_false, false_implies, forall_const, get_bc, Nat.reduceSub, fld39_2, fld39_3, ld3]
    exact hret 1 (by unfold putB; rw [if_pos (.inl hc1)])
  have h1 : decide (s < 0) = false := decide_eq_false hc1
  by_cases hc2 : e ≤ now
  · have h2 : decide (e ≤ now) = true := decide_eq_true hc2
    simp (disch := first | omega | trivial | assumption | (first | omega | (simp only [List.length_cons, List.length_nil, sz_alloc, sz_put, sz_drew]; done) | (simp only [List.length_replicate, List.length_cons, List.length_nil, *]; done) | (simp only [List.size_toArray, List.length_cons, List.length_nil, sz_alloc, sz_put, sz_drew] at *; omega)) | ((repeat' (first | exact allOne_bc _ | exact allOne_nil | (refine allOne_int _ _ _ ?_) | (refine allOne_sl _ _ _ _ ?_) | (refine allOne_ptr _ _ ?_) | (refine allOne_map _ _ ?_) | (refine allOne_bool _ _ ?_) | (refine allOne_str _ _ ?_) | (refine allOne_iface _ _ _ ?_) | (refine allOne_app _ _ ?_ ?_))); done) | (simp only [cells_agg, cells_int, cells_bool, cells_str, cells_ptr, cells_sl, cells_map, cells_func, cells_iface, List.size_toArray, Array.size_append, bc_length, List.length_cons, List.length_nil, Nat.zero_add, Nat.reduceAdd, *]; done) | (simp (disch := (first | assumption | (first | omega | (simp only [List.length_cons, List.length_nil, sz_alloc, sz_put, sz_drew]; done) | (simp only [List.length_replicate, List.length_cons, List.length_nil, *]; done) | (simp only [List.size_toArray, List.length_cons, List.length_nil, sz_alloc, sz_put, sz_drew] at *; omega)))) only [MapAt, Hp_drew, Hp_alloc_old, Hp_alloc_new, Hp_put_same, Hp_put_other, *])) only [h1, h2, hk, cond_false, Pick_bool, cond_false, p_lss, p_leq, r_box, L1_cells, Hp_alloc_new, cells_agg, Branch_bool, Gdn_true, List.getElem?_toArray, List.getElem?_cons_zero, List.getElem?_cons_succ, Option.elim_some, Nat.zero_add, and_true, Bool.true_eq_false, false_implies, forall_const, get_bc, Nat.reduceSub, fld39_2, fld39_3, ld3]
    exact hret 1 (by unfold putB; rw [if_pos (.inr hc2)])
  have h2 : decide (e ≤ now) = false := decide_eq_false hc2
  simp (disch := first | omega | trivial | assumption | (first | omega | (simp only [List.length_cons, List.length_nil, sz_alloc, sz_put, sz_drew]; done) | (simp only [List.length_replicate, List.length_cons, List.length_nil, *]; done) | (simp only [List.size_toArray, List.length_cons, List.length_nil, sz_alloc, sz_put, sz_drew] at *; omega)) | ((repeat' (first | exact allOne_bc _ | exact allOne_nil | (refine allOne_int _ _ _ ?_) | (refine allOne_sl _ _ _ _ ?_) | (refine allOne_ptr _ _ ?_) | (refine allOne_map _ _ ?_) | (refine allOne_bool _ _ ?_) | (refine allOne_str _ _ ?_) | (refine allOne_iface _ _ _ ?_) | (refine allOne_app _ _ ?_ ?_))); done) | (simp only [cells_agg, cells_int, cells_bool, cells_str, cells_ptr, cells_sl, cells_map, cells_func, cells_iface, List.size_toArray, Array.size_append, bc_length, List.length_cons, List.length_nil, Nat.zero_add, Nat.reduceAdd, *]; done) | (simp (disch := (first | assumption | (first | omega | (simp only [List.length_cons, List.length_nil, sz_alloc, sz_put, sz_drew]; done) | (simp only [List.length_replicate, List.length_cons, List.length_nil, *]; done) | (simp only [List.size_toArray, List.length_cons, List.length_nil, sz_alloc, sz_put, sz_drew] at *; omega)))) only [MapAt, Hp_drew, Hp_alloc_old, Hp_alloc_new, Hp_put_same, Hp_put_other, *])) only [h1, h2, hk, cond_false, Pick_bool, cond_false, p_lss, p_leq, r_box, L1_cells, Hp_alloc_new, cells_agg, Branch_bool, Gdn_true, List.getElem?_toArray, List.getElem?_cons_zero, List.getElem?_cons_succ, Option.elim_some, Nat.zero_add, true_and, Bool.false_eq_true, false_implies, forall_const, get_bc, Nat.reduceSub, fld39_2, fld39_3, ld3]
  unfold F10x6
  simp (disch := first | omega | trivial | assumption | (first | omega | (simp only [List.length_cons, List.length_nil, sz_alloc, sz_put, sz_drew]; done) | (simp only [List.length_replicate, List.length_cons, List.length_nil, *]; done) | (simp only [List.size_toArray, List.length_cons, List.length_nil, sz_alloc, sz_put, sz_drew] at *; omega)) | ((repeat' (first | exact allOne_bc _ | exact allOne_nil | (refine allOne_int _ _ _ ?_) | (refine allOne_sl _ _ _ _ ?_) | (refine allOne_ptr _ _ ?_) | (refine allOne_map _ _ ?_) | (refine allOne_bool _ _ ?_) | (refine allOne_str _ _ ?_) | (refine allOne_iface _ _ _ ?_) | (refine allOne_app _ _ ?_ ?_))); done) | (simp only [cells_agg, cells_int, cells_bool, cells_str, cells_ptr, cells_sl, cells_map, cells_func, cells_iface, List.size_toArray, Array.size_append, bc_length, List.length_cons, List.length_nil, Nat.zero_add, Nat.reduceAdd, *]; done) | (simp (disch := (first | assumption | (first | omega | (simp only [List.length_cons, List.length_nil, sz_alloc, sz_put, sz_drew]; done) | (simp only [List.length_replicate, List.length_cons, List.length_nil, *]; done) | (simp only [List.size_toArray, List.length_cons, List.length_nil, sz_alloc, sz_put, sz_drew] at *; omega)))) only [MapAt, Hp_drew, Hp_alloc_old, Hp_alloc_new, Hp_put_same, Hp_put_other, *])) only [hk, p_gtr, L1_cells, Hp_alloc_new, Branch_bool, List.getElem?_toArray, List.getElem?_cons_zero, Option.elim_some, Nat.zero_add, decide_eq_true_eq, decide_eq_false_iff_not, get_bc, Nat.sub_self, len37, fld39_1, ld37]
  refine ⟨fun hlt => hret 5 (by unfold putB; rw [if_neg (by simp [hc1, hc2]), if_pos hlt]), fun hnl => ?_⟩
  have hput : putB room quota now ⟨k, data, s, e⟩ (bl A) = if hasK k (sweepB now (bl A)) = true then (0, (sweepB now (bl A)).map (reletB k e))
      else if quota - usedB (sweepB now (bl A)) s < (data.length : Int) then (15, sweepB now (bl A)) else if room - totalB (sweepB now (bl A)) < (data.length : Int) then (16, sweepB now (bl A)) else (0, sweepB now (bl A) ++ [⟨k, data, s, e⟩]) := by
    unfold putB; rw [if_neg (by simp [hc1, hc2]), if_neg hnl]
  rw [hput, ← bl_live, hasK_find] at hI
  clear hput hret
  unfold F10x5
  have hb1 : Hp (w.alloc (.cells ((bc k).toArray ++ #[Value.slice da data.length dc, i64 s, i64 e]) 39 (0, 0))) (sz w) = some (.cells ((bc k).toArray ++ #[Value.slice da data.length dc, i64 s, i64 e]) 39 (0, 0)) := Hp_alloc_new _ _ _ rfl
  generalize w.alloc (.cells ((bc k).toArray ++ #[Value.slice da data.length dc, i64 s, i64 e]) 39 (0, 0)) = w1 at *
  have hA1 := h.ext hxb fun _ _ _ => not_false
  refine CallF_by Try.call16 (sweep_spec hA1 hsoon now hlen) ?_
  rintro v w2 ⟨rfl, hx2, soon2, us2, cu2, hsoon2, h2⟩
  have hxx2 : Ext (areaM p mb ub) w w2 := (hxb.mono fun _ _ h => h.elim).trans hx2 fun _ _ h => h
  have hb2 : Hp w2 (sz w) = some (.cells ((bc k).toArray ++ #[Value.slice da data.length dc, i64 s, i64 e]) 39 (0, 0)) := hx2.at hb1 fun e => by rcases e with e | e | e <;> omega
  have hd2 : Bytes 5 w2 (.slice da data.length dc) data Qd := Vec.ext (Vec.ext hd hxb fun _ _ _ => not_false) hx2 fun b _ hq => hQd b hq
  have hlA : (A.filter (AE.live now)).length ≤ 1000000 := Nat.le_trans (List.length_filter_le _ _) hlen
  have hsz1 := hxb.size
  have hsz2 := hxx2.size
  generalize A.filter (AE.live now) = A2 at *
  have hp2 := h2.hp
  have hm2 : Hp w2 mb = some (.map (entsOf idv (ents A2)) cm) := h2.hm
  have hlb := Hp_lt hb2
  have hlp2 := Hp_lt hp2
  have hlm2 := Hp_lt hm2
  clear hp hlp hlm hlu hA1 hb1 hx2 hsoon h hd hxb
  cases hf : A2.find? (AE.is k) with
  | some x =>
    obtain ⟨hxm, hxk⟩ := find_mem hf
    obtain ⟨⟨⟨xk, xd, xs, xe⟩, d⟩, born⟩ := x
    have hxd : Bytes 5 w2 d xd Q := h2.good.data _ hxm
    change xk = k at hxk
    subst hxk
    obtain ⟨xa, xc, rfl⟩ := Vec.slice hxd
    simp (disch := first | omega | trivial | assumption | (first | omega | (simp only [List.length_cons, List.length_nil, sz_alloc, sz_put, sz_drew]; done) | (simp only [List.length_replicate, List.length_cons, List.length_nil, *]; done) | (simp only [List.size_toArray, List.length_cons, List.length_nil, sz_alloc, sz_put, sz_drew] at *; omega)) | ((repeat' (first | exact allOne_bc _ | exact allOne_nil | (refine allOne_int _ _ _ ?_) | (refine allOne_sl _ _ _ _ ?_) | (refine allOne_ptr _ _ ?_) | (refine allOne_map _ _ ?_) | (refine allOne_bool _ _ ?_) | (refine allOne_str _ _ ?_) | (refine allOne_iface _ _ _ ?_) | (refine allOne_app _ _ ?_ ?_))); done) | (simp only [cells_agg, cells_int, cells_bool, cells_str, cells_ptr, cells_sl, cells_map, cells_func, cells_iface, List.size_toArray, Array.size_append, bc_length, List.length_cons, List.length_nil, Nat.zero_add, Nat.reduceAdd, *]; done) | (simp (disch := (first | assumption | (first | omega | (simp only [List.length_cons, List.length_nil, sz_alloc, sz_put, sz_drew]; done) | (simp only [List.length_replicate, List.length_cons, List.length_nil, *]; done) | (simp only [List.size_toArray, List.length_cons, List.length_nil, sz_alloc, sz_put, sz_drew] at *; omega)))) only [MapAt, Hp_drew, Hp_alloc_old, Hp_alloc_new, Hp_put_same, Hp_put_other, *])) only [hb2, hp2, lookA A2 cm hk h2.good.klen, hk, hf, Option.map_some, Option.getD_some, Option.isSome_some, bcell_arr, NilCk_ptr, p_extract0, p_extract1, put_allocN, L1_cells, Ln_cells, St_cells, Hp_drew, Hp_alloc_new, Hp_alloc_old, sz_drew, cells_agg, Branch_bool, List.getElem?_toArray, List.getElem?_cons_zero, List.getElem?_cons_succ, Option.elim_some, Nat.zero_add, Nat.add_zero, List.size_toArray, List.length_cons, List.length_nil, Nat.reduceAdd, Nat.reduceLeDiff, if_pos, and_true, true_and, and_self, Bool.true_eq_false, false_implies, forall_const, ext_bc, splice_bca, bc_length, Array.size_append, List.length_replicate, fld39_0, fld57_3, ld35, ld54, st39, al39, zv39]
    unfold F10x3
    simp (disch := first | omega | trivial | assumption | (first | omega | (simp only [List.length_cons, List.length_nil, sz_alloc, sz_put, sz_drew]; done) | (simp only [List.length_replicate, List.length_cons, List.length_nil, *]; done) | (simp only [List.size_toArray, List.length_cons, List.length_nil, sz_alloc, sz_put, sz_drew] at *; omega)) | ((repeat' (first | exact allOne_bc _ | exact allOne_nil | (refine allOne_int _ _ _ ?_) | (refine allOne_sl _ _ _ _ ?_) | (refine allOne_ptr _ _ ?_) | (refine allOne_map _ _ ?_) | (refine allOne_bool _ _ ?_) | (refine allOne_str _ _ ?_) | (refine allOne_iface _ _ _ ?_) | (refine allOne_app _ _ ?_ ?_))); done) | (simp only [cells_agg, cells_int, cells_bool, cells_str, cells_ptr, cells_sl, cells_map, cells_func, cells_iface, List.size_toArray, Array.size_append, bc_length, List.length_cons, List.length_nil, Nat.zero_add, Nat.reduceAdd, *]; done) | (simp (disch := (first | assumption | (first | omega | (simp only [List.length_cons, List.length_nil, sz_alloc, sz_put, sz_drew]; done) | (simp only [List.length_replicate, List.length_cons, List.length_nil, *]; done) | (simp only [List.size_toArray, List.length_cons, List.length_nil, sz_alloc, sz_put, sz_drew] at *; omega)))) only [MapAt, Hp_drew, Hp_alloc_old, Hp_alloc_new, Hp_put_same, Hp_put_other, *])) only [hb2, hp2, hk, updOld A2 cm xk xd xs xe e _ born hk h2.good.klen h2.good.keys hf, NilCk_ptr, p_max, put_allocN, L1_cells, Ln_cells, St_cells, Hp_drew, Hp_alloc_new, Hp_alloc_old, cells_int, List.getElem?_toArray, List.getElem?_cons_zero, List.getElem?_cons_succ, Option.elim_some, Nat.zero_add, Nat.add_zero, List.size_toArray, List.length_cons, List.length_nil, Nat.reduceAdd, Nat.reduceLeDiff, if_pos, and_self, ext_bca, ext_bc, get_bc, splice_bc, splice_lit, bc_length, Array.size_append, Nat.reduceSub, List.set_cons_zero, List.set_cons_succ, fld39_0, fld39_3, fld57_3, ld3, ld35, ld39, ld54, st3]
    have hx5 : Ext (fun b => b = mb) w2 (put (w2.drew.alloc (Obj.cells ((bc xk).toArray ++ #[Value.slice xa xd.length xc, i64 xs, i64 (max xe e)]) 39)).drew mb (Obj.map (entsOf idv (ents (List.map (relet xk e) A2))) cm)) :=
      (((Ext.refl _ w2).drew.alloc _).drew).put _ _ fun _ => rfl
    have hm5 : Hp (put (w2.drew.alloc (Obj.cells ((bc xk).toArray ++ #[Value.slice xa xd.length xc, i64 xs, i64 (max xe e)]) 39)).drew mb (Obj.map (entsOf idv (ents (List.map (relet xk e) A2))) cm)) mb = some (Obj.map (entsOf idv (ents (List.map (relet xk e) A2))) cm) := Hp_put_same _ _ _ (by (first | omega | (simp only [List.length_cons, List.length_nil, sz_alloc, sz_put, sz_drew]; done) | (simp only [List.length_replicate, List.length_cons, List.length_nil, *]; done) | (simp only [List.size_toArray, List.length_cons, List.length_nil, sz_alloc, sz_put, sz_drew] at *; omega)))
    generalize put (w2.drew.alloc (Obj.cells ((bc xk).toArray ++ #[Value.slice xa xd.length xc, i64 xs, i64 (max xe e)]) 39)).drew mb (Obj.map (entsOf idv (ents (List.map (relet xk e) A2))) cm) = w5 at *
    obtain ⟨hnp, hnu, hnm⟩ := h2.ne
    subst hI
    rw [hf]
    refine ⟨rfl, hxx2.trans hx5 fun b _ h => .inr (.inl h), A2.map (relet xk e), soon2, cm, us2, cu2, bl_relet _ _ _, fun x hx => ?_, ⟨?_, hm5, hx5.at h2.hu (fun e => hnm e.symm), ?_, ⟨?_, ?_, ?_, ?_, ?_⟩, h2.hQ, h2.hroom, h2.hquota, ?_, hnm⟩⟩
    · obtain ⟨y, hy, rfl⟩ := List.mem_map.1 hx
      have := hsoon2 y hy
      unfold relet; split
      · show soon2 ≤ max y.b.exp e; omega
      · exact this
    · rw [bl_relet, total_relet]; exact hx5.at hp2 hnp
    · intro t; rw [bl_relet, used_relet]; exact h2.hus t
    · rw [List.map_map]
      have : ((fun x : AE => x.b.key) ∘ relet xk e) = fun x => x.b.key := funext fun x => relet_key _ _ _
      rw [this]; exact h2.good.keys
    · rw [List.map_map]
      have : ((fun x : AE => x.2) ∘ relet xk e) = fun x => x.2 := funext fun x => relet_born _ _ _
      rw [this]; exact h2.good.borns
    · intro x hx; obtain ⟨y, hy, rfl⟩ := List.mem_map.1 hx; rw [relet_born]; exact h2.good.old y hy
    · intro x hx; obtain ⟨y, hy, rfl⟩ := List.mem_map.1 hx; rw [relet_key]; exact h2.good.klen y hy
    · intro x hx
      obtain ⟨y, hy, rfl⟩ := List.mem_map.1 hx
      rw [(relet_data _ _ _).1, (relet_data _ _ _).2.1]
      exact Vec.ext (h2.good.data y hy) hx5 fun b _ hq e => (h2.hQ b hq).2.1 e
    · rw [bl_relet, total_relet]; exact h2.htot
  | none =>
    have hu2 : Hp w2 ub = some (.map (entsOf (fun n => i64 n) us2) cu2) := h2.hu
    have hlu2 := Hp_lt hu2
    have hue := used_le (bl A2) s
    have htot := h2.htot
    have hro := h2.hroom
    have hqu := h2.hquota
    simp (disch := first | omega | trivial | assumption | (first | omega | (simp only [List.length_cons, List.length_nil, sz_alloc, sz_put, sz_drew]; done) | (simp only [List.length_replicate, List.length_cons, List.length_nil, *]; done) | (simp only [List.size_toArray, List.length_cons, List.length_nil, sz_alloc, sz_put, sz_drew] at *; omega)) | ((repeat' (first | exact allOne_bc _ | exact allOne_nil | (refine allOne_int _ _ _ ?_) | (refine allOne_sl _ _ _ _ ?_) | (refine allOne_ptr _ _ ?_) | (refine allOne_map _ _ ?_) | (refine allOne_bool _ _ ?_) | (refine allOne_str _ _ ?_) | (refine allOne_iface _ _ _ ?_) | (refine allOne_app _ _ ?_ ?_))); done) | (simp only [cells_agg, cells_int, cells_bool, cells_str, cells_ptr, cells_sl, cells_map, cells_func, cells_iface, List.size_toArray, Array.size_append, bc_length, List.length_cons, List.length_nil, Nat.zero_add, Nat.reduceAdd, *]; done) | (simp (disch := (first | assumption | (first | omega | (simp only [List.length_cons, List.length_nil, sz_alloc, sz_put, sz_drew]; done) | (simp only [List.length_replicate, List.length_cons, List.length_nil, *]; done) | (simp only [List.size_toArray, List.length_cons, List.length_nil, sz_alloc, sz_put, sz_drew] at *; omega)))) only [MapAt, Hp_drew, Hp_alloc_old, Hp_alloc_new, Hp_put_same, Hp_put_other, *])) only [hb2, hp2, lookA A2 cm hk h2.good.klen, hk, hf, Option.map_none, Option.getD_none, Option.isSome_none, NilCk_ptr, p_extract0, p_extract1, put_allocN, L1_cells, Ln_cells, St_cells, Hp_drew, Hp_alloc_new, Hp_alloc_old, sz_drew, cells_agg, Branch_bool, List.getElem?_toArray, List.getElem?_cons_zero, List.getElem?_cons_succ, Option.elim_some, Nat.zero_add, Nat.add_zero, List.size_toArray, List.length_cons, List.length_nil, Nat.reduceAdd, Nat.reduceLeDiff, if_pos, true_and, and_self, Bool.false_eq_true, false_implies, forall_const, ext_bc, splice_bca, bc_length, Array.size_append, List.length_replicate, fld39_0, fld57_3, ld35, ld54, st39, al39, zv39]
    unfold F10x4
    simp (disch := first | omega | trivial | assumption | (first | omega | (simp only [List.length_cons, List.length_nil, sz_alloc, sz_put, sz_drew]; done) | (simp only [List.length_replicate, List.length_cons, List.length_nil, *]; done) | (simp only [List.size_toArray, List.length_cons, List.length_nil, sz_alloc, sz_put, sz_drew] at *; omega)) | ((repeat' (first | exact allOne_bc _ | exact allOne_nil | (refine allOne_int _ _ _ ?_) | (refine allOne_sl _ _ _ _ ?_) | (refine allOne_ptr _ _ ?_) | (refine allOne_map _ _ ?_) | (refine allOne_bool _ _ ?_) | (refine allOne_str _ _ ?_) | (refine allOne_iface _ _ _ ?_) | (refine allOne_app _ _ ?_ ?_))); done) | (simp only [cells_agg, cells_int, cells_bool, cells_str, cells_ptr, cells_sl, cells_map, cells_func, cells_iface, List.size_toArray, Array.size_append, bc_length, List.length_cons, List.length_nil, Nat.zero_add, Nat.reduceAdd, *]; done) | (simp (disch := (first | assumption | (first | omega | (simp only [List.length_cons, List.length_nil, sz_alloc, sz_put, sz_drew]; done) | (simp only [List.length_replicate, List.length_cons, List.length_nil, *]; done) | (simp only [List.size_toArray, List.length_cons, List.length_nil, sz_alloc, sz_put, sz_drew] at *; omega)))) only [MapAt, Hp_drew, Hp_alloc_old, Hp_alloc_new, Hp_put_same, Hp_put_other, *])) only [hb2, hp2, hk, lookU us2 cu2 s, h2.hus s, NilCk_ptr, p_sub, p_gtr, L1_cells, Hp_drew, Hp_alloc_old, Branch_bool, List.getElem?_toArray, List.getElem?_cons_zero, List.getElem?_cons_succ, Option.elim_some, Nat.zero_add, decide_eq_true_eq, decide_eq_false_iff_not, get_bc, Nat.sub_self, Nat.reduceSub, wr_in, len37, fld39_1, fld39_2, fld57_2, fld57_4, ld3, ld37, ld55]
    have hx4 : Ext (fun _ => False) w2 (w2.drew.alloc (Obj.cells ((bc (List.replicate 32 0)).toArray ++ #[Value.slice none 0 0, Value.int IntKind.i64 0, Value.int IntKind.i64 0]) 39)) := ((Ext.refl _ w2).drew).alloc _
    generalize w2.drew.alloc (Obj.cells ((bc (List.replicate 32 0)).toArray ++ #[Value.slice none 0 0, Value.int IntKind.i64 0, Value.int IntKind.i64 0]) 39) = w4 at *
    have h4 := h2.ext hx4 fun _ _ _ => not_false
    have hxx4 := hxx2.trans hx4 fun _ _ h => h.elim
    have hb4 := hx4.at hb2 not_false
    have hp4 := h4.hp
    have hd4 : Bytes 5 w4 (.slice da data.length dc) data Qd := Vec.ext hd2 hx4 fun _ _ _ => not_false
    have hlp4 := Hp_lt hp4
    have hs4 := hxx4.size
    have hlu4 := Hp_lt h4.hu
    have hlm4 := Hp_lt h4.hm
    have hlb4 := Hp_lt hb4
    obtain ⟨hnp, hnu, hnm⟩ := h4.ne
    have hret : ∀ (n : Int) (w' : World), Ext (fun _ => False) w4 w' → (if (List.find? (AE.is k) A2).isSome = true then (0, List.map (reletB k e) (bl A2)) else if quota - usedB (bl A2) s < ↑data.length then (15, bl A2) else if room - totalB (bl A2) < ↑data.length then (16, bl A2) else (0, bl A2 ++ [{ key := k, data := data, src := s, exp := e }])) = (n, bl A2) → I (i64 n) w' := fun n w' hx hn => by
      rw [hI]
      refine ⟨by rw [hn], hxx4.trans hx fun _ _ h => h.elim, A2, soon2, cm, us2, cu2, by rw [hn], hsoon2, h4.ext hx fun _ _ _ => not_false⟩
    clear hb2 hp2 hm2 hu2 hlb hlp2 hlm2 hlu2 hd2
    refine ⟨fun hlt => hret 15 _ (Ext.refl _ _).drew (by rw [hf, if_neg (by simp), if_pos hlt]), fun hq1 => ?_⟩
    unfold F10x2
    simp (disch := first | omega | trivial | assumption | (first | omega | (simp only [List.length_cons, List.length_nil, sz_alloc, sz_put, sz_drew]; done) | (simp only [List.length_replicate, List.length_cons, List.length_nil, *]; done) | (simp only [List.size_toArray, List.length_cons, List.length_nil, sz_alloc, sz_put, sz_drew] at *; omega)) | ((repeat' (first | exact allOne_bc _ | exact allOne_nil | (refine allOne_int _ _ _ ?_) | (refine allOne_sl _ _ _ _ ?_) | (refine allOne_ptr _ _ ?_) | (refine allOne_map _ _ ?_) | (refine allOne_bool _ _ ?_) | (refine allOne_str _ _ ?_) | (refine allOne_iface _ _ _ ?_) | (refine allOne_app _ _ ?_ ?_))); done) | (simp only [cells_agg, cells_int, cells_bool, cells_str, cells_ptr, cells_sl, cells_map, cells_func, cells_iface, List.size_toArray, Array.size_append, bc_length, List.length_cons, List.length_nil, Nat.zero_add, Nat.reduceAdd, *]; done) | (simp (disch := (first | assumption | (first | omega | (simp only [List.length_cons, List.length_nil, sz_alloc, sz_put, sz_drew]; done) | (simp only [List.length_replicate, List.length_cons, List.length_nil, *]; done) | (simp only [List.size_toArray, List.length_cons, List.length_nil, sz_alloc, sz_put, sz_drew] at *; omega)))) only [MapAt, Hp_drew, Hp_alloc_old, Hp_alloc_new, Hp_put_same, Hp_put_other, *])) only [hb4, hp4, hk, NilCk_ptr, p_sub, p_gtr, L1_cells, Hp_drew, Branch_bool, List.getElem?_toArray, List.getElem?_cons_zero, List.getElem?_cons_succ, Option.elim_some, Nat.zero_add, decide_eq_true_eq, decide_eq_false_iff_not, get_bc, Nat.sub_self, wr_in, len37, fld39_1, fld57_1, fld57_5, ld3, ld37]
    refine ⟨fun hlt => hret 16 _ (Ext.refl _ _).drew.drew (by rw [hf, if_neg (by simp), if_neg hq1, if_pos hlt]), fun hq2 => ?_⟩
    clear hret
    unfold F10x1
    simp (disch := first | omega | trivial | assumption | (first | omega | (simp only [List.length_cons, List.length_nil, sz_alloc, sz_put, sz_drew]; done) | (simp only [List.length_replicate, List.length_cons, List.length_nil, *]; done) | (simp only [List.size_toArray, List.length_cons, List.length_nil, sz_alloc, sz_put, sz_drew] at *; omega)) | ((repeat' (first | exact allOne_bc _ | exact allOne_nil | (refine allOne_int _ _ _ ?_) | (refine allOne_sl _ _ _ _ ?_) | (refine allOne_ptr _ _ ?_) | (refine allOne_map _ _ ?_) | (refine allOne_bool _ _ ?_) | (refine allOne_str _ _ ?_) | (refine allOne_iface _ _ _ ?_) | (refine allOne_app _ _ ?_ ?_))); done) | (simp only [cells_agg, cells_int, cells_bool, cells_str, cells_ptr, cells_sl, cells_map, cells_func, cells_iface, List.size_toArray, Array.size_append, bc_length, List.length_cons, List.length_nil, Nat.zero_add, Nat.reduceAdd, *]; done) | (simp (disch := (first | assumption | (first | omega | (simp only [List.length_cons, List.length_nil, sz_alloc, sz_put, sz_drew]; done) | (simp only [List.length_replicate, List.length_cons, List.length_nil, *]; done) | (simp only [List.size_toArray, List.length_cons, List.length_nil, sz_alloc, sz_put, sz_drew] at *; omega)))) only [MapAt, Hp_drew, Hp_alloc_old, Hp_alloc_new, Hp_put_same, Hp_put_other, *])) only [hb4, hk, NilCk_ptr, L1_cells, Hp_drew, List.getElem?_toArray, List.getElem?_cons_zero, Option.elim_some, Nat.zero_add, Nat.add_zero, get_bc, Nat.sub_self, fld39_0, fld39_1, fld39_2, fld39_3, fld57_0, fld57_3, ld3, ld35, ld37, ld39, ld54]
    have hd5 : Bytes 5 w4.drew.drew (.slice da data.length dc) data Qd := Vec.ext hd4 ((Ext.refl (fun _ => False) _).drew.drew) fun _ _ _ => not_false
    refine CallF_by Try.call24 (clone_spec hd5 (by omega)) ?_
    rintro v w7 ⟨hv7, hx7⟩
    obtain ⟨va, vc, rfl⟩ := Vec.slice hv7
    have hx7' : Ext (fun _ => False) w4 w7 := ((Ext.refl _ w4).drew.drew).trans hx7 fun _ _ h => h
    have hb7 := hx7'.at hb4 not_false
    have h7 := h4.ext hx7' fun _ _ _ => not_false
    have hp7 := h7.hp
    have hm7 : Hp w7 mb = some (.map (entsOf idv (ents A2)) cm) := h7.hm
    have hlp7 := Hp_lt hp7
    have hlm7 := Hp_lt hm7
    have hlb7 := Hp_lt hb7
    have hu7 : Hp w7 ub = some (.map (entsOf (fun n => i64 n) us2) cu2) := h7.hu
    have hlu7 := Hp_lt hu7
    have hbp : sz w ≠ p := by omega
    have hbm : sz w ≠ mb := by omega
    have hbu : sz w ≠ ub := by omega
    clear hb4 hp4 hlp4 hlu4 hlm4 hd4 hd5
    simp (disch := first | omega | trivial | assumption | (first | omega | (simp only [List.length_cons, List.length_nil, sz_alloc, sz_put, sz_drew]; done) | (simp only [List.length_replicate, List.length_cons, List.length_nil, *]; done) | (simp only [List.size_toArray, List.length_cons, List.length_nil, sz_alloc, sz_put, sz_drew] at *; omega)) | ((repeat' (first | exact allOne_bc _ | exact allOne_nil | (refine allOne_int _ _ _ ?_) | (refine allOne_sl _ _ _ _ ?_) | (refine allOne_ptr _ _ ?_) | (refine allOne_map _ _ ?_) | (refine allOne_bool _ _ ?_) | (refine allOne_str _ _ ?_) | (refine allOne_iface _ _ _ ?_) | (refine allOne_app _ _ ?_ ?_))); done) | (simp only [cells_agg, cells_int, cells_bool, cells_str, cells_ptr, cells_sl, cells_map, cells_func, cells_iface, List.size_toArray, Array.size_append, bc_length, List.length_cons, List.length_nil, Nat.zero_add, Nat.reduceAdd, *]; done) | (simp (disch := (first | assumption | (first | omega | (simp only [List.length_cons, List.length_nil, sz_alloc, sz_put, sz_drew]; done) | (simp only [List.length_replicate, List.length_cons, List.length_nil, *]; done) | (simp only [List.size_toArray, List.length_cons, List.length_nil, sz_alloc, sz_put, sz_drew] at *; omega)))) only [MapAt, Hp_drew, Hp_alloc_old, Hp_alloc_new, Hp_put_same, Hp_put_other, *])) only [hb7, hp7, hk, updNew A2 cm k data s e _ hk h7.good.klen hf, p_min, L1_cells, Ln_cells, St_cells, Hp_drew, Hp_put_same, Hp_put_other, cells_int, cells_sl, List.getElem?_toArray, List.getElem?_cons_zero, List.getElem?_cons_succ, Option.elim_some, Nat.zero_add, List.size_toArray, List.length_cons, List.length_nil, Nat.reduceAdd, Nat.reduceLeDiff, if_pos, and_self, ext_bca, ext_bc, get_bc, splice_bc, splice_lit, bc_length, Array.size_append, Nat.sub_self, Nat.reduceSub, List.set_cons_zero, len37, st3, st37]
    refine CallF_by Try.call25 (count_spec _ p mb ub (min soon2 e) room quota (totalB (bl A2)) s (data.length : Int) us2 cu2 (usedB (bl A2) s) (by (simp (disch := (first | assumption | (first | omega | (simp only [List.length_cons, List.length_nil, sz_alloc, sz_put, sz_drew]; done) | (simp only [List.length_replicate, List.length_cons, List.length_nil, *]; done) | (simp only [List.size_toArray, List.length_cons, List.length_nil, sz_alloc, sz_put, sz_drew] at *; omega)))) only [MapAt, Hp_drew, Hp_alloc_old, Hp_alloc_new, Hp_put_same, Hp_put_other, *])) (by (simp (disch := (first | assumption | (first | omega | (simp only [List.length_cons, List.length_nil, sz_alloc, sz_put, sz_drew]; done) | (simp only [List.length_replicate, List.length_cons, List.length_nil, *]; done) | (simp only [List.size_toArray, List.length_cons, List.length_nil, sz_alloc, sz_put, sz_drew] at *; omega)))) only [MapAt, Hp_drew, Hp_alloc_old, Hp_alloc_new, Hp_put_same, Hp_put_other, *])) (h7.hus s)) ?_
    rintro v w11 ⟨-, rfl⟩
    have hq1' : (data.length : Int) ≤ quota - usedB (bl A2) s := by omega
    have hq2' : (data.length : Int) ≤ room - totalB (bl A2) := by omega
    have hx8 : Ext (fun b => b = sz w ∨ areaM p mb ub b) w7 (put (put (put (put w7 (sz w) (Obj.cells ((bc k).toArray ++ #[Value.slice va data.length vc, i64 s, i64 e]) 39)).drew mb
          (Obj.map (entsOf idv (ents (A2 ++ [(({ key := k, data := data, src := s, exp := e }, Value.slice va data.length vc), cm)]))) (cm + 1))).drew p
        (Obj.cells #[Value.int IntKind.i64 (min soon2 e), i64 room, i64 quota, Value.map (some mb), Value.map (some ub), i64 (totalB (bl A2))] 57)) ub
        (.map (entsOf (fun n => i64 n) (mset us2 s (i64 (wr (usedB (bl A2) s + (data.length : Int)))) cu2)) (mclock us2 s cu2))) :=
      (((((((Ext.refl _ w7).put _ _ fun _ => .inl rfl).drew).put _ _ fun _ => .inr (.inr (.inl rfl))).drew).put _ _ fun _ => .inr (.inl rfl)).put _ _ fun _ => .inr (.inr (.inr rfl)))
    have hm8 : Hp (put (put (put (put w7 (sz w) (Obj.cells ((bc k).toArray ++ #[Value.slice va data.length vc, i64 s, i64 e]) 39)).drew mb
          (Obj.map (entsOf idv (ents (A2 ++ [(({ key := k, data := data, src := s, exp := e }, Value.slice va data.length vc), cm)]))) (cm + 1))).drew p
        (Obj.cells #[Value.int IntKind.i64 (min soon2 e), i64 room, i64 quota, Value.map (some mb), Value.map (some ub), i64 (totalB (bl A2))] 57)) ub
        (.map (entsOf (fun n => i64 n) (mset us2 s (i64 (wr (usedB (bl A2) s + (data.length : Int)))) cu2)) (mclock us2 s cu2))) mb = some (Obj.map (entsOf idv (ents (A2 ++ [(({ key := k, data := data, src := s, exp := e }, Value.slice va data.length vc), cm)]))) (cm + 1)) :=
      (Hp_put_other _ _ _ _ hnm).trans ((Hp_put_other _ _ _ _ fun e => hnp e.symm).trans (Hp_put_same _ _ _ (by (first | omega | (simp only [List.length_cons, List.length_nil, sz_alloc, sz_put, sz_drew]; done) | (simp only [List.length_replicate, List.length_cons, List.length_nil, *]; done) | (simp only [List.size_toArray, List.length_cons, List.length_nil, sz_alloc, sz_put, sz_drew] at *; omega)))))
    have hu8 := Hp_put_same (put (put (put w7 (sz w) (Obj.cells ((bc k).toArray ++ #[Value.slice va data.length vc, i64 s, i64 e]) 39)).drew mb
          (Obj.map (entsOf idv (ents (A2 ++ [(({ key := k, data := data, src := s, exp := e }, Value.slice va data.length vc), cm)]))) (cm + 1))).drew p
        (Obj.cells #[Value.int IntKind.i64 (min soon2 e), i64 room, i64 quota, Value.map (some mb), Value.map (some ub), i64 (totalB (bl A2))] 57)) ub
        (.map (entsOf (fun n => i64 n) (mset us2 s (i64 (wr (usedB (bl A2) s + (data.length : Int)))) cu2)) (mclock us2 s cu2)) (by (first | omega | (simp only [List.length_cons, List.length_nil, sz_alloc, sz_put, sz_drew]; done) | (simp only [List.length_replicate, List.length_cons, List.length_nil, *]; done) | (simp only [List.size_toArray, List.length_cons, List.length_nil, sz_alloc, sz_put, sz_drew] at *; omega)))
    generalize put (put (put (put w7 (sz w) (Obj.cells ((bc k).toArray ++ #[Value.slice va data.length vc, i64 s, i64 e]) 39)).drew mb
          (Obj.map (entsOf idv (ents (A2 ++ [(({ key := k, data := data, src := s, exp := e }, Value.slice va data.length vc), cm)]))) (cm + 1))).drew p
        (Obj.cells #[Value.int IntKind.i64 (min soon2 e), i64 room, i64 quota, Value.map (some mb), Value.map (some ub), i64 (totalB (bl A2))] 57)) ub
        (.map (entsOf (fun n => i64 n) (mset us2 s (i64 (wr (usedB (bl A2) s + (data.length : Int)))) cu2)) (mclock us2 s cu2)) = w8 at *
    have hx9 := hx8.put p (.cells (areaCells (min soon2 e) room quota mb ub (wr (totalB (bl A2) + (data.length : Int)))) 57 (0, 0)) fun _ => .inr (.inl rfl)
    have hs8 := hx8.size
    have ht0 := total_nonneg (bl A2)
    have hblA : bl (A2 ++ [(({ key := k, data := data, src := s, exp := e }, Value.slice va data.length vc), cm)]) = bl A2 ++ [{ key := k, data := data, src := s, exp := e }] := by rw [bl, List.map_append]; rfl
    have htA : totalB (bl A2 ++ [{ key := k, data := data, src := s, exp := e }]) = totalB (bl A2) + (data.length : Int) := by rw [total_append, total_cons]; simp [totalB]
    have huA : ∀ t, usedB (bl A2 ++ [{ key := k, data := data, src := s, exp := e }]) t = usedB (bl A2) t + (if s = t then (data.length : Int) else 0) := fun t => by rw [used_append, used_cons]; simp [usedB, lenOf]
    have hnew : ∀ x ∈ A2, x.b.key ≠ k := fun x hx e => by have := List.find?_eq_none.1 hf x hx; simp [AE.is, e] at this
    have hs7 := hx7'.size
    subst hI
    rw [hf, if_neg (by simp), if_neg hq1, if_neg hq2]
    refine ⟨rfl, (hxx4.trans hx7' fun _ _ h => h.elim).trans hx9 fun b hb h => ?_, _, min soon2 e, cm + 1, _, _, hblA, fun x hx => ?_,
      ⟨?_, (Hp_put_other _ _ _ _ fun e => hnp e.symm).trans hm8, (Hp_put_other _ _ _ _ fun e => hnu e.symm).trans hu8, ?_, ⟨?_, ?_, ?_, ?_, ?_⟩, h2.hQ, h2.hroom, h2.hquota, ?_, hnm⟩⟩
    · rcases h with h | h
      · omega
      · exact h
    · rcases List.mem_append.1 hx with hx | hx
      · have := hsoon2 x hx; omega
      · rw [List.mem_singleton.1 hx]; exact Int.min_le_right _ _
    · rw [Hp_put_same _ _ _ (by omega), hblA, htA, wr_in _ (by omega)]
    · intro t
      rw [mget_mset, hblA, huA]
      by_cases ht : t = s
      · subst ht; rw [if_pos rfl, if_pos rfl, wr_in _ (by omega)]; rfl
      · rw [if_neg ht, if_neg fun e => ht e.symm, h7.hus t, Int.add_zero]
    · rw [List.map_append, List.nodup_append]
      refine ⟨h7.good.keys, by simp, ?_⟩
      intro a ha b hb e
      obtain ⟨x, hx, rfl⟩ := List.mem_map.1 ha
      simp only [List.map_cons, List.map_nil, List.mem_singleton] at hb
      subst hb
      exact hnew x hx e
    · rw [List.map_append, List.nodup_append]
      refine ⟨h7.good.borns, by simp, ?_⟩
      intro a ha b hb e
      obtain ⟨x, hx, rfl⟩ := List.mem_map.1 ha
      simp only [List.map_cons, List.map_nil, List.mem_singleton] at hb
      subst hb
      have := h7.good.old x hx
      omega
    · intro x hx
      rcases List.mem_append.1 hx with hx | hx
      · exact Nat.lt_succ_of_lt (h7.good.old x hx)
      · rw [List.mem_singleton.1 hx]; exact Nat.lt_succ_self _
    · intro x hx
      rcases List.mem_append.1 hx with hx | hx
      · exact h7.good.klen x hx
      · rw [List.mem_singleton.1 hx]; exact hk
    · intro x hx
      rcases List.mem_append.1 hx with hx | hx
      · refine Vec.extc (h7.good.data x hx) hx9 fun b row hb hq e => ?_
        rcases e with e | e
        · subst e; rw [hb7] at hb; simp at hb
        · exact hQo b hq e
      · rw [List.mem_singleton.1 hx]
        refine (Vec.ext hv7 hx9 fun b _ hq e => ?_).mono fun b _ hq => hQn b ?_
        · have hq' : sz w4 ≤ b := hq
          rcases e with e | e | e | e <;> omega
        · have hq' : sz w4 ≤ b := hq
          omega
    · rw [hblA, htA]; omega
end
end Go.Proofs
