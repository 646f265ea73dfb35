/- A part of the proof: A.P7. -/
import Derived.Test.YtgfeaeedlakmfaaAP6
set_option linter.unusedVariables false
set_option linter.unusedSimpArgs false
set_option linter.unusedSectionVars false
namespace Go.Proofs
open Go Go.Lf
set_option maxRecDepth 20000
set_option maxHeartbeats 2000000
set_option linter.unusedSimpArgs false
set_option linter.unusedVariables false
theorem clone_spec {w : World} {v : Value} {l : List UInt8} {Q : Nat → Prop} (h : Bytes 5 w v l Q) (hl : l.length ≤ 2000000000) :
    Calls Try.prog 24 #[v] w (retK fun u w' => Bytes 5 w' u l (fun b => sz w ≤ b) ∧ Ext (fun _ => False) w w') := by
  refine F24_ok _ _ _ ?_
  unfold F24
  rcases h.2 with ⟨rfl, h2⟩ | ⟨b, o, cap, row, rfl, hn, hb, ho, hc, hQ⟩
  · have : l = [] := List.length_eq_zero_iff.1 h2
    subst this
    simp (disch := first | omega | trivial | assumption | (first | omega | (simp only [List.length_cons, List.length_nil, sz_alloc, sz_put, sz_drew]; done) | (simp only [List.length_replicate, List.length_cons, List.length_nil, *]; done) | (simp only [List.size_toArray, List.length_cons, List.length_nil, sz_alloc, sz_put, sz_drew] at *; omega)) | ((repeat' (first | exact allOne_bc _ | exact allOne_nil | (refine allOne_int _ _ _ ?_) | (refine allOne_sl _ _ _ _ ?_) | (refine allOne_ptr _ _ ?_) | (refine allOne_map _ _ ?_) | (refine allOne_bool _ _ ?_) | (refine allOne_str _ _ ?_) | (refine allOne_iface _ _ _ ?_) | (refine allOne_app _ _ ?_ ?_))); done) | (simp only [cells_agg, cells_int, cells_bool, cells_str, cells_ptr, cells_sl, cells_map, cells_func, cells_iface, List.size_toArray, Array.size_append, bc_length, List.length_cons, List.length_nil, Nat.zero_add, Nat.reduceAdd, *]; done) | (simp (disch := (first | assumption | (first | omega | (simp only [List.length_cons, List.length_nil, sz_alloc, sz_put, sz_drew]; done) | (simp only [List.length_replicate, List.length_cons, List.length_nil, *]; done) | (simp only [List.size_toArray, List.length_cons, List.length_nil, sz_alloc, sz_put, sz_drew] at *; omega)))) only [MapAt, Hp_drew, Hp_alloc_old, Hp_alloc_new, Hp_put_same, Hp_put_other, *])) only [Option.isNone_none, Branch_bool, and_true, Bool.true_eq_false, false_implies, forall_const, eqln37, bs37_0]
    exact ⟨Vec.nil _ _ _ _, Ext.refl _ _⟩
  · simp (disch := first | omega | trivial | assumption | (first | omega | (simp only [List.length_cons, List.length_nil, sz_alloc, sz_put, sz_drew]; done) | (simp only [List.length_replicate, List.length_cons, List.length_nil, *]; done) | (simp only [List.size_toArray, List.length_cons, List.length_nil, sz_alloc, sz_put, sz_drew] at *; omega)) | ((repeat' (first | exact allOne_bc _ | exact allOne_nil | (refine allOne_int _ _ _ ?_) | (refine allOne_sl _ _ _ _ ?_) | (refine allOne_ptr _ _ ?_) | (refine allOne_map _ _ ?_) | (refine allOne_bool _ _ ?_) | (refine allOne_str _ _ ?_) | (refine allOne_iface _ _ _ ?_) | (refine allOne_app _ _ ?_ ?_))); done) | (simp only [cells_agg, cells_int, cells_bool, cells_str, cells_ptr, cells_sl, cells_map, cells_func, cells_iface, List.size_toArray, Array.size_append, bc_length, List.length_cons, List.length_nil, Nat.zero_add, Nat.reduceAdd, *]; done) | (simp (disch := (first | assumption | (first | omega | (simp only [List.length_cons, List.length_nil, sz_alloc, sz_put, sz_drew]; done) | (simp only [List.length_replicate, List.length_cons, List.length_nil, *]; done) | (simp only [List.size_toArray, List.length_cons, List.length_nil, sz_alloc, sz_put, sz_drew] at *; omega)))) only [MapAt, Hp_drew, Hp_alloc_old, Hp_alloc_new, Hp_put_same, Hp_put_other, *])) only [Option.isNone_some, bs37_0, Branch_bool, true_and, Bool.false_eq_true, false_implies, forall_const, eqln37, bs37_0]
    have hx : Ext (fun _ => False) w (w.alloc (.cells #[] 5 (0, 0))) := (Ext.refl _ _).alloc _
    refine ap37 37 (Vec.fresh (e := 5) (z := 1) (n := 0) #[] rfl) (h.ext hx fun _ _ _ => not_false).src (bc_one l) (by omega) ?_
    intro v' w' hv hx'
    rw [Nat.zero_add, List.nil_append] at hv
    refine ⟨hv.mono fun b _ hb => ?_, hx.trans hx' fun b hb e => ?_⟩
    · rcases hb with e | e
      · simp only [blockOf, Option.some.injEq] at e; omega
      · rw [e, sz_alloc]; omega
    · simp only [blockOf, Option.some.injEq] at e; omega
def AE.live (now : Int) (x : AE) : Bool := decide (now < x.b.exp)
def leftN (w : World) (mb it : Nat) : Nat := match Hp w mb, Hp w it with
  | some (.map es _), some (.mapIter _ _ seen _) => (es.filter fun e => !seen.contains e.born).size
  | _, _ => 0
theorem leftN_eq {w : World} {mb it cm b c : Nat} {m : Ents (List UInt8)} {seen : Array Nat} {a : Option Nat} (hm : Hp w mb = some (.map (entsOf idv m) cm)) (hi : Hp w it = some (.mapIter a b seen c)) : leftN w mb it = (mleft m seen).length := by
  unfold leftN; rw [hm, hi]
  show ((entsOf idv m).filter fun e => !seen.contains e.born).size = _
  unfold entsOf mleft
  rw [List.filter_toArray, List.filter_map, List.size_toArray, List.length_map]; rfl
theorem filter_lt {α : Type} {p : α → Bool} {l : List α} {x : α} (h : x ∈ l) (hp : p x = false) : (l.filter p).length < l.length := by
  induction l with
  | nil => cases h
  | cons y l ih =>
    rw [List.filter_cons]
    rcases List.mem_cons.1 h with rfl | h
    · rw [hp]; simp; exact Nat.lt_succ_of_le (List.length_filter_le _ _)
    · have := ih h
      by_cases hy : p y = true
      · rw [if_pos hy]; simp only [List.length_cons]; omega
      · rw [if_neg hy]; simp only [List.length_cons]; omega
section
variable {w : World} {p mb ub : Nat} {room quota soon : Int} {cm : Nat} {A : List AE} {Q : Nat → Prop} {us : Ents Int} {cu : Nat}
theorem AreaC.mono {Q' : Nat → Prop} (h : AreaC w p mb ub room quota soon cm A Q us cu) (hq : ∀ b, b < sz w → Q b → Q' b) (hQ' : ∀ b, Q' b → b ≠ p ∧ b ≠ mb ∧ b ≠ ub) : AreaC w p mb ub room quota soon cm A Q' us cu :=
  ⟨h.hp, h.hm, h.hu, h.hus, ⟨h.good.keys, h.good.borns, h.good.old, h.good.klen, fun x hx => Vec.mono (h.good.data x hx) hq⟩, hQ', h.hroom, h.hquota, h.htot, h.hne⟩
theorem AreaC.soon' (h : AreaC w p mb ub room quota soon cm A Q us cu) (s : Int) : AreaC (put w p (.cells (areaCells s room quota mb ub (totalB (bl A))) 57 (0, 0))) p mb ub room quota s cm A Q us cu := by
  obtain ⟨h1, h2, h3⟩ := h.ne
  exact ⟨Hp_put_same _ _ _ (Hp_lt h.hp), (Hp_put_other _ _ _ _ fun e => h1 e.symm).trans h.hm, (Hp_put_other _ _ _ _ fun e => h2 e.symm).trans h.hu, h.hus,
    h.good.ext ((Ext.refl (fun b => b = p) w).put _ _ fun _ => rfl) fun b _ hq e => (h.hQ b hq).1 e, h.hQ, h.hroom, h.hquota, h.htot, h.hne⟩
theorem inj_of_nodup {α β : Type} {f : α → β} : ∀ {l : List α}, (l.map f).Nodup → ∀ {x y : α}, x ∈ l → y ∈ l → f x = f y → x = y
  | [], _, _, _, h, _, _ => by cases h
  | a :: l, hn, x, y, hx, hy, e => by
    rw [List.map_cons, List.nodup_cons] at hn
    rcases List.mem_cons.1 hx with h1 | h1 <;> rcases List.mem_cons.1 hy with h2 | h2
    · rw [h1, h2]
    · subst h1; exact absurd (e ▸ List.mem_map_of_mem (f := f) h2) hn.1
    · subst h2; exact absurd (e ▸ List.mem_map_of_mem (f := f) h1) hn.1
    · exact inj_of_nodup hn.2 h1 h2 e
theorem AreaC.drewC (h : AreaC w p mb ub room quota soon cm A Q us cu) : AreaC w.drew p mb ub room quota soon cm A Q us cu := h.ext ((Ext.refl (fun _ => False) w).drew) fun _ _ _ => not_false
theorem mem_ents {A : List AE} {x : List UInt8 × Value × Nat} (h : x ∈ ents A) : ∃ y ∈ A, x = (y.b.key, .agg (bcell y.1).toArray, y.2) := by
  obtain ⟨y, hy, e⟩ := List.mem_map.1 h
  exact ⟨y, hy, e.symm⟩
set_option maxHeartbeats 2000000 in
theorem sweep_spec (h : AreaC w p mb ub room quota soon cm A Q us cu) (hsoon : ∀ x ∈ A, soon ≤ x.b.exp) (now : Int) (hlen : A.length ≤ 1000000) :
    Calls Try.prog 16 #[ptr p 0, i64 now] w (retK fun v w' => v = i64 ((A.length : Int) - ((A.filter (AE.live now)).length : Int)) ∧ Ext (areaM p mb ub) w w' ∧
      ∃ soon' us' cu', (∀ x ∈ A.filter (AE.live now), soon' ≤ x.b.exp) ∧ AreaC w' p mb ub room quota soon' cm (A.filter (AE.live now)) Q us' cu') := by
  refine F16_ok _ _ _ _ ?_
  unfold F16
  have hp := h.hp
  have hm : Hp w mb = some (.map (entsOf idv (ents A)) cm) := h.hm
  have hlp := Hp_lt hp
  have hlm := Hp_lt hm
  obtain ⟨hnp, hnu, hnm⟩ := h.ne
  simp (disch := first | omega | trivial | assumption | (first | omega | (simp only [List.length_cons, List.length_nil, sz_alloc, sz_put, sz_drew]; done) | (simp only [List.length_replicate, List.length_cons, List.length_nil, *]; done) | (simp only [List.size_toArray, List.length_cons, List.length_nil, sz_alloc, sz_put, sz_drew] at *; omega)) | ((repeat' (first | exact allOne_bc _ | exact allOne_nil | (refine allOne_int _ _ _ ?_) | (refine allOne_sl _ _ _ _ ?_) | (refine allOne_ptr _ _ ?_) | (refine allOne_map _ _ ?_) | (refine allOne_bool _ _ ?_) | (refine allOne_str _ _ ?_) | (refine allOne_iface _ _ _ ?_) | (refine allOne_app _ _ ?_ ?_))); done) | (simp only [cells_agg, cells_int, cells_bool, cells_str, cells_ptr, cells_sl, cells_map, cells_func, cells_iface, List.size_toArray, Array.size_append, bc_length, List.length_cons, List.length_nil, Nat.zero_add, Nat.reduceAdd, *]; done) | (simp (disch := (first | assumption | (first | omega | (simp only [List.length_cons, List.length_nil, sz_alloc, sz_put, sz_drew]; done) | (simp only [List.length_replicate, List.length_cons, List.length_nil, *]; done) | (simp only [List.size_toArray, List.length_cons, List.length_nil, sz_alloc, sz_put, sz_drew] at *; omega)))) only [MapAt, Hp_drew, Hp_alloc_old, Hp_alloc_new, Hp_put_same, Hp_put_other, *])) only [hp, NilCk_ptr, p_lss, L1_cells, St_cells, Hp_drew, Hp_put_same, sz_alloc, cells_agg, cells_int, Branch_bool, List.getElem?_toArray, List.getElem?_cons_zero, List.getElem?_cons_succ, Option.elim_some, Nat.zero_add, Nat.add_zero, List.size_toArray, List.length_cons, List.length_nil, Nat.reduceAdd, Nat.reduceLeDiff, if_pos, decide_eq_true_eq, decide_eq_false_iff_not, and_self, forall_const, splice_lit, List.set_cons_zero, fld39_3, fld57_0, fld57_3, ld3, ld35, ld54, st3, al35, al39, zv35, zv39]
  refine ⟨fun hlt => ?_, fun hge => ?_⟩
  · have hA : A.filter (AE.live now) = A := List.filter_eq_self.2 fun x hx => by have := hsoon x hx; simp only [AE.live, decide_eq_true_eq]; omega
    rw [hA]
    exact ⟨by simp, Ext.refl _ _, soon, us, cu, hsoon, h⟩
  have hm1 : Hp (put w p (.cells #[i64 9223372036854775807, i64 room, i64 quota, .map (some mb), .map (some ub), i64 (totalB (bl A))] 57 (0, 0))) mb = some (.map (entsOf idv (ents A)) cm) := (Hp_put_other _ _ _ _ fun e => hnp e.symm).trans hm
  have hr := r_rangeMap Try.runUnderlying54 (m := ents A) (enc := idv) (c := cm) hm1
  simp (disch := first | omega | trivial | assumption | (first | omega | (simp only [List.length_cons, List.length_nil, sz_alloc, sz_put, sz_drew]; done) | (simp only [List.length_replicate, List.length_cons, List.length_nil, *]; done) | (simp only [List.size_toArray, List.length_cons, List.length_nil, sz_alloc, sz_put, sz_drew] at *; omega)) | ((repeat' (first | exact allOne_bc _ | exact allOne_nil | (refine allOne_int _ _ _ ?_) | (refine allOne_sl _ _ _ _ ?_) | (refine allOne_ptr _ _ ?_) | (refine allOne_map _ _ ?_) | (refine allOne_bool _ _ ?_) | (refine allOne_str _ _ ?_) | (refine allOne_iface _ _ _ ?_) | (refine allOne_app _ _ ?_ ?_))); done) | (simp only [cells_agg, cells_int, cells_bool, cells_str, cells_ptr, cells_sl, cells_map, cells_func, cells_iface, List.size_toArray, Array.size_append, bc_length, List.length_cons, List.length_nil, Nat.zero_add, Nat.reduceAdd, *]; done) | (simp (disch := (first | assumption | (first | omega | (simp only [List.length_cons, List.length_nil, sz_alloc, sz_put, sz_drew]; done) | (simp only [List.length_replicate, List.length_cons, List.length_nil, *]; done) | (simp only [List.size_toArray, List.length_cons, List.length_nil, sz_alloc, sz_put, sz_drew] at *; omega)))) only [MapAt, Hp_drew, Hp_alloc_old, Hp_alloc_new, Hp_put_same, Hp_put_other, *])) only [hr, sz_put]
  have hlu := Hp_lt h.hu
  have hx1 : Ext (areaM p mb ub) w (put w p (.cells #[i64 9223372036854775807, i64 room, i64 quota, .map (some mb), .map (some ub), i64 (totalB (bl A))] 57 (0, 0))) := (Ext.refl _ _).put _ _ fun _ => .inl rfl
  obtain ⟨I, hI⟩ : ∃ I : Value → World → Prop, I = fun v w2 => ∃ (A2 : List AE) (vis : Array Nat) (soon2 : Int) (us2 : Ents Int) (cu2 : Nat), v = i64 ((A.length : Int) - (A2.length : Int)) ∧ AreaC w2 p mb ub room quota soon2 cm A2 (fun b => Q b ∧ b < sz w) us2 cu2 ∧
      Ext (areaM p mb ub) w w2 ∧ Hp w2 (sz w) = some (.mapIter (some mb) cm vis cm) ∧ A2.Sublist A ∧ A2.filter (AE.live now) = A.filter (AE.live now) ∧ ∀ x ∈ A2, vis.contains x.2 = true → now < x.b.exp ∧ soon2 ≤ x.b.exp := ⟨_, rfl⟩
  refine Loop1 I (fun _ w2 => leftN w2 mb (sz w)) (hI ▸ ⟨A, #[], 9223372036854775807, us, cu, by simp, ?_, hx1.alloc _, Hp_alloc_new _ _ _ (by rw [sz_put]), List.Sublist.refl _, rfl, by simp⟩) ?_
  · refine AreaC.ext ((h.mono (Q' := fun b => Q b ∧ b < sz w) (fun b hb hq => ⟨hq, hb⟩) fun b hb => h.hQ b hb.1).soon' 9223372036854775807) ((Ext.refl (fun _ => False) _).alloc _) fun _ _ _ => not_false
  intro v2 w2 hI2
  rw [hI] at hI2
  obtain ⟨A2, vis, soon2, us2, cu2, rfl, h2, hx2, hit, hsub, hlive, hvis⟩ := hI2
  have hm2 : Hp w2 mb = some (.map (entsOf idv (ents A2)) cm) := h2.hm
  have hs2 := hx2.size
  refine r_nextMap (m := ents A2) (enc := idv) hm2 hit (fun x hx => by obtain ⟨y, hy, rfl⟩ := mem_ents hx; exact h2.good.old y hy) 0 ?_ ?_
  · intro hnil
    simp (disch := first | omega | trivial | assumption | (first | omega | (simp only [List.length_cons, List.length_nil, sz_alloc, sz_put, sz_drew]; done) | (simp only [List.length_replicate, List.length_cons, List.length_nil, *]; done) | (simp only [List.size_toArray, List.length_cons, List.length_nil, sz_alloc, sz_put, sz_drew] at *; omega)) | ((repeat' (first | exact allOne_bc _ | exact allOne_nil | (refine allOne_int _ _ _ ?_) | (refine allOne_sl _ _ _ _ ?_) | (refine allOne_ptr _ _ ?_) | (refine allOne_map _ _ ?_) | (refine allOne_bool _ _ ?_) | (refine allOne_str _ _ ?_) | (refine allOne_iface _ _ _ ?_) | (refine allOne_app _ _ ?_ ?_))); done) | (simp only [cells_agg, cells_int, cells_bool, cells_str, cells_ptr, cells_sl, cells_map, cells_func, cells_iface, List.size_toArray, Array.size_append, bc_length, List.length_cons, List.length_nil, Nat.zero_add, Nat.reduceAdd, *]; done) | (simp (disch := (first | assumption | (first | omega | (simp only [List.length_cons, List.length_nil, sz_alloc, sz_put, sz_drew]; done) | (simp only [List.length_replicate, List.length_cons, List.length_nil, *]; done) | (simp only [List.size_toArray, List.length_cons, List.length_nil, sz_alloc, sz_put, sz_drew] at *; omega)))) only [MapAt, Hp_drew, Hp_alloc_old, Hp_alloc_new, Hp_put_same, Hp_put_other, *])) only [p_add, p_extract0, Branch_bool, true_and, Bool.false_eq_true, false_implies, forall_const]
    have hall : ∀ x ∈ A2, vis.contains x.2 = true := fun x hx => by
      have := List.filter_eq_nil_iff.1 hnil (x.b.key, .agg (bcell x.1).toArray, x.2) (List.mem_map_of_mem (f := fun x : AE => (x.b.key, Value.agg (bcell x.1).toArray, x.2)) hx)
      simpa using this
    have hA2 : A2.filter (AE.live now) = A2 := List.filter_eq_self.2 fun x hx => by simp only [AE.live, decide_eq_true_eq]; exact (hvis x hx (hall x hx)).1
    rw [← hlive, hA2]
    exact ⟨rfl, hx2, soon2, us2, cu2, fun x hx => (hvis x hx (hall x hx)).2, h2.mono (fun b _ hb => hb.1) h.hQ⟩
  intro e hel w3 hw3
  obtain ⟨y, hy, rfl⟩ := mem_ents (List.mem_filter.1 hel).1
  obtain ⟨⟨⟨yk, yd, ys, ye⟩, d⟩, yb⟩ := y
  have hd : Bytes 5 w2 d yd _ := h2.good.data _ hy
  have hkl : yk.length = 32 := h2.good.klen _ hy
  obtain ⟨da, dc, rfl⟩ := Vec.slice hd
  obtain ⟨y, ey⟩ : ∃ y : AE, y = (({ key := yk, data := yd, src := ys, exp := ye }, Value.slice da yd.length dc), yb) := ⟨_, rfl⟩
  rw [← ey] at hy hel ⊢
  have hnv : vis.contains y.2 = false := by have := (List.mem_filter.1 hel).2; simpa using this
  have hx3 : Ext (fun _ => False) w2 w3 := by rcases hw3 with rfl | rfl; exact Ext.refl _ _; exact (Ext.refl _ _).drew
  have hx4 : Ext (fun b => b = sz w) w2 (put w3 (sz w) (.mapIter (some mb) cm (vis.push y.2) cm)) := (hx3.mono fun _ _ h => h.elim).put _ _ fun _ => rfl
  have hit4 : Hp (put w3 (sz w) (.mapIter (some mb) cm (vis.push y.2) cm)) (sz w) = some (.mapIter (some mb) cm (vis.push y.2) cm) := Hp_put_same _ _ _ (Nat.lt_of_lt_of_le (Hp_lt hit) hx3.size)
  have hl2 := leftN_eq hm2 hit
  have hs4 : sz (put w3 (sz w) (.mapIter (some mb) cm (vis.push y.2) cm)) = sz w3 := sz_put _ _ _
  have hs3 := hx3.size
  have h4 := h2.ext hx4 fun b hb hq e => by
    subst e
    rcases hq with hq | hq | hq | hq
    · exact absurd hq.2 (Nat.lt_irrefl _)
    · omega
    · omega
    · omega
  have hxx4 : Ext (areaM p mb ub) w (put w3 (sz w) (.mapIter (some mb) cm (vis.push y.2) cm)) := hx2.trans hx4 fun b hb e => by omega
  have hm4 : Hp (put w3 (sz w) (.mapIter (some mb) cm (vis.push y.2) cm)) mb = some (.map (entsOf idv (ents A2)) cm) := h4.hm
  have hp4 := h4.hp
  simp only []
  have hmem : (y.b.key, Value.agg (bcell y.1).toArray, y.2) ∈ ents A2 := List.mem_map_of_mem (f := fun x : AE => (x.b.key, Value.agg (bcell x.1).toArray, x.2)) hy
  have hbi : ∀ z ∈ ents A2, z.2.2 = y.2 → z = (y.b.key, Value.agg (bcell y.1).toArray, y.2) := fun z hz e => by
    refine born_inj (m := ents A2) ?_ hmem z hz e
    have : (ents A2).map (fun x => x.2.2) = A2.map fun x => x.2 := by simp [ents, Function.comp_def]
    rw [this]; exact h4.good.borns
  generalize put w3 (sz w) (.mapIter (some mb) cm (vis.push y.2) cm) = w4 at *
  have hqe := q_entry (P := Try.prog) (m := ents A2) (enc := idv) hm4 hit4 hmem (by simp) hbi
  have hlp4 := Hp_lt hp4
  have hlm4 := Hp_lt hm4
  subst ey
  have hqe' : ∀ K : Value → Prop, QRun Try.prog (Instr.entry (ptr (sz w) 0)) w4 K = K (.tuple #[idv yk, .agg ((bc yk).toArray ++ #[Value.slice da yd.length dc, i64 ys, i64 ye])]) := fun K => by rw [hqe K, bcell_arr]; rfl
  simp (disch := first | omega | trivial | assumption | (first | omega | (simp only [List.length_cons, List.length_nil, sz_alloc, sz_put, sz_drew]; done) | (simp only [List.length_replicate, List.length_cons, List.length_nil, *]; done) | (simp only [List.size_toArray, List.length_cons, List.length_nil, sz_alloc, sz_put, sz_drew] at *; omega)) | ((repeat' (first | exact allOne_bc _ | exact allOne_nil | (refine allOne_int _ _ _ ?_) | (refine allOne_sl _ _ _ _ ?_) | (refine allOne_ptr _ _ ?_) | (refine allOne_map _ _ ?_) | (refine allOne_bool _ _ ?_) | (refine allOne_str _ _ ?_) | (refine allOne_iface _ _ _ ?_) | (refine allOne_app _ _ ?_ ?_))); done) | (simp only [cells_agg, cells_int, cells_bool, cells_str, cells_ptr, cells_sl, cells_map, cells_func, cells_iface, List.size_toArray, Array.size_append, bc_length, List.length_cons, List.length_nil, Nat.zero_add, Nat.reduceAdd, *]; done) | (simp (disch := (first | assumption | (first | omega | (simp only [List.length_cons, List.length_nil, sz_alloc, sz_put, sz_drew]; done) | (simp only [List.length_replicate, List.length_cons, List.length_nil, *]; done) | (simp only [List.size_toArray, List.length_cons, List.length_nil, sz_alloc, sz_put, sz_drew] at *; omega)))) only [MapAt, Hp_drew, Hp_alloc_old, Hp_alloc_new, Hp_put_same, Hp_put_other, *])) only [hqe', bcell_arr, AE.b, hkl, hp4, p_add, p_leq, p_extract0, p_extract1, p_min, put_allocN, L1_cells, Ln_cells, St_cells, Hp_drew, Hp_alloc_new, Hp_alloc_old, Hp_put_same, Hp_put_other, cells_agg, cells_int, Branch_bool, List.getElem?_toArray, List.getElem?_cons_zero, List.getElem?_cons_succ, Option.elim_some, Nat.zero_add, List.size_toArray, List.length_cons, List.length_nil, Nat.reduceAdd, Nat.reduceLeDiff, if_pos, decide_eq_true_eq, decide_eq_false_iff_not, and_true, and_self, Bool.true_eq_false, false_implies, forall_const, ext_bc0, get_bc, splice_lit, splice_bc_all, splice_bca, bc_length, Array.size_append, Nat.reduceSub, List.set_cons_zero, List.length_replicate, wr_in, st3, st35, st39]
  have hx8 : Ext (fun _ => False) w4 (put (put ((w4.alloc (Obj.cells (bc (List.replicate 32 0)).toArray 35)).alloc (Obj.cells ((bc (List.replicate 32 0)).toArray ++ #[Value.slice none 0 0, Value.int IntKind.i64 0, Value.int IntKind.i64 0]) 39))
      (sz w4) (Obj.cells (bc yk).toArray 35)) (sz w4 + 1) (Obj.cells ((bc yk).toArray ++ #[Value.slice da yd.length dc, i64 ys, i64 ye]) 39)) :=
    ((((Ext.refl _ w4).alloc _).alloc _).put _ _ fun h => by omega).put _ _ fun h => by omega
  generalize put (put ((w4.alloc (Obj.cells (bc (List.replicate 32 0)).toArray 35)).alloc (Obj.cells ((bc (List.replicate 32 0)).toArray ++ #[Value.slice none 0 0, Value.int IntKind.i64 0, Value.int IntKind.i64 0]) 39))
      (sz w4) (Obj.cells (bc yk).toArray 35)) (sz w4 + 1) (Obj.cells ((bc yk).toArray ++ #[Value.slice da yd.length dc, i64 ys, i64 ye]) 39) = w8 at *
  have h8 := h4.ext hx8 fun _ _ _ => not_false
  have hit8 := hx8.at hit4 not_false
  have hxx8 := hxx4.trans hx8 fun _ _ h => h.elim
  have hlt : ∀ A3 : List AE, A3.Sublist A2 → (mleft (ents A3) (vis.push yb)).length < (mleft (ents A2) vis).length := fun A3 hA3 => by
    refine Nat.lt_of_le_of_lt (List.Sublist.length_le (l₂ := mleft (ents A2) (vis.push yb)) ?_) ?_
    · exact (hA3.map _).filter _
    · rw [mleft_push]; exact filter_lt hel (by simp)
  have hlA := hsub.length_le
  subst hI
  refine ⟨fun hle => ?_, fun hgt => ?_⟩
  · refine CallF_by Try.call14 (drop_spec h8 yk hkl) ?_
    rintro v w9 ⟨rfl, hx9, us', cu', h9⟩
    have hit9 := hx9.at hit8 fun e => by rcases e with e | e | e <;> omega
    have hdl : (A2.filter fun x => !AE.is yk x).length + 1 = A2.length := by
      have hf : A2.find? (AE.is yk) = some (({ key := yk, data := yd, src := ys, exp := ye }, Value.slice da yd.length dc), yb) := by
        cases hf : A2.find? (AE.is yk) with
        | none => have := List.find?_eq_none.1 hf _ hy; simp [AE.is, AE.b] at this
        | some z =>
          obtain ⟨hz, hzk⟩ := find_mem hf
          congr 1
          exact inj_of_nodup h4.good.keys hz hy hzk
      have := (drop_perm h4.good.keys hf).length_eq
      simpa using this
    refine ⟨⟨A2.filter fun x => !AE.is yk x, vis.push yb, soon2, us', cu', ?_, h9, hxx8.trans hx9 fun _ _ h => h, hit9, (List.filter_sublist).trans hsub, ?_, ?_⟩, ?_⟩
    · rw [wr_in _ (by omega)]; congr 1; omega
    · rw [← hlive, List.filter_filter]
      refine List.filter_congr fun x hx => ?_
      by_cases hl : AE.live now x = true
      · have : AE.is yk x = false := by
          cases hi : AE.is yk x with
          | false => rfl
          | true =>
            have hxk : x.b.key = yk := (of_decide_eq_true hi).symm
            have := inj_of_nodup h4.good.keys hx hy hxk
            rw [this] at hl
            have hl' : now < ye := of_decide_eq_true hl
            omega
        rw [hl, this]; rfl
      · simp only [Bool.not_eq_true] at hl; rw [hl]; rfl
    · intro x hx hv
      obtain ⟨hx2', hxi⟩ := List.mem_filter.1 hx
      refine hvis x hx2' ?_
      rw [Array.contains_push, Bool.or_eq_true] at hv
      rcases hv with hv | hv
      · exact hv
      · exfalso
        have hv' : x.2 = yb := by simpa using hv
        have : x = _ := inj_of_nodup (f := fun x : AE => x.2) h4.good.borns hx2' hy hv'
        rw [this] at hxi
        simp [AE.is, AE.b] at hxi
    · rw [leftN_eq h9.hm hit9, hl2]; exact hlt _ List.filter_sublist
  · have h9 := (h8.drewC).soon' (min soon2 ye)
    have hx9 : Ext (areaM p mb ub) w8 (put w8.drew p (.cells (areaCells (min soon2 ye) room quota mb ub (totalB (bl A2))) 57 (0, 0))) := ((Ext.refl _ w8).drew).put _ _ fun _ => .inl rfl
    have hit9 := hx9.at hit8 fun e => by rcases e with e | e | e <;> omega
    refine ⟨⟨A2, vis.push yb, min soon2 ye, us2, cu2, rfl, h9, hxx8.trans hx9 fun _ _ h => h, hit9, hsub, hlive, ?_⟩, ?_⟩
    · intro x hx hv
      rw [Array.contains_push, Bool.or_eq_true] at hv
      rcases hv with hv | hv
      · have := hvis x hx hv
        exact ⟨this.1, Int.le_trans (Int.min_le_left _ _) this.2⟩
      · have hv' : x.2 = yb := by simpa using hv
        have : x = _ := inj_of_nodup (f := fun x : AE => x.2) h4.good.borns hx hy hv'
        rw [this]
        exact ⟨by show now < ye; omega, Int.min_le_right _ _⟩
    · rw [leftN_eq h9.hm hit9, hl2]; exact hlt _ (List.Sublist.refl _)
end
end Go.Proofs
