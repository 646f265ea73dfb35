/- A part of the proof: A.P2. -/
import Derived.Test.YtgfeaeedlakmfaaAP1
import Derived.Test.YtgfeaeedlakmfaaLRF
set_option linter.unusedVariables false
set_option linter.unusedSimpArgs false
set_option linter.unusedSectionVars false
namespace Go.Proofs
open Go Go.Lf
set_option maxRecDepth 20000
set_option maxHeartbeats 2000000
set_option linter.unusedSimpArgs false
set_option linter.unusedVariables false
set_option linter.unusedSectionVars false
theorem perm_pick {α β : Type} [DecidableEq β] (f : α → β) : ∀ (l : List α) (x : α), x ∈ l → (l.map f).Nodup → (x :: l.filter fun y => !decide (f y = f x)).Perm l := by
  intro l
  induction l with
  | nil => intro x h; cases h
  | cons a l ih =>
    intro x h hn
    rw [List.map_cons, List.nodup_cons] at hn
    rcases List.mem_cons.1 h with rfl | h
    · have : l.filter (fun y => !decide (f y = f x)) = l := List.filter_eq_self.2 fun y hy => by
        have : f y ≠ f x := fun e => hn.1 (e ▸ List.mem_map_of_mem hy)
        simpa using this
      rw [List.filter_cons, if_neg (by simp), this]
    · have hne : f a ≠ f x := fun e => hn.1 (e ▸ List.mem_map_of_mem h)
      rw [List.filter_cons, if_pos (by simpa using hne)]
      exact (List.Perm.swap a x _).trans ((ih x h hn.2).cons a)
variable {κ : Type} [DecidableEq κ]
theorem mleft_push (m : Ents κ) (seen : Array Nat) (b : Nat) : mleft m (seen.push b) = (mleft m seen).filter fun y => !decide (y.2.2 = b) := by
  unfold mleft
  rw [List.filter_filter]
  refine List.filter_congr fun y _ => ?_
  simp only [Array.contains_push, Bool.not_or]
  rw [Bool.and_comm]
  congr 2
theorem mleft_nil (m : Ents κ) : mleft m #[] = m := by unfold mleft; simp
theorem mleft_step {m vis : Ents κ} {x : κ × Value × Nat} (hn : (m.map (·.2.2)).Nodup) (hp : (vis ++ mleft m (vis.map (·.2.2)).toArray).Perm m) (hx : x ∈ mleft m (vis.map (·.2.2)).toArray) :
    ((vis ++ [x]) ++ mleft m ((vis ++ [x]).map (·.2.2)).toArray).Perm m := by
  have e : ((vis ++ [x]).map (·.2.2)).toArray = ((vis.map (·.2.2)).toArray).push x.2.2 := by simp
  rw [e, mleft_push, List.append_assoc]
  refine (List.Perm.append_left vis ?_).trans hp
  refine perm_pick (fun y : κ × Value × Nat => y.2.2) _ x hx ?_
  exact (List.Sublist.map _ List.filter_sublist).nodup hn
def seenOf (w : World) (it : Nat) : Nat := match Hp w it with | some (.mapIter _ _ seen _) => seen.size | _ => 0
theorem born_inj {m : Ents κ} (hn : (m.map (·.2.2)).Nodup) {x : κ × Value × Nat} (hx : x ∈ m) : ∀ y ∈ m, y.2.2 = x.2.2 → y = x := by
  intro y hy e
  induction m with
  | nil => cases hx
  | cons a m ih =>
    rw [List.map_cons, List.nodup_cons] at hn
    rcases List.mem_cons.1 hx with h1 | h1 <;> rcases List.mem_cons.1 hy with h2 | h2
    · rw [h1, h2]
    · subst h1; exact absurd (e ▸ List.mem_map_of_mem (f := fun y : κ × Value × Nat => y.2.2) h2) hn.1
    · subst h2; exact absurd (e ▸ List.mem_map_of_mem (f := fun y : κ × Value × Nat => y.2.2) h1) hn.1
    · exact ih hn.2 h1 h2
/-- maps.Values(m)'s iterator -/
theorem values_gives {w : World} {bm mb c : Nat} {m : Ents (List UInt8)} (hb : Hp w bm = some (.cells #[.map (some mb)] 54 (0, 0))) (hm : MapAt w mb idv m c) (hc : ∀ x ∈ m, x.2.2 < c)
    (hn : (m.map (·.2.2)).Nodup) (hv : ∀ x ∈ m, ∃ cs, x.2.1 = .agg cs ∧ cs.size = 35 ∧ allOne cs) :
    Gives Try.prog 33 #[ptr bm 0] (fun x : Value => x) (fun x => ∃ cs, x = .agg cs ∧ cs.size = 35 ∧ allOne cs) m.length (fun xs => xs.Perm (m.map (·.2.1))) w := by
  intro l J W hx hJ hY h0
  have hb' := hx.at hb not_false
  have hm' : MapAt W mb idv m c := hx.at hm not_false
  have hlm := Hp_lt hm'
  show Calls Try.prog 33 #[.func (.yield l) #[] #[], ptr bm 0] W _
  refine F33_ok _ _ _ _ ?_
  unfold F33
  simp (disch := first | omega | trivial | assumption | (first | omega | (simp only [List.length_cons, List.length_nil, sz_alloc, sz_put, sz_drew]; done) | (simp only [List.length_replicate, List.length_cons, List.length_nil, *]; done) | (simp only [List.size_toArray, List.length_cons, List.length_nil, sz_alloc, sz_put, sz_drew] at *; omega)) | ((repeat' (first | exact allOne_bc _ | exact allOne_nil | (refine allOne_int _ _ _ ?_) | (refine allOne_sl _ _ _ _ ?_) | (refine allOne_ptr _ _ ?_) | (refine allOne_map _ _ ?_) | (refine allOne_bool _ _ ?_) | (refine allOne_str _ _ ?_) | (refine allOne_iface _ _ _ ?_) | (refine allOne_app _ _ ?_ ?_))); done) | (simp only [cells_agg, cells_int, cells_bool, cells_str, cells_ptr, cells_sl, cells_map, cells_func, cells_iface, List.size_toArray, Array.size_append, bc_length, List.length_cons, List.length_nil, Nat.zero_add, Nat.reduceAdd, *]; done) | (simp (disch := (first | assumption | (first | omega | (simp only [List.length_cons, List.length_nil, sz_alloc, sz_put, sz_drew]; done) | (simp only [List.length_replicate, List.length_cons, List.length_nil, *]; done) | (simp only [List.size_toArray, List.length_cons, List.length_nil, sz_alloc, sz_put, sz_drew] at *; omega)))) only [MapAt, Hp_drew, Hp_alloc_old, Hp_alloc_new, Hp_put_same, Hp_put_other, *])) only [hb', r_rangeMap Try.runUnderlying54 hm', L1_cells, cells_agg, List.getElem?_toArray, List.getElem?_cons_zero, Option.elim_some, forall_const, ld39, ld54, al39, zv39]
  refine Loop0 (fun w2 => ∃ vis : Ents (List UInt8), (vis ++ mleft m (vis.map (·.2.2)).toArray).Perm m ∧ J (vis.map (·.2.1)) w2 ∧ Hp w2 mb = some (.map (entsOf idv m) c) ∧
    Hp w2 (sz W) = some (.mapIter (some mb) c (vis.map (·.2.2)).toArray c)) (fun w2 => m.length - seenOf w2 (sz W)) ⟨[], ?_, ?_, ?_, ?_⟩ ?_
  · simp [mleft_nil]
  · exact hJ _ _ _ (fun _ => False) h0 ((Ext.refl _ _).alloc _) fun _ _ h => h.elim
  · rw [Hp_alloc_old _ _ _ hlm]; exact hm'
  · exact Hp_alloc_new _ _ _ rfl
  rintro w2 ⟨vis, hp, hj, hmb, hit⟩
  refine r_nextMap (m := m) (enc := idv) hmb hit hc 0 ?_ ?_
  · intro hnil
    simp (disch := first | omega | trivial | assumption | (first | omega | (simp only [List.length_cons, List.length_nil, sz_alloc, sz_put, sz_drew]; done) | (simp only [List.length_replicate, List.length_cons, List.length_nil, *]; done) | (simp only [List.size_toArray, List.length_cons, List.length_nil, sz_alloc, sz_put, sz_drew] at *; omega)) | ((repeat' (first | exact allOne_bc _ | exact allOne_nil | (refine allOne_int _ _ _ ?_) | (refine allOne_sl _ _ _ _ ?_) | (refine allOne_ptr _ _ ?_) | (refine allOne_map _ _ ?_) | (refine allOne_bool _ _ ?_) | (refine allOne_str _ _ ?_) | (refine allOne_iface _ _ _ ?_) | (refine allOne_app _ _ ?_ ?_))); done) | (simp only [cells_agg, cells_int, cells_bool, cells_str, cells_ptr, cells_sl, cells_map, cells_func, cells_iface, List.size_toArray, Array.size_append, bc_length, List.length_cons, List.length_nil, Nat.zero_add, Nat.reduceAdd, *]; done) | (simp (disch := (first | assumption | (first | omega | (simp only [List.length_cons, List.length_nil, sz_alloc, sz_put, sz_drew]; done) | (simp only [List.length_replicate, List.length_cons, List.length_nil, *]; done) | (simp only [List.size_toArray, List.length_cons, List.length_nil, sz_alloc, sz_put, sz_drew] at *; omega)))) only [MapAt, Hp_drew, Hp_alloc_old, Hp_alloc_new, Hp_put_same, Hp_put_other, *])) only [p_extract0, Branch_bool, true_and, Bool.false_eq_true, false_implies, forall_const]
    refine ⟨vis.map (·.2.1), ?_, hj⟩
    rw [hnil, List.append_nil] at hp
    exact hp.map _
  · intro x hxl w3 hw3
    have hxm : x ∈ m := (List.mem_filter.1 hxl).1
    obtain ⟨cs, hcs, hsz, hone⟩ := hv x hxm
    have hlt2 : sz W < sz w2 := Hp_lt hit
    have hmb2 : mb < sz w2 := Hp_lt hmb
    have hs3 : sz w3 = sz w2 := by rcases hw3 with rfl | rfl <;> rfl
    have hmb3 : Hp w3 mb = some (.map (entsOf idv m) c) := by rcases hw3 with rfl | rfl <;> exact hmb
    have hx3 : Ext (fun _ => False) w2 w3 := by rcases hw3 with rfl | rfl; exact Ext.refl _ _; exact (Ext.refl _ _).drew
    have hne : mb ≠ sz W := fun e => by rw [e] at hlm; exact absurd hlm (Nat.lt_irrefl _)
    have hit4 := Hp_put_same w3 (sz W) (.mapIter (some mb) c ((vis.map (·.2.2)).toArray.push x.2.2) c) (by omega)
    have hj4 := hJ _ _ (put w3 (sz W) (.mapIter (some mb) c ((vis.map (·.2.2)).toArray.push x.2.2) c)) (fun b => b = sz W) hj ((hx3.mono fun _ _ h => h.elim).put _ _ fun _ => rfl) (fun b _ e => by subst e; exact ⟨Nat.le_refl _, _, hit, rfl⟩)
    have hmb4 := (Hp_put_other w3 (sz W) mb (.mapIter (some mb) c ((vis.map (·.2.2)).toArray.push x.2.2) c) hne).trans hmb3
    have hs4 := sz_put w3 (sz W) (.mapIter (some mb) c ((vis.map (·.2.2)).toArray.push x.2.2) c)
    generalize put w3 (sz W) (.mapIter (some mb) c ((vis.map (·.2.2)).toArray.push x.2.2) c) = w4 at *
    have hsp : splice ((bc (List.replicate 32 0)).toArray ++ #[Value.slice none 0 0, i64 0, i64 0]) 0 cs = cs := splice_all _ _ (by rw [hsz]; rfl)
    have hex : cs.extract 0 35 = cs := by rw [← hsz]; exact Array.extract_size
    have hz : ((bc (List.replicate 32 0)).toArray ++ #[Value.slice none 0 0, i64 0, i64 0]).size = 35 := rfl
    rw [hcs]
    simp (disch := first | omega | trivial | assumption | (first | omega | (simp only [List.length_cons, List.length_nil, sz_alloc, sz_put, sz_drew]; done) | (simp only [List.length_replicate, List.length_cons, List.length_nil, *]; done) | (simp only [List.size_toArray, List.length_cons, List.length_nil, sz_alloc, sz_put, sz_drew] at *; omega)) | ((repeat' (first | exact allOne_bc _ | exact allOne_nil | (refine allOne_int _ _ _ ?_) | (refine allOne_sl _ _ _ _ ?_) | (refine allOne_ptr _ _ ?_) | (refine allOne_map _ _ ?_) | (refine allOne_bool _ _ ?_) | (refine allOne_str _ _ ?_) | (refine allOne_iface _ _ _ ?_) | (refine allOne_app _ _ ?_ ?_))); done) | (simp only [cells_agg, cells_int, cells_bool, cells_str, cells_ptr, cells_sl, cells_map, cells_func, cells_iface, List.size_toArray, Array.size_append, bc_length, List.length_cons, List.length_nil, Nat.zero_add, Nat.reduceAdd, *]; done) | (simp (disch := (first | assumption | (first | omega | (simp only [List.length_cons, List.length_nil, sz_alloc, sz_put, sz_drew]; done) | (simp only [List.length_replicate, List.length_cons, List.length_nil, *]; done) | (simp only [List.size_toArray, List.length_cons, List.length_nil, sz_alloc, sz_put, sz_drew] at *; omega)))) only [MapAt, Hp_drew, Hp_alloc_old, Hp_alloc_new, Hp_put_same, Hp_put_other, *])) only [q_entry (m := m) (enc := idv) hmb4 hit4 hxm (by simp) (born_inj hn hxm), hcs, hsp, hsz, hz, hex, p_extract0, p_extract1, put_allocN, Ln_cells, St_cells, Hp_alloc_new, cells_agg, Branch_bool, Nat.zero_add, Nat.reduceLeDiff, if_pos, and_true, and_self, Bool.true_eq_false, false_implies, forall_const, st39]
    have hx5 : Ext (fun _ => False) w4 (w4.alloc (.cells cs 39 (0, 0))) := (Ext.refl _ _).alloc _
    have hj5 := hJ _ _ (w4.alloc (.cells cs 39 (0, 0))) (fun _ => False) hj4 hx5 fun _ _ h => h.elim
    have hmb5 := hx5.at hmb4 not_false
    have hit5 := hx5.at hit4 not_false
    obtain ⟨fn, tmps, assign, body, hr, hR⟩ := hY _ (.agg cs) _ ⟨cs, rfl, hsz, hone⟩ (by rw [List.length_map]; have := (mleft_step hn hp hxl).length_eq; simp at this; omega) hj5
    refine ⟨fn, tmps, assign, body, hr, hR.mono ?_⟩
    rintro e B ⟨rfl, hj6, hk6⟩
    have e6 : seenOf B (sz W) = vis.length + 1 := by unfold seenOf; rw [hk6.2 _ _ hit5 rfl]; simp
    have e2 : seenOf w2 (sz W) = vis.length := by unfold seenOf; rw [hit]; simp
    have hlen := (mleft_step hn hp hxl).length_eq
    show PRun _ _ _
    simp (disch := first | omega | trivial | assumption | (first | omega | (simp only [List.length_cons, List.length_nil, sz_alloc, sz_put, sz_drew]; done) | (simp only [List.length_replicate, List.length_cons, List.length_nil, *]; done) | (simp only [List.size_toArray, List.length_cons, List.length_nil, sz_alloc, sz_put, sz_drew] at *; omega)) | ((repeat' (first | exact allOne_bc _ | exact allOne_nil | (refine allOne_int _ _ _ ?_) | (refine allOne_sl _ _ _ _ ?_) | (refine allOne_ptr _ _ ?_) | (refine allOne_map _ _ ?_) | (refine allOne_bool _ _ ?_) | (refine allOne_str _ _ ?_) | (refine allOne_iface _ _ _ ?_) | (refine allOne_app _ _ ?_ ?_))); done) | (simp only [cells_agg, cells_int, cells_bool, cells_str, cells_ptr, cells_sl, cells_map, cells_func, cells_iface, List.size_toArray, Array.size_append, bc_length, List.length_cons, List.length_nil, Nat.zero_add, Nat.reduceAdd, *]; done) | (simp (disch := (first | assumption | (first | omega | (simp only [List.length_cons, List.length_nil, sz_alloc, sz_put, sz_drew]; done) | (simp only [List.length_replicate, List.length_cons, List.length_nil, *]; done) | (simp only [List.size_toArray, List.length_cons, List.length_nil, sz_alloc, sz_put, sz_drew] at *; omega)))) only [MapAt, Hp_drew, Hp_alloc_old, Hp_alloc_new, Hp_put_same, Hp_put_other, *])) only [p_not, Branch_bool, Bool.not_true, true_and, Bool.false_eq_true, false_implies, forall_const]
    refine ⟨⟨vis ++ [x], mleft_step hn hp hxl, ?_, hk6.2 _ _ hmb5 rfl, ?_⟩, ?_⟩
    · rw [List.map_append, List.map_cons, List.map_nil, hcs]; exact hj6
    · have := hk6.2 _ _ hit5 rfl
      rw [this]; simp
    · rw [e6, e2]; simp at hlen; omega
end Go.Proofs
