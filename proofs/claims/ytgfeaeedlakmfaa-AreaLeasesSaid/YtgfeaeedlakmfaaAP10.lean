/- A part of the proof: A.P10. -/
import Derived.Test.YtgfeaeedlakmfaaAP9
set_option linter.unusedVariables false
set_option linter.unusedSimpArgs false
set_option linter.unusedSectionVars false
namespace Go.Proofs
open Go Go.Lf
set_option maxRecDepth 20000
set_option maxHeartbeats 2000000
set_option linter.unusedSimpArgs false
set_option linter.unusedVariables false
theorem perm_map_inv {α β : Type} {f : α → β} {xs ys : List β} (h : xs.Perm ys) : ∀ l : List α, ys = l.map f → ∃ l' : List α, l'.Perm l ∧ xs = l'.map f := by
  induction h with
  | nil => intro l e; exact ⟨l, List.Perm.refl _, e⟩
  | cons x _ ih =>
    intro l e
    cases l with
    | nil => cases e
    | cons a l =>
      rw [List.map_cons, List.cons.injEq] at e
      obtain ⟨l', hp, he⟩ := ih l e.2
      exact ⟨a :: l', hp.cons a, by rw [List.map_cons, ← e.1, ← he]⟩
  | swap x y _ =>
    intro l e
    match l, e with
    | a :: b :: l, e =>
      simp only [List.map_cons, List.cons.injEq] at e
      exact ⟨b :: a :: l, List.Perm.swap _ _ _, by simp only [List.map_cons, e.1, e.2.1, e.2.2]⟩
  | trans _ _ ih1 ih2 =>
    intro l e
    obtain ⟨l2, hp2, he2⟩ := ih2 l e
    obtain ⟨l1, hp1, he1⟩ := ih1 l2 he2
    exact ⟨l1, hp1.trans hp2, he1⟩
theorem catC_bcell (L : List BV) : catC (L.map fun x => Value.agg (bcell x).toArray) = L.flatMap bcell := by
  unfold catC
  rw [List.flatMap_map]
  simp [cells_agg]
section
variable {w : World} {p mb ub : Nat} {room quota soon : Int} {cm : Nat} {A : List AE} {Q : Nat → Prop} {us : Ents Int} {cu : Nat}
theorem values_spec (w : World) (mb : Nat) : Calls Try.prog 28 #[.map (some mb)] w (retK fun v w' => v = .func (.func 33) #[] #[ptr (sz w) 0] ∧ w' = w.alloc (.cells #[.map (some mb)] 54 (0, 0))) := by
  refine F28_ok _ _ _ ?_
  unfold F28
  simp (disch := first | omega | trivial | assumption | (first | omega | (simp only [List.length_cons, List.length_nil, sz_alloc, sz_put, sz_drew]; done) | (simp only [List.length_replicate, List.length_cons, List.length_nil, *]; done) | (simp only [List.size_toArray, List.length_cons, List.length_nil, sz_alloc, sz_put, sz_drew] at *; omega)) | ((repeat' (first | exact allOne_bc _ | exact allOne_nil | (refine allOne_int _ _ _ ?_) | (refine allOne_sl _ _ _ _ ?_) | (refine allOne_ptr _ _ ?_) | (refine allOne_map _ _ ?_) | (refine allOne_bool _ _ ?_) | (refine allOne_str _ _ ?_) | (refine allOne_iface _ _ _ ?_) | (refine allOne_app _ _ ?_ ?_))); done) | (simp only [cells_agg, cells_int, cells_bool, cells_str, cells_ptr, cells_sl, cells_map, cells_func, cells_iface, List.size_toArray, Array.size_append, bc_length, List.length_cons, List.length_nil, Nat.zero_add, Nat.reduceAdd, *]; done) | (simp (disch := (first | assumption | (first | omega | (simp only [List.length_cons, List.length_nil, sz_alloc, sz_put, sz_drew]; done) | (simp only [List.length_replicate, List.length_cons, List.length_nil, *]; done) | (simp only [List.size_toArray, List.length_cons, List.length_nil, sz_alloc, sz_put, sz_drew] at *; omega)))) only [MapAt, Hp_drew, Hp_alloc_old, Hp_alloc_new, Hp_put_same, Hp_put_other, *])) only [p_makeFunc, r_box, cells_map, and_self]
theorem collect_spec (h : AreaC w p mb ub room quota soon cm A Q us cu) (bm : Nat) (hb : Hp w bm = some (.cells #[.map (some mb)] 54 (0, 0))) (hlen : A.length ≤ 1000000) :
    Calls Try.prog 31 #[.func (.func 33) #[] #[ptr bm 0]] w (retK fun v w' => ∃ L : List BV, L.Perm (A.map (·.1)) ∧ Sl bcell 39 35 w' v L (fun b => sz w ≤ b) ∧ Ext (fun _ => False) w w') := by
  refine F31_ok _ _ _ ?_
  unfold F31
  have hone : ∀ x ∈ A, oneCell x.1.2 := fun x hx => by obtain ⟨a, c, e⟩ := Vec.slice (h.good.data x hx); rw [e]; trivial
  refine CallF_by Try.call35 (appendSeq_spec (gf := 33) (lb := #[ptr bm 0]) (N := (ents A).length) (S := fun xs => xs.Perm ((ents A).map (·.2.1))) Try.call33 (fun W hx => ?_) (by rw [ents, List.length_map]; omega)) ?_
  · refine values_gives (hx.at hb not_false) (hx.at h.hm not_false) (fun x hx => by obtain ⟨y, hy, rfl⟩ := mem_ents hx; exact h.good.old y hy) ?_ fun x hx => by
      obtain ⟨y, hy, rfl⟩ := mem_ents hx
      exact bval_ok y.1 (h.good.klen y hy) (hone y hy)
    have : (ents A).map (fun x => x.2.2) = A.map fun x => x.2 := by simp [ents, Function.comp_def]
    rw [this]; exact h.good.borns
  · rintro v w' ⟨xs, hS, hok, hv, hx⟩
    have e : (ents A).map (fun x => x.2.1) = (A.map (·.1)).map fun x : BV => Value.agg (bcell x).toArray := by simp [ents, Function.comp_def]
    obtain ⟨L, hp, rfl⟩ := perm_map_inv hS (A.map (·.1)) e
    refine ⟨L, hp, ?_, hx⟩
    rw [catC_bcell, List.length_map] at hv
    refine Sl.of_vec (fun x hx => ?_) hv
    obtain ⟨y, hy, rfl⟩ := List.mem_map.1 (hp.mem_iff.1 hx)
    exact bcell_length _ (h.good.klen y hy)
theorem sorted_spec (h : AreaC w p mb ub room quota soon cm A Q us cu) (bm : Nat) (hb : Hp w bm = some (.cells #[.map (some mb)] 54 (0, 0))) (hlen : A.length ≤ 12) :
    Calls Try.prog 27 #[.func (.func 33) #[] #[ptr bm 0], .func (.func 29) #[] #[]] w (retK fun v w' => ∃ L : List BV, L.Perm (A.map (·.1)) ∧ L.Pairwise leK ∧ Sl bcell 39 35 w' v L (fun b => sz w ≤ b) ∧ Ext (fun _ => False) w w') := by
  refine F27_ok _ _ _ _ ?_
  unfold F27
  refine CallF_by Try.call31 (collect_spec h bm hb (by omega)) ?_
  rintro v w1 ⟨L, hp, hs, hx⟩
  have hk : ∀ x ∈ L, x.1.key.length = 32 ∧ oneCell x.2 := fun x hx => by
    obtain ⟨y, hy, rfl⟩ := List.mem_map.1 (hp.mem_iff.1 hx)
    obtain ⟨a, c, e⟩ := Vec.slice (h.good.data y hy)
    exact ⟨h.good.klen y hy, by rw [e]; trivial⟩
  have hll : L.length ≤ 12 := by rw [hp.length_eq, List.length_map]; exact hlen
  refine CallF_by Try.call32 (sort_sl hs hk hll) ?_
  rintro u w2 ⟨hx2, L2, hp2, ho, hs2⟩
  refine ⟨L2, hp2.trans hp, ho, hs2, hx.trans hx2 fun b hb e => ?_⟩
  have := ((hs.vec (by decide)).block e).1
  omega
end
end Go.Proofs
