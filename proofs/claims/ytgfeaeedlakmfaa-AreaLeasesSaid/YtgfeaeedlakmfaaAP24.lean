/- A part of the proof: A.P24. -/
import Derived.Test.YtgfeaeedlakmfaaAP23
set_option linter.unusedVariables false
set_option linter.unusedSimpArgs false
set_option linter.unusedSectionVars false
namespace Go.Proofs
open Go Go.Lf
set_option maxRecDepth 20000
set_option maxHeartbeats 2000000
set_option linter.unusedSimpArgs false
set_option linter.unusedVariables false
section
variable {w0 w13 w20 W : World} {p mb ub x B cb : Nat} {room quota now src e i size : Int} {A : List AE} {R : List BV} {s : Value} {soon : Int} {cm : Nat} {us : Ents Int} {cu : Nat} {k : List UInt8} {k2 K : Value → World → Prop} {crow : Array Value}
/-- b.Data is filled, and put. -/
theorem put_loop (f : Fix w0 p mb ub x room quota) (hx : Ext (fun _ => False) w13 W) (h : ∀ H, PlC W p mb ub x room quota (sz w13) H A R s soon cm us cu) (hM : ∀ b, M4 p mb ub x b → b < sz w13)
    (hB : Hp W B = some (.cells ((bc k).toArray ++ #[.slice none 0 0, i64 src, i64 e]) 39 (0, 0))) (hBl : sz w13 ≤ B) (hk : k.length = 32) (hk12 : k ∈ keys12) (hi : 0 ≤ i ∧ i ≤ 100)
    (hc : Hp w13 cb = some (.cells crow 33 (0, 0))) (hc2 : crow[2]? = some (i64 size))
    (hK : ∀ W', Ext (M4 p mb ub x) w13 W' → PlS W' p mb ub x room quota 0 0 → k2 (i64 now) W') :
    LoopF 1 [(Value.int .i64 0)] W fun v20_2 w20 k4 => F3x4 (i64 now) (i64 i) (ptr cb 0) (ptr B 0) v20_2 (ptr p 0) (ptr x 0) k2 k4 w20 K := by
  have hcl := Hp_lt hc
  have hs0 := hx.size
  have hsz := within_prop size 80 (by decide)
  obtain ⟨J, hJ⟩ : ∃ J : Value → World → Prop, J = fun v w20 => ∃ (j : Nat) (l : List UInt8) (dv : Value), v = i64 (j : Int) ∧ (j : Int) ≤ size % 80 ∧ l.length = j ∧ Ext (fun b => sz w13 ≤ b) W w20 ∧ Hp w20 B = some (.cells ((bc k).toArray ++ #[dv, i64 src, i64 e]) 39 (0, 0)) ∧ Bytes 5 w20 dv l (fun c => sz w13 ≤ c) := ⟨_, rfl⟩
  refine Loop1 J (fun v _ => 100 - (match v with | .int _ n => n.toNat | _ => 0)) (by rw [hJ]; exact ⟨0, [], _, rfl, hsz.1, rfl, Ext.refl _ _, hB, Vec.nil _ _ _ _⟩) ?_
  intro v w20 hj
  rw [hJ] at hj
  obtain ⟨j, l, dv, rfl, hjs, hlj, hx20, hB20, hd20⟩ := hj
  have hxx : Ext (fun _ => False) w13 w20 := hx.trans2 hx20 (fun _ _ h => h) fun b hb e => by omega
  have hc20 := hxx.at hc not_false
  have hBlt := Hp_lt hB20
  unfold F3x4
  simp (disch := first | omega | trivial | assumption | (first | omega | (simp only [List.length_cons, List.length_nil, sz_alloc, sz_put, sz_drew]; done) | (simp only [List.length_replicate, List.length_cons, List.length_nil, *]; done) | (simp only [List.size_toArray, List.length_cons, List.length_nil, sz_alloc, sz_put, sz_drew] at *; omega)) | ((repeat' (first | exact allOne_bc _ | exact allOne_nil | (refine allOne_int _ _ _ ?_) | (refine allOne_sl _ _ _ _ ?_) | (refine allOne_ptr _ _ ?_) | (refine allOne_map _ _ ?_) | (refine allOne_bool _ _ ?_) | (refine allOne_str _ _ ?_) | (refine allOne_iface _ _ _ ?_) | (refine allOne_app _ _ ?_ ?_))); done) | (simp only [cells_agg, cells_int, cells_bool, cells_str, cells_ptr, cells_sl, cells_map, cells_func, cells_iface, List.size_toArray, Array.size_append, bc_length, List.length_cons, List.length_nil, Nat.zero_add, Nat.reduceAdd, *]; done) | (simp (disch := (first | assumption | (first | omega | (simp only [List.length_cons, List.length_nil, sz_alloc, sz_put, sz_drew]; done) | (simp only [List.length_replicate, List.length_cons, List.length_nil, *]; done) | (simp only [List.size_toArray, List.length_cons, List.length_nil, sz_alloc, sz_put, sz_drew] at *; omega)))) only [MapAt, Hp_drew, Hp_alloc_old, Hp_alloc_new, Hp_put_same, Hp_put_other, *])) only [hc20, hc2, L1_cells, Option.elim_some, Nat.zero_add, Int.toNat_natCast, fld33_2, ld3]
  refine CallF_by Try.call8 (within_spec size 80 (by decide) _) ?_
  rintro _ w21 ⟨rfl, hw⟩
  obtain rfl : w20 = w21 := hw.symm
  by_cases hlt : (j : Int) < size % 80
  · obtain ⟨da, dc, rfl⟩ := Vec.slice hd20
    have hlB := Hp_lt hB
    unfold F3x2
    have e1 : (((i + (j : Int)) % 256).toNat : Int) = (i + (j : Int)) % 256 := by omega
    have hcc : ∀ v ∈ [Value.int .u8 ((i + (j : Int)) % 256)], v.cells.size = 1 := by simp [cells_int]
    simp (disch := first | omega | trivial | assumption | (first | omega | (simp only [List.length_cons, List.length_nil, sz_alloc, sz_put, sz_drew]; done) | (simp only [List.length_replicate, List.length_cons, List.length_nil, *]; done) | (simp only [List.size_toArray, List.length_cons, List.length_nil, sz_alloc, sz_put, sz_drew] at *; omega)) | ((repeat' (first | exact allOne_bc _ | exact allOne_nil | (refine allOne_int _ _ _ ?_) | (refine allOne_sl _ _ _ _ ?_) | (refine allOne_ptr _ _ ?_) | (refine allOne_map _ _ ?_) | (refine allOne_bool _ _ ?_) | (refine allOne_str _ _ ?_) | (refine allOne_iface _ _ _ ?_) | (refine allOne_app _ _ ?_ ?_))); done) | (simp only [cells_agg, cells_int, cells_bool, cells_str, cells_ptr, cells_sl, cells_map, cells_func, cells_iface, List.size_toArray, Array.size_append, bc_length, List.length_cons, List.length_nil, Nat.zero_add, Nat.reduceAdd, *]; done) | (simp (disch := (first | assumption | (first | omega | (simp only [List.length_cons, List.length_nil, sz_alloc, sz_put, sz_drew]; done) | (simp only [List.length_replicate, List.length_cons, List.length_nil, *]; done) | (simp only [List.size_toArray, List.length_cons, List.length_nil, sz_alloc, sz_put, sz_drew] at *; omega)))) only [MapAt, Hp_drew, Hp_alloc_old, Hp_alloc_new, Hp_put_same, Hp_put_other, *])) only [hlt, hB20, hk, bs37_1 _ hcc, p_add, p_lss, L1_cells, Branch_bool, List.getElem?_toArray, List.getElem?_cons_zero, Option.elim_some, Nat.zero_add, decide_eq_true_eq, decide_eq_false_iff_not, forall_const, get_bc, Nat.sub_self, u8w, wr_in, fld39_1, cv3_5, ld37]
    obtain ⟨b8, hb8⟩ : ∃ b8 : UInt8, Value.int .u8 ((i + (j : Int)) % 256) = .int .u8 b8.toNat := ⟨UInt8.ofNat ((i + (j : Int)) % 256).toNat, by
      have : (UInt8.ofNat ((i + (j : Int)) % 256).toNat).toNat = ((i + (j : Int)) % 256).toNat := by rw [UInt8.toNat_ofNat']; omega
      rw [this, e1]⟩
    rw [hb8]
    have hcat : (catC [Value.int .u8 (b8.toNat : Int)]).toArray = (bc [b8]).toArray := rfl
    rw [hcat]
    have hxa : Ext (fun _ => False) w20 (w20.alloc (.cells (bc [b8]).toArray 5 (0, 0))) := (Ext.refl _ _).alloc _
    have hsrc : Vec (w20.alloc (.cells (bc [b8]).toArray 5 (0, 0))) 5 1 (.slice (some ⟨sz w20, 0, none⟩) 1 1) 1 (bc [b8]) (fun b => b = sz w20) := Vec.fresh (e := 5) (z := 1) (n := 1) (bc [b8]).toArray (by simp [bc])
    refine ⟨?_, fun h => absurd trivial h⟩
    refine ap37 37 (Vec.ext hd20 hxa fun _ _ _ => not_false) hsrc.src (bc_one _) (by omega) ?_
    intro v' w22 hv hx22
    have hblk : ∀ c, some c = blockOf (Value.slice da l.length dc) → sz w13 ≤ c ∧ ∃ row, Hp w20 c = some (.cells row 5 (0, 0)) := fun c hc => Vec.block hd20 hc
    have hBn : ¬ (some B = blockOf (Value.slice da l.length dc)) := fun h => by obtain ⟨-, row, hr⟩ := hblk B h; rw [hB20] at hr; simp at hr
    have hx22' := hxa.trans2 (M := fun b => some b = blockOf (Value.slice da l.length dc)) hx22 (fun _ _ h => h.elim) fun _ _ h => h
    have hB22 := hx22'.at hB20 hBn
    have hB22l := Hp_lt hB22
    have hv' : Bytes 5 w22 v' (l ++ [b8]) (fun c => sz w13 ≤ c) := by
      have : Vec w22 5 1 v' (l ++ [b8]).length (bc (l ++ [b8])) (fun b => some b = blockOf (Value.slice da l.length dc) ∨ b = sz (w20.alloc (.cells (bc [b8]).toArray 5 (0, 0)))) := by
        rw [bc_append, List.length_append]; exact hv
      refine this.mono fun c _ hc => ?_
      rcases hc with hc | hc
      · exact (hblk c hc).1
      · rw [hc, sz_alloc]; have := hxx.size; omega
    obtain ⟨va, vc, rfl⟩ := Vec.slice hv'
    simp (disch := first | omega | trivial | assumption | (first | omega | (simp only [List.length_cons, List.length_nil, sz_alloc, sz_put, sz_drew]; done) | (simp only [List.length_replicate, List.length_cons, List.length_nil, *]; done) | (simp only [List.size_toArray, List.length_cons, List.length_nil, sz_alloc, sz_put, sz_drew] at *; omega)) | ((repeat' (first | exact allOne_bc _ | exact allOne_nil | (refine allOne_int _ _ _ ?_) | (refine allOne_sl _ _ _ _ ?_) | (refine allOne_ptr _ _ ?_) | (refine allOne_map _ _ ?_) | (refine allOne_bool _ _ ?_) | (refine allOne_str _ _ ?_) | (refine allOne_iface _ _ _ ?_) | (refine allOne_app _ _ ?_ ?_))); done) | (simp only [cells_agg, cells_int, cells_bool, cells_str, cells_ptr, cells_sl, cells_map, cells_func, cells_iface, List.size_toArray, Array.size_append, bc_length, List.length_cons, List.length_nil, Nat.zero_add, Nat.reduceAdd, *]; done) | (simp (disch := (first | assumption | (first | omega | (simp only [List.length_cons, List.length_nil, sz_alloc, sz_put, sz_drew]; done) | (simp only [List.length_replicate, List.length_cons, List.length_nil, *]; done) | (simp only [List.size_toArray, List.length_cons, List.length_nil, sz_alloc, sz_put, sz_drew] at *; omega)))) only [MapAt, Hp_drew, Hp_alloc_old, Hp_alloc_new, Hp_put_same, Hp_put_other, *])) only [hB22, hk, St_cells, cells_sl, Nat.zero_add, List.size_toArray, List.length_cons, List.length_nil, Nat.reduceAdd, Nat.reduceLeDiff, if_pos, and_self, splice_bc, splice_lit, bc_length, Array.size_append, Nat.sub_self, List.set_cons_zero, st37]
    refine ⟨?_, by omega⟩
    rw [hJ]
    have hxp : Ext (fun b => b = B) w22 (put w22 B (Obj.cells ((bc k).toArray ++ #[Value.slice va (l ++ [b8]).length vc, i64 src, i64 e]) 39)) := (Ext.refl _ _).put _ _ fun _ => rfl
    refine ⟨j + 1, l ++ [b8], _, by simp, by omega, by simp [hlj], ?_, Hp_put_same _ _ _ hB22l, Vec.extc hv' hxp fun b row hb _ e => by subst e; rw [hB22] at hb; simp at hb⟩
    exact (hx20.trans2 (M := fun b => sz w13 ≤ b) hx22' (fun _ _ h => h) fun b _ h => (hblk b h).1).trans2 hxp (fun _ _ h => h) fun b _ e => by omega
  · simp (disch := first | omega | trivial | assumption | (first | omega | (simp only [List.length_cons, List.length_nil, sz_alloc, sz_put, sz_drew]; done) | (simp only [List.length_replicate, List.length_cons, List.length_nil, *]; done) | (simp only [List.size_toArray, List.length_cons, List.length_nil, sz_alloc, sz_put, sz_drew] at *; omega)) | ((repeat' (first | exact allOne_bc _ | exact allOne_nil | (refine allOne_int _ _ _ ?_) | (refine allOne_sl _ _ _ _ ?_) | (refine allOne_ptr _ _ ?_) | (refine allOne_map _ _ ?_) | (refine allOne_bool _ _ ?_) | (refine allOne_str _ _ ?_) | (refine allOne_iface _ _ _ ?_) | (refine allOne_app _ _ ?_ ?_))); done) | (simp only [cells_agg, cells_int, cells_bool, cells_str, cells_ptr, cells_sl, cells_map, cells_func, cells_iface, List.size_toArray, Array.size_append, bc_length, List.length_cons, List.length_nil, Nat.zero_add, Nat.reduceAdd, *]; done) | (simp (disch := (first | assumption | (first | omega | (simp only [List.length_cons, List.length_nil, sz_alloc, sz_put, sz_drew]; done) | (simp only [List.length_replicate, List.length_cons, List.length_nil, *]; done) | (simp only [List.size_toArray, List.length_cons, List.length_nil, sz_alloc, sz_put, sz_drew] at *; omega)))) only [MapAt, Hp_drew, Hp_alloc_old, Hp_alloc_new, Hp_put_same, Hp_put_other, *])) only [hlt, p_lss, Branch_bool, decide_eq_true_eq, decide_eq_false_iff_not, true_and, false_implies]
    have h20 : ∀ H, PlC w20 p mb ub x room quota (sz w13) H A R s soon cm us cu := fun H => by
      refine ((h (max H (sz W))).ext hx20 fun b hb hq hm => ?_).mono fun b _ hq => by omega
      rcases hq with hq | hq
      · have := hq.2.2.2.2; omega
      · have := hM b hq; omega
    intro _
    exact put_tail f hxx h20 hM hB20 hBl hd20 (by omega) hk hk12 hK
end
end Go.Proofs
