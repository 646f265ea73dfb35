/- A part of the proof: A.P26. -/
import Derived.Test.YtgfeaeedlakmfaaAP25
set_option linter.unusedVariables false
set_option linter.unusedSimpArgs false
set_option linter.unusedSectionVars false
namespace Go.Proofs
open Go Go.Lf
set_option maxRecDepth 20000
set_option maxHeartbeats 2000000
set_option linter.unusedSimpArgs false
set_option linter.unusedVariables false
structure CallT where
  kind : Int
  key : Int
  size : Int
  source : Int
  for_ : Int
abbrev CallT.row (c : CallT) : Array Value := callRow c.kind c.key c.size c.source c.for_
def CallT.ok (c : CallT) : Prop := okI c.kind ∧ okI c.key ∧ okI c.size ∧ okI c.source ∧ okI c.for_
/-- an argument: a row of calls -/
def ArgC (w : World) (a : Value) (cs : List CallT) : Prop :=
  ((∃ a' c, a = .slice a' 0 c) ∧ cs = []) ∨ ∃ b o cap row U fr, a = .slice (some ⟨b, o, none⟩) cs.length cap ∧ Hp w b = some (.cells row U fr) ∧ ∀ i c, cs[i]? = some c → c.ok ∧ row.extract (o + i * 5) (o + i * 5 + 5) = c.row ∧ o + i * 5 + 5 ≤ row.size
section
variable {w0 w13 W : World} {p mb ub x cb kb : Nat} {room quota now i kind key size source for_ : Int} {A : List AE} {R : List BV} {s : Value} {soon : Int} {cm : Nat} {us : Ents Int} {cu : Nat} {k : List UInt8} {K : Value → World → Prop} {k1 : Value → Value → World → Prop}
theorem check_case (f : Fix w0 p mb ub x room quota) (h : PlC W p mb ub x room quota 0 0 A R s soon cm us cu) (hi : 0 ≤ i ∧ i ≤ 100)
    (hc : Hp W cb = some (.cells (callRow kind key size source for_) 33 (0, 0)))
    (hK : ∀ W', Ext (fun _ => False) W W' → k1 (i64 now) (i64 (i + 1)) W') :
    F3x21 (i64 now) (i64 i) (ptr cb 0) (ptr p 0) (ptr x 0) k1 W K := by
  have hcl := Hp_lt hc
  have hl := h.len
  have hr := h.r
  have hp := hr.hp
  have hxd : Ext (fun _ => False) W W.drew := (Ext.refl _ _).drew
  have hrel := h.rel
  unfold F3x21
  simp (disch := first | omega | trivial | assumption | (first | omega | (simp only [List.length_cons, List.length_nil, sz_alloc, sz_put, sz_drew]; done) | (simp only [List.length_replicate, List.length_cons, List.length_nil, *]; done) | (simp only [List.size_toArray, List.length_cons, List.length_nil, sz_alloc, sz_put, sz_drew] at *; omega)) | ((repeat' (first | exact allOne_bc _ | exact allOne_nil | (refine allOne_int _ _ _ ?_) | (refine allOne_sl _ _ _ _ ?_) | (refine allOne_ptr _ _ ?_) | (refine allOne_map _ _ ?_) | (refine allOne_bool _ _ ?_) | (refine allOne_str _ _ ?_) | (refine allOne_iface _ _ _ ?_) | (refine allOne_app _ _ ?_ ?_))); done) | (simp only [cells_agg, cells_int, cells_bool, cells_str, cells_ptr, cells_sl, cells_map, cells_func, cells_iface, List.size_toArray, Array.size_append, bc_length, List.length_cons, List.length_nil, Nat.zero_add, Nat.reduceAdd, *]; done) | (simp (disch := (first | assumption | (first | omega | (simp only [List.length_cons, List.length_nil, sz_alloc, sz_put, sz_drew]; done) | (simp only [List.length_replicate, List.length_cons, List.length_nil, *]; done) | (simp only [List.size_toArray, List.length_cons, List.length_nil, sz_alloc, sz_put, sz_drew] at *; omega)))) only [MapAt, Hp_drew, Hp_alloc_old, Hp_alloc_new, Hp_put_same, Hp_put_other, *])) only [hp, NilCk_ptr, p_add, L1_cells, Hp_drew, List.getElem?_toArray, List.getElem?_cons_zero, List.getElem?_cons_succ, Option.elim_some, Nat.zero_add, wr_in, fld33_3, fld50_2, ld47]
  have h1 := h.ext hxd fun _ _ _ => not_false
  refine CallF_by Try.call19 (all_spec h1.a (by omega)) ?_
  rintro v w77 ⟨hx2, L, hL1, hL2, hL3, hL4⟩
  have h2 := h1.ext hx2 fun _ _ _ => not_false
  have hp2 := h2.r.hp
  have he := all_eq hrel L hL1 hL2
  simp (disch := first | omega | trivial | assumption | (first | omega | (simp only [List.length_cons, List.length_nil, sz_alloc, sz_put, sz_drew]; done) | (simp only [List.length_replicate, List.length_cons, List.length_nil, *]; done) | (simp only [List.size_toArray, List.length_cons, List.length_nil, sz_alloc, sz_put, sz_drew] at *; omega)) | ((repeat' (first | exact allOne_bc _ | exact allOne_nil | (refine allOne_int _ _ _ ?_) | (refine allOne_sl _ _ _ _ ?_) | (refine allOne_ptr _ _ ?_) | (refine allOne_map _ _ ?_) | (refine allOne_bool _ _ ?_) | (refine allOne_str _ _ ?_) | (refine allOne_iface _ _ _ ?_) | (refine allOne_app _ _ ?_ ?_))); done) | (simp only [cells_agg, cells_int, cells_bool, cells_str, cells_ptr, cells_sl, cells_map, cells_func, cells_iface, List.size_toArray, Array.size_append, bc_length, List.length_cons, List.length_nil, Nat.zero_add, Nat.reduceAdd, *]; done) | (simp (disch := (first | assumption | (first | omega | (simp only [List.length_cons, List.length_nil, sz_alloc, sz_put, sz_drew]; done) | (simp only [List.length_replicate, List.length_cons, List.length_nil, *]; done) | (simp only [List.size_toArray, List.length_cons, List.length_nil, sz_alloc, sz_put, sz_drew] at *; omega)))) only [MapAt, Hp_drew, Hp_alloc_old, Hp_alloc_new, Hp_put_same, Hp_put_other, *])) only [hp2, L1_cells, List.getElem?_toArray, List.getElem?_cons_zero, List.getElem?_cons_succ, Option.elim_some, true_and]
  have hll : L.length ≤ 12 := by
    have := congrArg List.length he
    simp only [bR, List.length_map] at this; omega
  refine CallF_by Try.call18 (same_spec hL3 h2.r.sl (fun y hy => ⟨?_, hL4 y hy⟩) h2.r.data he (by omega)) ?_
  · have : y.1 ∈ bR R := by rw [← he]; exact List.mem_map_of_mem (f := fun x : BV => x.1) hy
    obtain ⟨z, hz, e⟩ := List.mem_map.1 this
    rw [← e]; exact h.r.klen z hz
  rintro _ w78 ⟨rfl, hx3⟩
  have h3 := h2.ext hx3 fun _ _ _ => not_false
  have hx3' : Ext (fun _ => False) W w78 := (hxd.trans hx2 fun _ _ h => h).trans hx3 fun _ _ h => h
  have hc3 := hx3'.at hc not_false
  simp (disch := first | omega | trivial | assumption | (first | omega | (simp only [List.length_cons, List.length_nil, sz_alloc, sz_put, sz_drew]; done) | (simp only [List.length_replicate, List.length_cons, List.length_nil, *]; done) | (simp only [List.size_toArray, List.length_cons, List.length_nil, sz_alloc, sz_put, sz_drew] at *; omega)) | ((repeat' (first | exact allOne_bc _ | exact allOne_nil | (refine allOne_int _ _ _ ?_) | (refine allOne_sl _ _ _ _ ?_) | (refine allOne_ptr _ _ ?_) | (refine allOne_map _ _ ?_) | (refine allOne_bool _ _ ?_) | (refine allOne_str _ _ ?_) | (refine allOne_iface _ _ _ ?_) | (refine allOne_app _ _ ?_ ?_))); done) | (simp only [cells_agg, cells_int, cells_bool, cells_str, cells_ptr, cells_sl, cells_map, cells_func, cells_iface, List.size_toArray, Array.size_append, bc_length, List.length_cons, List.length_nil, Nat.zero_add, Nat.reduceAdd, *]; done) | (simp (disch := (first | assumption | (first | omega | (simp only [List.length_cons, List.length_nil, sz_alloc, sz_put, sz_drew]; done) | (simp only [List.length_replicate, List.length_cons, List.length_nil, *]; done) | (simp only [List.size_toArray, List.length_cons, List.length_nil, sz_alloc, sz_put, sz_drew] at *; omega)))) only [MapAt, Hp_drew, Hp_alloc_old, Hp_alloc_new, Hp_put_same, Hp_put_other, *])) only [cond_false, Pick_bool, cond_false, p_not, Gdn_true, GdEn_true, Bool.not_true]
  refine CallF_by Try.call20 (total_spec h3.a) ?_
  rintro _ w79 ⟨rfl, hw79⟩
  obtain rfl : w78 = w79 := hw79.symm
  refine CallF_by Try.call21 (rtotal_spec h3.r (by omega)) ?_
  rintro _ w80 ⟨rfl, hw80⟩
  obtain rfl : w78 = w80 := hw80.symm
  rw [total_perm hrel.perm]
  simp (disch := first | omega | trivial | assumption | (first | omega | (simp only [List.length_cons, List.length_nil, sz_alloc, sz_put, sz_drew]; done) | (simp only [List.length_replicate, List.length_cons, List.length_nil, *]; done) | (simp only [List.size_toArray, List.length_cons, List.length_nil, sz_alloc, sz_put, sz_drew] at *; omega)) | ((repeat' (first | exact allOne_bc _ | exact allOne_nil | (refine allOne_int _ _ _ ?_) | (refine allOne_sl _ _ _ _ ?_) | (refine allOne_ptr _ _ ?_) | (refine allOne_map _ _ ?_) | (refine allOne_bool _ _ ?_) | (refine allOne_str _ _ ?_) | (refine allOne_iface _ _ _ ?_) | (refine allOne_app _ _ ?_ ?_))); done) | (simp only [cells_agg, cells_int, cells_bool, cells_str, cells_ptr, cells_sl, cells_map, cells_func, cells_iface, List.size_toArray, Array.size_append, bc_length, List.length_cons, List.length_nil, Nat.zero_add, Nat.reduceAdd, *]; done) | (simp (disch := (first | assumption | (first | omega | (simp only [List.length_cons, List.length_nil, sz_alloc, sz_put, sz_drew]; done) | (simp only [List.length_replicate, List.length_cons, List.length_nil, *]; done) | (simp only [List.size_toArray, List.length_cons, List.length_nil, sz_alloc, sz_put, sz_drew] at *; omega)))) only [MapAt, Hp_drew, Hp_alloc_old, Hp_alloc_new, Hp_put_same, Hp_put_other, *])) only [hc3, decide_true, cond_false, Pick_bool, cond_false, p_neq, L1_cells, Gdn_true, GdEn_true, List.getElem?_toArray, List.getElem?_cons_zero, List.getElem?_cons_succ, Option.elim_some, Bool.not_true, forall_const, ld3]
  refine CallF_by Try.call8 (within_spec source 4 (by decide) _) ?_
  rintro _ w81 ⟨rfl, hw81⟩
  obtain rfl : w78 = w81 := hw81.symm
  simp (disch := first | omega | trivial | assumption | (first | omega | (simp only [List.length_cons, List.length_nil, sz_alloc, sz_put, sz_drew]; done) | (simp only [List.length_replicate, List.length_cons, List.length_nil, *]; done) | (simp only [List.size_toArray, List.length_cons, List.length_nil, sz_alloc, sz_put, sz_drew] at *; omega)) | ((repeat' (first | exact allOne_bc _ | exact allOne_nil | (refine allOne_int _ _ _ ?_) | (refine allOne_sl _ _ _ _ ?_) | (refine allOne_ptr _ _ ?_) | (refine allOne_map _ _ ?_) | (refine allOne_bool _ _ ?_) | (refine allOne_str _ _ ?_) | (refine allOne_iface _ _ _ ?_) | (refine allOne_app _ _ ?_ ?_))); done) | (simp only [cells_agg, cells_int, cells_bool, cells_str, cells_ptr, cells_sl, cells_map, cells_func, cells_iface, List.size_toArray, Array.size_append, bc_length, List.length_cons, List.length_nil, Nat.zero_add, Nat.reduceAdd, *]; done) | (simp (disch := (first | assumption | (first | omega | (simp only [List.length_cons, List.length_nil, sz_alloc, sz_put, sz_drew]; done) | (simp only [List.length_replicate, List.length_cons, List.length_nil, *]; done) | (simp only [List.size_toArray, List.length_cons, List.length_nil, sz_alloc, sz_put, sz_drew] at *; omega)))) only [MapAt, Hp_drew, Hp_alloc_old, Hp_alloc_new, Hp_put_same, Hp_put_other, *])) only [hc3, L1_cells, List.getElem?_toArray, List.getElem?_cons_zero, List.getElem?_cons_succ, Option.elim_some, true_and]
  refine CallF_by Try.call22 (used_spec h3.a _) ?_
  rintro _ w82 ⟨rfl, hw82⟩
  obtain rfl : w78 = w82 := hw82.symm
  simp (disch := first | omega | trivial | assumption | (first | omega | (simp only [List.length_cons, List.length_nil, sz_alloc, sz_put, sz_drew]; done) | (simp only [List.length_replicate, List.length_cons, List.length_nil, *]; done) | (simp only [List.size_toArray, List.length_cons, List.length_nil, sz_alloc, sz_put, sz_drew] at *; omega)) | ((repeat' (first | exact allOne_bc _ | exact allOne_nil | (refine allOne_int _ _ _ ?_) | (refine allOne_sl _ _ _ _ ?_) | (refine allOne_ptr _ _ ?_) | (refine allOne_map _ _ ?_) | (refine allOne_bool _ _ ?_) | (refine allOne_str _ _ ?_) | (refine allOne_iface _ _ _ ?_) | (refine allOne_app _ _ ?_ ?_))); done) | (simp only [cells_agg, cells_int, cells_bool, cells_str, cells_ptr, cells_sl, cells_map, cells_func, cells_iface, List.size_toArray, Array.size_append, bc_length, List.length_cons, List.length_nil, Nat.zero_add, Nat.reduceAdd, *]; done) | (simp (disch := (first | assumption | (first | omega | (simp only [List.length_cons, List.length_nil, sz_alloc, sz_put, sz_drew]; done) | (simp only [List.length_replicate, List.length_cons, List.length_nil, *]; done) | (simp only [List.size_toArray, List.length_cons, List.length_nil, sz_alloc, sz_put, sz_drew] at *; omega)))) only [MapAt, Hp_drew, Hp_alloc_old, Hp_alloc_new, Hp_put_same, Hp_put_other, *])) only [hc3, L1_cells, List.getElem?_toArray, List.getElem?_cons_zero, List.getElem?_cons_succ, Option.elim_some, true_and]
  refine CallF_by Try.call8 (within_spec source 4 (by decide) _) ?_
  rintro _ w83 ⟨rfl, hw83⟩
  obtain rfl : w78 = w83 := hw83.symm
  refine CallF_by Try.call23 (rused_spec h3.r (by omega) _) ?_
  rintro _ w84 ⟨rfl, hw84⟩
  obtain rfl : w78 = w84 := hw84.symm
  rw [used_perm hrel.perm]
  simp (disch := first | omega | trivial | assumption | (first | omega | (simp only [List.length_cons, List.length_nil, sz_alloc, sz_put, sz_drew]; done) | (simp only [List.length_replicate, List.length_cons, List.length_nil, *]; done) | (simp only [List.size_toArray, List.length_cons, List.length_nil, sz_alloc, sz_put, sz_drew] at *; omega)) | ((repeat' (first | exact allOne_bc _ | exact allOne_nil | (refine allOne_int _ _ _ ?_) | (refine allOne_sl _ _ _ _ ?_) | (refine allOne_ptr _ _ ?_) | (refine allOne_map _ _ ?_) | (refine allOne_bool _ _ ?_) | (refine allOne_str _ _ ?_) | (refine allOne_iface _ _ _ ?_) | (refine allOne_app _ _ ?_ ?_))); done) | (simp only [cells_agg, cells_int, cells_bool, cells_str, cells_ptr, cells_sl, cells_map, cells_func, cells_iface, List.size_toArray, Array.size_append, bc_length, List.length_cons, List.length_nil, Nat.zero_add, Nat.reduceAdd, *]; done) | (simp (disch := (first | assumption | (first | omega | (simp only [List.length_cons, List.length_nil, sz_alloc, sz_put, sz_drew]; done) | (simp only [List.length_replicate, List.length_cons, List.length_nil, *]; done) | (simp only [List.size_toArray, List.length_cons, List.length_nil, sz_alloc, sz_put, sz_drew] at *; omega)))) only [MapAt, Hp_drew, Hp_alloc_old, Hp_alloc_new, Hp_put_same, Hp_put_other, *])) only [decide_true, p_neq, Branch_bool, Bool.not_true, true_and, Bool.false_eq_true, false_implies, forall_const]
  exact hK _ hx3'
/-- one call -/
theorem round (f : Fix w0 p mb ub x room quota) (h : PlC W p mb ub x room quota 0 0 A R s soon cm us cu) (n : Nat) (hn : n < 80) (hnow : 0 ≤ now ∧ now ≤ 5 * (n : Int)) (hx : Ext (fun _ => False) w0 W) {a2 : Value} {cs : List CallT} (ha : ArgC w0 a2 cs) {c : CallT} (hc : cs[n]? = some c)
    (hK : ∀ now' W', 0 ≤ now' → now' ≤ 5 * ((n : Int) + 1) → Ext (fun _ => False) w0 W' → PlS W' p mb ub x room quota 0 0 → k1 (i64 now') (i64 ((n : Int) + 1)) W') :
    F3x22 a2 (i64 now) (i64 (n : Int)) (ptr p 0) (ptr x 0) k1 W K := by
  have hnl := (List.getElem?_eq_some_iff.1 hc).1
  rcases ha with ⟨-, rfl⟩ | ⟨b, o, cap, row, U, fr, rfl, hb, hcells⟩
  · simp at hc
  obtain ⟨⟨ok1, ok2, ok3, ok4, ok5⟩, hrow, hrsz⟩ := hcells n c hc
  have hb' := hx.at hb not_false
  have hlt' : (n : Int) < (cs.length : Int) := by omega
  have hbl := Hp_lt hb'
  have hlts := h.lt
  unfold F3x22
  simp (disch := first | omega | trivial | assumption | (first | omega | (simp only [List.length_cons, List.length_nil, sz_alloc, sz_put, sz_drew]; done) | (simp only [List.length_replicate, List.length_cons, List.length_nil, *]; done) | (simp only [List.size_toArray, List.length_cons, List.length_nil, sz_alloc, sz_put, sz_drew] at *; omega)) | ((repeat' (first | exact allOne_bc _ | exact allOne_nil | (refine allOne_int _ _ _ ?_) | (refine allOne_sl _ _ _ _ ?_) | (refine allOne_ptr _ _ ?_) | (refine allOne_map _ _ ?_) | (refine allOne_bool _ _ ?_) | (refine allOne_str _ _ ?_) | (refine allOne_iface _ _ _ ?_) | (refine allOne_app _ _ ?_ ?_))); done) | (simp only [cells_agg, cells_int, cells_bool, cells_str, cells_ptr, cells_sl, cells_map, cells_func, cells_iface, List.size_toArray, Array.size_append, bc_length, List.length_cons, List.length_nil, Nat.zero_add, Nat.reduceAdd, *]; done) | (simp (disch := (first | assumption | (first | omega | (simp only [List.length_cons, List.length_nil, sz_alloc, sz_put, sz_drew]; done) | (simp only [List.length_replicate, List.length_cons, List.length_nil, *]; done) | (simp only [List.size_toArray, List.length_cons, List.length_nil, sz_alloc, sz_put, sz_drew] at *; omega)))) only [MapAt, Hp_drew, Hp_alloc_old, Hp_alloc_new, Hp_put_same, Hp_put_other, *])) only [hb', hrow, put_allocN, L1_cells, Ln_cells, St_cells, Hp_alloc_new, cells_agg, Nat.zero_add, Nat.add_zero, List.size_toArray, List.length_cons, List.length_nil, Nat.reduceAdd, Nat.reduceLeDiff, if_pos, and_self, forall_const, Int.toNat_natCast, ix22, fld33_0, fld33_1, ld3, ld33, st33, al33, al35, zv33, zv35]
  refine CallF_by Try.call9 (key_spec c.key ok2 _) ?_
  rintro _ w11 ⟨rfl, hx11⟩
  have hxa : Ext (fun _ => False) W w11 := ((Ext.refl _ W).alloc _).trans hx11 fun _ _ h => h
  have hcb := hx11.at (Hp_alloc_new W (.cells c.row 33 (0, 0)) (sz W) rfl) not_false
  have hs11 := hx11.size
  rw [sz_alloc] at hs11
  have hkl := keyOf_length c.key
  have hkm := keyOf_mem c.key
  generalize keyOf c.key = k at *
  have hcbl := Hp_lt hcb
  have z32 : (List.replicate 32 (0 : UInt8)).length = 32 := by simp
  have e0 : k.length = (List.replicate 32 (0 : UInt8)).length := by rw [hkl, z32]
  simp (disch := first | omega | trivial | assumption | (first | omega | (simp only [List.length_cons, List.length_nil, sz_alloc, sz_put, sz_drew]; done) | (simp only [List.length_replicate, List.length_cons, List.length_nil, *]; done) | (simp only [List.size_toArray, List.length_cons, List.length_nil, sz_alloc, sz_put, sz_drew] at *; omega)) | ((repeat' (first | exact allOne_bc _ | exact allOne_nil | (refine allOne_int _ _ _ ?_) | (refine allOne_sl _ _ _ _ ?_) | (refine allOne_ptr _ _ ?_) | (refine allOne_map _ _ ?_) | (refine allOne_bool _ _ ?_) | (refine allOne_str _ _ ?_) | (refine allOne_iface _ _ _ ?_) | (refine allOne_app _ _ ?_ ?_))); done) | (simp only [cells_agg, cells_int, cells_bool, cells_str, cells_ptr, cells_sl, cells_map, cells_func, cells_iface, List.size_toArray, Array.size_append, bc_length, List.length_cons, List.length_nil, Nat.zero_add, Nat.reduceAdd, *]; done) | (simp (disch := (first | assumption | (first | omega | (simp only [List.length_cons, List.length_nil, sz_alloc, sz_put, sz_drew]; done) | (simp only [List.length_replicate, List.length_cons, List.length_nil, *]; done) | (simp only [List.size_toArray, List.length_cons, List.length_nil, sz_alloc, sz_put, sz_drew] at *; omega)))) only [MapAt, Hp_drew, Hp_alloc_old, Hp_alloc_new, Hp_put_same, Hp_put_other, *])) only [hkl, z32, put_allocN, St_cells, Hp_alloc_new, Hp_alloc_old, cells_agg, Nat.zero_add, List.size_toArray, Nat.reduceLeDiff, if_pos, and_self, splice_bc_all, bc_length, st35]
  obtain ⟨w13, hw13⟩ : ∃ w13, w13 = w11.alloc (Obj.cells (bc k).toArray 35) := ⟨_, rfl⟩
  have hxb : Ext (fun _ => False) w11 w13 := by rw [hw13]; exact (Ext.refl _ _).alloc _
  have hkb13 : Hp w13 (sz w11) = some (Obj.cells (bc k).toArray 35) := by rw [hw13]; exact Hp_alloc_new _ _ _ rfl
  rw [← hw13]
  clear hw13
  have hcb13 := hxb.at hcb not_false
  have hx13 : Ext (fun _ => False) W w13 := hxa.trans hxb fun _ _ h => h
  have h13 := h.ext hx13 fun _ _ _ => not_false
  have hcb13l := Hp_lt hcb13
  have hcM : ¬ M4 p mb ub x (sz W) := fun hm => by rcases hm with e | e | e | e <;> omega
  have hkM : ¬ M4 p mb ub x (sz w11) := fun hm => by rcases hm with e | e | e | e <;> omega
  refine Join1 (fun v W' => ∃ now', v = i64 now' ∧ now ≤ now' ∧ now' ≤ now + 5 ∧ Ext (M4 p mb ub x) w13 W' ∧ PlS W' p mb ub x room quota 0 0) ?_ ?_
  · simp (disch := first | omega | trivial | assumption | (first | omega | (simp only [List.length_cons, List.length_nil, sz_alloc, sz_put, sz_drew]; done) | (simp only [List.length_replicate, List.length_cons, List.length_nil, *]; done) | (simp only [List.size_toArray, List.length_cons, List.length_nil, sz_alloc, sz_put, sz_drew] at *; omega)) | ((repeat' (first | exact allOne_bc _ | exact allOne_nil | (refine allOne_int _ _ _ ?_) | (refine allOne_sl _ _ _ _ ?_) | (refine allOne_ptr _ _ ?_) | (refine allOne_map _ _ ?_) | (refine allOne_bool _ _ ?_) | (refine allOne_str _ _ ?_) | (refine allOne_iface _ _ _ ?_) | (refine allOne_app _ _ ?_ ?_))); done) | (simp only [cells_agg, cells_int, cells_bool, cells_str, cells_ptr, cells_sl, cells_map, cells_func, cells_iface, List.size_toArray, Array.size_append, bc_length, List.length_cons, List.length_nil, Nat.zero_add, Nat.reduceAdd, *]; done) | (simp (disch := (first | assumption | (first | omega | (simp only [List.length_cons, List.length_nil, sz_alloc, sz_put, sz_drew]; done) | (simp only [List.length_replicate, List.length_cons, List.length_nil, *]; done) | (simp only [List.size_toArray, List.length_cons, List.length_nil, sz_alloc, sz_put, sz_drew] at *; omega)))) only [MapAt, Hp_drew, Hp_alloc_old, Hp_alloc_new, Hp_put_same, Hp_put_other, *])) only [hcb, L1_cells, List.getElem?_toArray, List.getElem?_cons_zero, Option.elim_some]
    refine CallF_by Try.call8 (within_spec c.kind 7 (by decide) _) ?_
    rintro _ w14 ⟨rfl, hw14⟩
    obtain rfl : w13 = w14 := hw14.symm
    refine Join1 (fun v W' => v = .bool (decide (c.kind % 7 = 0 ∨ c.kind % 7 = 1 ∨ c.kind % 7 = 2)) ∧ W' = w13) ?_ ?_
    · unfold F3x19
      simp (disch := first | omega | trivial | assumption | (first | omega | (simp only [List.length_cons, List.length_nil, sz_alloc, sz_put, sz_drew]; done) | (simp only [List.length_replicate, List.length_cons, List.length_nil, *]; done) | (simp only [List.size_toArray, List.length_cons, List.length_nil, sz_alloc, sz_put, sz_drew] at *; omega)) | ((repeat' (first | exact allOne_bc _ | exact allOne_nil | (refine allOne_int _ _ _ ?_) | (refine allOne_sl _ _ _ _ ?_) | (refine allOne_ptr _ _ ?_) | (refine allOne_map _ _ ?_) | (refine allOne_bool _ _ ?_) | (refine allOne_str _ _ ?_) | (refine allOne_iface _ _ _ ?_) | (refine allOne_app _ _ ?_ ?_))); done) | (simp only [cells_agg, cells_int, cells_bool, cells_str, cells_ptr, cells_sl, cells_map, cells_func, cells_iface, List.size_toArray, Array.size_append, bc_length, List.length_cons, List.length_nil, Nat.zero_add, Nat.reduceAdd, *]; done) | (simp (disch := (first | assumption | (first | omega | (simp only [List.length_cons, List.length_nil, sz_alloc, sz_put, sz_drew]; done) | (simp only [List.length_replicate, List.length_cons, List.length_nil, *]; done) | (simp only [List.size_toArray, List.length_cons, List.length_nil, sz_alloc, sz_put, sz_drew] at *; omega)))) only [MapAt, Hp_drew, Hp_alloc_old, Hp_alloc_new, Hp_put_same, Hp_put_other, *])) only [p_eql, Branch_bool, decide_eq_true_eq, decide_eq_false_iff_not, and_true]
      refine ⟨fun e => ?_, fun e => ⟨fun e2 => ?_, fun e2 => ?_⟩⟩ <;> congr 1 <;> rw [decide_eq_decide] <;> omega
    · rintro _ w15 ⟨rfl, hw15⟩
      obtain rfl : w13 = w15 := hw15.symm
      exact switch_case f h13 hkl hkm (by omega) (by omega) hcb13 hkb13 hkM _ fun now' W' h1 h2 h3 h4 => ⟨now', rfl, h1, h2, h3, h4⟩
  · rintro _ w76 ⟨now', rfl, hn1, hn2, hx76, A2, R2, s2, soon2, cm2, us2, cu2, h76⟩
    refine check_case f h76 (by omega) (hx76.at hcb13 hcM) fun W' hxW => hK now' W' (by omega) (by omega) ?_ ⟨A2, R2, s2, soon2, cm2, us2, cu2, h76.ext hxW fun _ _ _ => not_false⟩
    have hlo := f.lo
    have hall := (hx.trans hx13 fun _ _ h => h).trans2 (M := fun b => sz w0 ≤ b) hx76 (fun _ _ h => h.elim) fun b _ hm => by rcases hm with e | e | e | e <;> omega
    exact (hall.trans2 (M := fun b => sz w0 ≤ b) hxW (fun _ _ h => h) fun _ _ h => h.elim).mono fun b hb h => by omega
end
/-- AreaPlays: for every input. -/
theorem plays_spec {w : World} {room quota : Int} (hr : okI room) (hq : okI quota) {a2 : Value} {cs : List CallT} (ha : ArgC w a2 cs) :
    Calls Try.prog 3 #[i64 room, i64 quota, a2] w (retK fun v w' => v = .bool true ∧ Ext (fun _ => False) w w') := by
  refine F3_ok _ _ _ _ _ ?_
  unfold F3
  refine CallF_by Try.call5 (known_spec w) ?_
  rintro _ w1 ⟨rfl, hx1⟩
  simp (disch := first | omega | trivial | assumption | (first | omega | (simp only [List.length_cons, List.length_nil, sz_alloc, sz_put, sz_drew]; done) | (simp only [List.length_replicate, List.length_cons, List.length_nil, *]; done) | (simp only [List.size_toArray, List.length_cons, List.length_nil, sz_alloc, sz_put, sz_drew] at *; omega)) | ((repeat' (first | exact allOne_bc _ | exact allOne_nil | (refine allOne_int _ _ _ ?_) | (refine allOne_sl _ _ _ _ ?_) | (refine allOne_ptr _ _ ?_) | (refine allOne_map _ _ ?_) | (refine allOne_bool _ _ ?_) | (refine allOne_str _ _ ?_) | (refine allOne_iface _ _ _ ?_) | (refine allOne_app _ _ ?_ ?_))); done) | (simp only [cells_agg, cells_int, cells_bool, cells_str, cells_ptr, cells_sl, cells_map, cells_func, cells_iface, List.size_toArray, Array.size_append, bc_length, List.length_cons, List.length_nil, Nat.zero_add, Nat.reduceAdd, *]; done) | (simp (disch := (first | assumption | (first | omega | (simp only [List.length_cons, List.length_nil, sz_alloc, sz_put, sz_drew]; done) | (simp only [List.length_replicate, List.length_cons, List.length_nil, *]; done) | (simp only [List.size_toArray, List.length_cons, List.length_nil, sz_alloc, sz_put, sz_drew] at *; omega)))) only [MapAt, Hp_drew, Hp_alloc_old, Hp_alloc_new, Hp_put_same, Hp_put_other, *])) only [p_not, Branch_bool, Bool.not_true, true_and, Bool.false_eq_true, false_implies, forall_const]
  unfold F3x25
  have step : ∀ (K : Value → World → Prop), (∀ v w2, Ext (fun _ => False) w1 w2 → (∃ p, v = .tuple #[.pointer p, i64 (if okArgs room quota then 0 else 1)]) → K v w2) → CallF Try.prog 6 #[i64 room, i64 quota] w1 K := by
    intro K hK
    cases ho : okArgs room quota with
    | true =>
      rw [ho] at hK
      refine CallF_by Try.call6 (new_good w1 room quota ho (fun _ => False) (fun b h => h.elim)) ?_
      rintro v w2 ⟨rfl, hx, -⟩
      exact hK _ _ hx ⟨_, rfl⟩
    | false =>
      rw [ho] at hK
      refine CallF_by Try.call6 (new_bad w1 room quota ho) ?_
      rintro v w2 ⟨rfl, rfl⟩
      exact hK _ _ (Ext.refl _ _) ⟨_, rfl⟩
  refine step _ fun v w2 hx2 ⟨q1, e⟩ => ?_
  subst e
  have step' : ∀ (K : Value → World → Prop), (∀ v w3, Ext (fun _ => False) w2 w3 → (∃ p, v = .tuple #[.pointer p, i64 (if okArgs room quota then 0 else 1)]) → K v w3) → CallF Try.prog 7 #[i64 room, i64 quota] w2 K := by
    intro K hK
    cases ho : okArgs room quota with
    | true =>
      rw [ho] at hK
      refine CallF_by Try.call7 (rnew_good w2 room quota ho (fun _ => False) (fun b h => h.elim)) ?_
      rintro v w2 ⟨rfl, hx, -⟩
      exact hK _ _ hx ⟨_, rfl⟩
    | false =>
      rw [ho] at hK
      refine CallF_by Try.call7 (rnew_bad w2 room quota ho) ?_
      rintro v w2 ⟨rfl, rfl⟩
      exact hK _ _ (Ext.refl _ _) ⟨_, rfl⟩
  simp (disch := first | omega | trivial | assumption | (first | omega | (simp only [List.length_cons, List.length_nil, sz_alloc, sz_put, sz_drew]; done) | (simp only [List.length_replicate, List.length_cons, List.length_nil, *]; done) | (simp only [List.size_toArray, List.length_cons, List.length_nil, sz_alloc, sz_put, sz_drew] at *; omega)) | ((repeat' (first | exact allOne_bc _ | exact allOne_nil | (refine allOne_int _ _ _ ?_) | (refine allOne_sl _ _ _ _ ?_) | (refine allOne_ptr _ _ ?_) | (refine allOne_map _ _ ?_) | (refine allOne_bool _ _ ?_) | (refine allOne_str _ _ ?_) | (refine allOne_iface _ _ _ ?_) | (refine allOne_app _ _ ?_ ?_))); done) | (simp only [cells_agg, cells_int, cells_bool, cells_str, cells_ptr, cells_sl, cells_map, cells_func, cells_iface, List.size_toArray, Array.size_append, bc_length, List.length_cons, List.length_nil, Nat.zero_add, Nat.reduceAdd, *]; done) | (simp (disch := (first | assumption | (first | omega | (simp only [List.length_cons, List.length_nil, sz_alloc, sz_put, sz_drew]; done) | (simp only [List.length_replicate, List.length_cons, List.length_nil, *]; done) | (simp only [List.size_toArray, List.length_cons, List.length_nil, sz_alloc, sz_put, sz_drew] at *; omega)))) only [MapAt, Hp_drew, Hp_alloc_old, Hp_alloc_new, Hp_put_same, Hp_put_other, *])) only [p_extract0, p_extract1]
  refine step' _ fun v w3 hx3 ⟨q2, e⟩ => ?_
  subst e
  simp (disch := first | omega | trivial | assumption | (first | omega | (simp only [List.length_cons, List.length_nil, sz_alloc, sz_put, sz_drew]; done) | (simp only [List.length_replicate, List.length_cons, List.length_nil, *]; done) | (simp only [List.size_toArray, List.length_cons, List.length_nil, sz_alloc, sz_put, sz_drew] at *; omega)) | ((repeat' (first | exact allOne_bc _ | exact allOne_nil | (refine allOne_int _ _ _ ?_) | (refine allOne_sl _ _ _ _ ?_) | (refine allOne_ptr _ _ ?_) | (refine allOne_map _ _ ?_) | (refine allOne_bool _ _ ?_) | (refine allOne_str _ _ ?_) | (refine allOne_iface _ _ _ ?_) | (refine allOne_app _ _ ?_ ?_))); done) | (simp only [cells_agg, cells_int, cells_bool, cells_str, cells_ptr, cells_sl, cells_map, cells_func, cells_iface, List.size_toArray, Array.size_append, bc_length, List.length_cons, List.length_nil, Nat.zero_add, Nat.reduceAdd, *]; done) | (simp (disch := (first | assumption | (first | omega | (simp only [List.length_cons, List.length_nil, sz_alloc, sz_put, sz_drew]; done) | (simp only [List.length_replicate, List.length_cons, List.length_nil, *]; done) | (simp only [List.size_toArray, List.length_cons, List.length_nil, sz_alloc, sz_put, sz_drew] at *; omega)))) only [MapAt, Hp_drew, Hp_alloc_old, Hp_alloc_new, Hp_put_same, Hp_put_other, *])) only [decide_true, p_neq, p_extract0, p_extract1, Branch_bool, Bool.not_true, true_and, Bool.false_eq_true, false_implies, forall_const]
  unfold F3x24
  refine CallF_by Try.call8 (within_spec room 300 (by decide) _) ?_
  rintro _ w4 ⟨rfl, hw4⟩
  obtain rfl : w3 = w4 := hw4.symm
  have b1 := within_prop room 300 (by decide)
  have b2 := within_prop quota 200 (by decide)
  simp (disch := first | omega | trivial | assumption | (first | omega | (simp only [List.length_cons, List.length_nil, sz_alloc, sz_put, sz_drew]; done) | (simp only [List.length_replicate, List.length_cons, List.length_nil, *]; done) | (simp only [List.size_toArray, List.length_cons, List.length_nil, sz_alloc, sz_put, sz_drew] at *; omega)) | ((repeat' (first | exact allOne_bc _ | exact allOne_nil | (refine allOne_int _ _ _ ?_) | (refine allOne_sl _ _ _ _ ?_) | (refine allOne_ptr _ _ ?_) | (refine allOne_map _ _ ?_) | (refine allOne_bool _ _ ?_) | (refine allOne_str _ _ ?_) | (refine allOne_iface _ _ _ ?_) | (refine allOne_app _ _ ?_ ?_))); done) | (simp only [cells_agg, cells_int, cells_bool, cells_str, cells_ptr, cells_sl, cells_map, cells_func, cells_iface, List.size_toArray, Array.size_append, bc_length, List.length_cons, List.length_nil, Nat.zero_add, Nat.reduceAdd, *]; done) | (simp (disch := (first | assumption | (first | omega | (simp only [List.length_cons, List.length_nil, sz_alloc, sz_put, sz_drew]; done) | (simp only [List.length_replicate, List.length_cons, List.length_nil, *]; done) | (simp only [List.size_toArray, List.length_cons, List.length_nil, sz_alloc, sz_put, sz_drew] at *; omega)))) only [MapAt, Hp_drew, Hp_alloc_old, Hp_alloc_new, Hp_put_same, Hp_put_other, *])) only [p_add, forall_const, wr_in]
  refine CallF_by Try.call8 (within_spec quota 200 (by decide) _) ?_
  rintro _ w5 ⟨rfl, hw5⟩
  obtain rfl : w3 = w5 := hw5.symm
  simp (disch := first | omega | trivial | assumption | (first | omega | (simp only [List.length_cons, List.length_nil, sz_alloc, sz_put, sz_drew]; done) | (simp only [List.length_replicate, List.length_cons, List.length_nil, *]; done) | (simp only [List.size_toArray, List.length_cons, List.length_nil, sz_alloc, sz_put, sz_drew] at *; omega)) | ((repeat' (first | exact allOne_bc _ | exact allOne_nil | (refine allOne_int _ _ _ ?_) | (refine allOne_sl _ _ _ _ ?_) | (refine allOne_ptr _ _ ?_) | (refine allOne_map _ _ ?_) | (refine allOne_bool _ _ ?_) | (refine allOne_str _ _ ?_) | (refine allOne_iface _ _ _ ?_) | (refine allOne_app _ _ ?_ ?_))); done) | (simp only [cells_agg, cells_int, cells_bool, cells_str, cells_ptr, cells_sl, cells_map, cells_func, cells_iface, List.size_toArray, Array.size_append, bc_length, List.length_cons, List.length_nil, Nat.zero_add, Nat.reduceAdd, *]; done) | (simp (disch := (first | assumption | (first | omega | (simp only [List.length_cons, List.length_nil, sz_alloc, sz_put, sz_drew]; done) | (simp only [List.length_replicate, List.length_cons, List.length_nil, *]; done) | (simp only [List.size_toArray, List.length_cons, List.length_nil, sz_alloc, sz_put, sz_drew] at *; omega)))) only [MapAt, Hp_drew, Hp_alloc_old, Hp_alloc_new, Hp_put_same, Hp_put_other, *])) only [p_add, wr_in]
  have ho : okArgs (1 + room % 300) (1 + quota % 200) = true := decide_eq_true (by omega)
  have hxx : Ext (fun _ => False) w w3 := (hx1.trans hx2 fun _ _ h => h).trans hx3 fun _ _ h => h
  have hs3 := hxx.size
  refine CallF_by Try.call6 (new_good w3 _ _ ho (QL (sz w3 + 2) (sz w3) (sz w3 + 1) (sz w3 + 3) 0 0) (fun b h => by have h1 := h.1; have h2 := h.2.1; have h3 := h.2.2.1; omega)) ?_
  rintro _ w6 ⟨rfl, hx6, hs6, soon, cm, us, cu, hA, hso⟩
  simp (disch := first | omega | trivial | assumption | (first | omega | (simp only [List.length_cons, List.length_nil, sz_alloc, sz_put, sz_drew]; done) | (simp only [List.length_replicate, List.length_cons, List.length_nil, *]; done) | (simp only [List.size_toArray, List.length_cons, List.length_nil, sz_alloc, sz_put, sz_drew] at *; omega)) | ((repeat' (first | exact allOne_bc _ | exact allOne_nil | (refine allOne_int _ _ _ ?_) | (refine allOne_sl _ _ _ _ ?_) | (refine allOne_ptr _ _ ?_) | (refine allOne_map _ _ ?_) | (refine allOne_bool _ _ ?_) | (refine allOne_str _ _ ?_) | (refine allOne_iface _ _ _ ?_) | (refine allOne_app _ _ ?_ ?_))); done) | (simp only [cells_agg, cells_int, cells_bool, cells_str, cells_ptr, cells_sl, cells_map, cells_func, cells_iface, List.size_toArray, Array.size_append, bc_length, List.length_cons, List.length_nil, Nat.zero_add, Nat.reduceAdd, *]; done) | (simp (disch := (first | assumption | (first | omega | (simp only [List.length_cons, List.length_nil, sz_alloc, sz_put, sz_drew]; done) | (simp only [List.length_replicate, List.length_cons, List.length_nil, *]; done) | (simp only [List.size_toArray, List.length_cons, List.length_nil, sz_alloc, sz_put, sz_drew] at *; omega)))) only [MapAt, Hp_drew, Hp_alloc_old, Hp_alloc_new, Hp_put_same, Hp_put_other, *])) only [p_extract0, p_extract1]
  refine CallF_by Try.call7 (rnew_good w6 _ _ ho (QL (sz w3 + 2) (sz w3) (sz w3 + 1) (sz w3 + 3) 0 0) (fun b h => by have h1 := h.2.2.2.1; omega)) ?_
  rintro _ w7 ⟨rfl, hx7, hs7, hR⟩
  simp (disch := first | omega | trivial | assumption | (first | omega | (simp only [List.length_cons, List.length_nil, sz_alloc, sz_put, sz_drew]; done) | (simp only [List.length_replicate, List.length_cons, List.length_nil, *]; done) | (simp only [List.size_toArray, List.length_cons, List.length_nil, sz_alloc, sz_put, sz_drew] at *; omega)) | ((repeat' (first | exact allOne_bc _ | exact allOne_nil | (refine allOne_int _ _ _ ?_) | (refine allOne_sl _ _ _ _ ?_) | (refine allOne_ptr _ _ ?_) | (refine allOne_map _ _ ?_) | (refine allOne_bool _ _ ?_) | (refine allOne_str _ _ ?_) | (refine allOne_iface _ _ _ ?_) | (refine allOne_app _ _ ?_ ?_))); done) | (simp only [cells_agg, cells_int, cells_bool, cells_str, cells_ptr, cells_sl, cells_map, cells_func, cells_iface, List.size_toArray, Array.size_append, bc_length, List.length_cons, List.length_nil, Nat.zero_add, Nat.reduceAdd, *]; done) | (simp (disch := (first | assumption | (first | omega | (simp only [List.length_cons, List.length_nil, sz_alloc, sz_put, sz_drew]; done) | (simp only [List.length_replicate, List.length_cons, List.length_nil, *]; done) | (simp only [List.size_toArray, List.length_cons, List.length_nil, sz_alloc, sz_put, sz_drew] at *; omega)))) only [MapAt, Hp_drew, Hp_alloc_old, Hp_alloc_new, Hp_put_same, Hp_put_other, *])) only [p_extract0, p_extract1]
  rw [show sz w6 = sz w3 + 3 from hs6] at hR ⊢
  have f : Fix w (sz w3 + 2) (sz w3) (sz w3 + 1) (sz w3 + 3) (1 + room % 300) (1 + quota % 200) := ⟨by omega, by omega, by omega, by omega⟩
  have hP : PlS w7 (sz w3 + 2) (sz w3) (sz w3 + 1) (sz w3 + 3) (1 + room % 300) (1 + quota % 200) 0 0 :=
    ⟨[], [], _, soon, cm, us, cu, hA.ext hx7 fun _ _ _ => not_false, hso, hR, ⟨List.Perm.refl _, List.Pairwise.nil⟩, by simp⟩
  have hx7' : Ext (fun _ => False) w w7 := (hxx.trans hx6 fun _ _ h => h).trans hx7 fun _ _ h => h
  obtain ⟨J, hJ⟩ : ∃ J : Value → Value → World → Prop, J = fun v u w8 => ∃ (now : Int) (n : Nat), v = i64 now ∧ u = i64 (n : Int) ∧ n ≤ 80 ∧ 0 ≤ now ∧ now ≤ 5 * (n : Int) ∧ Ext (fun _ => False) w w8 ∧ PlS w8 (sz w3 + 2) (sz w3) (sz w3 + 1) (sz w3 + 3) (1 + room % 300) (1 + quota % 200) 0 0 := ⟨_, rfl⟩
  refine Loop2 J (fun _ u _ => 80 - (match u with | .int _ n => n.toNat | _ => 0)) (by rw [hJ]; exact ⟨0, 0, rfl, rfl, by omega, by omega, by omega, hx7', hP⟩) ?_
  intro v u w8 hj
  rw [hJ] at hj
  obtain ⟨now, n, rfl, rfl, hn, hn0, hn5, hx8, A, R, s, soon8, cm8, us8, cu8, h8⟩ := hj
  unfold F3x23
  have hform : ∃ a c, a2 = .slice a cs.length c := by
    rcases ha with ⟨⟨a', c, rfl⟩, rfl⟩ | ⟨b, o, cap, row, U, fr, rfl, _⟩
    · exact ⟨_, _, rfl⟩
    · exact ⟨_, _, rfl⟩
  obtain ⟨aa, ac, rfl⟩ := hform
  by_cases h1 : (n : Int) < (cs.length : Int)
  · by_cases h2 : (n : Int) < 80
    · simp (disch := first | omega | trivial | assumption | (first | omega | (simp only [List.length_cons, List.length_nil, sz_alloc, sz_put, sz_drew]; done) | (simp only [List.length_replicate, List.length_cons, List.length_nil, *]; done) | (simp only [List.size_toArray, List.length_cons, List.length_nil, sz_alloc, sz_put, sz_drew] at *; omega)) | ((repeat' (first | exact allOne_bc _ | exact allOne_nil | (refine allOne_int _ _ _ ?_) | (refine allOne_sl _ _ _ _ ?_) | (refine allOne_ptr _ _ ?_) | (refine allOne_map _ _ ?_) | (refine allOne_bool _ _ ?_) | (refine allOne_str _ _ ?_) | (refine allOne_iface _ _ _ ?_) | (refine allOne_app _ _ ?_ ?_))); done) | (simp only [cells_agg, cells_int, cells_bool, cells_str, cells_ptr, cells_sl, cells_map, cells_func, cells_iface, List.size_toArray, Array.size_append, bc_length, List.length_cons, List.length_nil, Nat.zero_add, Nat.reduceAdd, *]; done) | (simp (disch := (first | assumption | (first | omega | (simp only [List.length_cons, List.length_nil, sz_alloc, sz_put, sz_drew]; done) | (simp only [List.length_replicate, List.length_cons, List.length_nil, *]; done) | (simp only [List.size_toArray, List.length_cons, List.length_nil, sz_alloc, sz_put, sz_drew] at *; omega)))) only [MapAt, Hp_drew, Hp_alloc_old, Hp_alloc_new, Hp_put_same, Hp_put_other, *])) only [h1, h2, decide_true, cond_true, Pick_bool, cond_true, p_lss, Branch_bool, Gd_true, and_true, true_and, Bool.true_eq_false, false_implies, forall_const, Int.toNat_natCast, len22]
      obtain ⟨c, hc⟩ : ∃ c, cs[n]? = some c := ⟨_, List.getElem?_eq_getElem (by omega)⟩
      refine round f h8 n (by omega) ⟨hn0, hn5⟩ hx8 ha hc fun now' W' g1 g2 g3 g4 => ⟨?_, by simp only [] ; omega⟩
      rw [hJ]
      exact ⟨now', n + 1, rfl, by simp, by omega, g1, by omega, g3, g4⟩
    · simp (disch := first | omega | trivial | assumption | (first | omega | (simp only [List.length_cons, List.length_nil, sz_alloc, sz_put, sz_drew]; done) | (simp only [List.length_replicate, List.length_cons, List.length_nil, *]; done) | (simp only [List.size_toArray, List.length_cons, List.length_nil, sz_alloc, sz_put, sz_drew] at *; omega)) | ((repeat' (first | exact allOne_bc _ | exact allOne_nil | (refine allOne_int _ _ _ ?_) | (refine allOne_sl _ _ _ _ ?_) | (refine allOne_ptr _ _ ?_) | (refine allOne_map _ _ ?_) | (refine allOne_bool _ _ ?_) | (refine allOne_str _ _ ?_) | (refine allOne_iface _ _ _ ?_) | (refine allOne_app _ _ ?_ ?_))); done) | (simp only [cells_agg, cells_int, cells_bool, cells_str, cells_ptr, cells_sl, cells_map, cells_func, cells_iface, List.size_toArray, Array.size_append, bc_length, List.length_cons, List.length_nil, Nat.zero_add, Nat.reduceAdd, *]; done) | (simp (disch := (first | assumption | (first | omega | (simp only [List.length_cons, List.length_nil, sz_alloc, sz_put, sz_drew]; done) | (simp only [List.length_replicate, List.length_cons, List.length_nil, *]; done) | (simp only [List.size_toArray, List.length_cons, List.length_nil, sz_alloc, sz_put, sz_drew] at *; omega)))) only [MapAt, Hp_drew, Hp_alloc_old, Hp_alloc_new, Hp_put_same, Hp_put_other, *])) only [h1, h2, decide_true, decide_false, cond_true, Pick_bool, cond_true, p_lss, Branch_bool, Gd_true, true_and, Bool.false_eq_true, false_implies, forall_const, Int.toNat_natCast, len22]
      exact hx8
  · simp (disch := first | omega | trivial | assumption | (first | omega | (simp only [List.length_cons, List.length_nil, sz_alloc, sz_put, sz_drew]; done) | (simp only [List.length_replicate, List.length_cons, List.length_nil, *]; done) | (simp only [List.size_toArray, List.length_cons, List.length_nil, sz_alloc, sz_put, sz_drew] at *; omega)) | ((repeat' (first | exact allOne_bc _ | exact allOne_nil | (refine allOne_int _ _ _ ?_) | (refine allOne_sl _ _ _ _ ?_) | (refine allOne_ptr _ _ ?_) | (refine allOne_map _ _ ?_) | (refine allOne_bool _ _ ?_) | (refine allOne_str _ _ ?_) | (refine allOne_iface _ _ _ ?_) | (refine allOne_app _ _ ?_ ?_))); done) | (simp only [cells_agg, cells_int, cells_bool, cells_str, cells_ptr, cells_sl, cells_map, cells_func, cells_iface, List.size_toArray, Array.size_append, bc_length, List.length_cons, List.length_nil, Nat.zero_add, Nat.reduceAdd, *]; done) | (simp (disch := (first | assumption | (first | omega | (simp only [List.length_cons, List.length_nil, sz_alloc, sz_put, sz_drew]; done) | (simp only [List.length_replicate, List.length_cons, List.length_nil, *]; done) | (simp only [List.size_toArray, List.length_cons, List.length_nil, sz_alloc, sz_put, sz_drew] at *; omega)))) only [MapAt, Hp_drew, Hp_alloc_old, Hp_alloc_new, Hp_put_same, Hp_put_other, *])) only [h1, decide_false, cond_false, Pick_bool, cond_false, p_lss, Branch_bool, Gd_false, true_and, Bool.false_eq_true, false_implies, forall_const, Int.toNat_natCast, len22]
    exact hx8
end Go.Proofs
