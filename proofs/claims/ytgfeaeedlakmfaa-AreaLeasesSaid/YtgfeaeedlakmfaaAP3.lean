/- A part of the proof: A.P3. -/
import Derived.Test.YtgfeaeedlakmfaaAP2
set_option linter.unusedVariables false
set_option linter.unusedSimpArgs false
set_option linter.unusedSectionVars false
namespace Go.Proofs
open Go Go.Lf
set_option maxRecDepth 20000
set_option maxHeartbeats 2000000
set_option linter.unusedSimpArgs false
set_option linter.unusedVariables false
def O35_0 : List Oper := [(Oper.mk (some 2) (Op.box 47 (Operand.tmp 0)) 0 "iter.go:50" #[] none), (Oper.mk (some 4) (Op.assign (Operand.const (Value.slice none 0 0))) 47 "iter.go:50" #[] none)]
def O35_1 : List Oper := [(Oper.mk (some 6) (Op.move (Operand.tmp 1)) 64 "iter.go:51" #[] none)]
def O35_2 : List Oper := [(Oper.mk (some 5) (Op.alloc 39) 0 "iter.go:51" #[] none), (Oper.mk none (Op.store 39 (Operand.tmp 5) (Operand.tmp 7)) 0 "iter.go:51" #[(Edge.mk 0 Ground.data), (Edge.mk 0 Ground.phase)] none)]
def O35_3 : List Oper := [(Oper.mk (some 8) (Op.load 47 (Operand.tmp 2)) 47 "iter.go:52" #[] none), (Oper.mk (some 9) (Op.load 39 (Operand.tmp 5)) 39 "iter.go:52" #[] none), (Oper.mk (some 10) (Op.buildSlice 47 1 #[(0, (Operand.tmp 9))]) 47 "iter.go:52" #[(Edge.mk 1 Ground.data)] none), (Oper.mk (some 11) (Op.call (Call.mk (Callee.builtin Builtin.append) #[(Operand.tmp 8), (Operand.tmp 10)] #[47, 47])) 47 "iter.go:52" #[(Edge.mk 0 Ground.data), (Edge.mk 2 Ground.data)] none), (Oper.mk none (Op.store 47 (Operand.tmp 2) (Operand.tmp 11)) 0 "iter.go:52" #[(Edge.mk 3 Ground.data), (Edge.mk 3 Ground.chain), (Edge.mk 0 Ground.phase), (Edge.mk 1 Ground.phase), (Edge.mk 2 Ground.phase), (Edge.mk 3 Ground.phase)] none)]
def O35_4 : List Oper := [(Oper.mk (some 12) (Op.load 47 (Operand.tmp 2)) 47 "iter.go:54" #[] none), (Oper.mk (some 4) (Op.assign (Operand.tmp 12)) 47 "iter.go:54" #[(Edge.mk 0 Ground.data), (Edge.mk 0 Ground.phase)] none)]
noncomputable def C35 : Code := Try.f35.body.getD .skip
theorem B35 : Try.f35.body = some C35 := by kernel_rfl
theorem S35 : C35 = (Code.seq (Code.region 0 O35_0.toArray false) (Code.seq (Code.seq (Code.region 1 O35_1.toArray false) (Code.block 0 (Code.rangeFunc (Operand.tmp 6) #[7] (Code.region 2 O35_2.toArray false) (Code.block 1 (Code.region 3 O35_3.toArray false))))) (Code.seq (Code.region 4 O35_4.toArray false) Code.ret))) := by kernel_rfl

def ok35 (x : Value) : Prop := ∃ cs, x = .agg cs ∧ cs.size = 35 ∧ allOne cs
theorem r35_0 (E : Env) (w : World) (K : Env → World → Prop) : seqF Try.prog 13 O35_0 K O35_0 [.e, .p] E w =
    Run Try.prog (Instr.box 47 (E 0)) w fun v2 w1 => K ((E.set 2 v2).set 4 (.slice none 0 0)) w1 := by kernel_rfl
theorem r35_1 (E : Env) (w : World) (K : Env → World → Prop) : seqF Try.prog 13 O35_1 K O35_1 [.p] E w = K (E.set 6 (E 1)) w := by kernel_rfl
theorem r35_2 (E : Env) (w : World) (K : Env → World → Prop) : seqF Try.prog 13 O35_2 K O35_2 [.e, .e] E w =
    Run Try.prog (Instr.alloc 39 true (.tuple #[])) w fun v5 w1 => Run Try.prog (Instr.storeAt 39 v5 (E 7)) w1 fun _ w2 => K (E.set 5 v5) w2 := by kernel_rfl
theorem r35_3 (E : Env) (w : World) (K : Env → World → Prop) : seqF Try.prog 13 O35_3 K O35_3 [.q, .q, .e, .e, .e] E w =
    QRun Try.prog (Instr.loadAt 47 (E 2)) w fun v8 => QRun Try.prog (Instr.loadAt 39 (E 5)) w fun v9 => Run Try.prog (Instr.buildSlice 47 1 #[(0, v9)]) w fun v10 w1 =>
    Run Try.prog (Builtin.append_ #[47, 47] 47 #[v8, v10]) w1 fun v11 w2 => Run Try.prog (Instr.storeAt 47 (E 2) v11) w2 fun _ w3 => K ((((E.set 8 v8).set 9 v9).set 10 v10).set 11 v11) w3 := by kernel_rfl
theorem catC_snoc (l : List Value) (cs : Array Value) : catC (l ++ [.agg cs]) = catC l ++ cs.toList := by simp [catC, cells_agg]
theorem catC_one (cs : Array Value) : catC [.agg cs] = cs.toList := by simp [catC, cells_agg]
theorem appendSeq_spec {w : World} {gf N : Nat} {lb : Array Value} {S : List Value → Prop} (eg : ∀ args w, (callFunc gf args).run Try.prog w = .ok (.enter gf args) w)
    (hG : ∀ W, Ext (fun _ => False) w W → Gives Try.prog gf lb (fun x : Value => x) ok35 N S W) (hN : N ≤ 1000000000) :
    Calls Try.prog 35 #[.slice none 0 0, .func (.func gf) #[] lb] w (retK fun v w' => ∃ xs, S xs ∧ (∀ x ∈ xs, ok35 x) ∧ Vec w' 39 35 v xs.length (catC xs) (fun b => sz w ≤ b) ∧ Ext (fun _ => False) w w') := by
  refine (callsIn_wide (n := 0)).1 (callsIn_of_wp_marks (F := Fence.wide) Try.func35 B35 trivial ?_)
  rw [show ({ tmps := #[.slice none 0 0, .func (.func gf) #[] lb] ++ Array.replicate (Try.f35.ntmps - (#[.slice none 0 0, .func (.func gf) #[] lb] : Array Value).size) undef, defers := [] } : Act) = act 13 (envOf [.slice none 0 0, .func (.func gf) #[] lb] 0) from by
    rw [Try.ntmps35]; exact act_init [.slice none 0 0, .func (.func gf) #[] lb] 13 (by simp), S35]
  let E0 : Env := envOf [.slice none 0 0, .func (.func gf) #[] lb] 0
  let w1 := w.alloc (.cells #[.slice none 0 0] 47 (0, 0))
  let E1 : Env := ((E0.set 2 (ptr (sz w) 0)).set 4 (.slice none 0 0)).set 6 (E0 1)
  have hx1 : Ext (fun _ => False) w w1 := (Ext.refl _ w).alloc _
  have hs1 : sz w1 = sz w + 1 := sz_alloc _ _
  refine wpIn_seq ?_
  refine region_seq (r := none) (K := fun E' w' => E' = (E0.set 2 (ptr (sz w) 0)).set 4 (.slice none 0 0) ∧ w' = w1) (cs := [.e, .p]) rfl ?_ ?_
  rotate_left
  · rw [r35_0]
    simp (disch := first | omega | trivial | assumption | (first | omega | (simp only [List.length_cons, List.length_nil, sz_alloc, sz_put, sz_drew]; done) | (simp only [List.length_replicate, List.length_cons, List.length_nil, *]; done) | (simp only [List.size_toArray, List.length_cons, List.length_nil, sz_alloc, sz_put, sz_drew] at *; omega)) | ((repeat' (first | exact allOne_bc _ | exact allOne_nil | (refine allOne_int _ _ _ ?_) | (refine allOne_sl _ _ _ _ ?_) | (refine allOne_ptr _ _ ?_) | (refine allOne_map _ _ ?_) | (refine allOne_bool _ _ ?_) | (refine allOne_str _ _ ?_) | (refine allOne_iface _ _ _ ?_) | (refine allOne_app _ _ ?_ ?_))); done) | (simp only [cells_agg, cells_int, cells_bool, cells_str, cells_ptr, cells_sl, cells_map, cells_func, cells_iface, List.size_toArray, Array.size_append, bc_length, List.length_cons, List.length_nil, Nat.zero_add, Nat.reduceAdd, *]; done) | (simp (disch := (first | assumption | (first | omega | (simp only [List.length_cons, List.length_nil, sz_alloc, sz_put, sz_drew]; done) | (simp only [List.length_replicate, List.length_cons, List.length_nil, *]; done) | (simp only [List.size_toArray, List.length_cons, List.length_nil, sz_alloc, sz_put, sz_drew] at *; omega)))) only [MapAt, Hp_drew, Hp_alloc_old, Hp_alloc_new, Hp_put_same, Hp_put_other, *])) only [r_box]
    exact ⟨rfl, rfl⟩
  rintro E' w' _ ⟨rfl, rfl⟩
  show Code.wpIn _ _ _ _ _ _ _
  refine wpIn_seq (wpIn_seq ?_)
  refine region_seq (r := none) (K := fun E' w' => E' = E1 ∧ w' = w1) (cs := [.p]) rfl ?_ ?_
  rotate_left
  · rw [r35_1]; exact ⟨rfl, rfl⟩
  rintro E' w' _ ⟨rfl, rfl⟩
  show Code.wpIn _ _ _ _ _ _ _
  refine wpIn_block ?_
  refine rf_law (gf := gf) (lb := lb) (ok := ok35) (N := N) (S := S) (enc := fun x : Value => x) rfl eg (hG w1 hx1)
    (fun pre A => ∃ v, Hp A (sz w) = some (.cells #[v] 47 (0, 0)) ∧ Vec A 39 35 v pre.length (catC pre) (fun b => sz w < b) ∧ Ext (fun _ => False) w A ∧ ∀ x ∈ pre, ok35 x) ?_ ?_ ?_ ?_
  · rintro pre A B M ⟨v, h1, h2, h3, h4⟩ hx hM
    refine ⟨v, hx.at h1 fun hm => ?_, ?_, h3.trans hx (fun b hb hm => ?_), h4⟩
    · have := (hM _ (Hp_lt h1) hm).1; omega
    · obtain ⟨hl, hv⟩ := h2
      refine ⟨hl, hv.imp id ?_⟩
      rintro ⟨b, o, cap, row, e1, e2, e3, e4, e5, e6⟩
      refine ⟨b, o, cap, row, e1, e2, hx.at e3 fun hm => ?_, e4, e5, e6⟩
      obtain ⟨_, ob, ho, hc⟩ := hM _ (Hp_lt e3) hm
      rw [e3] at ho; cases ho; cases hc
    · have := (hM b (Nat.lt_of_lt_of_le hb h3.size) hm).1; omega
  · exact ⟨_, Hp_alloc_new _ _ _ rfl, Vec.nil _ _ _ _, hx1, by simp⟩
  · rintro l pre x A ⟨cs, rfl, hsz, hone⟩ hlen ⟨v, h1, h2, h3, h4⟩
    have hsp : splice ((bc (List.replicate 32 0)).toArray ++ #[Value.slice none 0 0, i64 0, i64 0]) 0 cs = cs := splice_all _ _ (by rw [hsz]; rfl)
    have hex : cs.extract 0 35 = cs := by rw [← hsz]; exact Array.extract_size
    have hz : ((bc (List.replicate 32 0)).toArray ++ #[Value.slice none 0 0, i64 0, i64 0]).size = 35 := rfl
    refine region_seq (r := some l) (K := fun E' w' => E' = (E1.set 7 (.agg cs)).set 5 (ptr (sz A) 0) ∧ w' = A.alloc (.cells cs 39 (0, 0))) (cs := [.e, .e]) rfl ?_ ?_
    rotate_left
    · rw [r35_2]
      simp (disch := first | omega | trivial | assumption | (first | omega | (simp only [List.length_cons, List.length_nil, sz_alloc, sz_put, sz_drew]; done) | (simp only [List.length_replicate, List.length_cons, List.length_nil, *]; done) | (simp only [List.size_toArray, List.length_cons, List.length_nil, sz_alloc, sz_put, sz_drew] at *; omega)) | ((repeat' (first | exact allOne_bc _ | exact allOne_nil | (refine allOne_int _ _ _ ?_) | (refine allOne_sl _ _ _ _ ?_) | (refine allOne_ptr _ _ ?_) | (refine allOne_map _ _ ?_) | (refine allOne_bool _ _ ?_) | (refine allOne_str _ _ ?_) | (refine allOne_iface _ _ _ ?_) | (refine allOne_app _ _ ?_ ?_))); done) | (simp only [cells_agg, cells_int, cells_bool, cells_str, cells_ptr, cells_sl, cells_map, cells_func, cells_iface, List.size_toArray, Array.size_append, bc_length, List.length_cons, List.length_nil, Nat.zero_add, Nat.reduceAdd, *]; done) | (simp (disch := (first | assumption | (first | omega | (simp only [List.length_cons, List.length_nil, sz_alloc, sz_put, sz_drew]; done) | (simp only [List.length_replicate, List.length_cons, List.length_nil, *]; done) | (simp only [List.size_toArray, List.length_cons, List.length_nil, sz_alloc, sz_put, sz_drew] at *; omega)))) only [MapAt, Hp_drew, Hp_alloc_old, Hp_alloc_new, Hp_put_same, Hp_put_other, *])) only [show (E1.set 7 (.agg cs)) 7 = .agg cs from rfl, hsp, hsz, hz, put_allocN, St_cells, Hp_alloc_new, cells_agg, Nat.zero_add, Nat.reduceLeDiff, if_pos, true_and, and_self, st39, al39, zv39]
    rintro E' w' _ ⟨rfl, rfl⟩
    refine ⟨⟨by rw [sz_alloc]; omega, fun b o hb _ => by rw [Hp_alloc_old _ _ _ (Hp_lt hb)]; exact hb⟩, ?_⟩
    intro A2 hx2 ⟨ol, hol, hcl⟩ hll
    refine wpIn_block ?_
    have hA : Ext (fun _ => False) A (A.alloc (.cells cs 39 (0, 0))) := (Ext.refl _ A).alloc _
    have hlA : Hp A2 (sz A) = some (.cells cs 39 (0, 0)) := hx2.at (Hp_alloc_new _ _ _ rfl) fun e => by
      subst e; rw [Hp_alloc_new _ _ _ rfl] at hol; cases hol; cases hcl
    have h1A : Hp A2 (sz w) = some (.cells #[v] 47 (0, 0)) := hx2.at (hA.at h1 not_false) fun e => by
      subst e; rw [hA.at h1 not_false] at hol; cases hol; cases hcl
    have h2A : Vec A2 39 35 v pre.length (catC pre) (fun b => sz w < b) := by
      obtain ⟨hl, hv⟩ := h2
      refine ⟨hl, hv.imp id ?_⟩
      rintro ⟨b, o, cap, row, e1, e2, e3, e4, e5, e6⟩
      refine ⟨b, o, cap, row, e1, e2, hx2.at (hA.at e3 not_false) fun e => ?_, e4, e5, e6⟩
      subst e; rw [hA.at e3 not_false] at hol; cases hol; cases hcl
    have h3A : Ext (fun _ => False) w A2 := (h3.trans hA fun _ _ h => h).trans hx2 fun b hb e => by subst e; omega
    refine region_seq (r := some l) (K := fun E' B => keepO A2 B ∧ ∃ v, Hp B (sz w) = some (.cells #[v] 47 (0, 0)) ∧ Vec B 39 35 v (pre ++ [Value.agg cs]).length (catC (pre ++ [Value.agg cs])) (fun b => sz w < b) ∧ Ext (fun _ => False) w B ∧ ∀ x ∈ pre ++ [Value.agg cs], ok35 x)
      (cs := [.q, .q, .e, .e, .e]) rfl ?_ ?_
    · rintro E' B _ hk; exact ⟨rfl, hk⟩
    rw [r35_3]
    rw [show ((E1.set 7 (.agg cs)).set 5 (ptr (sz A) 0)) 2 = ptr (sz w) 0 from rfl, show ((E1.set 7 (.agg cs)).set 5 (ptr (sz A) 0)) 5 = ptr (sz A) 0 from rfl]
    have hcc : ∀ v ∈ [Value.agg cs], v.cells.size = 35 := by simp [cells_agg, hsz]
    simp (disch := first | omega | trivial | assumption | (first | omega | (simp only [List.length_cons, List.length_nil, sz_alloc, sz_put, sz_drew]; done) | (simp only [List.length_replicate, List.length_cons, List.length_nil, *]; done) | (simp only [List.size_toArray, List.length_cons, List.length_nil, sz_alloc, sz_put, sz_drew] at *; omega)) | ((repeat' (first | exact allOne_bc _ | exact allOne_nil | (refine allOne_int _ _ _ ?_) | (refine allOne_sl _ _ _ _ ?_) | (refine allOne_ptr _ _ ?_) | (refine allOne_map _ _ ?_) | (refine allOne_bool _ _ ?_) | (refine allOne_str _ _ ?_) | (refine allOne_iface _ _ _ ?_) | (refine allOne_app _ _ ?_ ?_))); done) | (simp only [cells_agg, cells_int, cells_bool, cells_str, cells_ptr, cells_sl, cells_map, cells_func, cells_iface, List.size_toArray, Array.size_append, bc_length, List.length_cons, List.length_nil, Nat.zero_add, Nat.reduceAdd, *]; done) | (simp (disch := (first | assumption | (first | omega | (simp only [List.length_cons, List.length_nil, sz_alloc, sz_put, sz_drew]; done) | (simp only [List.length_replicate, List.length_cons, List.length_nil, *]; done) | (simp only [List.size_toArray, List.length_cons, List.length_nil, sz_alloc, sz_put, sz_drew] at *; omega)))) only [MapAt, Hp_drew, Hp_alloc_old, Hp_alloc_new, Hp_put_same, Hp_put_other, *])) only [h1A, hlA, hsz, hex, bs47_1 _ hcc, L1_cells, Ln_cells, List.getElem?_toArray, List.getElem?_cons_zero, Option.elim_some, Nat.zero_add, Nat.reduceLeDiff, if_pos, forall_const, ld39, ld47, bs47_1]
    have hxB : Ext (fun _ => False) A2 (A2.alloc (.cells (catC [Value.agg cs]).toArray 39 (0, 0))) := (Ext.refl _ _).alloc _
    have hlw : sz w < sz A2 := Hp_lt h1A
    refine ap47 47 (h2A.ext hxB fun _ _ _ => not_false) (Vec.fresh (e := 39) (z := 35) (n := 1) (catC [Value.agg cs]).toArray (by simp [catC_one, hsz])).src (by rw [catC_one, List.toList_toArray]; exact hone) (by omega) ?_
    intro v' B hv' hxB'
    have h1B : Hp B (sz w) = some (.cells #[v] 47 (0, 0)) := hxB'.at (hxB.at h1A not_false) fun e => by have := (h2A.block e).1; omega
    have hltB := Hp_lt h1B
    have hv'' : Vec B 39 35 v' (pre.length + 1) (catC pre ++ (catC [Value.agg cs]).toArray.toList) (fun b => sz w < b) := hv'.mono fun b _ h => by
      rcases h with h | h
      · exact (h2A.block h).1
      · rw [h, sz_alloc]; omega
    obtain ⟨sa, sc, rfl⟩ := hv''.slice
    simp (disch := first | omega | trivial | assumption | (first | omega | (simp only [List.length_cons, List.length_nil, sz_alloc, sz_put, sz_drew]; done) | (simp only [List.length_replicate, List.length_cons, List.length_nil, *]; done) | (simp only [List.size_toArray, List.length_cons, List.length_nil, sz_alloc, sz_put, sz_drew] at *; omega)) | ((repeat' (first | exact allOne_bc _ | exact allOne_nil | (refine allOne_int _ _ _ ?_) | (refine allOne_sl _ _ _ _ ?_) | (refine allOne_ptr _ _ ?_) | (refine allOne_map _ _ ?_) | (refine allOne_bool _ _ ?_) | (refine allOne_str _ _ ?_) | (refine allOne_iface _ _ _ ?_) | (refine allOne_app _ _ ?_ ?_))); done) | (simp only [cells_agg, cells_int, cells_bool, cells_str, cells_ptr, cells_sl, cells_map, cells_func, cells_iface, List.size_toArray, Array.size_append, bc_length, List.length_cons, List.length_nil, Nat.zero_add, Nat.reduceAdd, *]; done) | (simp (disch := (first | assumption | (first | omega | (simp only [List.length_cons, List.length_nil, sz_alloc, sz_put, sz_drew]; done) | (simp only [List.length_replicate, List.length_cons, List.length_nil, *]; done) | (simp only [List.size_toArray, List.length_cons, List.length_nil, sz_alloc, sz_put, sz_drew] at *; omega)))) only [MapAt, Hp_drew, Hp_alloc_old, Hp_alloc_new, Hp_put_same, Hp_put_other, *])) only [h1B, St_cells, Hp_put_same, cells_sl, Nat.zero_add, List.size_toArray, List.length_cons, List.length_nil, Nat.reduceLeDiff, if_pos, and_self, forall_const, splice_lit, List.set_cons_zero, st47]
    have hxP : Ext (fun b => b = sz w) B (put B (sz w) (.cells #[.slice sa (pre.length + 1) sc] 47 (0, 0))) := (Ext.refl _ _).put _ _ fun _ => rfl
    refine ⟨⟨?_, fun b o hb hc => ?_⟩, _, rfl, ?_, ?_, ?_⟩
    · rw [sz_put]; exact Nat.le_trans hxB.size hxB'.size
    · refine hxP.at (hxB'.at (hxB.at hb not_false) fun e => ?_) fun e => ?_
      · obtain ⟨_, row, hr⟩ := h2A.block e
        rw [hb] at hr; cases hr; cases hc
      · subst e; rw [h1A] at hb; cases hb; cases hc
    · have := hv''.ext hxP fun b _ h e => by omega
      rw [List.length_append, catC_snoc]
      simpa [catC_one] using this
    · refine ((h3A.trans hxB fun _ _ h => h).trans hxB' (M' := fun b => some b = blockOf v) fun b hb e => ?_).trans hxP fun b hb e => ?_
      · have := (h2A.block e).1; omega
      · omega
    · intro x hx
      rcases List.mem_append.1 hx with h | h
      · exact h4 x h
      · rw [List.mem_singleton.1 h]; exact ⟨cs, rfl, hsz, hone⟩
  · rintro D xs A hS ⟨v, h1, h2, h3, h4⟩ hD hDl
    show Code.wpIn _ _ _ _ _ _ _
    refine wpIn_seq (wpIn_region ?_)
    have hev : ({ act 13 E1 with defers := [{ target := .collected D, args := #[] }] } : Act).eval = ev 13 E1 := evalD _ _ _
    have hb0 : (Instr.loadAt 47 (ptr (sz w) 0)).run Try.prog A = .ok v A := by
      have h : QRun Try.prog (Instr.loadAt 47 (ptr (sz w) 0)) A fun u => u = v := by simp (disch := first | omega | trivial | assumption | (first | omega | (simp only [List.length_cons, List.length_nil, sz_alloc, sz_put, sz_drew]; done) | (simp only [List.length_replicate, List.length_cons, List.length_nil, *]; done) | (simp only [List.size_toArray, List.length_cons, List.length_nil, sz_alloc, sz_put, sz_drew] at *; omega)) | ((repeat' (first | exact allOne_bc _ | exact allOne_nil | (refine allOne_int _ _ _ ?_) | (refine allOne_sl _ _ _ _ ?_) | (refine allOne_ptr _ _ ?_) | (refine allOne_map _ _ ?_) | (refine allOne_bool _ _ ?_) | (refine allOne_str _ _ ?_) | (refine allOne_iface _ _ _ ?_) | (refine allOne_app _ _ ?_ ?_))); done) | (simp only [cells_agg, cells_int, cells_bool, cells_str, cells_ptr, cells_sl, cells_map, cells_func, cells_iface, List.size_toArray, Array.size_append, bc_length, List.length_cons, List.length_nil, Nat.zero_add, Nat.reduceAdd, *]; done) | (simp (disch := (first | assumption | (first | omega | (simp only [List.length_cons, List.length_nil, sz_alloc, sz_put, sz_drew]; done) | (simp only [List.length_replicate, List.length_cons, List.length_nil, *]; done) | (simp only [List.size_toArray, List.length_cons, List.length_nil, sz_alloc, sz_put, sz_drew] at *; omega)))) only [MapAt, Hp_drew, Hp_alloc_old, Hp_alloc_new, Hp_put_same, Hp_put_other, *])) only [h1, L1_cells, List.getElem?_toArray, List.getElem?_cons_zero, Option.elim_some, ld47]
      exact QRun.at h
    show wpOpsIn _ _ _ _ _ [0, 1] _ _
    rw [wpOpsIn_cons]
    refine wpOp_val (n := 13) (E := E1) (v := v) rfl rfl hev (fun c h => by cases h) hb0 ?_
    rw [putD, wpOpsIn_cons]
    refine wpOp_val (n := 13) (E := E1.set 12 v) (v := v) rfl rfl (evalD _ _ _) (fun c h => by cases h) rfl ?_
    rw [putD]
    show Code.wpIn _ _ _ _ _ _ _
    refine wpIn_ret ⟨by simp, .inl ⟨D, _, rfl, run_takeDeferred hD, ?_⟩⟩
    have hres : resV Try.prog 13 ((E1.set 12 v).set 4 v) Try.f35.results.toList (put A D (.deferred none)) fun vs => vs = [v] := by
      rw [show Try.f35.results.toList = [.tmp 4] from by kernel_rfl]; exact rfl
    obtain ⟨vs, hr, rfl⟩ := resV_results hres
    refine ⟨v, hr, xs, hS, h4, ?_, ?_⟩
    · refine (h2.extc ((Ext.refl (fun b => b = D) A).put D (.deferred none) fun _ => rfl) fun b row hb _ e => ?_).mono fun b _ h => Nat.le_of_lt h
      subst e; rw [hD] at hb; cases hb
    · exact h3.put _ _ fun h => by omega
end Go.Proofs
