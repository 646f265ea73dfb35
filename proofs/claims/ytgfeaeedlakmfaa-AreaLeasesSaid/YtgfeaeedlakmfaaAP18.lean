/- A part of the proof: A.P18. -/
import Derived.Test.YtgfeaeedlakmfaaAP17
import Derived.Test.YtgfeaeedlakmfaaAF4
import Derived.Test.YtgfeaeedlakmfaaLCut
set_option linter.unusedVariables false
set_option linter.unusedSimpArgs false
set_option linter.unusedSectionVars false
namespace Go.Proofs
open Go Go.Lf
set_option maxRecDepth 20000
set_option maxHeartbeats 2000000
set_option linter.unusedSimpArgs false
set_option linter.unusedVariables false
/-- append(v, u...) of rows of blocks -/
theorem appS {w : World} {v u : Value} {L M : List BV} {Q Q' : Nat → Prop} (hv : Sl bcell 39 35 w v L Q) (hu : Sl bcell 39 35 w u M Q') (hone : ∀ y ∈ M, allOne (bcell y).toArray) (hl : L.length + M.length ≤ 1000000) (R : TypeId) {K : Value → World → Prop}
    (hK : ∀ v' w', Sl bcell 39 35 w' v' (L ++ M) (fun b => Q b ∨ b = sz w) → Ext (fun b => some b = blockOf v) w w' → K v' w') :
    Run Try.prog (Builtin.append_ #[47, 47] R #[v, u]) w K := by
  have hz : 0 < 35 := by decide
  refine ap47 R (hv.vec hz) (hu.vec hz).src (fun c hc => ?_) (by omega) ?_
  · obtain ⟨y, hy, hc⟩ := List.mem_flatMap.1 hc
    exact hone y hy c (by simpa using hc)
  · intro v' w' hv' hx'
    refine hK v' w' (Sl.of_vec (fun a ha => ?_) ?_) hx'
    · rcases List.mem_append.1 ha with ha | ha
      · exact hv.1 a ha
      · exact hu.1 a ha
    · rw [List.flatMap_append, List.length_append]
      refine hv'.mono fun b _ hb => ?_
      rcases hb with hb | hb
      · exact .inl ((hv.vec hz).block hb).1
      · exact .inr hb
/-- append([]byte{}, b...) -/
theorem dupB {W : World} {v : Value} {l : List UInt8} {Q : Nat → Prop} (h : Bytes 5 W v l Q) (hl : l.length ≤ 1000000) (R : TypeId) {K : Value → World → Prop}
    (hK : ∀ v' w', Bytes 5 w' v' l (fun b => sz W ≤ b) → Ext (fun _ => False) W w' → K v' w') :
    Run Try.prog (Builtin.append_ #[37, 37] R #[.slice (some ⟨sz W, 0, none⟩) 0 0, v]) (W.alloc (.cells #[] 5 (0, 0))) K := by
  have hx16 : Ext (fun _ => False) W (W.alloc (.cells #[] 5 (0, 0))) := (Ext.refl _ _).alloc _
  refine ap37 R (Vec.fresh (e := 5) (z := 1) (n := 0) #[] (by simp)) (Vec.ext h hx16 fun _ _ _ => not_false).src (bc_one _) (by omega) ?_
  intro v131 w17 hv131 hx17
  refine hK v131 w17 ?_ (hx16.trans2 hx17 (fun _ _ h => h) fun b hb e => by simp [blockOf] at e; omega)
  have h0 : Vec w17 5 1 v131 l.length (bc l) (fun b => some b = blockOf (Value.slice (some { block := sz W, off := 0 }) 0 0) ∨ b = sz (W.alloc (Obj.cells #[] 5))) := by simpa using hv131
  refine h0.mono fun b _ hb => ?_
  rcases hb with hb | hb
  · simp [blockOf] at hb; omega
  · rw [hb, sz_alloc]; omega
/-- What the reference's Put answers, and keeps. -/
def RPut (room quota now : Int) (b : Blk) (l : List Blk) (c : Int) (l' : List Blk) : Prop :=
  if b.src < 0 ∨ b.exp ≤ now then c = 1 ∧ l' = l else if 6000 < (b.data.length : Int) then c = 5 ∧ l' = l else
  ∃ i, i ≤ (sweepB now l).length ∧ (∀ y ∈ (sweepB now l).take i, cmpB y.key b.key < 0) ∧ (∀ y, (sweepB now l)[i]? = some y → ¬ cmpB y.key b.key < 0) ∧
    ((∃ y, (sweepB now l)[i]? = some y ∧ y.key = b.key ∧ c = 0 ∧ l' = (sweepB now l).take i ++ [{ y with exp := max y.exp b.exp }] ++ (sweepB now l).drop (i + 1)) ∨
     ((∀ y, (sweepB now l)[i]? = some y → y.key ≠ b.key) ∧ ((quota < usedB (sweepB now l) b.src + (b.data.length : Int) ∧ c = 15 ∧ l' = sweepB now l) ∨ (¬ quota < usedB (sweepB now l) b.src + (b.data.length : Int) ∧ room < totalB (sweepB now l) + (b.data.length : Int) ∧ c = 16 ∧ l' = sweepB now l) ∨
        (¬ quota < usedB (sweepB now l) b.src + (b.data.length : Int) ∧ ¬ room < totalB (sweepB now l) + (b.data.length : Int) ∧ c = 0 ∧ l' = (sweepB now l).take i ++ [b] ++ (sweepB now l).drop i))))
theorem bR_live (now : Int) (R : List BV) : bR (R.filter (liveV now)) = sweepB now (bR R) := by
  unfold sweepB; rw [bR, List.filter_map]; rfl
section
variable {w2 W : World} {x B i : Nat} {room quota : Int} {s : Value} {R : List BV} {Q2 : Nat → Prop} {k data : List UInt8} {src e : Int} {da : Option Addr} {dc : Nat} {Qd : Nat → Prop} {v55 : Value}
/-- The state of Put behind its sweep. -/
structure PutC (w2 W : World) (x B : Nat) (room quota : Int) (k data : List UInt8) (src e : Int) (da : Option Addr) (dc : Nat) (s : Value) (R : List BV) (Q2 Qd : Nat → Prop) : Prop where
  hr : RefC W x room quota s R Q2
  hb : Hp W B = some (.cells ((bc k).toArray ++ #[.slice da data.length dc, i64 src, i64 e]) 39 (0, 0))
  hd : Bytes 5 W (.slice da data.length dc) data Qd
  hx : Ext (fun _ => False) w2 W
  hQ2 : ∀ b, Q2 b → b < sz w2 ∧ b ≠ B
  hne : x ≠ B
  hlx : x < sz w2
  hlB : B < sz w2
  hk : k.length = 32
theorem PutC.ext {W' : World} {M : Nat → Prop} (h : PutC w2 W x B room quota k data src e da dc s R Q2 Qd) (hx : Ext M W W') (hM : ∀ b, b < sz W → M b → sz w2 ≤ b) (hdM : Bytes 5 W' (.slice da data.length dc) data Qd) : PutC w2 W' x B room quota k data src e da dc s R Q2 Qd :=
  ⟨h.hr.ext hx fun b hb hq hm => by
      have := hM b hb hm
      rcases hq with hq | rfl
      · have := (h.hQ2 b hq).1; omega
      · have := h.hlx; omega,
    hx.at h.hb fun hm => by have := hM _ (Hp_lt h.hb) hm; have := h.hlB; omega, hdM, h.hx.trans hx fun b hb hm => by have := hM b (Nat.lt_of_lt_of_le hb h.hx.size) hm; omega, h.hQ2, h.hne, h.hlx, h.hlB, h.hk⟩
theorem put_x3 (h : PutC w2 W x B room quota k data src e da dc s R Q2 Qd) (hlen : R.length ≤ 1000) {y : BV} (hy : R[i]? = some y) (hv : Sl bcell 39 35 W v55 (R.take i) (fun b => sz w2 ≤ b)) (Q : Nat → Prop) (hQ : ∀ b, b < sz w2 → Q2 b → Q b) (hQx : ∀ b, Q b → b ≠ x) (hQn : ∀ b, sz w2 ≤ b → Q b) {K : Value → World → Prop}
    (hK : ∀ s' W', Ext (fun b => b = x) w2 W' → RefC W' x room quota s' (R.take i ++ [({ y.1 with exp := max y.1.exp e }, y.2)] ++ R.drop (i + 1)) Q → K (i64 0) W') : F11x3 (ptr x 0) (ptr B 0) (i64 i) v55 W K := by
  have hlt : i < R.length := (List.getElem?_eq_some_iff.1 hy).1
  have hp := h.hr.hp
  have hb := h.hb
  have hk := h.hk
  have hlp := Hp_lt hp
  have hlB := Hp_lt hb
  have hym := List.mem_of_getElem? hy
  have hyk := h.hr.klen y hym
  have hone := h.hr.one hym
  have hyd := h.hr.data y hym
  have hxB := h.hne
  have hlx2 := h.hlx
  have hlB2 := h.hlB
  have hs2 := h.hx.size
  obtain ⟨sa, sc, hs⟩ := h.hr.sl.form
  subst hs
  obtain ⟨sb, so, scap, row, e1, hcap, hsb, hso, hrow, hsq⟩ := h.hr.sl.at (by intro e; rw [e] at hlt; cases hlt)
  have hsbB : sb ≠ B := (h.hQ2 sb hsq).2
  have hsb2 : sb < sz w2 := (h.hQ2 sb hsq).1
  have hsbx : sb ≠ x := h.hr.hQ sb hsq
  obtain ⟨hdrop, -, -⟩ := h.hr.sl.dropV (i + 1) (by omega)
  cases e1
  obtain ⟨g35, g0, g32, g33, g34, gsz⟩ := brow hrow hy hyk
  obtain ⟨⟨yk, ydat, ys, ye⟩, yv⟩ := y
  simp only at hyk hyd g35 g0 g32 g33 g34
  obtain ⟨ya, yc, rfl⟩ := Vec.slice hyd
  have hcc : ∀ v ∈ [Value.agg ((bc yk).toArray ++ #[Value.slice ya ydat.length yc, i64 ys, i64 (max ye e)])], v.cells.size = 35 := by simp [cells_agg, bc_length, hyk]
  have hi1 : ((i : Int) + 1).toNat = i + 1 := by omega
  unfold F11x3
  simp (disch := first | omega | trivial | assumption | (first | omega | (simp only [List.length_cons, List.length_nil, sz_alloc, sz_put, sz_drew]; done) | (simp only [List.length_replicate, List.length_cons, List.length_nil, *]; done) | (simp only [List.size_toArray, List.length_cons, List.length_nil, sz_alloc, sz_put, sz_drew] at *; omega)) | ((repeat' (first | exact allOne_bc _ | exact allOne_nil | (refine allOne_int _ _ _ ?_) | (refine allOne_sl _ _ _ _ ?_) | (refine allOne_ptr _ _ ?_) | (refine allOne_map _ _ ?_) | (refine allOne_bool _ _ ?_) | (refine allOne_str _ _ ?_) | (refine allOne_iface _ _ _ ?_) | (refine allOne_app _ _ ?_ ?_))); done) | (simp only [cells_agg, cells_int, cells_bool, cells_str, cells_ptr, cells_sl, cells_map, cells_func, cells_iface, List.size_toArray, Array.size_append, bc_length, List.length_cons, List.length_nil, Nat.zero_add, Nat.reduceAdd, *]; done) | (simp (disch := (first | assumption | (first | omega | (simp only [List.length_cons, List.length_nil, sz_alloc, sz_put, sz_drew]; done) | (simp only [List.length_replicate, List.length_cons, List.length_nil, *]; done) | (simp only [List.size_toArray, List.length_cons, List.length_nil, sz_alloc, sz_put, sz_drew] at *; omega)))) only [MapAt, Hp_drew, Hp_alloc_old, Hp_alloc_new, Hp_put_same, Hp_put_other, *])) only [hp, hb, hsb, g35, hk, hyk, hi1, bs47_1 _ hcc, NilCk_ptr, p_add, p_max, put_allocN, L1_cells, Ln_cells, St_cells, Hp_drew, Hp_alloc_new, Hp_alloc_old, sz_alloc, sz_drew, cells_agg, cells_int, List.getElem?_toArray, List.getElem?_cons_zero, List.getElem?_cons_succ, Option.elim_some, Nat.zero_add, List.size_toArray, List.length_cons, List.length_nil, Nat.reduceAdd, Nat.reduceLeDiff, if_pos, true_and, and_self, ext_bca, get_bc, splice_bc, splice_lit, splice_bca, bc_length, Array.size_append, Nat.reduceSub, List.set_cons_zero, List.set_cons_succ, List.length_replicate, cutAt_some, wr_in, Int.toNat_natCast, fld39_3, ix47, slL47, fld50_2, ld3, ld39, ld47, bs47_1, st3, st39, al39, zv39]
  obtain ⟨W5, hW5⟩ : ∃ W5, W5 = (W.drew.alloc (Obj.cells ((bc yk).toArray ++ #[Value.slice ya ydat.length yc, i64 ys, Value.int IntKind.i64 (max ye e)]) 39)).drew := ⟨_, rfl⟩
  have hs5 : sz W5 = sz W + 1 := by rw [hW5]; (first | omega | (simp only [List.length_cons, List.length_nil, sz_alloc, sz_put, sz_drew]; done) | (simp only [List.length_replicate, List.length_cons, List.length_nil, *]; done) | (simp only [List.size_toArray, List.length_cons, List.length_nil, sz_alloc, sz_put, sz_drew] at *; omega))
  have hx5 : Ext (fun _ => False) W W5 := by rw [hW5]; exact (((Ext.refl _ W).drew).alloc _).drew
  rw [← hW5, ← hs5]
  clear hW5
  obtain ⟨y', hy'⟩ : ∃ y' : BV, y' = ((⟨yk, ydat, ys, max ye e⟩, .slice ya ydat.length yc) : BV) := ⟨_, rfl⟩
  have hcell : (catC [Value.agg ((bc yk).toArray ++ #[Value.slice ya ydat.length yc, i64 ys, i64 (max ye e)])]).toArray = (bcell y').toArray := by
    rw [catC_one, Array.toArray_toList, hy', bcell_arr]
  rw [hcell]
  have hone' : allOne (bcell y').toArray := by rw [hy', bcell_arr]; ((repeat' (first | exact allOne_bc _ | exact allOne_nil | (refine allOne_int _ _ _ ?_) | (refine allOne_sl _ _ _ _ ?_) | (refine allOne_ptr _ _ ?_) | (refine allOne_map _ _ ?_) | (refine allOne_bool _ _ ?_) | (refine allOne_str _ _ ?_) | (refine allOne_iface _ _ _ ?_) | (refine allOne_app _ _ ?_ ?_))); done)
  have hlen' : (bcell y').length = 35 := by rw [hy']; exact bcell_length _ hyk
  have hx6 : Ext (fun _ => False) W (W5.alloc (.cells (bcell y').toArray 39 (0, 0))) := hx5.alloc _
  have hyS : Sl bcell 39 35 (W5.alloc (.cells (bcell y').toArray 39 (0, 0))) (.slice (some ⟨sz W5, 0, none⟩) 1 1) [y'] (fun b => b = sz W5) := Sl.fresh (L := [y']) _ (by simpa using hlen') (by simp)
  have hl1 : (R.take i).length ≤ 1000 := Nat.le_trans (List.length_take_le' _ _) hlen
  have hl2 : (R.drop (i + 1)).length ≤ 1000 := Nat.le_trans (by rw [List.length_drop]; omega) hlen
  refine appS (hv.ext hx6 fun _ _ _ => not_false) hyS (by simpa using hone') (by simp; omega) 47 ?_
  intro v93 w11 hv93 hx11
  have hM11 : ∀ b, some b = blockOf v55 → sz w2 ≤ b := fun b e => ((hv.vec (by decide)).block e).1
  have hx11' : Ext (fun b => sz w2 ≤ b) W w11 := (hx6.mono fun _ _ h => h.elim).trans (hx11.mono fun b _ e => hM11 b e) fun _ _ h => h
  have hp11 := hx11'.at hp (by omega)
  simp (disch := first | omega | trivial | assumption | (first | omega | (simp only [List.length_cons, List.length_nil, sz_alloc, sz_put, sz_drew]; done) | (simp only [List.length_replicate, List.length_cons, List.length_nil, *]; done) | (simp only [List.size_toArray, List.length_cons, List.length_nil, sz_alloc, sz_put, sz_drew] at *; omega)) | ((repeat' (first | exact allOne_bc _ | exact allOne_nil | (refine allOne_int _ _ _ ?_) | (refine allOne_sl _ _ _ _ ?_) | (refine allOne_ptr _ _ ?_) | (refine allOne_map _ _ ?_) | (refine allOne_bool _ _ ?_) | (refine allOne_str _ _ ?_) | (refine allOne_iface _ _ _ ?_) | (refine allOne_app _ _ ?_ ?_))); done) | (simp only [cells_agg, cells_int, cells_bool, cells_str, cells_ptr, cells_sl, cells_map, cells_func, cells_iface, List.size_toArray, Array.size_append, bc_length, List.length_cons, List.length_nil, Nat.zero_add, Nat.reduceAdd, *]; done) | (simp (disch := (first | assumption | (first | omega | (simp only [List.length_cons, List.length_nil, sz_alloc, sz_put, sz_drew]; done) | (simp only [List.length_replicate, List.length_cons, List.length_nil, *]; done) | (simp only [List.size_toArray, List.length_cons, List.length_nil, sz_alloc, sz_put, sz_drew] at *; omega)))) only [MapAt, Hp_drew, Hp_alloc_old, Hp_alloc_new, Hp_put_same, Hp_put_other, *])) only [hp11, L1_cells, List.getElem?_toArray, List.getElem?_cons_zero, List.getElem?_cons_succ, Option.elim_some, true_and]
  have hd11 : Sl bcell 39 35 w11 (Value.slice (cutAt (some ⟨sb, so, none⟩) sc (i + 1) 35) (R.length - (i + 1)) (sc - (i + 1))) (R.drop (i + 1)) Q2 := hdrop.ext hx11' fun b _ hq hm => by have := (h.hQ2 b hq).1; omega
  have hv93' := hv93.mono (Q' := fun b => sz w2 ≤ b) fun b _ hb => by rcases hb with hb | hb <;> first | exact hb | (rw [hb, sz_alloc]; omega)
  refine appS hv93' hd11 (fun z hz => h.hr.one (List.mem_of_mem_drop hz)) (by simp; omega) 47 ?_
  intro v101 w12 hv101 hx12
  have hM12 : ∀ b, some b = blockOf v93 → sz w2 ≤ b := fun b e => ((hv93'.vec (by decide)).block e).1
  have hx12' : Ext (fun b => sz w2 ≤ b) W w12 := hx11'.trans (hx12.mono fun b _ e => hM12 b e) fun _ _ h => h
  have hp12 := hx12'.at hp (by omega)
  have hlp12 := Hp_lt hp12
  obtain ⟨za, zc, hz⟩ := hv101.form
  subst hz
  simp (disch := first | omega | trivial | assumption | (first | omega | (simp only [List.length_cons, List.length_nil, sz_alloc, sz_put, sz_drew]; done) | (simp only [List.length_replicate, List.length_cons, List.length_nil, *]; done) | (simp only [List.size_toArray, List.length_cons, List.length_nil, sz_alloc, sz_put, sz_drew] at *; omega)) | ((repeat' (first | exact allOne_bc _ | exact allOne_nil | (refine allOne_int _ _ _ ?_) | (refine allOne_sl _ _ _ _ ?_) | (refine allOne_ptr _ _ ?_) | (refine allOne_map _ _ ?_) | (refine allOne_bool _ _ ?_) | (refine allOne_str _ _ ?_) | (refine allOne_iface _ _ _ ?_) | (refine allOne_app _ _ ?_ ?_))); done) | (simp only [cells_agg, cells_int, cells_bool, cells_str, cells_ptr, cells_sl, cells_map, cells_func, cells_iface, List.size_toArray, Array.size_append, bc_length, List.length_cons, List.length_nil, Nat.zero_add, Nat.reduceAdd, *]; done) | (simp (disch := (first | assumption | (first | omega | (simp only [List.length_cons, List.length_nil, sz_alloc, sz_put, sz_drew]; done) | (simp only [List.length_replicate, List.length_cons, List.length_nil, *]; done) | (simp only [List.size_toArray, List.length_cons, List.length_nil, sz_alloc, sz_put, sz_drew] at *; omega)))) only [MapAt, Hp_drew, Hp_alloc_old, Hp_alloc_new, Hp_put_same, Hp_put_other, *])) only [hp12, St_cells, cells_sl, Nat.zero_add, List.size_toArray, List.length_cons, List.length_nil, Nat.reduceAdd, Nat.reduceLeDiff, if_pos, and_self, splice_lit, List.set_cons_zero, List.set_cons_succ, st47]
  have hx13 : Ext (fun b => sz w2 ≤ b ∨ b = x) W (put w12 x (Obj.cells #[i64 room, i64 quota, Value.slice za (List.take i R ++ [y'] ++ List.drop (i + 1) R).length zc] 50)) := (hx12'.mono fun _ _ h => .inl h).put _ _ fun _ => .inr rfl
  have hs11 := hx11'.size
  have htd := split_at hy
  have hkl := h.hr.klen
  have hdat := h.hr.data
  have hmem : ∀ z ∈ R.take i ++ [y'] ++ R.drop (i + 1), z = y' ∨ z ∈ R := fun z hz => by
    simp only [List.append_assoc, List.mem_append, List.mem_singleton] at hz
    rcases hz with hz | hz | hz
    · exact .inr (List.mem_of_mem_take hz)
    · exact .inl hz
    · exact .inr (List.mem_of_mem_drop hz)
  have hput := Ext.put (Ext.refl (fun b => b = x) w12) x (Obj.cells #[i64 room, i64 quota, Value.slice za (List.take i R ++ [y'] ++ List.drop (i + 1) R).length zc] 50) fun _ => rfl
  have hext : ∀ z ∈ R, Bytes 5 (put w12 x (Obj.cells #[i64 room, i64 quota, Value.slice za (List.take i R ++ [y'] ++ List.drop (i + 1) R).length zc] 50)) z.2 z.1.data Q := fun z hz => by
    refine (Vec.ext (hdat z hz) hx13 fun b _ hq hm => ?_).mono fun b _ hq => hQ b (h.hQ2 b hq).1 hq
    rcases hm with hm | hm
    · have := (h.hQ2 b hq).1; omega
    · exact h.hr.hQ b hq hm
  refine hK (.slice za (R.take i ++ [y'] ++ R.drop (i + 1)).length zc) _ (h.hx.trans2 hx13 (fun _ _ h => h.elim) fun b hb hm => ?_) ?_
  · rcases hm with hm | hm
    · omega
    · exact hm
  · rw [← hy']
    refine ⟨Hp_put_same _ _ _ hlp12, (hv101.ext hput fun b _ hq hm => ?_).mono fun b _ hq => ?_, fun z hz => ?_, fun z hz => ?_, hQx, ?_⟩
    · rcases hq with hq | hq <;> omega
    · rcases hq with hq | hq
      · exact hQn b hq
      · exact hQn b (by omega)
    · rcases hmem z hz with rfl | hz
      · rw [hy']; exact hyk
      · exact hkl z hz
    · rcases hmem z hz with hz | hz
      · have e1 : z.2 = Value.slice ya ydat.length yc := by rw [hz, hy']
        have e2 : z.1.data = ydat := by rw [hz, hy']
        rw [e1, e2]; exact hext _ hym
      · exact hext z hz
    · have ht := h.hr.htot
      have e : totalB (bR (R.take i ++ [y'] ++ R.drop (i + 1))) = totalB (bR R) := by
        conv => rhs; rw [htd]
        simp only [bR, List.map_append, List.map_cons, List.map_nil, total_append, total_cons]
        rw [hy']
      rw [e]; exact ht
theorem put_x1 (h : PutC w2 W x B room quota k data src e da dc s R Q2 Qd) (hlen : R.length ≤ 1000) (hdl : data.length ≤ 1000000) (hi : i ≤ R.length) (hv : Sl bcell 39 35 W v55 (R.take i) (fun b => sz w2 ≤ b)) (Q : Nat → Prop) (hQ : ∀ b, b < sz w2 → Q2 b → Q b) (hQx : ∀ b, Q b → b ≠ x) (hQn : ∀ b, sz w2 ≤ b → Q b)
    (htot : totalB (bR R) + (data.length : Int) ≤ 1073741824) {K : Value → World → Prop}
    (hK : ∀ s' d' W', Ext (fun b => b = x ∨ b = B) w2 W' → RefC W' x room quota s' (R.take i ++ [((⟨k, data, src, e⟩, d') : BV)] ++ R.drop i) Q → K (i64 0) W') : F11x1 (ptr x 0) (ptr B 0) (i64 i) v55 W K := by
  have hp := h.hr.hp
  have hb := h.hb
  have hk := h.hk
  have hlp := Hp_lt hp
  have hlB := Hp_lt hb
  have hxB := h.hne
  have hlx2 := h.hlx
  have hlB2 := h.hlB
  have hs2 := h.hx.size
  have hdx := h.hd
  unfold F11x1
  simp (disch := first | omega | trivial | assumption | (first | omega | (simp only [List.length_cons, List.length_nil, sz_alloc, sz_put, sz_drew]; done) | (simp only [List.length_replicate, List.length_cons, List.length_nil, *]; done) | (simp only [List.size_toArray, List.length_cons, List.length_nil, sz_alloc, sz_put, sz_drew] at *; omega)) | ((repeat' (first | exact allOne_bc _ | exact allOne_nil | (refine allOne_int _ _ _ ?_) | (refine allOne_sl _ _ _ _ ?_) | (refine allOne_ptr _ _ ?_) | (refine allOne_map _ _ ?_) | (refine allOne_bool _ _ ?_) | (refine allOne_str _ _ ?_) | (refine allOne_iface _ _ _ ?_) | (refine allOne_app _ _ ?_ ?_))); done) | (simp only [cells_agg, cells_int, cells_bool, cells_str, cells_ptr, cells_sl, cells_map, cells_func, cells_iface, List.size_toArray, Array.size_append, bc_length, List.length_cons, List.length_nil, Nat.zero_add, Nat.reduceAdd, *]; done) | (simp (disch := (first | assumption | (first | omega | (simp only [List.length_cons, List.length_nil, sz_alloc, sz_put, sz_drew]; done) | (simp only [List.length_replicate, List.length_cons, List.length_nil, *]; done) | (simp only [List.size_toArray, List.length_cons, List.length_nil, sz_alloc, sz_put, sz_drew] at *; omega)))) only [MapAt, Hp_drew, Hp_alloc_old, Hp_alloc_new, Hp_put_same, Hp_put_other, *])) only [hb, hk, bs37_0, NilCk_ptr, L1_cells, Hp_drew, Hp_alloc_old, List.getElem?_toArray, List.getElem?_cons_zero, Option.elim_some, Nat.zero_add, get_bc, Nat.sub_self, fld39_1, fld50_2, ld37, ld39, ld47, bs37_0]
  refine dupB hdx hdl 37 ?_
  intro v131 w17 hv131' hx17'
  have hb17 := hx17'.at hb not_false
  have hp17 := hx17'.at hp not_false
  have hlB17 := Hp_lt hb17
  have hlp17 := Hp_lt hp17
  obtain ⟨va, vc, rfl⟩ := Vec.slice hv131'
  obtain ⟨sa, sc, hs⟩ := h.hr.sl.form
  subst hs
  obtain ⟨hdrop, -, -⟩ := h.hr.sl.dropV i hi
  have hcc : ∀ v ∈ [Value.agg ((bc k).toArray ++ #[Value.slice va data.length vc, i64 src, i64 e])], v.cells.size = 35 := by simp [cells_agg, bc_length, hk]
  simp (disch := first | omega | trivial | assumption | (first | omega | (simp only [List.length_cons, List.length_nil, sz_alloc, sz_put, sz_drew]; done) | (simp only [List.length_replicate, List.length_cons, List.length_nil, *]; done) | (simp only [List.size_toArray, List.length_cons, List.length_nil, sz_alloc, sz_put, sz_drew] at *; omega)) | ((repeat' (first | exact allOne_bc _ | exact allOne_nil | (refine allOne_int _ _ _ ?_) | (refine allOne_sl _ _ _ _ ?_) | (refine allOne_ptr _ _ ?_) | (refine allOne_map _ _ ?_) | (refine allOne_bool _ _ ?_) | (refine allOne_str _ _ ?_) | (refine allOne_iface _ _ _ ?_) | (refine allOne_app _ _ ?_ ?_))); done) | (simp only [cells_agg, cells_int, cells_bool, cells_str, cells_ptr, cells_sl, cells_map, cells_func, cells_iface, List.size_toArray, Array.size_append, bc_length, List.length_cons, List.length_nil, Nat.zero_add, Nat.reduceAdd, *]; done) | (simp (disch := (first | assumption | (first | omega | (simp only [List.length_cons, List.length_nil, sz_alloc, sz_put, sz_drew]; done) | (simp only [List.length_replicate, List.length_cons, List.length_nil, *]; done) | (simp only [List.size_toArray, List.length_cons, List.length_nil, sz_alloc, sz_put, sz_drew] at *; omega)))) only [MapAt, Hp_drew, Hp_alloc_old, Hp_alloc_new, Hp_put_same, Hp_put_other, *])) only [hb17, hp17, hk, bs47_1 _ hcc, L1_cells, Ln_cells, St_cells, Hp_drew, Hp_alloc_new, Hp_alloc_old, Hp_put_same, Hp_put_other, sz_put, sz_drew, cells_sl, List.getElem?_toArray, List.getElem?_cons_zero, List.getElem?_cons_succ, Option.elim_some, Nat.zero_add, List.size_toArray, List.length_cons, List.length_nil, Nat.reduceAdd, Nat.reduceLeDiff, if_pos, true_and, and_self, ext_bca, splice_bc, splice_lit, bc_length, Array.size_append, Nat.sub_self, List.set_cons_zero, Int.toNat_natCast, slL47, bs47_1, st37]
  obtain ⟨W5, hW5⟩ : ∃ W5, W5 = (put w17 B (Obj.cells ((bc k).toArray ++ #[Value.slice va data.length vc, i64 src, i64 e]) 39)).drew := ⟨_, rfl⟩
  have hs5 : sz W5 = sz w17 := by rw [hW5]; (first | omega | (simp only [List.length_cons, List.length_nil, sz_alloc, sz_put, sz_drew]; done) | (simp only [List.length_replicate, List.length_cons, List.length_nil, *]; done) | (simp only [List.size_toArray, List.length_cons, List.length_nil, sz_alloc, sz_put, sz_drew] at *; omega))
  have hx5 : Ext (fun b => b = B) w17 W5 := by rw [hW5]; exact ((Ext.refl (fun b => b = B) w17).put B (Obj.cells ((bc k).toArray ++ #[Value.slice va data.length vc, i64 src, i64 e]) 39) fun _ => rfl).drew
  have hbW5 : Hp W5 B = some (.cells ((bc k).toArray ++ #[Value.slice va data.length vc, i64 src, i64 e]) 39 (0, 0)) := by rw [hW5]; (simp (disch := (first | assumption | (first | omega | (simp only [List.length_cons, List.length_nil, sz_alloc, sz_put, sz_drew]; done) | (simp only [List.length_replicate, List.length_cons, List.length_nil, *]; done) | (simp only [List.size_toArray, List.length_cons, List.length_nil, sz_alloc, sz_put, sz_drew] at *; omega)))) only [MapAt, Hp_drew, Hp_alloc_old, Hp_alloc_new, Hp_put_same, Hp_put_other, *])
  rw [← hW5, ← hs5]
  clear hW5
  have hs17 := hx17'.size
  obtain ⟨y', hy'⟩ : ∃ y' : BV, y' = ((⟨k, data, src, e⟩, .slice va data.length vc) : BV) := ⟨_, rfl⟩
  have hcell : (catC [Value.agg ((bc k).toArray ++ #[Value.slice va data.length vc, i64 src, i64 e])]).toArray = (bcell y').toArray := by
    rw [catC_one, Array.toArray_toList, hy', bcell_arr]
  rw [hcell]
  have hone' : allOne (bcell y').toArray := by rw [hy', bcell_arr]; ((repeat' (first | exact allOne_bc _ | exact allOne_nil | (refine allOne_int _ _ _ ?_) | (refine allOne_sl _ _ _ _ ?_) | (refine allOne_ptr _ _ ?_) | (refine allOne_map _ _ ?_) | (refine allOne_bool _ _ ?_) | (refine allOne_str _ _ ?_) | (refine allOne_iface _ _ _ ?_) | (refine allOne_app _ _ ?_ ?_))); done)
  have hlen' : (bcell y').length = 35 := by rw [hy']; exact bcell_length _ hk
  have hx6 : Ext (fun b => b = B) W (W5.alloc (.cells (bcell y').toArray 39 (0, 0))) := (hx17'.trans2 hx5 (fun _ _ h => h.elim) fun _ _ h => h).alloc _
  have hyS : Sl bcell 39 35 (W5.alloc (.cells (bcell y').toArray 39 (0, 0))) (.slice (some ⟨sz W5, 0, none⟩) 1 1) [y'] (fun b => b = sz W5) := Sl.fresh (L := [y']) _ (by simpa using hlen') (by simp)
  have hl1 : (R.take i).length ≤ 1000 := Nat.le_trans (List.length_take_le' _ _) hlen
  have hl2 : (R.drop i).length ≤ 1000 := Nat.le_trans (by rw [List.length_drop]; omega) hlen
  refine appS (hv.ext hx6 fun b _ hq hm => by omega) hyS (by simpa using hone') (by simp; omega) 47 ?_
  intro v93 w11 hv93 hx11
  have hM11 : ∀ b, some b = blockOf v55 → sz w2 ≤ b := fun b e => ((hv.vec (by decide)).block e).1
  have hx11' : Ext (fun b => sz w2 ≤ b ∨ b = B) W w11 := hx6.trans2 hx11 (fun _ _ h => .inr h) fun b _ e => .inl (hM11 b e)
  have hp11 := hx11'.at hp (by omega)
  simp (disch := first | omega | trivial | assumption | (first | omega | (simp only [List.length_cons, List.length_nil, sz_alloc, sz_put, sz_drew]; done) | (simp only [List.length_replicate, List.length_cons, List.length_nil, *]; done) | (simp only [List.size_toArray, List.length_cons, List.length_nil, sz_alloc, sz_put, sz_drew] at *; omega)) | ((repeat' (first | exact allOne_bc _ | exact allOne_nil | (refine allOne_int _ _ _ ?_) | (refine allOne_sl _ _ _ _ ?_) | (refine allOne_ptr _ _ ?_) | (refine allOne_map _ _ ?_) | (refine allOne_bool _ _ ?_) | (refine allOne_str _ _ ?_) | (refine allOne_iface _ _ _ ?_) | (refine allOne_app _ _ ?_ ?_))); done) | (simp only [cells_agg, cells_int, cells_bool, cells_str, cells_ptr, cells_sl, cells_map, cells_func, cells_iface, List.size_toArray, Array.size_append, bc_length, List.length_cons, List.length_nil, Nat.zero_add, Nat.reduceAdd, *]; done) | (simp (disch := (first | assumption | (first | omega | (simp only [List.length_cons, List.length_nil, sz_alloc, sz_put, sz_drew]; done) | (simp only [List.length_replicate, List.length_cons, List.length_nil, *]; done) | (simp only [List.size_toArray, List.length_cons, List.length_nil, sz_alloc, sz_put, sz_drew] at *; omega)))) only [MapAt, Hp_drew, Hp_alloc_old, Hp_alloc_new, Hp_put_same, Hp_put_other, *])) only [hp11, L1_cells, List.getElem?_toArray, List.getElem?_cons_zero, List.getElem?_cons_succ, Option.elim_some, true_and]
  have hd11 : Sl bcell 39 35 w11 (Value.slice (cutAt sa sc i 35) (R.length - i) (sc - i)) (R.drop i) Q2 := hdrop.ext hx11' fun b _ hq hm => by have := h.hQ2 b hq; omega
  have hv93' := hv93.mono (Q' := fun b => sz w2 ≤ b) fun b _ hb => by rcases hb with hb | hb <;> first | exact hb | (rw [hb, sz_alloc]; omega)
  refine appS hv93' hd11 (fun z hz => h.hr.one (List.mem_of_mem_drop hz)) (by simp; omega) 47 ?_
  intro v101 w12 hv101 hx12
  have hM12 : ∀ b, some b = blockOf v93 → sz w2 ≤ b := fun b e => ((hv93'.vec (by decide)).block e).1
  have hx12' : Ext (fun b => sz w2 ≤ b ∨ b = B) W w12 := hx11'.trans2 hx12 (fun _ _ h => h) fun b _ e => .inl (hM12 b e)
  have hp12 := hx12'.at hp (by omega)
  have hlp12 := Hp_lt hp12
  obtain ⟨za, zc, hz⟩ := hv101.form
  subst hz
  simp (disch := first | omega | trivial | assumption | (first | omega | (simp only [List.length_cons, List.length_nil, sz_alloc, sz_put, sz_drew]; done) | (simp only [List.length_replicate, List.length_cons, List.length_nil, *]; done) | (simp only [List.size_toArray, List.length_cons, List.length_nil, sz_alloc, sz_put, sz_drew] at *; omega)) | ((repeat' (first | exact allOne_bc _ | exact allOne_nil | (refine allOne_int _ _ _ ?_) | (refine allOne_sl _ _ _ _ ?_) | (refine allOne_ptr _ _ ?_) | (refine allOne_map _ _ ?_) | (refine allOne_bool _ _ ?_) | (refine allOne_str _ _ ?_) | (refine allOne_iface _ _ _ ?_) | (refine allOne_app _ _ ?_ ?_))); done) | (simp only [cells_agg, cells_int, cells_bool, cells_str, cells_ptr, cells_sl, cells_map, cells_func, cells_iface, List.size_toArray, Array.size_append, bc_length, List.length_cons, List.length_nil, Nat.zero_add, Nat.reduceAdd, *]; done) | (simp (disch := (first | assumption | (first | omega | (simp only [List.length_cons, List.length_nil, sz_alloc, sz_put, sz_drew]; done) | (simp only [List.length_replicate, List.length_cons, List.length_nil, *]; done) | (simp only [List.size_toArray, List.length_cons, List.length_nil, sz_alloc, sz_put, sz_drew] at *; omega)))) only [MapAt, Hp_drew, Hp_alloc_old, Hp_alloc_new, Hp_put_same, Hp_put_other, *])) only [hp12, St_cells, cells_sl, Nat.zero_add, List.size_toArray, List.length_cons, List.length_nil, Nat.reduceAdd, Nat.reduceLeDiff, if_pos, and_self, splice_lit, List.set_cons_zero, List.set_cons_succ, st47]
  have hx13 : Ext (fun b => (sz w2 ≤ b ∨ b = B) ∨ b = x) W (put w12 x (Obj.cells #[i64 room, i64 quota, Value.slice za (List.take i R ++ [y'] ++ List.drop i R).length zc] 50)) := (hx12'.mono fun _ _ h => .inl h).put _ _ fun _ => .inr rfl
  have hs11 := hx11'.size
  have htd : R = R.take i ++ R.drop i := (List.take_append_drop i R).symm
  have hkl := h.hr.klen
  have hdat := h.hr.data
  have hmem : ∀ z ∈ R.take i ++ [y'] ++ R.drop i, z = y' ∨ z ∈ R := fun z hz => by
    simp only [List.append_assoc, List.mem_append, List.mem_singleton] at hz
    rcases hz with hz | hz | hz
    · exact .inr (List.mem_of_mem_take hz)
    · exact .inl hz
    · exact .inr (List.mem_of_mem_drop hz)
  have hput := Ext.put (Ext.refl (fun b => b = x) w12) x (Obj.cells #[i64 room, i64 quota, Value.slice za (List.take i R ++ [y'] ++ List.drop i R).length zc] 50) fun _ => rfl
  have hext : ∀ z ∈ R, Bytes 5 (put w12 x (Obj.cells #[i64 room, i64 quota, Value.slice za (List.take i R ++ [y'] ++ List.drop i R).length zc] 50)) z.2 z.1.data Q := fun z hz => by
    refine (Vec.ext (hdat z hz) hx13 fun b _ hq hm => ?_).mono fun b _ hq => hQ b (h.hQ2 b hq).1 hq
    have := h.hQ2 b hq
    rcases hm with hm | hm
    · omega
    · exact h.hr.hQ b hq hm
  have hxy1 : Ext (fun b => some b = blockOf v55 ∨ b = B) w17 w11 := (hx5.alloc _).trans2 hx11 (fun _ _ h => .inr h) fun _ _ h => .inl h
  have hxy2 : Ext (fun b => some b = blockOf v93 ∨ b = x) w11 (put w12 x (Obj.cells #[i64 room, i64 quota, Value.slice za (List.take i R ++ [y'] ++ List.drop i R).length zc] 50)) := (hx12.mono fun _ _ h => .inl h).put _ _ fun _ => .inr rfl
  have hdy1 := Vec.extc hv131' hxy1 fun b row hrow hq hm => by
    rcases hm with hm | hm
    · obtain ⟨-, row', hr'⟩ := (hv.vec (by decide)).block hm
      have := hx17'.at hr' not_false
      rw [hrow] at this; simp at this
    · subst hm; rw [hb17] at hrow; simp at hrow
  have hdy2 := Vec.extc hdy1 hxy2 fun b row hrow hq hm => by
    rcases hm with hm | hm
    · obtain ⟨-, row', hr'⟩ := (hv93'.vec (by decide)).block hm
      rw [hrow] at hr'; simp at hr'
    · subst hm; rw [hp11] at hrow; simp at hrow
  refine hK (.slice za (R.take i ++ [y'] ++ R.drop i).length zc) (.slice va data.length vc) _ (h.hx.trans2 hx13 (fun _ _ h => h.elim) fun b hb hm => ?_) ?_
  · omega
  · rw [← hy']
    refine ⟨Hp_put_same _ _ _ hlp12, (hv101.ext hput fun b _ hq hm => ?_).mono fun b _ hq => ?_, fun z hz => ?_, fun z hz => ?_, hQx, ?_⟩
    · rcases hq with hq | hq <;> omega
    · rcases hq with hq | hq
      · exact hQn b hq
      · exact hQn b (by omega)
    · rcases hmem z hz with rfl | hz
      · rw [hy']; exact hk
      · exact hkl z hz
    · rcases hmem z hz with hz | hz
      · have e1 : z.2 = Value.slice va data.length vc := by rw [hz, hy']
        have e2 : z.1.data = data := by rw [hz, hy']
        rw [e1, e2]
        exact hdy2.mono fun b _ hq => hQn b (by omega)
      · exact hext z hz
    · have ht := h.hr.htot
      have e : totalB (bR (R.take i ++ [y'] ++ R.drop i)) = totalB (bR R) + (data.length : Int) := by
        conv => rhs; rw [htd]
        simp only [bR, List.map_append, List.map_cons, List.map_nil, total_append, total_cons]
        rw [hy']
        simp only [totalB, List.map_nil, List.sum_nil]; omega
      rw [e]; exact htot
theorem put_x4 (h : PutC w2 W x B room quota k data src e da dc s R Q2 Qd) (hlen : R.length ≤ 1000) (hdl : data.length ≤ 1000000) (hi : i ≤ R.length) (hv : Sl bcell 39 35 W v55 (R.take i) (fun b => sz w2 ≤ b)) (Q : Nat → Prop) (hQ : ∀ b, b < sz w2 → Q2 b → Q b) (hQx : ∀ b, Q b → b ≠ x) (hQn : ∀ b, sz w2 ≤ b → Q b)
    (hroom : room ≤ 1073741824) {K : Value → World → Prop}
    (h15 : quota < usedB (bR R) src + (data.length : Int) → ∀ W', Ext (fun _ => False) w2 W' → RefC W' x room quota s R Q2 → K (i64 15) W')
    (h16 : ¬ quota < usedB (bR R) src + (data.length : Int) → room < totalB (bR R) + (data.length : Int) → ∀ W', Ext (fun _ => False) w2 W' → RefC W' x room quota s R Q2 → K (i64 16) W')
    (h0 : ¬ quota < usedB (bR R) src + (data.length : Int) → ¬ room < totalB (bR R) + (data.length : Int) → ∀ s' d' W', Ext (fun b => b = x ∨ b = B) w2 W' → RefC W' x room quota s' (R.take i ++ [((⟨k, data, src, e⟩, d') : BV)] ++ R.drop i) Q → K (i64 0) W') :
    F11x4 (ptr x 0) (ptr B 0) (i64 i) v55 W K := by
  have hp := h.hr.hp
  have hb := h.hb
  have hk := h.hk
  have ht := h.hr.htot
  have hu := used_le (bR R) src
  have hxd : Ext (fun _ => False) W W.drew.drew := (Ext.refl _ _).drew.drew
  have h1 := h.ext hxd (fun _ _ h => h.elim) (Vec.ext h.hd hxd fun _ _ _ => not_false)
  unfold F11x4
  simp (disch := first | omega | trivial | assumption | (first | omega | (simp only [List.length_cons, List.length_nil, sz_alloc, sz_put, sz_drew]; done) | (simp only [List.length_replicate, List.length_cons, List.length_nil, *]; done) | (simp only [List.size_toArray, List.length_cons, List.length_nil, sz_alloc, sz_put, sz_drew] at *; omega)) | ((repeat' (first | exact allOne_bc _ | exact allOne_nil | (refine allOne_int _ _ _ ?_) | (refine allOne_sl _ _ _ _ ?_) | (refine allOne_ptr _ _ ?_) | (refine allOne_map _ _ ?_) | (refine allOne_bool _ _ ?_) | (refine allOne_str _ _ ?_) | (refine allOne_iface _ _ _ ?_) | (refine allOne_app _ _ ?_ ?_))); done) | (simp only [cells_agg, cells_int, cells_bool, cells_str, cells_ptr, cells_sl, cells_map, cells_func, cells_iface, List.size_toArray, Array.size_append, bc_length, List.length_cons, List.length_nil, Nat.zero_add, Nat.reduceAdd, *]; done) | (simp (disch := (first | assumption | (first | omega | (simp only [List.length_cons, List.length_nil, sz_alloc, sz_put, sz_drew]; done) | (simp only [List.length_replicate, List.length_cons, List.length_nil, *]; done) | (simp only [List.size_toArray, List.length_cons, List.length_nil, sz_alloc, sz_put, sz_drew] at *; omega)))) only [MapAt, Hp_drew, Hp_alloc_old, Hp_alloc_new, Hp_put_same, Hp_put_other, *])) only [hp, hb, hk, NilCk_ptr, L1_cells, Hp_drew, List.getElem?_toArray, List.getElem?_cons_zero, List.getElem?_cons_succ, Option.elim_some, Nat.zero_add, get_bc, Nat.sub_self, Nat.reduceSub, len37, fld39_1, fld39_2, fld50_1, ld3, ld37]
  refine CallF_by Try.call23 (rused_spec h1.hr (by omega) src) ?_
  rintro _ _ ⟨rfl, rfl⟩
  simp (disch := first | omega | trivial | assumption | (first | omega | (simp only [List.length_cons, List.length_nil, sz_alloc, sz_put, sz_drew]; done) | (simp only [List.length_replicate, List.length_cons, List.length_nil, *]; done) | (simp only [List.size_toArray, List.length_cons, List.length_nil, sz_alloc, sz_put, sz_drew] at *; omega)) | ((repeat' (first | exact allOne_bc _ | exact allOne_nil | (refine allOne_int _ _ _ ?_) | (refine allOne_sl _ _ _ _ ?_) | (refine allOne_ptr _ _ ?_) | (refine allOne_map _ _ ?_) | (refine allOne_bool _ _ ?_) | (refine allOne_str _ _ ?_) | (refine allOne_iface _ _ _ ?_) | (refine allOne_app _ _ ?_ ?_))); done) | (simp only [cells_agg, cells_int, cells_bool, cells_str, cells_ptr, cells_sl, cells_map, cells_func, cells_iface, List.size_toArray, Array.size_append, bc_length, List.length_cons, List.length_nil, Nat.zero_add, Nat.reduceAdd, *]; done) | (simp (disch := (first | assumption | (first | omega | (simp only [List.length_cons, List.length_nil, sz_alloc, sz_put, sz_drew]; done) | (simp only [List.length_replicate, List.length_cons, List.length_nil, *]; done) | (simp only [List.size_toArray, List.length_cons, List.length_nil, sz_alloc, sz_put, sz_drew] at *; omega)))) only [MapAt, Hp_drew, Hp_alloc_old, Hp_alloc_new, Hp_put_same, Hp_put_other, *])) only [hp, hb, hk, p_add, p_gtr, L1_cells, Hp_drew, Branch_bool, List.getElem?_toArray, List.getElem?_cons_zero, List.getElem?_cons_succ, Option.elim_some, decide_eq_true_eq, decide_eq_false_iff_not, true_and, get_bc, Nat.sub_self, wr_in]
  refine ⟨fun hl => h15 hl _ h1.hx h1.hr, fun hn => ?_⟩
  have hxd2 : Ext (fun _ => False) W W.drew.drew.drew := hxd.drew
  have h2 := h.ext hxd2 (fun _ _ h => h.elim) (Vec.ext h.hd hxd2 fun _ _ _ => not_false)
  unfold F11x2
  simp (disch := first | omega | trivial | assumption | (first | omega | (simp only [List.length_cons, List.length_nil, sz_alloc, sz_put, sz_drew]; done) | (simp only [List.length_replicate, List.length_cons, List.length_nil, *]; done) | (simp only [List.size_toArray, List.length_cons, List.length_nil, sz_alloc, sz_put, sz_drew] at *; omega)) | ((repeat' (first | exact allOne_bc _ | exact allOne_nil | (refine allOne_int _ _ _ ?_) | (refine allOne_sl _ _ _ _ ?_) | (refine allOne_ptr _ _ ?_) | (refine allOne_map _ _ ?_) | (refine allOne_bool _ _ ?_) | (refine allOne_str _ _ ?_) | (refine allOne_iface _ _ _ ?_) | (refine allOne_app _ _ ?_ ?_))); done) | (simp only [cells_agg, cells_int, cells_bool, cells_str, cells_ptr, cells_sl, cells_map, cells_func, cells_iface, List.size_toArray, Array.size_append, bc_length, List.length_cons, List.length_nil, Nat.zero_add, Nat.reduceAdd, *]; done) | (simp (disch := (first | assumption | (first | omega | (simp only [List.length_cons, List.length_nil, sz_alloc, sz_put, sz_drew]; done) | (simp only [List.length_replicate, List.length_cons, List.length_nil, *]; done) | (simp only [List.size_toArray, List.length_cons, List.length_nil, sz_alloc, sz_put, sz_drew] at *; omega)))) only [MapAt, Hp_drew, Hp_alloc_old, Hp_alloc_new, Hp_put_same, Hp_put_other, *])) only [hp, hb, hk, NilCk_ptr, L1_cells, Hp_drew, List.getElem?_toArray, List.getElem?_cons_zero, Option.elim_some, Nat.zero_add, Nat.add_zero, get_bc, Nat.sub_self, len37, fld39_1, fld50_0, ld3, ld37]
  refine CallF_by Try.call21 (rtotal_spec h2.hr (by omega)) ?_
  rintro _ _ ⟨rfl, rfl⟩
  simp (disch := first | omega | trivial | assumption | (first | omega | (simp only [List.length_cons, List.length_nil, sz_alloc, sz_put, sz_drew]; done) | (simp only [List.length_replicate, List.length_cons, List.length_nil, *]; done) | (simp only [List.size_toArray, List.length_cons, List.length_nil, sz_alloc, sz_put, sz_drew] at *; omega)) | ((repeat' (first | exact allOne_bc _ | exact allOne_nil | (refine allOne_int _ _ _ ?_) | (refine allOne_sl _ _ _ _ ?_) | (refine allOne_ptr _ _ ?_) | (refine allOne_map _ _ ?_) | (refine allOne_bool _ _ ?_) | (refine allOne_str _ _ ?_) | (refine allOne_iface _ _ _ ?_) | (refine allOne_app _ _ ?_ ?_))); done) | (simp only [cells_agg, cells_int, cells_bool, cells_str, cells_ptr, cells_sl, cells_map, cells_func, cells_iface, List.size_toArray, Array.size_append, bc_length, List.length_cons, List.length_nil, Nat.zero_add, Nat.reduceAdd, *]; done) | (simp (disch := (first | assumption | (first | omega | (simp only [List.length_cons, List.length_nil, sz_alloc, sz_put, sz_drew]; done) | (simp only [List.length_replicate, List.length_cons, List.length_nil, *]; done) | (simp only [List.size_toArray, List.length_cons, List.length_nil, sz_alloc, sz_put, sz_drew] at *; omega)))) only [MapAt, Hp_drew, Hp_alloc_old, Hp_alloc_new, Hp_put_same, Hp_put_other, *])) only [hp, hb, hk, p_add, p_gtr, L1_cells, Hp_drew, Branch_bool, List.getElem?_toArray, List.getElem?_cons_zero, Option.elim_some, decide_eq_true_eq, decide_eq_false_iff_not, true_and, get_bc, Nat.sub_self, wr_in]
  refine ⟨fun hl => h16 hn hl _ h2.hx h2.hr, fun hn2 => ?_⟩
  exact put_x1 h2 hlen hdl hi (hv.ext hxd2 fun _ _ _ => not_false) Q hQ hQx hQn (by omega) fun s' d' W' hx hr => h0 hn hn2 s' d' W' hx hr
theorem put_x5 (h : PutC w2 W x B room quota k data src e da dc s R Q2 Qd) (hlen : R.length ≤ 1000) (hdl : data.length ≤ 1000000) (hi : i ≤ R.length) (Q : Nat → Prop) (hQ : ∀ b, b < sz w2 → Q2 b → Q b) (hQx : ∀ b, Q b → b ≠ x) (hQn : ∀ b, sz w2 ≤ b → Q b)
    (hroom : room ≤ 1073741824) {K : Value → World → Prop}
    (hin : ∀ y, R[i]? = some y → y.1.key = k → ∀ s' W', Ext (fun b => b = x) w2 W' → RefC W' x room quota s' (R.take i ++ [({ y.1 with exp := max y.1.exp e }, y.2)] ++ R.drop (i + 1)) Q → K (i64 0) W')
    (h15 : (∀ y, R[i]? = some y → y.1.key ≠ k) → quota < usedB (bR R) src + (data.length : Int) → ∀ W', Ext (fun _ => False) w2 W' → RefC W' x room quota s R Q2 → K (i64 15) W')
    (h16 : (∀ y, R[i]? = some y → y.1.key ≠ k) → ¬ quota < usedB (bR R) src + (data.length : Int) → room < totalB (bR R) + (data.length : Int) → ∀ W', Ext (fun _ => False) w2 W' → RefC W' x room quota s R Q2 → K (i64 16) W')
    (h0 : (∀ y, R[i]? = some y → y.1.key ≠ k) → ¬ quota < usedB (bR R) src + (data.length : Int) → ¬ room < totalB (bR R) + (data.length : Int) → ∀ s' d' W', Ext (fun b => b = x ∨ b = B) w2 W' → RefC W' x room quota s' (R.take i ++ [((⟨k, data, src, e⟩, d') : BV)] ++ R.drop i) Q → K (i64 0) W') :
    F11x5 (ptr x 0) (ptr B 0) (i64 i) W K := by
  have hp := h.hr.hp
  have hb := h.hb
  have hk := h.hk
  have hlp := Hp_lt hp
  have hlB := Hp_lt hb
  have hs2 := h.hx.size
  obtain ⟨sa, sc, hs⟩ := h.hr.sl.form
  subst hs
  obtain ⟨htake, hisc, -⟩ := h.hr.sl.takeV i hi
  have hisc' : (i : Int) ≤ (sc : Int) := by omega
  unfold F11x5
  simp (disch := first | omega | trivial | assumption | (first | omega | (simp only [List.length_cons, List.length_nil, sz_alloc, sz_put, sz_drew]; done) | (simp only [List.length_replicate, List.length_cons, List.length_nil, *]; done) | (simp only [List.size_toArray, List.length_cons, List.length_nil, sz_alloc, sz_put, sz_drew] at *; omega)) | ((repeat' (first | exact allOne_bc _ | exact allOne_nil | (refine allOne_int _ _ _ ?_) | (refine allOne_sl _ _ _ _ ?_) | (refine allOne_ptr _ _ ?_) | (refine allOne_map _ _ ?_) | (refine allOne_bool _ _ ?_) | (refine allOne_str _ _ ?_) | (refine allOne_iface _ _ _ ?_) | (refine allOne_app _ _ ?_ ?_))); done) | (simp only [cells_agg, cells_int, cells_bool, cells_str, cells_ptr, cells_sl, cells_map, cells_func, cells_iface, List.size_toArray, Array.size_append, bc_length, List.length_cons, List.length_nil, Nat.zero_add, Nat.reduceAdd, *]; done) | (simp (disch := (first | assumption | (first | omega | (simp only [List.length_cons, List.length_nil, sz_alloc, sz_put, sz_drew]; done) | (simp only [List.length_replicate, List.length_cons, List.length_nil, *]; done) | (simp only [List.size_toArray, List.length_cons, List.length_nil, sz_alloc, sz_put, sz_drew] at *; omega)))) only [MapAt, Hp_drew, Hp_alloc_old, Hp_alloc_new, Hp_put_same, Hp_put_other, *])) only [hp, bs47_0, NilCk_ptr, L1_cells, Hp_drew, Hp_alloc_old, List.getElem?_toArray, List.getElem?_cons_zero, List.getElem?_cons_succ, Option.elim_some, Nat.zero_add, Nat.add_zero, Int.toNat_natCast, fld39_0, slH47, fld50_2, ld47, bs47_0]
  have hx5 : Ext (fun _ => False) W (W.alloc (.cells #[] 39 (0, 0))) := (Ext.refl _ _).alloc _
  have hnil : Sl bcell 39 35 (W.alloc (.cells #[] 39 (0, 0))) (.slice (some ⟨sz W, 0, none⟩) 0 0) [] (fun b => b = sz W) := Sl.fresh (L := []) #[] (by simp) (by simp)
  have hl1 : (R.take i).length ≤ 1000 := Nat.le_trans (List.length_take_le' _ _) hlen
  refine appS hnil (htake.ext hx5 fun _ _ _ => not_false) (fun z hz => h.hr.one (List.mem_of_mem_take hz)) (by simp; omega) 47 ?_
  intro v55 w6 hv55 hx6
  have hx6' : Ext (fun _ => False) W w6 := hx5.trans2 hx6 (fun _ _ h => h) fun b hb e => by simp [blockOf] at e; omega
  have hv55' : Sl bcell 39 35 w6 v55 (R.take i) (fun b => sz w2 ≤ b) := by
    have : Sl bcell 39 35 w6 v55 (R.take i) (fun b => b = sz W ∨ b = sz (W.alloc (.cells #[] 39 (0, 0)))) := by simpa using hv55
    refine this.mono fun b _ hb => ?_
    rcases hb with hb | hb
    · omega
    · rw [hb, sz_alloc]; omega
  clear hv55 hx6 hx5 hnil
  have h6 := h.ext hx6' (fun _ _ h => h.elim) (Vec.ext h.hd hx6' fun _ _ _ => not_false)
  have hp6 := h6.hr.hp
  have hb6 := h6.hb
  by_cases hlt : i < R.length
  · have hlt' : ((i : Int) < (R.length : Int)) := by omega
    obtain ⟨sb, so, scap, row, e1, hcap, hsb, hso, hrow, hsq⟩ := h6.hr.sl.at (by intro e; rw [e] at hlt; cases hlt)
    cases e1
    obtain ⟨y, hy⟩ : ∃ y, R[i]? = some y := ⟨_, List.getElem?_eq_getElem hlt⟩
    have hym := List.mem_of_getElem? hy
    have hyk := h.hr.klen y hym
    obtain ⟨g35, g0, g32, g33, g34, gsz⟩ := brow hrow hy hyk
    by_cases hyk' : y.1.key = k
    · have e1 : decide (y.1.key = k) = true := decide_eq_true hyk'
      simp (disch := first | omega | trivial | assumption | (first | omega | (simp only [List.length_cons, List.length_nil, sz_alloc, sz_put, sz_drew]; done) | (simp only [List.length_replicate, List.length_cons, List.length_nil, *]; done) | (simp only [List.size_toArray, List.length_cons, List.length_nil, sz_alloc, sz_put, sz_drew] at *; omega)) | ((repeat' (first | exact allOne_bc _ | exact allOne_nil | (refine allOne_int _ _ _ ?_) | (refine allOne_sl _ _ _ _ ?_) | (refine allOne_ptr _ _ ?_) | (refine allOne_map _ _ ?_) | (refine allOne_bool _ _ ?_) | (refine allOne_str _ _ ?_) | (refine allOne_iface _ _ _ ?_) | (refine allOne_app _ _ ?_ ?_))); done) | (simp only [cells_agg, cells_int, cells_bool, cells_str, cells_ptr, cells_sl, cells_map, cells_func, cells_iface, List.size_toArray, Array.size_append, bc_length, List.length_cons, List.length_nil, Nat.zero_add, Nat.reduceAdd, *]; done) | (simp (disch := (first | assumption | (first | omega | (simp only [List.length_cons, List.length_nil, sz_alloc, sz_put, sz_drew]; done) | (simp only [List.length_replicate, List.length_cons, List.length_nil, *]; done) | (simp only [List.size_toArray, List.length_cons, List.length_nil, sz_alloc, sz_put, sz_drew] at *; omega)))) only [MapAt, Hp_drew, Hp_alloc_old, Hp_alloc_new, Hp_put_same, Hp_put_other, *])) only [hp6, hb6, hlt', hsb, g0, hk, e1, cond_true, decide_true, NilCk_ptr, Pick_bool, cond_true, p_lss, L1_cells, Ln_cells, Hp_drew, Branch_bool, Gd_true, List.getElem?_toArray, List.getElem?_cons_zero, List.getElem?_cons_succ, Option.elim_some, Nat.zero_add, Nat.add_zero, List.size_toArray, List.length_cons, List.length_nil, Nat.reduceAdd, Nat.reduceLeDiff, if_pos, and_true, Bool.true_eq_false, false_implies, forall_const, ext_bc, bc_length, Array.size_append, Int.toNat_natCast, eqlb35, fld39_0, ix47, len47, fld50_2, ld35, ld47]
      exact put_x3 h6 hlen hy hv55' Q hQ hQx hQn fun s' W' hx hr => hin y hy hyk' s' W' hx hr
    · have e1 : decide (y.1.key = k) = false := decide_eq_false hyk'
      simp (disch := first | omega | trivial | assumption | (first | omega | (simp only [List.length_cons, List.length_nil, sz_alloc, sz_put, sz_drew]; done) | (simp only [List.length_replicate, List.length_cons, List.length_nil, *]; done) | (simp only [List.size_toArray, List.length_cons, List.length_nil, sz_alloc, sz_put, sz_drew] at *; omega)) | ((repeat' (first | exact allOne_bc _ | exact allOne_nil | (refine allOne_int _ _ _ ?_) | (refine allOne_sl _ _ _ _ ?_) | (refine allOne_ptr _ _ ?_) | (refine allOne_map _ _ ?_) | (refine allOne_bool _ _ ?_) | (refine allOne_str _ _ ?_) | (refine allOne_iface _ _ _ ?_) | (refine allOne_app _ _ ?_ ?_))); done) | (simp only [cells_agg, cells_int, cells_bool, cells_str, cells_ptr, cells_sl, cells_map, cells_func, cells_iface, List.size_toArray, Array.size_append, bc_length, List.length_cons, List.length_nil, Nat.zero_add, Nat.reduceAdd, *]; done) | (simp (disch := (first | assumption | (first | omega | (simp only [List.length_cons, List.length_nil, sz_alloc, sz_put, sz_drew]; done) | (simp only [List.length_replicate, List.length_cons, List.length_nil, *]; done) | (simp only [List.size_toArray, List.length_cons, List.length_nil, sz_alloc, sz_put, sz_drew] at *; omega)))) only [MapAt, Hp_drew, Hp_alloc_old, Hp_alloc_new, Hp_put_same, Hp_put_other, *])) only [hp6, hb6, hlt', hsb, g0, hk, e1, cond_true, decide_true, NilCk_ptr, Pick_bool, cond_true, p_lss, L1_cells, Ln_cells, Hp_drew, Branch_bool, Gd_true, List.getElem?_toArray, List.getElem?_cons_zero, List.getElem?_cons_succ, Option.elim_some, Nat.zero_add, Nat.add_zero, List.size_toArray, List.length_cons, List.length_nil, Nat.reduceAdd, Nat.reduceLeDiff, if_pos, true_and, Bool.false_eq_true, false_implies, forall_const, ext_bc, bc_length, Array.size_append, Int.toNat_natCast, eqlb35, fld39_0, ix47, len47, fld50_2, ld35, ld47]
      have hno : ∀ z, R[i]? = some z → z.1.key ≠ k := fun z hz => by rw [hy] at hz; cases hz; exact hyk'
      exact put_x4 h6 hlen hdl hi hv55' Q hQ hQx hQn hroom (h15 hno) (h16 hno) (h0 hno)
  · have hlt' : ¬ ((i : Int) < (R.length : Int)) := by omega
    have hno : ∀ z, R[i]? = some z → z.1.key ≠ k := fun z hz => by rw [List.getElem?_eq_none (by omega)] at hz; cases hz
    simp (disch := first | omega | trivial | assumption | (first | omega | (simp only [List.length_cons, List.length_nil, sz_alloc, sz_put, sz_drew]; done) | (simp only [List.length_replicate, List.length_cons, List.length_nil, *]; done) | (simp only [List.size_toArray, List.length_cons, List.length_nil, sz_alloc, sz_put, sz_drew] at *; omega)) | ((repeat' (first | exact allOne_bc _ | exact allOne_nil | (refine allOne_int _ _ _ ?_) | (refine allOne_sl _ _ _ _ ?_) | (refine allOne_ptr _ _ ?_) | (refine allOne_map _ _ ?_) | (refine allOne_bool _ _ ?_) | (refine allOne_str _ _ ?_) | (refine allOne_iface _ _ _ ?_) | (refine allOne_app _ _ ?_ ?_))); done) | (simp only [cells_agg, cells_int, cells_bool, cells_str, cells_ptr, cells_sl, cells_map, cells_func, cells_iface, List.size_toArray, Array.size_append, bc_length, List.length_cons, List.length_nil, Nat.zero_add, Nat.reduceAdd, *]; done) | (simp (disch := (first | assumption | (first | omega | (simp only [List.length_cons, List.length_nil, sz_alloc, sz_put, sz_drew]; done) | (simp only [List.length_replicate, List.length_cons, List.length_nil, *]; done) | (simp only [List.size_toArray, List.length_cons, List.length_nil, sz_alloc, sz_put, sz_drew] at *; omega)))) only [MapAt, Hp_drew, Hp_alloc_old, Hp_alloc_new, Hp_put_same, Hp_put_other, *])) only [hp6, hlt', cond_false, decide_false, Pick_bool, cond_false, p_lss, L1_cells, Branch_bool, Gd_false, List.getElem?_toArray, List.getElem?_cons_zero, List.getElem?_cons_succ, Option.elim_some, true_and, Bool.false_eq_true, false_implies, forall_const, len47]
    exact put_x4 h6 hlen hdl hi hv55' Q hQ hQx hQn hroom (h15 hno) (h16 hno) (h0 hno)
end
section
variable {w : World} {x : Nat} {room quota : Int} {s : Value} {R : List BV} {Q : Nat → Prop}
theorem rput_spec (h : RefC w x room quota s R Q) (hroom : room ≤ 1073741824) (now : Int) (hlen : R.length ≤ 1000) (b : Blk) (d : Value) {Qd : Nat → Prop} (hd : Bytes 5 w d b.data Qd) (hk : b.key.length = 32)
    (hQd : ∀ b, Qd b → b ≠ x) (hdl : b.data.length ≤ 1000000) (hQn : ∀ b, sz w ≤ b → Q b) :
    Calls Try.prog 11 #[ptr x 0, .agg ((bc b.key).toArray ++ #[d, i64 b.src, i64 b.exp]), i64 now] w (retK fun v w' => ∃ (c : Int) (R' : List BV) (s' : Value), v = i64 c ∧ Ext (fun b => b = x) w w' ∧ RefC w' x room quota s' R' Q ∧ RPut room quota now b (bR R) c (bR R')) := by
  obtain ⟨k, data, src, e⟩ := b
  obtain ⟨da, dc, rfl⟩ := Vec.slice hd
  simp only at hk hdl hd ⊢
  refine F11_ok _ _ _ _ _ ?_
  unfold F11
  obtain ⟨I, hI⟩ : ∃ I : Value → World → Prop, I = fun v w' => ∃ (c : Int) (R' : List BV) (s' : Value), v = i64 c ∧ Ext (fun b => b = x) w w' ∧ RefC w' x room quota s' R' Q ∧ RPut room quota now ⟨k, data, src, e⟩ (bR R) c (bR R') := ⟨_, rfl⟩
  rw [← hI]
  have hlx := Hp_lt h.hp
  have hxb : Ext (fun _ => False) w (w.alloc (.cells ((bc k).toArray ++ #[Value.slice da data.length dc, i64 src, i64 e]) 39 (0, 0))) := (Ext.refl _ _).alloc _
  have hret : ∀ n : Int, RPut room quota now ⟨k, data, src, e⟩ (bR R) n (bR R) → I (i64 n) (w.alloc (.cells ((bc k).toArray ++ #[Value.slice da data.length dc, i64 src, i64 e]) 39 (0, 0))) := fun n hn => by
    rw [hI]
    exact ⟨n, R, s, rfl, hxb.mono fun _ _ h => h.elim, h.ext hxb fun _ _ _ => not_false, hn⟩
  by_cases hc1 : src < 0
  · have h1 : decide (src < 0) = true := decide_eq_true hc1
    simp (disch := first | omega | trivial | assumption | (first | omega | (simp only [List.length_cons, List.length_nil, sz_alloc, sz_put, sz_drew]; done) | (simp only [List.length_replicate, List.length_cons, List.length_nil, *]; done) | (simp only [List.size_toArray, List.length_cons, List.length_nil, sz_alloc, sz_put, sz_drew] at *; omega)) | ((repeat' (first | exact allOne_bc _ | exact allOne_nil | (refine allOne_int _ _ _ ?_) | (refine allOne_sl _ _ _ _ ?_) | (refine allOne_ptr _ _ ?_) | (refine allOne_map _ _ ?_) | (refine allOne_bool _ _ ?_) | (refine allOne_str _ _ ?_) | (refine allOne_iface _ _ _ ?_) | (refine allOne_app _ _ ?_ ?_))); done) | (simp only [cells_agg, cells_int, cells_bool, cells_str, cells_ptr, cells_sl, cells_map, cells_func, cells_iface, List.size_toArray, Array.size_append, bc_length, List.length_cons, List.length_nil, Nat.zero_add, Nat.reduceAdd, *]; done) | (simp (disch := (first | assumption | (first | omega | (simp only [List.length_cons, List.length_nil, sz_alloc, sz_put, sz_drew]; done) | (simp only [List.length_replicate, List.length_cons, List.length_nil, *]; done) | (simp only [List.size_toArray, List.length_cons, List.length_nil, sz_alloc, sz_put, sz_drew] at *; omega)))) only [MapAt, Hp_drew, Hp_alloc_old, Hp_alloc_new, Hp_put_same, Hp_put_other, *])) only [h1, hk, cond_true, Pick_bool, cond_true, p_lss, r_box, L1_cells, Hp_alloc_new, cells_agg, Branch_bool, Gdn_false, List.getElem?_toArray, List.getElem?_cons_zero, List.getElem?_cons_succ, Option.elim_some, Nat.zero_add, and_true, Bool.true_eq_false, false_implies, forall_const, get_bc, Nat.reduceSub, fld39_2, fld39_3, ld3]
    exact hret 1 (by unfold RPut; rw [if_pos (.inl hc1)]; exact ⟨rfl, rfl⟩)
  have h1 : decide (src < 0) = false := decide_eq_false hc1
  by_cases hc2 : e ≤ now
  · have h2 : decide (e ≤ now) = true := decide_eq_true hc2
    simp (disch := first | omega | trivial | assumption | (first | omega | (simp only [List.length_cons, List.length_nil, sz_alloc, sz_put, sz_drew]; done) | (simp only [List.length_replicate, List.length_cons, List.length_nil, *]; done) | (simp only [List.size_toArray, List.length_cons, List.length_nil, sz_alloc, sz_put, sz_drew] at *; omega)) | ((repeat' (first | exact allOne_bc _ | exact allOne_nil | (refine allOne_int _ _ _ ?_) | (refine allOne_sl _ _ _ _ ?_) | (refine allOne_ptr _ _ ?_) | (refine allOne_map _ _ ?_) | (refine allOne_bool _ _ ?_) | (refine allOne_str _ _ ?_) | (refine allOne_iface _ _ _ ?_) | (refine allOne_app _ _ ?_ ?_))); done) | (simp only [cells_agg, cells_int, cells_bool, cells_str, cells_ptr, cells_sl, cells_map, cells_func, cells_iface, List.size_toArray, Array.size_append, bc_length, List.length_cons, List.length_nil, Nat.zero_add, Nat.reduceAdd, *]; done) | (simp (disch := (first | assumption | (first | omega | (simp only [List.length_cons, List.length_nil, sz_alloc, sz_put, sz_drew]; done) | (simp only [List.length_replicate, List.length_cons, List.length_nil, *]; done) | (simp only [List.size_toArray, List.length_cons, List.length_nil, sz_alloc, sz_put, sz_drew] at *; omega)))) only [MapAt, Hp_drew, Hp_alloc_old, Hp_alloc_new, Hp_put_same, Hp_put_other, *])) only [h1, h2, hk, cond_false, Pick_bool, cond_false, p_lss, p_leq, r_box, L1_cells, Hp_alloc_new, cells_agg, Branch_bool, Gdn_true, List.getElem?_toArray, List.getElem?_cons_zero, List.getElem?_cons_succ, Option.elim_some, Nat.zero_add, and_true, Bool.true_eq_false, false_implies, forall_const, get_bc, Nat.reduceSub, fld39_2, fld39_3, ld3]
    exact hret 1 (by unfold RPut; rw [if_pos (.inr hc2)]; exact ⟨rfl, rfl⟩)
  have h2 : decide (e ≤ now) = false := decide_eq_false hc2
  simp (disch := first | omega | trivial | assumption | (first | omega | (simp only [List.length_cons, List.length_nil, sz_alloc, sz_put, sz_drew]; done) | (simp only [List.length_replicate, List.length_cons, List.length_nil, *]; done) | (simp only [List.size_toArray, List.length_cons, List.length_nil, sz_alloc, sz_put, sz_drew] at *; omega)) | ((repeat' (first | exact allOne_bc _ | exact allOne_nil | (refine allOne_int _ _ _ ?_) | (refine allOne_sl _ _ _ _ ?_) | (refine allOne_ptr _ _ ?_) | (refine allOne_map _ _ ?_) | (refine allOne_bool _ _ ?_) | (refine allOne_str _ _ ?_) | (refine allOne_iface _ _ _ ?_) | (refine allOne_app _ _ ?_ ?_))); done) | (simp only [cells_agg, cells_int, cells_bool, cells_str, cells_ptr, cells_sl, cells_map, cells_func, cells_iface, List.size_toArray, Array.size_append, bc_length, List.length_cons, List.length_nil, Nat.zero_add, Nat.reduceAdd, *]; done) | (simp (disch := (first | assumption | (first | omega | (simp only [List.length_cons, List.length_nil, sz_alloc, sz_put, sz_drew]; done) | (simp only [List.length_replicate, List.length_cons, List.length_nil, *]; done) | (simp only [List.size_toArray, List.length_cons, List.length_nil, sz_alloc, sz_put, sz_drew] at *; omega)))) only [MapAt, Hp_drew, Hp_alloc_old, Hp_alloc_new, Hp_put_same, Hp_put_other, *])) only [h1, h2, hk, cond_false, Pick_bool, cond_false, p_lss, p_leq, r_box, L1_cells, Hp_alloc_new, cells_agg, Branch_bool, Gdn_true, List.getElem?_toArray, List.getElem?_cons_zero, List.getElem?_cons_succ, Option.elim_some, Nat.zero_add, true_and, Bool.false_eq_true, false_implies, forall_const, get_bc, Nat.reduceSub, fld39_2, fld39_3, ld3]
  unfold F11x7
  simp (disch := first | omega | trivial | assumption | (first | omega | (simp only [List.length_cons, List.length_nil, sz_alloc, sz_put, sz_drew]; done) | (simp only [List.length_replicate, List.length_cons, List.length_nil, *]; done) | (simp only [List.size_toArray, List.length_cons, List.length_nil, sz_alloc, sz_put, sz_drew] at *; omega)) | ((repeat' (first | exact allOne_bc _ | exact allOne_nil | (refine allOne_int _ _ _ ?_) | (refine allOne_sl _ _ _ _ ?_) | (refine allOne_ptr _ _ ?_) | (refine allOne_map _ _ ?_) | (refine allOne_bool _ _ ?_) | (refine allOne_str _ _ ?_) | (refine allOne_iface _ _ _ ?_) | (refine allOne_app _ _ ?_ ?_))); done) | (simp only [cells_agg, cells_int, cells_bool, cells_str, cells_ptr, cells_sl, cells_map, cells_func, cells_iface, List.size_toArray, Array.size_append, bc_length, List.length_cons, List.length_nil, Nat.zero_add, Nat.reduceAdd, *]; done) | (simp (disch := (first | assumption | (first | omega | (simp only [List.length_cons, List.length_nil, sz_alloc, sz_put, sz_drew]; done) | (simp only [List.length_replicate, List.length_cons, List.length_nil, *]; done) | (simp only [List.size_toArray, List.length_cons, List.length_nil, sz_alloc, sz_put, sz_drew] at *; omega)))) only [MapAt, Hp_drew, Hp_alloc_old, Hp_alloc_new, Hp_put_same, Hp_put_other, *])) only [hk, p_gtr, L1_cells, Hp_alloc_new, Branch_bool, List.getElem?_toArray, List.getElem?_cons_zero, Option.elim_some, Nat.zero_add, decide_eq_true_eq, decide_eq_false_iff_not, forall_const, get_bc, Nat.sub_self, len37, fld39_1, ld37]
  refine ⟨fun hlt => hret 5 (by unfold RPut; rw [if_neg (by simp [hc1, hc2]), if_pos hlt]; exact ⟨rfl, rfl⟩), fun hnl => ?_⟩
  have hput : ∀ c l', RPut room quota now ⟨k, data, src, e⟩ (bR R) c l' ↔ _ := fun c l' => by unfold RPut; rw [if_neg (by simp [hc1, hc2]), if_neg hnl, ← bR_live]
  simp only at hput
  clear hret
  have hb1 : Hp (w.alloc (.cells ((bc k).toArray ++ #[Value.slice da data.length dc, i64 src, i64 e]) 39 (0, 0))) (sz w) = some (.cells ((bc k).toArray ++ #[Value.slice da data.length dc, i64 src, i64 e]) 39 (0, 0)) := Hp_alloc_new _ _ _ rfl
  have hs1 : sz (w.alloc (.cells ((bc k).toArray ++ #[Value.slice da data.length dc, i64 src, i64 e]) 39 (0, 0))) = sz w + 1 := sz_alloc _ _
  generalize w.alloc (.cells ((bc k).toArray ++ #[Value.slice da data.length dc, i64 src, i64 e]) 39 (0, 0)) = w1 at *
  have hr1 : RefC w1 x room quota s R (fun b => (b < sz w ∧ Q b) ∨ sz w1 ≤ b) := by
    have h' := h.ext hxb fun _ _ _ => not_false
    refine ⟨h'.hp, (h.sl.mono (Q' := fun b => (b < sz w ∧ Q b) ∨ sz w1 ≤ b) fun b hb hq => .inl ⟨hb, hq⟩).ext hxb fun _ _ _ => not_false, h.klen, fun y hy => (Vec.mono (h.data y hy) fun b hb hq => .inl ⟨hb, hq⟩).ext hxb fun _ _ _ => not_false, fun b hb => ?_, h.htot⟩
    rcases hb with hb | hb
    · exact h.hQ b hb.2
    · omega
  refine CallF_by Try.call17 (rsweep_spec hr1 now (by omega) fun b hb => .inr hb) ?_
  rintro _ w2 ⟨-, hx2, s2, hr2⟩
  have hfl := List.length_filter_le (liveV now) R
  generalize R.filter (liveV now) = R2 at *
  have hs2 := hx2.size
  have hb2 := hx2.at hb1 (by omega)
  have hd2 : Bytes 5 w2 (.slice da data.length dc) data Qd := Vec.ext (Vec.ext hd hxb fun _ _ _ => not_false) hx2 fun b _ hq => hQd b hq
  have hpc : PutC w2 w2 x (sz w) room quota k data src e da dc s2 R2 (fun b => b < sz w2 ∧ b ≠ sz w ∧ Q b) Qd :=
    ⟨⟨hr2.hp, hr2.sl.mono fun b hb hq => ⟨hb, by omega, hq.elim (·.2) fun h => hQn b (by omega)⟩, hr2.klen, fun y hy => Vec.mono (hr2.data y hy) fun b hb hq => ⟨hb, by omega, hq.elim (·.2) fun h => hQn b (by omega)⟩, fun b hb => h.hQ b hb.2.2, hr2.htot⟩,
      hb2, hd2, Ext.refl _ _, fun b hb => ⟨hb.1, hb.2.1⟩, by omega, by omega, by omega, hk⟩
  have hxw2 : Ext (fun b => b = x) w w2 := hxb.trans2 hx2 (fun _ _ h => h.elim) fun _ _ h => h
  have hp2 := hpc.hr.hp
  obtain ⟨J, hJ⟩ : ∃ J : Value → World → Prop, J = fun v w3 => ∃ i : Nat, v = i64 (i : Int) ∧ i ≤ R2.length ∧ Ext (fun _ => False) w2 w3 ∧ ∀ y ∈ (bR R2).take i, cmpB y.key k < 0 := ⟨_, rfl⟩
  refine Loop1 J (fun v _ => R2.length - (match v with | .int _ n => n.toNat | _ => 0)) (by rw [hJ]; exact ⟨0, rfl, Nat.zero_le _, Ext.refl _ _, by simp⟩) ?_
  intro v w3 hJ3
  rw [hJ] at hJ3
  obtain ⟨i, rfl, hi, hx3, hless⟩ := hJ3
  have h3 := hpc.ext hx3 (fun _ _ h => h.elim) (Vec.ext hd2 hx3 fun _ _ _ => not_false)
  have hp3 := h3.hr.hp
  have hb3 := h3.hb
  obtain ⟨sa, sc, hs⟩ := h3.hr.sl.form
  have hfin : ∀ w4, Ext (fun _ => False) w2 w4 → (∀ y, (bR R2)[i]? = some y → ¬ cmpB y.key k < 0) → F11x5 (ptr x 0) (ptr (sz w) 0) (i64 i) w4 I := fun w4 hx4 hno => by
    have h4 := hpc.ext hx4 (fun _ _ h => h.elim) (Vec.ext hd2 hx4 fun _ _ _ => not_false)
    have hRi : ∀ y, R2[i]? = some y → (bR R2)[i]? = some y.1 := fun y hy => by rw [bR, List.getElem?_map, hy]; rfl
    have hRi' : ∀ y, (bR R2)[i]? = some y → ∃ z, R2[i]? = some z ∧ z.1 = y := fun y hy => by rw [bR, List.getElem?_map] at hy; exact Option.map_eq_some_iff.1 hy
    have htk : bR (R2.take i) = (bR R2).take i := List.map_take
    have hdr : ∀ j, bR (R2.drop j) = (bR R2).drop j := fun j => List.map_drop
    refine put_x5 h4 (by omega) hdl hi Q (fun b _ hq => hq.2.2) h.hQ (fun b hb => hQn b (by omega)) hroom ?_ ?_ ?_ ?_
    · intro y hy hyk s' W' hx hr
      rw [hI]
      refine ⟨0, _, s', rfl, hxw2.trans2 hx (fun _ _ h => h) (fun _ _ h => h), hr, ?_⟩
      rw [hput]
      refine ⟨i, by simpa using hi, hless, hno, .inl ⟨y.1, hRi y hy, hyk, rfl, ?_⟩⟩
      simp only [bR, List.map_append, List.map_cons, List.map_nil, List.map_take, List.map_drop]
    · intro hk' hq W' hx hr
      rw [hI]
      refine ⟨15, R2, s2, rfl, hxw2.trans2 hx (fun _ _ h => h) (fun _ _ h => h.elim), ?_, ?_⟩
      · exact ⟨hr.hp, hr.sl.mono fun b _ hq => hq.2.2, hr.klen, fun y hy => Vec.mono (hr.data y hy) fun b _ hq => hq.2.2, h.hQ, hr.htot⟩
      · rw [hput]
        refine ⟨i, by simpa using hi, hless, hno, .inr ⟨fun y hy => ?_, .inl ⟨hq, rfl, rfl⟩⟩⟩
        obtain ⟨z, hz, rfl⟩ := hRi' y hy; exact hk' z hz
    · intro hk' hq hq2 W' hx hr
      rw [hI]
      refine ⟨16, R2, s2, rfl, hxw2.trans2 hx (fun _ _ h => h) (fun _ _ h => h.elim), ?_, ?_⟩
      · exact ⟨hr.hp, hr.sl.mono fun b _ hq => hq.2.2, hr.klen, fun y hy => Vec.mono (hr.data y hy) fun b _ hq => hq.2.2, h.hQ, hr.htot⟩
      · rw [hput]
        refine ⟨i, by simpa using hi, hless, hno, .inr ⟨fun y hy => ?_, .inr (.inl ⟨hq, hq2, rfl, rfl⟩)⟩⟩
        obtain ⟨z, hz, rfl⟩ := hRi' y hy; exact hk' z hz
    · intro hk' hq hq2 s' d' W' hx hr
      rw [hI]
      refine ⟨0, _, s', rfl, hxw2.trans2 hx (fun _ _ h => h) (fun b hb h => h.elim id fun h => by omega), hr, ?_⟩
      rw [hput]
      refine ⟨i, by simpa using hi, hless, hno, .inr ⟨fun y hy => ?_, .inr (.inr ⟨hq, hq2, rfl, ?_⟩)⟩⟩
      · obtain ⟨z, hz, rfl⟩ := hRi' y hy; exact hk' z hz
      · simp only [bR, List.map_append, List.map_cons, List.map_nil, List.map_take, List.map_drop]
  subst hs
  unfold F11x6
  by_cases hlt : i < R2.length
  · have hlt' : ((i : Int) < (R2.length : Int)) := by omega
    obtain ⟨sb, so, scap, row, e1, hcap, hsb, hso, hrow, hsq⟩ := h3.hr.sl.at (by intro e; rw [e] at hlt; cases hlt)
    cases e1
    obtain ⟨y, hy⟩ : ∃ y, R2[i]? = some y := ⟨_, List.getElem?_eq_getElem hlt⟩
    have hym := List.mem_of_getElem? hy
    have hyk := h3.hr.klen y hym
    have hyb : (bR R2)[i]? = some y.1 := by rw [bR, List.getElem?_map, hy]; rfl
    obtain ⟨g35, g0, g32, g33, g34, gsz⟩ := brow hrow hy hyk
    simp (disch := first | omega | trivial | assumption | (first | omega | (simp only [List.length_cons, List.length_nil, sz_alloc, sz_put, sz_drew]; done) | (simp only [List.length_replicate, List.length_cons, List.length_nil, *]; done) | (simp only [List.size_toArray, List.length_cons, List.length_nil, sz_alloc, sz_put, sz_drew] at *; omega)) | ((repeat' (first | exact allOne_bc _ | exact allOne_nil | (refine allOne_int _ _ _ ?_) | (refine allOne_sl _ _ _ _ ?_) | (refine allOne_ptr _ _ ?_) | (refine allOne_map _ _ ?_) | (refine allOne_bool _ _ ?_) | (refine allOne_str _ _ ?_) | (refine allOne_iface _ _ _ ?_) | (refine allOne_app _ _ ?_ ?_))); done) | (simp only [cells_agg, cells_int, cells_bool, cells_str, cells_ptr, cells_sl, cells_map, cells_func, cells_iface, List.size_toArray, Array.size_append, bc_length, List.length_cons, List.length_nil, Nat.zero_add, Nat.reduceAdd, *]; done) | (simp (disch := (first | assumption | (first | omega | (simp only [List.length_cons, List.length_nil, sz_alloc, sz_put, sz_drew]; done) | (simp only [List.length_replicate, List.length_cons, List.length_nil, *]; done) | (simp only [List.size_toArray, List.length_cons, List.length_nil, sz_alloc, sz_put, sz_drew] at *; omega)))) only [MapAt, Hp_drew, Hp_alloc_old, Hp_alloc_new, Hp_put_same, Hp_put_other, *])) only [hp3, hb3, hlt', hsb, g0, hk, cond_true, decide_true, NilCk_ptr, Pick_bool, cond_true, p_add, p_lss, L1_cells, Ln_cells, Hp_drew, Gd_true, GdE_true, List.getElem?_toArray, List.getElem?_cons_zero, List.getElem?_cons_succ, Option.elim_some, Nat.zero_add, Nat.add_zero, List.size_toArray, List.length_cons, List.length_nil, Nat.reduceAdd, Nat.reduceLeDiff, if_pos, ext_bc, bc_length, Array.size_append, wr_in, Int.toNat_natCast, fld39_0, ix47, len47, fld50_2, ld35, ld47]
    refine CallF_by Try.call26 (less_spec y.1.key k hyk hk _) ?_
    rintro _ w4 ⟨rfl, hx4⟩
    have hx4' : Ext (fun _ => False) w2 w4 := (hx3.trans (Ext.refl _ _).drew fun _ _ h => h).trans hx4 fun _ _ h => h
    by_cases hl : cmpB y.1.key k < 0
    · have e1 : decide (cmpB y.1.key k < 0) = true := decide_eq_true hl
      simp (disch := first | omega | trivial | assumption | (first | omega | (simp only [List.length_cons, List.length_nil, sz_alloc, sz_put, sz_drew]; done) | (simp only [List.length_replicate, List.length_cons, List.length_nil, *]; done) | (simp only [List.size_toArray, List.length_cons, List.length_nil, sz_alloc, sz_put, sz_drew] at *; omega)) | ((repeat' (first | exact allOne_bc _ | exact allOne_nil | (refine allOne_int _ _ _ ?_) | (refine allOne_sl _ _ _ _ ?_) | (refine allOne_ptr _ _ ?_) | (refine allOne_map _ _ ?_) | (refine allOne_bool _ _ ?_) | (refine allOne_str _ _ ?_) | (refine allOne_iface _ _ _ ?_) | (refine allOne_app _ _ ?_ ?_))); done) | (simp only [cells_agg, cells_int, cells_bool, cells_str, cells_ptr, cells_sl, cells_map, cells_func, cells_iface, List.size_toArray, Array.size_append, bc_length, List.length_cons, List.length_nil, Nat.zero_add, Nat.reduceAdd, *]; done) | (simp (disch := (first | assumption | (first | omega | (simp only [List.length_cons, List.length_nil, sz_alloc, sz_put, sz_drew]; done) | (simp only [List.length_replicate, List.length_cons, List.length_nil, *]; done) | (simp only [List.size_toArray, List.length_cons, List.length_nil, sz_alloc, sz_put, sz_drew] at *; omega)))) only [MapAt, Hp_drew, Hp_alloc_old, Hp_alloc_new, Hp_put_same, Hp_put_other, *])) only [e1, Branch_bool, and_true, Bool.true_eq_false, false_implies, forall_const]
      refine ⟨?_, by omega⟩
      rw [hJ]
      refine ⟨i + 1, by simp, hlt, hx4', fun z hz => ?_⟩
      rw [List.take_add_one, hyb, List.mem_append] at hz
      rcases hz with hz | hz
      · exact hless z hz
      · simp at hz; subst hz; exact hl
    · have e1 : decide (cmpB y.1.key k < 0) = false := decide_eq_false hl
      simp (disch := first | omega | trivial | assumption | (first | omega | (simp only [List.length_cons, List.length_nil, sz_alloc, sz_put, sz_drew]; done) | (simp only [List.length_replicate, List.length_cons, List.length_nil, *]; done) | (simp only [List.size_toArray, List.length_cons, List.length_nil, sz_alloc, sz_put, sz_drew] at *; omega)) | ((repeat' (first | exact allOne_bc _ | exact allOne_nil | (refine allOne_int _ _ _ ?_) | (refine allOne_sl _ _ _ _ ?_) | (refine allOne_ptr _ _ ?_) | (refine allOne_map _ _ ?_) | (refine allOne_bool _ _ ?_) | (refine allOne_str _ _ ?_) | (refine allOne_iface _ _ _ ?_) | (refine allOne_app _ _ ?_ ?_))); done) | (simp only [cells_agg, cells_int, cells_bool, cells_str, cells_ptr, cells_sl, cells_map, cells_func, cells_iface, List.size_toArray, Array.size_append, bc_length, List.length_cons, List.length_nil, Nat.zero_add, Nat.reduceAdd, *]; done) | (simp (disch := (first | assumption | (first | omega | (simp only [List.length_cons, List.length_nil, sz_alloc, sz_put, sz_drew]; done) | (simp only [List.length_replicate, List.length_cons, List.length_nil, *]; done) | (simp only [List.size_toArray, List.length_cons, List.length_nil, sz_alloc, sz_put, sz_drew] at *; omega)))) only [MapAt, Hp_drew, Hp_alloc_old, Hp_alloc_new, Hp_put_same, Hp_put_other, *])) only [e1, Branch_bool, true_and, Bool.false_eq_true, false_implies, forall_const]
      exact hfin w4 hx4' fun z hz => by rw [hyb] at hz; cases hz; exact hl
  · have hlt' : ¬ ((i : Int) < (R2.length : Int)) := by omega
    simp (disch := first | omega | trivial | assumption | (first | omega | (simp only [List.length_cons, List.length_nil, sz_alloc, sz_put, sz_drew]; done) | (simp only [List.length_replicate, List.length_cons, List.length_nil, *]; done) | (simp only [List.size_toArray, List.length_cons, List.length_nil, sz_alloc, sz_put, sz_drew] at *; omega)) | ((repeat' (first | exact allOne_bc _ | exact allOne_nil | (refine allOne_int _ _ _ ?_) | (refine allOne_sl _ _ _ _ ?_) | (refine allOne_ptr _ _ ?_) | (refine allOne_map _ _ ?_) | (refine allOne_bool _ _ ?_) | (refine allOne_str _ _ ?_) | (refine allOne_iface _ _ _ ?_) | (refine allOne_app _ _ ?_ ?_))); done) | (simp only [cells_agg, cells_int, cells_bool, cells_str, cells_ptr, cells_sl, cells_map, cells_func, cells_iface, List.size_toArray, Array.size_append, bc_length, List.length_cons, List.length_nil, Nat.zero_add, Nat.reduceAdd, *]; done) | (simp (disch := (first | assumption | (first | omega | (simp only [List.length_cons, List.length_nil, sz_alloc, sz_put, sz_drew]; done) | (simp only [List.length_replicate, List.length_cons, List.length_nil, *]; done) | (simp only [List.size_toArray, List.length_cons, List.length_nil, sz_alloc, sz_put, sz_drew] at *; omega)))) only [MapAt, Hp_drew, Hp_alloc_old, Hp_alloc_new, Hp_put_same, Hp_put_other, *])) only [hp3, hlt', cond_false, decide_false, NilCk_ptr, Pick_bool, cond_false, p_add, p_lss, L1_cells, Hp_drew, Branch_bool, Gd_false, GdE_false, List.getElem?_toArray, List.getElem?_cons_zero, List.getElem?_cons_succ, Option.elim_some, Nat.zero_add, Nat.add_zero, true_and, Bool.false_eq_true, false_implies, forall_const, wr_in, Int.toNat_natCast, fld39_0, len47, fld50_2, ld47]
    exact hfin w3.drew (hx3.drew) fun z hz => by rw [List.getElem?_eq_none (by simp; omega)] at hz; cases hz
end
end Go.Proofs
