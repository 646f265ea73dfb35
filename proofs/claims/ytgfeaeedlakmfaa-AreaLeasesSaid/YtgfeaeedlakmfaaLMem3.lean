/-
  Slices that read as a list of cells; append; copy; what a step leaves as it was.
-/
import Derived.Test.YtgfeaeedlakmfaaLMem2
set_option linter.unusedVariables false
set_option linter.unusedSimpArgs false
set_option linter.unusedSectionVars false
namespace Go.Lf
open Go

/-- From w to w' no block that was there has turned, but those of which M holds. -/
structure Ext (M : Nat → Prop) (w w' : World) : Prop where
  size : sz w ≤ sz w'
  keep : ∀ b, b < sz w → ¬ M b → Hp w' b = Hp w b
  os : w'.os = w.os
  out : w'.output = w.output
  tape : w'.tape = w.tape
theorem Ext.refl (M : Nat → Prop) (w : World) : Ext M w w := ⟨Nat.le_refl _, fun _ _ _ => rfl, rfl, rfl, rfl⟩
theorem Ext.trans {M M' : Nat → Prop} {w w' w'' : World} (h : Ext M w w') (h' : Ext M' w' w'') (hm : ∀ b, b < sz w → M' b → M b) : Ext M w w'' :=
  ⟨Nat.le_trans h.size h'.size, fun b hb hn => by rw [h'.keep b (Nat.lt_of_lt_of_le hb h.size) fun hx => hn (hm b hb hx), h.keep b hb hn], h'.os.trans h.os, h'.out.trans h.out, h'.tape.trans h.tape⟩
theorem Ext.mono {M M' : Nat → Prop} {w w' : World} (h : Ext M w w') (hm : ∀ b, b < sz w → M b → M' b) : Ext M' w w' :=
  ⟨h.size, fun b hb hn => h.keep b hb fun hx => hn (hm b hb hx), h.os, h.out, h.tape⟩
theorem Ext.alloc {M : Nat → Prop} {w w' : World} (h : Ext M w w') (o : Obj) : Ext M w (w'.alloc o) :=
  h.trans ⟨by rw [sz_alloc]; omega, fun b hb _ => Hp_alloc_old _ _ _ hb, rfl, rfl, rfl⟩ (M' := M) fun _ _ h => h
theorem Ext.drew {M : Nat → Prop} {w w' : World} (h : Ext M w w') : Ext M w w'.drew := ⟨h.size, h.keep, h.os, h.out, h.tape⟩
theorem Ext.put {M : Nat → Prop} {w w' : World} (h : Ext M w w') (b : Nat) (o : Obj) (hb : b < sz w → M b) : Ext M w (put w' b o) :=
  h.trans (M' := fun x => x = b) ⟨by rw [sz_put]; exact Nat.le_refl _, fun x _ hn => Hp_put_other _ _ _ _ hn, rfl, rfl, rfl⟩ fun x hx e => by subst e; exact hb hx
theorem Ext.at {M : Nat → Prop} {w w' : World} (h : Ext M w w') {b : Nat} {o : Obj} (ho : Hp w b = some o) (hm : ¬ M b) : Hp w' b = some o := by rw [h.keep b (Hp_lt ho) hm]; exact ho

theorem run_loadCells {P : Program} {w : World} {b o m : Nat} {cs : Array Value} {U : TypeId} {fr : Nat × Nat} (h : Hp w b = some (.cells cs U fr)) (hn : o + m ≤ cs.size) :
    (loadCells ⟨b, o, none⟩ m).run P w = .ok (cs.extract o (o + m)) w := by
  have := Go.run_loadCells_list (P := P) w ⟨b, o, none⟩ (cs.extract o (o + m)).toList (fun j v hj => by
    rw [addr_add, cell_Hp h]
    simp only [Array.getElem?_toList, Array.getElem?_extract] at hj
    split at hj
    · exact hj
    · cases hj)
  simp only [Array.length_toList, Array.size_extract] at this
  rw [show min (o + m) cs.size - o = m by omega] at this
  rw [this]

/-- A slice value that reads as n elements, of z cells each; its block is one of Q. -/
def Vec (w : World) (e z : Nat) (v : Value) (n : Nat) (cells : List Value) (Q : Nat → Prop) : Prop :=
  cells.length = n * z ∧ ((v = .slice none 0 0 ∧ n = 0) ∨
    ∃ b o cap row, v = .slice (some ⟨b, o, none⟩) n cap ∧ n ≤ cap ∧ Hp w b = some (.cells row e (0, 0)) ∧ o + cap * z ≤ row.size ∧ (∀ j, j < n * z → row[o + j]? = cells[j]?) ∧ Q b)
theorem Vec.ext {w w' : World} {e z n : Nat} {v : Value} {cells : List Value} {Q M : Nat → Prop} (h : Vec w e z v n cells Q) (x : Ext M w w') (hq : ∀ b, b < sz w → Q b → ¬ M b) : Vec w' e z v n cells Q := by
  obtain ⟨h1, h2⟩ := h
  refine ⟨h1, h2.imp id ?_⟩
  rintro ⟨b, o, cap, row, hv, hn, hb, ho, hc, hQ⟩
  exact ⟨b, o, cap, row, hv, hn, x.at hb (hq b (Hp_lt hb) hQ), ho, hc, hQ⟩
theorem Vec.mono {w : World} {e z n : Nat} {v : Value} {cells : List Value} {Q Q' : Nat → Prop} (h : Vec w e z v n cells Q) (hq : ∀ b, b < sz w → Q b → Q' b) : Vec w e z v n cells Q' := by
  obtain ⟨h1, h2⟩ := h
  refine ⟨h1, h2.imp id ?_⟩
  rintro ⟨b, o, cap, row, hv, hn, hb, ho, hc, hQ⟩
  exact ⟨b, o, cap, row, hv, hn, hb, ho, hc, hq b (Hp_lt hb) hQ⟩
theorem Vec.nil (w : World) (e z : Nat) (Q : Nat → Prop) : Vec w e z (.slice none 0 0) 0 [] Q := ⟨by simp, .inl ⟨rfl, rfl⟩⟩
theorem Vec.slice {w : World} {e z n : Nat} {v : Value} {cells : List Value} {Q : Nat → Prop} (h : Vec w e z v n cells Q) : ∃ a cap, v = .slice a n cap := by
  rcases h.2 with ⟨rfl, rfl⟩ | ⟨b, o, cap, row, rfl, _⟩
  · exact ⟨_, _, rfl⟩
  · exact ⟨_, _, rfl⟩
def blockOf : Value → Option Nat
  | .slice (some a) _ _ => some a.block
  | _ => none

/-- What append takes its cells from. -/
def Src (P : Program) (w : World) (z : Nat) (x : Value) (n : Nat) (ys : List Value) : Prop :=
  ys.length = n * z ∧ (∀ w', w'.heap = w.heap → (Builtin.lenOf x).run P w' = .ok n w') ∧ ∀ w', w'.heap = w.heap → (Builtin.firstCells z n x).run P w' = .ok ys.toArray w'
theorem Vec.src {P : Program} {w : World} {e z n : Nat} {v : Value} {cells : List Value} {Q : Nat → Prop} (h : Vec w e z v n cells Q) : Src P w z v n cells := by
  obtain ⟨h1, h2⟩ := h
  refine ⟨h1, ?_⟩
  rcases h2 with ⟨rfl, rfl⟩ | ⟨b, o, cap, row, rfl, hn, hb, ho, hc, _⟩
  · have : cells = [] := by simpa using h1
    subst this
    exact ⟨fun _ _ => rfl, fun _ _ => rfl⟩
  · refine ⟨fun _ _ => rfl, fun w' hw' => ?_⟩
    have hb : Hp w' b = some (.cells row e (0, 0)) := by unfold Hp at hb ⊢; rw [hw']; exact hb
    have hz : n * z ≤ cap * z := Nat.mul_le_mul_right z hn
    show (loadCells ⟨b, o, none⟩ (n * z)).run P w' = _
    rw [run_loadCells hb (by omega)]
    congr 1
    apply Array.ext_getElem?
    intro j
    simp only [Array.getElem?_extract, List.getElem?_toArray]
    by_cases hj : j < n * z
    · rw [if_pos (by omega), hc j hj]
    · rw [if_neg (by omega), List.getElem?_eq_none (by omega)]
theorem src_string {P : Program} {w : World} (s : ByteArray) : Src P w 1 (.string s) s.size (s.data.toList.map fun b => .int .u8 b.toNat) := by
  refine ⟨by rw [List.length_map, Nat.mul_one]; rfl, fun _ _ => rfl, fun w' _ => ?_⟩
  have e : s.extract 0 s.size = s := by rw [ByteArray.extract_zero_size]
  simp only [Builtin.firstCells, Sem.run_pure, e]
  congr 1
  apply Array.ext'
  simp

theorem nextslicecap_le (need old : Nat) (h : old < need) : Builtin.nextslicecap need old ≤ 2 * need + 1000 := by
  unfold Builtin.nextslicecap
  split
  · omega
  · split
    · omega
    · have key : ∀ r c, c ≤ 2 * need + 1000 → Builtin.growBy need r c ≤ 2 * need + 1000 := by
        intro r
        induction r with
        | zero => intro c hc; exact hc
        | succ r ih =>
          intro c hc
          unfold Builtin.growBy
          split
          · exact hc
          · exact ih _ (by omega)
      exact key 4 old (by omega)
section
variable {P : Program} {S X e z by_ : Nat} {dx : TypeDesc} {ti : TypeInfo} {zv : Value}
theorem run_append (hu : ∀ w, (underlying S).run P w = .ok (.slice e) w) (hs : ∀ w, (sizeOf e).run P w = .ok z w) (hx : ∀ w, (underlying X).run P w = .ok dx w) (hdx : ∀ k, dx ≠ .int k)
    (hi : ∀ w, (typeInfo e).run P w = .ok ti w) (hb0 : ti.bytes ≠ 0) (hz : ∀ w, (zeroValue e).run P w = .ok zv w) (hzs : zv.cells.size = z)
    (R : TypeId) {w : World} {s x : Value} {len n : Nat} {cells ys : List Value} {Q : Nat → Prop} (hv : Vec w e z s len cells Q) (hy : Src P w z x n ys) (hone : ∀ y ∈ ys, oneCell y)
    (hsmall : (2 * (len + n) + 1000) * ti.bytes ≤ 281474976710656) :
    ∃ v' w', (Builtin.append_ #[S, X] R #[s, x]).run P w = .ok v' w' ∧ Vec w' e z v' (len + n) (cells ++ ys) (fun b => some b = blockOf s ∨ b = sz w) ∧ Ext (fun b => some b = blockOf s) w w' := by
  obtain ⟨hyl, hyn0, hyc0⟩ := hy
  have hyn := hyn0 w rfl
  have hyc := hyc0 w rfl
  obtain ⟨a, cap, rfl⟩ := hv.slice
  have hsrc := (hv.src (P := P)).2.2
  have hdx' : (match dx with | .int _ => true | _ => false) = false := by cases dx <;> first | rfl | exact absurd rfl (hdx _)
  unfold Builtin.append_
  simp only [List.getElem?_toArray, List.getElem?_cons_zero, List.getElem?_cons_succ, Sem.run_bind, hu, Result.andThen_ok, hs, hx, Sem.run_pure]
  simp only [Bool.false_eq_true, if_false, Bool.not_false, if_true, false_or, Sem.run_bind, hyn, Result.andThen_ok]
  have hblk : blockOf (.slice a len cap) = a.map (·.block) := by cases a <;> rfl
  by_cases hfit : len + n ≤ cap
  · simp only [hfit, if_true, Sem.run_bind, hyc, Result.andThen_ok]
    obtain ⟨h1, h2⟩ := hv
    rcases h2 with ⟨h2, rfl⟩ | ⟨b, o, cap', row, h2, hn, hb, ho, hc, hQ⟩
    · simp only [Value.slice.injEq] at h2
      obtain ⟨rfl, -, rfl⟩ := h2
      have hn0 : n = 0 := by omega
      subst hn0
      have : ys = [] := by simpa using hyl
      subst this
      exact ⟨_, _, rfl, ⟨by simpa using h1, .inl ⟨rfl, rfl⟩⟩, .refl _ _⟩
    · simp only [Value.slice.injEq] at h2
      obtain ⟨rfl, -, rfl⟩ := h2
      have hmul : (len + n) * z ≤ cap * z := Nat.mul_le_mul_right z hfit
      rw [Nat.add_mul] at hmul
      simp only [addr_add]
      have hst := run_storeCells (P := P) ys w b (o + len * z) 0 row e hb (by omega) hone
      simp only [Nat.add_zero] at hst
      simp only [Sem.run_bind, hst, Result.andThen_ok, Sem.run_pure]
      refine ⟨_, _, rfl, ⟨by simp [h1, hyl, Nat.add_mul], .inr ⟨b, o, cap, _, rfl, hfit, Hp_put_same _ _ _ (Hp_lt hb), ?_, ?_, ?_⟩⟩, ?_⟩
      · rw [splice_size (by simp; omega)]; exact ho
      · intro j hj
        rw [splice_get (by simp; omega), List.getElem?_append]
        simp only [List.size_toArray, h1, hyl]
        rw [Nat.add_mul] at hj
        by_cases hj2 : j < len * z
        · rw [if_neg (by omega), if_pos hj2, hc j hj2]
        · rw [if_pos ⟨by omega, by omega⟩, if_neg hj2, List.getElem?_toArray]
          congr 1; omega
      · exact .inl (by simp [blockOf])
      · exact (Ext.refl _ _).put _ _ fun _ => by simp [blockOf]
  · have hlt : cap < len + n := by omega
    have hnc := nextslicecap_le (len + n) cap hlt
    have hle : Builtin.nextslicecap (len + n) cap * ti.bytes ≤ 2 ^ 48 := Nat.le_trans (Nat.mul_le_mul_right _ hnc) (by simpa using hsmall)
    have hlen : len + n ≤ 281474976710656 := by
      have : len + n ≤ (2 * (len + n) + 1000) * 1 := by omega
      exact Nat.le_trans this (Nat.le_trans (Nat.mul_le_mul_left _ (by omega)) hsmall)
    simp only [hfit, if_false, Sem.run_bind, hi, Result.andThen_ok, hb0, and_false, if_neg (Nat.not_lt.2 hle), Sem.run_pure, run_askRoom, hz]
    have hch : (choose (Question.appendCap (len + n) cap e)).run P w = .ok (Question.cut (.appendCap (len + n) cap e) (w.tape w.drawn (.appendCap (len + n) cap e))) w.drew := rfl
    generalize hnew : Question.cut (.appendCap (len + n) cap e) (w.tape w.drawn (.appendCap (len + n) cap e)) = newCap at hch
    have hge : len + n ≤ newCap := by rw [← hnew]; simp only [Question.cut]; omega
    have holdD : (Builtin.firstCells z len (.slice a len cap)).run P w.drew = .ok cells.toArray w.drew := hsrc _ rfl
    have hycD : (Builtin.firstCells z n x).run P w.drew = .ok ys.toArray w.drew := hyc0 _ rfl
    simp only [hch, Result.andThen_ok, holdD, hycD]
    have hzc : (Builtin.zeroCells zv.cells (newCap - (len + n))).size = (newCap - (len + n)) * z := by simp [Builtin.zeroCells, hzs]
    generalize Builtin.zeroCells zv.cells (newCap - (len + n)) = tail at hzc
    have hnr : (newRow e (cells.toArray ++ ys.toArray ++ tail)).run P w.drew = .ok ⟨sz w, 0, none⟩ (w.drew.alloc (.cells (cells.toArray ++ ys.toArray ++ tail) e)) := rfl
    rw [hnr, Result.andThen_ok]
    have hmul : newCap * z = (len + n) * z + (newCap - (len + n)) * z := by rw [← Nat.add_mul]; congr 1; omega
    have hls : (cells ++ ys).length = (len + n) * z := by simp [hv.1, hyl, Nat.add_mul]
    refine ⟨_, _, rfl, ⟨hls, .inr ⟨sz w, 0, newCap, _, rfl, hge, Hp_alloc_new _ _ _ rfl, ?_, fun j hj => ?_, .inr rfl⟩⟩, ((Ext.refl _ _).drew).alloc _⟩
    · simp only [List.append_toArray, Array.size_append, List.size_toArray, hls, hzc]; omega
    · rw [Nat.zero_add, show cells.toArray ++ ys.toArray = (cells ++ ys).toArray from by simp, Array.getElem?_append, if_pos (by simp only [List.size_toArray, hls]; exact hj), List.getElem?_toArray]

/-- append(s, xs...). -/
theorem r_append (hu : ∀ w, (underlying S).run P w = .ok (.slice e) w) (hs : ∀ w, (sizeOf e).run P w = .ok z w) (hx : ∀ w, (underlying X).run P w = .ok dx w) (hdx : ∀ k, dx ≠ .int k)
    (hi : ∀ w, (typeInfo e).run P w = .ok ti w) (hb0 : ti.bytes ≠ 0) (hz : ∀ w, (zeroValue e).run P w = .ok zv w) (hzs : zv.cells.size = z)
    (R : TypeId) {w : World} {s x : Value} {len n : Nat} {cells ys : List Value} {Q : Nat → Prop} {K : Value → World → Prop} (hv : Vec w e z s len cells Q) (hy : Src P w z x n ys) (hone : ∀ y ∈ ys, oneCell y)
    (hsmall : (2 * (len + n) + 1000) * ti.bytes ≤ 281474976710656)
    (hk : ∀ v' w', Vec w' e z v' (len + n) (cells ++ ys) (fun b => some b = blockOf s ∨ b = sz w) → Ext (fun b => some b = blockOf s) w w' → K v' w') :
    Run P (Builtin.append_ #[S, X] R #[s, x]) w K := by
  obtain ⟨v', w', hr, h1, h2⟩ := run_append hu hs hx hdx hi hb0 hz hzs R hv hy hone hsmall
  unfold Run; rw [hr]; exact hk v' w' h1 h2
end
/-- bytes as cells -/
def bc (l : List UInt8) : List Value := l.map fun b => .int .u8 b.toNat
theorem bc_length (l : List UInt8) : (bc l).length = l.length := by simp [bc]
theorem bc_append (a b : List UInt8) : bc (a ++ b) = bc a ++ bc b := by simp [bc]
theorem bc_one (l : List UInt8) : ∀ y ∈ bc l, oneCell y := by
  intro y hy
  obtain ⟨b, _, rfl⟩ := List.mem_map.1 hy
  trivial
theorem bc_inj {a b : List UInt8} (h : bc a = bc b) : a = b := by
  unfold bc at h
  induction a generalizing b with
  | nil => cases b <;> simp at h ⊢
  | cons x a ih =>
    cases b with
    | nil => simp at h
    | cons y b =>
      simp only [List.map_cons, List.cons.injEq, Value.int.injEq, true_and] at h
      rw [ih h.2, show x = y from UInt8.toNat_inj.1 (by omega)]
theorem bc_get (l : List UInt8) (i : Nat) : (bc l)[i]? = (l[i]?).map fun b => .int .u8 b.toNat := by simp [bc]
/-- a slice of bytes -/
def Bytes (u8 : Nat) (w : World) (v : Value) (l : List UInt8) (Q : Nat → Prop) : Prop := Vec w u8 1 v l.length (bc l) Q
end Go.Lf
