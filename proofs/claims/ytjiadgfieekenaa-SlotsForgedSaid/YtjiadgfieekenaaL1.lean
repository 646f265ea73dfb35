/- Parts of the proof: Lf.Mem3, Lf.Mem4, Lf.Maps, Lf.Mem5, Lf.Mem6, Lf.RF, Lf.Ext, Lf.VecL, Lf.Build, Lf.Cut, Lf.Eqs, Lf.Bits, Lf.Arr, Lf.Own. -/
import Derived.Test.YtjiadgfieekenaaL0
import Derived.ChangeKeysEq
import Derived.Laws.BytesString
import Derived.RangeFuncLeaves
import Derived.RangeFuncOwn
import Derived.Laws.Externs
import Derived.Lib.Bytealg
import Derived.Laws.MakeOwn
set_option linter.unusedVariables false
set_option linter.unusedSimpArgs false
set_option linter.unusedSectionVars false
/-
  Slices that read as a list of cells; append; copy; what a step leaves as it was.
-/
namespace Go.Lf
open Go

/-- From w to w' no block that was there has turned, but those of which M holds. -/
structure Ext (M : Nat → Prop) (w w' : World) : Prop where
  size : sz w ≤ sz w'
  keep : ∀ b, b < sz w → ¬ M b → Hp w' b = Hp w b
  os : w'.os = w.os
  out : w'.output = w.output
  tape : w'.tape = w.tape
theorem Ext.refl (M : Nat → Prop) (w : World) : Ext M w w := ⟨Nat.le_refl _, fun _ _ _ => rfl, rfl, rfl, rfl⟩
theorem Ext.trans {M M' : Nat → Prop} {w w' w'' : World} (h : Ext M w w') (h' : Ext M' w' w'') (hm : ∀ b, b < sz w → M' b → M b) : Ext M w w'' :=
  ⟨Nat.le_trans h.size h'.size, fun b hb hn => by rw [h'.keep b (Nat.lt_of_lt_of_le hb h.size) fun hx => hn (hm b hb hx), h.keep b hb hn], h'.os.trans h.os, h'.out.trans h.out, h'.tape.trans h.tape⟩
theorem Ext.mono {M M' : Nat → Prop} {w w' : World} (h : Ext M w w') (hm : ∀ b, b < sz w → M b → M' b) : Ext M' w w' :=
  ⟨h.size, fun b hb hn => h.keep b hb fun hx => hn (hm b hb hx), h.os, h.out, h.tape⟩
theorem Ext.alloc {M : Nat → Prop} {w w' : World} (h : Ext M w w') (o : Obj) : Ext M w (w'.alloc o) :=
  h.trans ⟨by rw [sz_alloc]; omega, fun b hb _ => Hp_alloc_old _ _ _ hb, rfl, rfl, rfl⟩ (M' := M) fun _ _ h => h
theorem Ext.drew {M : Nat → Prop} {w w' : World} (h : Ext M w w') : Ext M w w'.drew := ⟨h.size, h.keep, h.os, h.out, h.tape⟩
theorem Ext.put {M : Nat → Prop} {w w' : World} (h : Ext M w w') (b : Nat) (o : Obj) (hb : b < sz w → M b) : Ext M w (put w' b o) :=
  h.trans (M' := fun x => x = b) ⟨by rw [sz_put]; exact Nat.le_refl _, fun x _ hn => Hp_put_other _ _ _ _ hn, rfl, rfl, rfl⟩ fun x hx e => by subst e; exact hb hx
theorem Ext.at {M : Nat → Prop} {w w' : World} (h : Ext M w w') {b : Nat} {o : Obj} (ho : Hp w b = some o) (hm : ¬ M b) : Hp w' b = some o := by rw [h.keep b (Hp_lt ho) hm]; exact ho

theorem run_loadCells {P : Program} {w : World} {b o m : Nat} {cs : Array Value} {U : TypeId} {fr : Nat × Nat} (h : Hp w b = some (.cells cs U fr)) (hn : o + m ≤ cs.size) :
    (loadCells ⟨b, o, none⟩ m).run P w = .ok (cs.extract o (o + m)) w := by
  have := Go.run_loadCells_list (P := P) w ⟨b, o, none⟩ (cs.extract o (o + m)).toList (fun j v hj => by
    rw [addr_add, cell_Hp h]
    simp only [Array.getElem?_toList, Array.getElem?_extract] at hj
    split at hj
    · exact hj
    · cases hj)
  simp only [Array.length_toList, Array.size_extract] at this
  rw [show min (o + m) cs.size - o = m by omega] at this
  rw [this]

/-- A slice value that reads as n elements, of z cells each; its block is one of Q. -/
def Vec (w : World) (e z : Nat) (v : Value) (n : Nat) (cells : List Value) (Q : Nat → Prop) : Prop :=
  cells.length = n * z ∧ ((v = .slice none 0 0 ∧ n = 0) ∨
    ∃ b o cap row, v = .slice (some ⟨b, o, none⟩) n cap ∧ n ≤ cap ∧ Hp w b = some (.cells row e (0, 0)) ∧ o + cap * z ≤ row.size ∧ (∀ j, j < n * z → row[o + j]? = cells[j]?) ∧ Q b)
theorem Vec.ext {w w' : World} {e z n : Nat} {v : Value} {cells : List Value} {Q M : Nat → Prop} (h : Vec w e z v n cells Q) (x : Ext M w w') (hq : ∀ b, b < sz w → Q b → ¬ M b) : Vec w' e z v n cells Q := by
  obtain ⟨h1, h2⟩ := h
  refine ⟨h1, h2.imp id ?_⟩
  rintro ⟨b, o, cap, row, hv, hn, hb, ho, hc, hQ⟩
  exact ⟨b, o, cap, row, hv, hn, x.at hb (hq b (Hp_lt hb) hQ), ho, hc, hQ⟩
theorem Vec.mono {w : World} {e z n : Nat} {v : Value} {cells : List Value} {Q Q' : Nat → Prop} (h : Vec w e z v n cells Q) (hq : ∀ b, b < sz w → Q b → Q' b) : Vec w e z v n cells Q' := by
  obtain ⟨h1, h2⟩ := h
  refine ⟨h1, h2.imp id ?_⟩
  rintro ⟨b, o, cap, row, hv, hn, hb, ho, hc, hQ⟩
  exact ⟨b, o, cap, row, hv, hn, hb, ho, hc, hq b (Hp_lt hb) hQ⟩
theorem Vec.nil (w : World) (e z : Nat) (Q : Nat → Prop) : Vec w e z (.slice none 0 0) 0 [] Q := ⟨by simp, .inl ⟨rfl, rfl⟩⟩
theorem Vec.slice {w : World} {e z n : Nat} {v : Value} {cells : List Value} {Q : Nat → Prop} (h : Vec w e z v n cells Q) : ∃ a cap, v = .slice a n cap := by
  rcases h.2 with ⟨rfl, rfl⟩ | ⟨b, o, cap, row, rfl, _⟩
  · exact ⟨_, _, rfl⟩
  · exact ⟨_, _, rfl⟩
def blockOf : Value → Option Nat
  | .slice (some a) _ _ => some a.block
  | _ => none

/-- What append takes its cells from. -/
def Src (P : Program) (w : World) (z : Nat) (x : Value) (n : Nat) (ys : List Value) : Prop :=
  ys.length = n * z ∧ (∀ w', w'.heap = w.heap → (Builtin.lenOf x).run P w' = .ok n w') ∧ ∀ w', w'.heap = w.heap → (Builtin.firstCells z n x).run P w' = .ok ys.toArray w'
theorem Vec.src {P : Program} {w : World} {e z n : Nat} {v : Value} {cells : List Value} {Q : Nat → Prop} (h : Vec w e z v n cells Q) : Src P w z v n cells := by
  obtain ⟨h1, h2⟩ := h
  refine ⟨h1, ?_⟩
  rcases h2 with ⟨rfl, rfl⟩ | ⟨b, o, cap, row, rfl, hn, hb, ho, hc, _⟩
  · have : cells = [] := by simpa using h1
    subst this
    exact ⟨fun _ _ => rfl, fun _ _ => rfl⟩
  · refine ⟨fun _ _ => rfl, fun w' hw' => ?_⟩
    have hb : Hp w' b = some (.cells row e (0, 0)) := by unfold Hp at hb ⊢; rw [hw']; exact hb
    have hz : n * z ≤ cap * z := Nat.mul_le_mul_right z hn
    show (loadCells ⟨b, o, none⟩ (n * z)).run P w' = _
    rw [run_loadCells hb (by omega)]
    congr 1
    apply Array.ext_getElem?
    intro j
    simp only [Array.getElem?_extract, List.getElem?_toArray]
    by_cases hj : j < n * z
    · rw [if_pos (by omega), hc j hj]
    · rw [if_neg (by omega), List.getElem?_eq_none (by omega)]
theorem src_string {P : Program} {w : World} (s : ByteArray) : Src P w 1 (.string s) s.size (s.data.toList.map fun b => .int .u8 b.toNat) := by
  refine ⟨by rw [List.length_map, Nat.mul_one]; rfl, fun _ _ => rfl, fun w' _ => ?_⟩
  have e : s.extract 0 s.size = s := by rw [ByteArray.extract_zero_size]
  simp only [Builtin.firstCells, Sem.run_pure, e]
  congr 1
  apply Array.ext'
  simp

theorem nextslicecap_le (need old : Nat) (h : old < need) : Builtin.nextslicecap need old ≤ 2 * need + 1000 := by
  unfold Builtin.nextslicecap
  split
  · omega
  · split
    · omega
    · have key : ∀ r c, c ≤ 2 * need + 1000 → Builtin.growBy need r c ≤ 2 * need + 1000 := by
        intro r
        induction r with
        | zero => intro c hc; exact hc
        | succ r ih =>
          intro c hc
          unfold Builtin.growBy
          split
          · exact hc
          · exact ih _ (by omega)
      exact key 4 old (by omega)
section
variable {P : Program} {S X e z by_ : Nat} {dx : TypeDesc} {ti : TypeInfo} {zv : Value}
theorem run_append (hu : ∀ w, (underlying S).run P w = .ok (.slice e) w) (hs : ∀ w, (sizeOf e).run P w = .ok z w) (hx : ∀ w, (underlying X).run P w = .ok dx w) (hdx : ∀ k, dx ≠ .int k)
    (hi : ∀ w, (typeInfo e).run P w = .ok ti w) (hb0 : ti.bytes ≠ 0) (hz : ∀ w, (zeroValue e).run P w = .ok zv w) (hzs : zv.cells.size = z)
    (R : TypeId) {w : World} {s x : Value} {len n : Nat} {cells ys : List Value} {Q : Nat → Prop} (hv : Vec w e z s len cells Q) (hy : Src P w z x n ys) (hone : ∀ y ∈ ys, oneCell y)
    (hsmall : (2 * (len + n) + 1000) * ti.bytes ≤ 281474976710656) :
    ∃ v' w', (Builtin.append_ #[S, X] R #[s, x]).run P w = .ok v' w' ∧ Vec w' e z v' (len + n) (cells ++ ys) (fun b => some b = blockOf s ∨ b = sz w) ∧ Ext (fun b => some b = blockOf s) w w' := by
  obtain ⟨hyl, hyn0, hyc0⟩ := hy
  have hyn := hyn0 w rfl
  have hyc := hyc0 w rfl
  obtain ⟨a, cap, rfl⟩ := hv.slice
  have hsrc := (hv.src (P := P)).2.2
  have hdx' : (match dx with | .int _ => true | _ => false) = false := by cases dx <;> first | rfl | exact absurd rfl (hdx _)
  unfold Builtin.append_
  simp only [List.getElem?_toArray, List.getElem?_cons_zero, List.getElem?_cons_succ, Sem.run_bind, hu, Result.andThen_ok, hs, hx, Sem.run_pure]
  simp only [Bool.false_eq_true, if_false, Bool.not_false, if_true, false_or, Sem.run_bind, hyn, Result.andThen_ok]
  have hblk : blockOf (.slice a len cap) = a.map (·.block) := by cases a <;> rfl
  by_cases hfit : len + n ≤ cap
  · simp only [hfit, if_true, Sem.run_bind, hyc, Result.andThen_ok]
    obtain ⟨h1, h2⟩ := hv
    rcases h2 with ⟨h2, rfl⟩ | ⟨b, o, cap', row, h2, hn, hb, ho, hc, hQ⟩
    · simp only [Value.slice.injEq] at h2
      obtain ⟨rfl, -, rfl⟩ := h2
      have hn0 : n = 0 := by omega
      subst hn0
      have : ys = [] := by simpa using hyl
      subst this
      exact ⟨_, _, rfl, ⟨by simpa using h1, .inl ⟨rfl, rfl⟩⟩, .refl _ _⟩
    · simp only [Value.slice.injEq] at h2
      obtain ⟨rfl, -, rfl⟩ := h2
      have hmul : (len + n) * z ≤ cap * z := Nat.mul_le_mul_right z hfit
      rw [Nat.add_mul] at hmul
      simp only [addr_add]
      have hst := run_storeCells (P := P) ys w b (o + len * z) 0 row e hb (by omega) hone
      simp only [Nat.add_zero] at hst
      simp only [Sem.run_bind, hst, Result.andThen_ok, Sem.run_pure]
      refine ⟨_, _, rfl, ⟨by simp [h1, hyl, Nat.add_mul], .inr ⟨b, o, cap, _, rfl, hfit, Hp_put_same _ _ _ (Hp_lt hb), ?_, ?_, ?_⟩⟩, ?_⟩
      · rw [splice_size (by simp; omega)]; exact ho
      · intro j hj
        rw [splice_get (by simp; omega), List.getElem?_append]
        simp only [List.size_toArray, h1, hyl]
        rw [Nat.add_mul] at hj
        by_cases hj2 : j < len * z
        · rw [if_neg (by omega), if_pos hj2, hc j hj2]
        · rw [if_pos ⟨by omega, by omega⟩, if_neg hj2, List.getElem?_toArray]
          congr 1; omega
      · exact .inl (by simp [blockOf])
      · exact (Ext.refl _ _).put _ _ fun _ => by simp [blockOf]
  · have hlt : cap < len + n := by omega
    have hnc := nextslicecap_le (len + n) cap hlt
    have hle : Builtin.nextslicecap (len + n) cap * ti.bytes ≤ 2 ^ 48 := Nat.le_trans (Nat.mul_le_mul_right _ hnc) (by simpa using hsmall)
    have hlen : len + n ≤ 281474976710656 := by
      have : len + n ≤ (2 * (len + n) + 1000) * 1 := by omega
      exact Nat.le_trans this (Nat.le_trans (Nat.mul_le_mul_left _ (by omega)) hsmall)
    simp only [hfit, if_false, Sem.run_bind, hi, Result.andThen_ok, hb0, and_false, if_neg (Nat.not_lt.2 hle), Sem.run_pure, run_askRoom, hz]
    have hch : (choose (Question.appendCap (len + n) cap e)).run P w = .ok (Question.cut (.appendCap (len + n) cap e) (w.tape w.drawn (.appendCap (len + n) cap e))) w.drew := rfl
    generalize hnew : Question.cut (.appendCap (len + n) cap e) (w.tape w.drawn (.appendCap (len + n) cap e)) = newCap at hch
    have hge : len + n ≤ newCap := by rw [← hnew]; simp only [Question.cut]; omega
    have holdD : (Builtin.firstCells z len (.slice a len cap)).run P w.drew = .ok cells.toArray w.drew := hsrc _ rfl
    have hycD : (Builtin.firstCells z n x).run P w.drew = .ok ys.toArray w.drew := hyc0 _ rfl
    simp only [hch, Result.andThen_ok, holdD, hycD]
    have hzc : (Builtin.zeroCells zv.cells (newCap - (len + n))).size = (newCap - (len + n)) * z := by simp [Builtin.zeroCells, hzs]
    generalize Builtin.zeroCells zv.cells (newCap - (len + n)) = tail at hzc
    have hnr : (newRow e (cells.toArray ++ ys.toArray ++ tail)).run P w.drew = .ok ⟨sz w, 0, none⟩ (w.drew.alloc (.cells (cells.toArray ++ ys.toArray ++ tail) e)) := rfl
    rw [hnr, Result.andThen_ok]
    have hmul : newCap * z = (len + n) * z + (newCap - (len + n)) * z := by rw [← Nat.add_mul]; congr 1; omega
    have hls : (cells ++ ys).length = (len + n) * z := by simp [hv.1, hyl, Nat.add_mul]
    refine ⟨_, _, rfl, ⟨hls, .inr ⟨sz w, 0, newCap, _, rfl, hge, Hp_alloc_new _ _ _ rfl, ?_, fun j hj => ?_, .inr rfl⟩⟩, ((Ext.refl _ _).drew).alloc _⟩
    · simp only [List.append_toArray, Array.size_append, List.size_toArray, hls, hzc]; omega
    · rw [Nat.zero_add, show cells.toArray ++ ys.toArray = (cells ++ ys).toArray from by simp, Array.getElem?_append, if_pos (by simp only [List.size_toArray, hls]; exact hj), List.getElem?_toArray]

/-- append(s, xs...). -/
theorem r_append (hu : ∀ w, (underlying S).run P w = .ok (.slice e) w) (hs : ∀ w, (sizeOf e).run P w = .ok z w) (hx : ∀ w, (underlying X).run P w = .ok dx w) (hdx : ∀ k, dx ≠ .int k)
    (hi : ∀ w, (typeInfo e).run P w = .ok ti w) (hb0 : ti.bytes ≠ 0) (hz : ∀ w, (zeroValue e).run P w = .ok zv w) (hzs : zv.cells.size = z)
    (R : TypeId) {w : World} {s x : Value} {len n : Nat} {cells ys : List Value} {Q : Nat → Prop} {K : Value → World → Prop} (hv : Vec w e z s len cells Q) (hy : Src P w z x n ys) (hone : ∀ y ∈ ys, oneCell y)
    (hsmall : (2 * (len + n) + 1000) * ti.bytes ≤ 281474976710656)
    (hk : ∀ v' w', Vec w' e z v' (len + n) (cells ++ ys) (fun b => some b = blockOf s ∨ b = sz w) → Ext (fun b => some b = blockOf s) w w' → K v' w') :
    Run P (Builtin.append_ #[S, X] R #[s, x]) w K := by
  obtain ⟨v', w', hr, h1, h2⟩ := run_append hu hs hx hdx hi hb0 hz hzs R hv hy hone hsmall
  unfold Run; rw [hr]; exact hk v' w' h1 h2
end
/-- bytes as cells -/
def bc (l : List UInt8) : List Value := l.map fun b => .int .u8 b.toNat
theorem bc_length (l : List UInt8) : (bc l).length = l.length := by simp [bc]
theorem bc_append (a b : List UInt8) : bc (a ++ b) = bc a ++ bc b := by simp [bc]
theorem bc_one (l : List UInt8) : ∀ y ∈ bc l, oneCell y := by
  intro y hy
  obtain ⟨b, _, rfl⟩ := List.mem_map.1 hy
  trivial
theorem bc_inj {a b : List UInt8} (h : bc a = bc b) : a = b := by
  unfold bc at h
  induction a generalizing b with
  | nil => cases b <;> simp at h ⊢
  | cons x a ih =>
    cases b with
    | nil => simp at h
    | cons y b =>
      simp only [List.map_cons, List.cons.injEq, Value.int.injEq, true_and] at h
      rw [ih h.2, show x = y from UInt8.toNat_inj.1 (by omega)]
theorem bc_get (l : List UInt8) (i : Nat) : (bc l)[i]? = (l[i]?).map fun b => .int .u8 b.toNat := by simp [bc]
/-- a slice of bytes -/
def Bytes (u8 : Nat) (w : World) (v : Value) (l : List UInt8) (Q : Nat → Prop) : Prop := Vec w u8 1 v l.length (bc l) Q
end Go.Lf
/-
  Arrays of bytes as values; strings; equality; conversions.
-/
namespace Go.Lf
open Go
/-- an array of bytes as a value -/
abbrev idv (l : List UInt8) : Value := .agg (bc l).toArray
theorem idv_cells (l : List UInt8) : (idv l).cells = (bc l).toArray := rfl
theorem idv_inj {a b : List UInt8} (h : idv a = idv b) : a = b := by
  simp only [idv, Value.agg.injEq] at h
  exact bc_inj (by simpa using congrArg Array.toList h)
section
variable {P : Program} {T e n : Nat}
theorem run_eqInt (d : Nat) {k : IntKind} (hu : ∀ w, (underlying T).run P w = .ok (.int k) w) (a b : Int) (w : World) : (Op.equalIn (d + 1) T (.int k a) (.int k b)).run P w = .ok (decide (a = b)) w := by
  unfold Op.equalIn
  rw [Sem.run_bind, hu, Result.andThen_ok]
  simp only [if_true, Sem.run_pure]
  by_cases h : a = b <;> simp [h]
theorem run_eqBytes (d : Nat) {i : TypeInfo} (hu : P.underlying T = some (.array n e)) (hi : P.info? e = some i) (hz : i.size = 1) (he : ∀ w, (underlying e).run P w = .ok (.int .u8) w) (hg : ∀ w, (isAgg e).run P w = .ok false w)
    (a b : List UInt8) (ha : a.length = n) (hb : b.length = n) (w : World) : (Op.equalIn (d + 2) T (idv a) (idv b)).run P w = .ok (decide (a = b)) w := by
  unfold idv
  rw [run_equalIn_array w (d + 1) _ _ hu hi]
  have hc : P.cellsOf e = 1 := by unfold Program.cellsOf; rw [hi]; simp [hz]
  rw [hc]
  have part1 : ∀ (l : List UInt8) (j : Nat) (x : UInt8), l[j]? = some x → (part e (bc l).toArray (j * 1)).run P w = .ok (.int .u8 x.toNat) w := by
    intro l j x hx
    unfold part
    rw [Sem.run_bind, hg, Result.andThen_ok]
    simp only [Bool.false_eq_true, if_false, Nat.mul_one, List.getElem?_toArray, bc_get, hx, Option.map_some, Sem.run_pure]
  have key : ∀ (m k : Nat), k + m = n → (Op.eqItems (d + 1) e 1 (bc a).toArray (bc b).toArray (List.range' k m)).run P w = .ok (decide (a.drop k = b.drop k)) w := by
    intro m
    induction m with
    | zero =>
      intro k hk
      rw [List.drop_eq_nil_of_le (by omega), List.drop_eq_nil_of_le (by omega)]
      simp [Op.eqItems]
    | succ m ih =>
      intro k hk
      have hka : k < a.length := by omega
      have hkb : k < b.length := by omega
      simp only [List.range'_succ, Op.eqItems, Sem.run_bind]
      rw [part1 a k a[k] (by simp [hka]), Result.andThen_ok, part1 b k b[k] (by simp [hkb]), Result.andThen_ok, run_eqInt d he, Result.andThen_ok]
      have hd : a.drop k = b.drop k ↔ a[k] = b[k] ∧ a.drop (k + 1) = b.drop (k + 1) := by
        rw [List.drop_eq_getElem_cons hka, List.drop_eq_getElem_cons hkb, List.cons.injEq]
      by_cases h : a[k] = b[k]
      · rw [h]
        simp only [decide_true, Bool.not_true, Bool.false_eq_true, if_false]
        rw [ih (k + 1) (by omega)]
        congr 1
        simp only [hd, h, true_and]
      · have h2 : ¬ ((a[k].toNat : Int) = (b[k].toNat : Int)) := fun e => h (UInt8.toNat_inj.1 (by omega))
        simp only [h2, decide_false, Bool.not_false, if_true, Sem.run_pure]
        congr 1
        simp only [hd, h, false_and, decide_false]
  have := key n 0 (by omega)
  simpa [List.range_eq_range'] using this
theorem run_equalBytes {i : TypeInfo} (hu : P.underlying T = some (.array n e)) (hi : P.info? e = some i) (hz : i.size = 1) (he : ∀ w, (underlying e).run P w = .ok (.int .u8) w) (hg : ∀ w, (isAgg e).run P w = .ok false w)
    (a b : List UInt8) (ha : a.length = n) (hb : b.length = n) (w : World) : (Op.equal T (idv a) (idv b)).run P w = .ok (decide (a = b)) w :=
  run_eqBytes 9998 hu hi hz he hg a b ha hb w
theorem run_eqGuardAgg (op : BinOp) (x y : Operand) (xs ys : Array Value) (hm : P.eqGuardType P.depth T = false) (w : World) : (eqGuard op T x y (.agg xs) (.agg ys)).run P w = .ok () w := by
  unfold eqGuard
  cases op <;> simp [hm]
theorem p_eqlAgg {xs ys : Array Value} {r : Bool} (hm : P.eqGuardType P.depth T = false) (h : ∀ w, (Op.equal T (.agg xs) (.agg ys)).run P w = .ok r w) (x y : Operand) (K : Value → Prop) :
    PRun P (eqS .eql T x y (.agg xs) (.agg ys)) K = K (.bool r) := PRun_eq (fun w => by
  unfold eqS
  rw [Sem.run_bind, run_eqGuardAgg _ _ _ _ _ hm, Result.andThen_ok]
  simp only [binOp, Sem.run_bind, h, Result.andThen_ok, Sem.run_pure]) K
theorem p_neqAgg {xs ys : Array Value} {r : Bool} (hm : P.eqGuardType P.depth T = false) (h : ∀ w, (Op.equal T (.agg xs) (.agg ys)).run P w = .ok r w) (x y : Operand) (K : Value → Prop) :
    PRun P (eqS .neq T x y (.agg xs) (.agg ys)) K = K (.bool (!r)) := PRun_eq (fun w => by
  unfold eqS
  rw [Sem.run_bind, run_eqGuardAgg _ _ _ _ _ hm, Result.andThen_ok]
  simp only [binOp, Sem.run_bind, h, Result.andThen_ok, Sem.run_pure]) K

/-! ### strings -/
def str (l : List UInt8) : Value := .string ⟨l.toArray⟩
theorem push_all (l : List UInt8) (s : ByteArray) : l.foldl (fun r (n : UInt8) => r.push n) s = ⟨s.data ++ l.toArray⟩ := by
  induction l generalizing s with
  | nil => simp
  | cons a l ih => rw [List.foldl_cons, ih]; simp [ByteArray.push]
theorem run_toStr {u8 : Nat} {w : World} {v : Value} {l : List UInt8} {Q : Nat → Prop} (h : Bytes u8 w v l Q) (S : Nat) (T : Nat) (hS : ∀ w, (underlying S).run P w = .ok (.slice u8) w) (hT : ∀ w, (underlying T).run P w = .ok .string w)
    (hu : ∀ w, (underlying u8).run P w = .ok (.int .u8) w) : (convert S T v).run P w = .ok (str l) w := by
  have hsrc := (h.src (P := P)).2.2 w rfl
  obtain ⟨a, cap, rfl⟩ := Vec.slice h
  have hc : (convert S T (.slice a l.length cap)).run P w = (Conv.bytesToString (.slice a l.length cap)).run P w := by
    unfold convert
    rw [Sem.run_bind, hS, Result.andThen_ok, Sem.run_bind, hT, Result.andThen_ok]
    simp only [Sem.run_bind, hu, Result.andThen_ok]
  rw [hc]
  cases a with
  | none =>
    have : l = [] := by
      rcases h.2 with ⟨h1, h2⟩ | ⟨b, o, cap', row, h1, _⟩
      · exact List.length_eq_zero_iff.1 h2
      · simp at h1
    subst this
    rfl
  | some a =>
    have h2 : (loadCells a l.length).run P w = .ok ((l.map fun b => (b.toNat : Int)).map (Value.int .u8)).toArray w := by
      have : Builtin.firstCells 1 l.length (.slice (some a) l.length cap) = loadCells a (l.length * 1) := rfl
      rw [this, Nat.mul_one] at hsrc
      rw [hsrc]
      simp [bc, Function.comp_def]
    rw [run_bytesToString w a l.length cap _ h2]
    congr 2
    rw [List.foldl_map]
    have : (fun (r : ByteArray) (b : UInt8) => r.push (UInt8.ofNat (Int.toNat (b.toNat : Int)))) = fun r b => r.push b := by
      funext r b; simp
    rw [this, push_all]
    simp
theorem beq_bytes (a b : List UInt8) : ((⟨a.toArray⟩ : ByteArray).toList == (⟨b.toArray⟩ : ByteArray).toList) = decide (a = b) := by
  have e : ∀ l : List UInt8, (⟨l.toArray⟩ : ByteArray).toList = l := fun l => by simp [ByteArray.toList_eq]
  rw [e, e]
  by_cases h : a = b <;> simp [h]
theorem p_eqlStr (t : TypeId) (x y : Operand) (a b : List UInt8) (K : Value → Prop) : PRun P (eqS .eql t x y (str a) (str b)) K = K (.bool (decide (a = b))) := PRun_eq (fun w => by
  unfold eqS str
  simp only [eqGuard, binOp, Op.stringOp, beq_bytes]
  rfl) K
theorem p_neqStr (t : TypeId) (x y : Operand) (a b : List UInt8) (K : Value → Prop) : PRun P (eqS .neq t x y (str a) (str b)) K = K (.bool (!decide (a = b))) := PRun_eq (fun w => by
  unfold eqS str
  simp only [eqGuard, binOp, Op.stringOp, beq_bytes]
  rfl) K
theorem p_lenStr (hu : ∀ w, (underlying T).run P w = .ok .string w) (R : TypeId) (l : List UInt8) (K : Value → Prop) : PRun P (Builtin.len_ #[T] R #[str l]) K = K (i64 l.length) := by
  unfold str
  rw [p_lenString hu]
  simp [ByteArray.size]
/-- a whole number as one of another kind -/
theorem p_conv {src dst : TypeId} {dsrc : TypeDesc} {k k' : IntKind} (h1 : ∀ w, (underlying src).run P w = .ok dsrc w) (h2 : ∀ w, (underlying dst).run P w = .ok (.int k') w) (n : Int) (K : Value → Prop) :
    PRun P (convert src dst (.int k n)) K = K (.int k' (k'.wrap n)) := PRun_eq (fun w => by
  unfold convert
  rw [Sem.run_bind, h1, Result.andThen_ok, Sem.run_bind, h2, Result.andThen_ok]
  cases dsrc <;> rfl) K
end
end Go.Lf
/-
  Maps: a block that holds entries; told as a list of keys, values and stamps, each key once.
-/
namespace Go.Lf
open Go

structure KeyLaw (P : Program) (T : Nat) {κ : Type} [DecidableEq κ] (ok : κ → Prop) (enc : κ → Value) : Prop where
  eq : ∀ a b, ok a → ok b → ∀ w, (Op.equal T (enc a) (enc b)).run P w = .ok (decide (a = b)) w
  chk : ∀ a, ok a → ∀ em w, (Instr.checkKey em 10000 T (enc a)).run P w = .ok () w
  same : ∀ a, ok a → Instr.sameBits 10000 (enc a) (enc a) = true
  now : ∃ d, (∀ w, (underlying T).run P w = .ok d w) ∧ ∀ a b, ok a → ok b → ∀ r, Instr.sameNow d (enc a) (enc b) = some r → r = decide (a = b)

section
variable {κ : Type} [DecidableEq κ]
/-- the entries of a map: key, value, stamp -/
abbrev Ents (κ : Type) := List (κ × Value × Nat)
def entsOf (enc : κ → Value) (m : Ents κ) : Array MapEntry := (m.map fun x => ({ key := enc x.1, val := x.2.1, born := x.2.2 } : MapEntry)).toArray
def absFind (k : κ) : Ents κ → Nat → Option (Nat × Value)
  | [], _ => none
  | (k', v, _) :: m, i => if k = k' then some (i, v) else absFind k m (i + 1)
def mget (m : Ents κ) (k : κ) : Option Value := (m.find? fun x => decide (k = x.1)).map (·.2.1)
def mset (m : Ents κ) (k : κ) (v : Value) (c : Nat) : Ents κ :=
  match m with
  | [] => [(k, v, c)]
  | (k', v', b) :: m => if k = k' then (k', v, b) :: m else (k', v', b) :: mset m k v c
def mdel (m : Ents κ) (k : κ) : Ents κ :=
  match m with
  | [] => []
  | x :: m => if k = x.1 then m else x :: mdel m k
theorem absFind_get (m : Ents κ) (k : κ) (i : Nat) : (absFind k m i).map (·.2) = mget m k := by
  induction m generalizing i with
  | nil => rfl
  | cons x m ih =>
    obtain ⟨k', v, b⟩ := x
    unfold absFind mget
    by_cases h : k = k'
    · simp [h]
    · simp only [h, if_false, List.find?_cons, decide_false]
      exact ih (i + 1)
variable {P : Program} {T : Nat} {ok : κ → Prop} {enc : κ → Value}
theorem run_findKey (L : KeyLaw P T ok enc) (m : Ents κ) (k : κ) (hk : ok k) (hm : ∀ x ∈ m, ok x.1) (w : World) : (Instr.findKey T (enc k) (entsOf enc m).toList).run P w = .ok (absFind k m 0) w := by
  have hl : (entsOf enc m).toList = m.map fun x => ({ key := enc x.1, val := x.2.1, born := x.2.2 } : MapEntry) := by simp [entsOf]
  rw [hl]
  unfold Instr.findKey
  obtain ⟨desc, hund, hnw⟩ := L.now
  rw [Sem.run_bind, hund, Result.andThen_ok]
  have hnow : ∀ (m : Ents κ) (i : Nat) r, (∀ x ∈ m, ok x.1) → Instr.findNow desc (enc k) (m.map fun x => ({ key := enc x.1, val := x.2.1, born := x.2.2 } : MapEntry)) i = some r → r = absFind k m i := by
    intro m
    induction m with
    | nil => intro i r _ h; simp only [List.map_nil, Instr.findNow, Option.some.injEq] at h; exact h.symm
    | cons x m ih =>
      obtain ⟨k', v, b⟩ := x
      intro i r hm h
      simp only [List.map_cons, Instr.findNow] at h
      cases hs : Instr.sameNow desc (enc k) (enc k') with
      | none => rw [hs] at h; cases h
      | some q =>
        have := hnw k k' hk (hm (k', v, b) (by simp)) q hs
        rw [hs] at h
        unfold absFind
        cases q with
        | true =>
          simp only [Option.some.injEq] at h
          rw [if_pos (of_decide_eq_true this.symm)]; exact h.symm
        | false =>
          rw [if_neg (of_decide_eq_false this.symm)]
          exact ih (i + 1) r (fun y hy => hm y (by simp [hy])) h
  have hask : ∀ (m : Ents κ) (i : Nat), (∀ x ∈ m, ok x.1) → (Instr.findAsking T (enc k) (m.map fun x => ({ key := enc x.1, val := x.2.1, born := x.2.2 } : MapEntry)) i).run P w = .ok (absFind k m i) w := by
    intro m
    induction m with
    | nil => intro i _; rfl
    | cons x m ih =>
      obtain ⟨k', v, b⟩ := x
      intro i hm
      simp only [List.map_cons, Instr.findAsking, Sem.run_bind]
      rw [L.eq k k' hk (hm (k', v, b) (by simp)), Result.andThen_ok]
      unfold absFind
      by_cases h : k = k'
      · simp [h]
      · simp only [h, decide_false, if_false, Bool.false_eq_true]
        exact ih (i + 1) fun y hy => hm y (by simp [hy])
  split
  · rename_i r hr; rw [hnow m 0 r hm hr]; rfl
  · exact hask m 0 hm
theorem run_getObj {w : World} {b : Nat} {o : Obj} (h : Hp w b = some o) (ho : ∀ c e f, o ≠ .cells c e f) : (getObj b).run P w = .ok o w := by
  unfold getObj
  unfold Hp at h
  simp only [Sem.run, h]
theorem run_setObj {w : World} {b : Nat} {o o' : Obj} (h : Hp w b = some o) (ho : ∀ c e f, o ≠ .cells c e f) : (setObj b o').run P w = .ok () (put w b o') := by
  unfold setObj put
  unfold Hp at h
  simp only [Sem.run, h]
/-- Block b is a map of these entries. -/
def MapAt (w : World) (b : Nat) (enc : κ → Value) (m : Ents κ) (c : Nat) : Prop := Hp w b = some (.map (entsOf enc m) c)
section
variable {M e : Nat} {zv : Value} (L : KeyLaw P T ok enc) (hu : ∀ w, (underlying M).run P w = .ok (.map T e) w) (hz : ∀ w, (zeroValue e).run P w = .ok zv w)
include L hu
theorem run_lookup (hz : ∀ w, (zeroValue e).run P w = .ok zv w) {w : World} {b c : Nat} {m : Ents κ} (h : MapAt w b enc m c) (k : κ) (hk : ok k) (hm : ∀ x ∈ m, ok x.1) (comma : Bool) :
    (Instr.lookup M (.map (some b)) (enc k) comma).run P w = .ok (if comma then .tuple #[(mget m k).getD zv, .bool (mget m k).isSome] else (mget m k).getD zv) w := by
  unfold Instr.lookup
  rw [Sem.run_bind, hu, Result.andThen_ok]
  simp only [Sem.run_bind, run_getObj (P := P) h (by simp), Result.andThen_ok, Sem.run_pure, L.chk k hk, run_findKey L m k hk hm]
  have hg := absFind_get m k 0
  cases hf : absFind k m 0 with
  | none =>
    rw [hf] at hg
    simp only [Option.map_none] at hg
    simp only [← hg, Sem.run_bind, hz, Result.andThen_ok, Sem.run_pure, Option.getD_none, Option.isSome_none]
  | some x =>
    obtain ⟨i, v⟩ := x
    rw [hf] at hg
    simp only [Option.map_some] at hg
    simp only [← hg, Option.getD_some, Option.isSome_some]
    simp only [Sem.run_bind, Sem.run_pure, Result.andThen_ok]
theorem q_lookup (hz : ∀ w, (zeroValue e).run P w = .ok zv w) {w : World} {b c : Nat} {m : Ents κ} (h : MapAt w b enc m c) (k : κ) (hk : ok k) (hm : ∀ x ∈ m, ok x.1) (K : Value → Prop) :
    QRun P (Instr.lookup M (.map (some b)) (enc k) false) w K = K ((mget m k).getD zv) := QRun_eq (run_lookup L hu hz h k hk hm false) K
theorem q_lookup2 (hz : ∀ w, (zeroValue e).run P w = .ok zv w) {w : World} {b c : Nat} {m : Ents κ} (h : MapAt w b enc m c) (k : κ) (hk : ok k) (hm : ∀ x ∈ m, ok x.1) (K : Value → Prop) :
    QRun P (Instr.lookup M (.map (some b)) (enc k) true) w K = K (.tuple #[(mget m k).getD zv, .bool (mget m k).isSome]) := QRun_eq (run_lookup L hu hz h k hk hm true) K
/-- The clock behind a store. -/
def mclock (m : Ents κ) (k : κ) (c : Nat) : Nat := if (mget m k).isSome then c else c + 1
theorem run_mapUpdate {w : World} {b c : Nat} {m : Ents κ} (h : MapAt w b enc m c) (k : κ) (hk : ok k) (hm : ∀ x ∈ m, ok x.1) (v : Value) :
    (Instr.mapUpdate M (.map (some b)) (enc k) v).run P w = .ok () (put w b (.map (entsOf enc (mset m k v c)) (mclock m k c))) := by
  unfold Instr.mapUpdate
  rw [Sem.run_bind, hu, Result.andThen_ok]
  simp only [Sem.run_bind, run_getObj (P := P) h (by simp), Result.andThen_ok, L.chk k hk, run_findKey L m k hk hm]
  have hg := absFind_get m k 0
  have key : ∀ (m : Ents κ) (i : Nat), match absFind k m i with
      | none => mset m k v c = m ++ [(k, v, c)]
      | some (j, _) => i ≤ j ∧ (∃ x, m[j - i]? = some x ∧ x.1 = k) ∧ entsOf enc (mset m k v c) = (entsOf enc m).modify (j - i) fun e => { e with key := enc k, val := v } := by
    intro m
    induction m with
    | nil => intro i; rfl
    | cons x m ih =>
      obtain ⟨k', v', b'⟩ := x
      intro i
      unfold absFind
      by_cases hkk : k = k'
      · subst hkk
        simp only [if_true]
        refine ⟨Nat.le_refl _, ⟨(k, v', b'), by simp, rfl⟩, ?_⟩
        apply Array.ext_getElem?
        intro j
        rw [Array.getElem?_modify]
        cases j <;> simp [entsOf, mset]
      · simp only [hkk, if_false]
        have := ih (i + 1)
        cases hf : absFind k m (i + 1) with
        | none => rw [hf] at this; simp only [] at this ⊢; simp [mset, hkk, this]
        | some y =>
          obtain ⟨j, u⟩ := y
          rw [hf] at this
          simp only [] at this ⊢
          obtain ⟨h1, ⟨x, hx, hxk⟩, h2⟩ := this
          refine ⟨by omega, ⟨x, ?_, hxk⟩, ?_⟩
          · rw [show j - i = (j - (i + 1)) + 1 by omega]; simpa using hx
          · apply Array.ext_getElem?
            intro l
            rw [Array.getElem?_modify]
            have h2' := congrArg (fun a : Array MapEntry => a[l - 1]?) h2
            simp only [Array.getElem?_modify] at h2'
            cases l with
            | zero => simp [entsOf, mset, hkk, show ¬ j - i = 0 by omega]
            | succ l =>
              simp only [Nat.add_sub_cancel] at h2'
              have e1 : (entsOf enc (mset ((k', v', b') :: m) k v c))[l + 1]? = (entsOf enc (mset m k v c))[l]? := by simp [entsOf, mset, hkk]
              have e2 : (entsOf enc ((k', v', b') :: m))[l + 1]? = (entsOf enc m)[l]? := by simp [entsOf]
              rw [e1, e2, h2', show j - i = (j - (i + 1)) + 1 by omega]
              simp only [Nat.add_right_cancel_iff]
  have hk0 := key m 0
  cases hf : absFind k m 0 with
  | none =>
    rw [hf] at hg hk0
    simp only [Option.map_none] at hg
    simp only [] at hk0
    rw [run_setObj h (by simp)]
    have : mclock m k c = c + 1 := by unfold mclock; rw [← hg]; simp
    rw [this, hk0]
    congr 3
    simp [entsOf]
  | some x =>
    obtain ⟨i, u⟩ := x
    rw [hf] at hg hk0
    simp only [Option.map_some] at hg
    simp only [] at hk0
    obtain ⟨_, ⟨x, hx, hxk⟩, h2⟩ := hk0
    simp only [Nat.sub_zero] at hx h2
    have hold : (((entsOf enc m)[i]?).map (·.key)).getD (enc k) = enc k := by simp [entsOf, hx, hxk]
    simp only [hold, Instr.keyThatStays, L.same k hk, if_true, Sem.run_bind, Sem.run_pure, Result.andThen_ok]
    rw [run_setObj h (by simp)]
    have : mclock m k c = c := by unfold mclock; rw [← hg]; simp
    rw [this, h2]
theorem r_mapUpdate {w : World} {b c : Nat} {m : Ents κ} (h : MapAt w b enc m c) (k : κ) (hk : ok k) (hm : ∀ x ∈ m, ok x.1) (v : Value) (K : Unit → World → Prop) :
    Run P (Instr.mapUpdate M (.map (some b)) (enc k) v) w K = K () (put w b (.map (entsOf enc (mset m k v c)) (mclock m k c))) := Run_eq (run_mapUpdate L hu h k hk hm v) K
theorem run_delete {w : World} {b c : Nat} {m : Ents κ} (h : MapAt w b enc m c) (k : κ) (hk : ok k) (hm : ∀ x ∈ m, ok x.1) (X R : Nat) :
    (Builtin.delete_ #[M, X] R #[.map (some b), enc k]).run P w = .ok (.tuple #[]) (put w b (.map (entsOf enc (mdel m k)) c)) := by
  unfold Builtin.delete_
  simp only [List.getElem?_toArray, List.getElem?_cons_zero, List.getElem?_cons_succ]
  rw [Sem.run_bind, hu, Result.andThen_ok]
  simp only [Sem.run_bind, run_getObj (P := P) h (by simp), Result.andThen_ok, L.chk k hk, run_findKey L m k hk hm]
  have key : ∀ (m : Ents κ) (i : Nat), match absFind k m i with
      | none => mdel m k = m
      | some (j, _) => i ≤ j ∧ entsOf enc (mdel m k) = (entsOf enc m).eraseIdxIfInBounds (j - i) := by
    intro m
    induction m with
    | nil => intro i; rfl
    | cons x m ih =>
      obtain ⟨k', v', b'⟩ := x
      intro i
      unfold absFind
      by_cases hkk : k = k'
      · subst hkk
        simp [mdel, entsOf]
      · simp only [hkk, if_false]
        have := ih (i + 1)
        cases hf : absFind k m (i + 1) with
        | none => rw [hf] at this; simp only [] at this ⊢; simp [mdel, hkk, this]
        | some y =>
          obtain ⟨j, u⟩ := y
          rw [hf] at this
          simp only [] at this ⊢
          obtain ⟨h1, h2⟩ := this
          refine ⟨by omega, ?_⟩
          rw [show j - i = (j - (i + 1)) + 1 by omega]
          have e1 : entsOf enc (mdel ((k', v', b') :: m) k) = #[{ key := enc k', val := v', born := b' }] ++ entsOf enc (mdel m k) := by simp [entsOf, mdel, hkk]
          rw [e1, h2]
          simp [entsOf]
  have hk0 := key m 0
  cases hf : absFind k m 0 with
  | none =>
    rw [hf] at hk0
    simp only [] at hk0
    rw [hk0, Sem.run_bind, run_setObj h (by simp), Result.andThen_ok, Sem.run_pure]
  | some x =>
    obtain ⟨i, u⟩ := x
    rw [hf] at hk0
    simp only [Nat.sub_zero] at hk0
    rw [hk0.2]
    simp only []
    rw [Sem.run_bind, run_setObj h (by simp), Result.andThen_ok, Sem.run_pure]
theorem r_delete {w : World} {b c : Nat} {m : Ents κ} (h : MapAt w b enc m c) (k : κ) (hk : ok k) (hm : ∀ x ∈ m, ok x.1) (X R : Nat) (K : Value → World → Prop) :
    Run P (Builtin.delete_ #[M, X] R #[.map (some b), enc k]) w K = K (.tuple #[]) (put w b (.map (entsOf enc (mdel m k)) c)) := Run_eq (run_delete L hu h k hk hm X R) K
end
section
variable {M e : Nat} (hu : ∀ w, (underlying M).run P w = .ok (.map T e) w)
include hu
omit [DecidableEq κ]
theorem q_lenMap {w : World} {b c : Nat} {m : Ents κ} (h : MapAt w b enc m c) (R : Nat) (K : Value → Prop) : QRun P (Builtin.len_ #[M] R #[.map (some b)]) w K = K (i64 m.length) := QRun_eq (by
  unfold Builtin.len_
  simp only [List.getElem?_toArray, List.getElem?_cons_zero]
  rw [Sem.run_bind, hu, Result.andThen_ok]
  simp only [Sem.run_bind, run_getObj (P := P) h (by simp), Result.andThen_ok, Sem.run_pure]
  simp [entsOf, goInt]) K
theorem r_rangeMap {w : World} {b c : Nat} {m : Ents κ} (h : MapAt w b enc m c) (K : Value → World → Prop) :
    Run P (Instr.range M (.map (some b))) w K = K (ptr (sz w) 0) (w.alloc (.mapIter (some b) c #[] c)) := Run_eq (by
  unfold Instr.range
  simp only [Sem.run_bind, hu, Result.andThen_ok, run_getObj (P := P) h (by simp), Sem.run_pure]
  rfl) K
end
/-- What an iterator has still to come to. -/
def mleft (m : Ents κ) (seen : Array Nat) : Ents κ := m.filter fun x => !seen.contains x.2.2
/-- A step of a range over a map into which nothing is put meanwhile: it is over where nothing is left; else any that is left. -/
theorem r_nextMap {w : World} {it b c : Nat} {m : Ents κ} {seen : Array Nat} (h : MapAt w b enc m c) (hit : Hp w it = some (.mapIter (some b) c seen c)) (hb : ∀ x ∈ m, x.2.2 < c) (ty : Nat) {K : Value → World → Prop}
    (h0 : mleft m seen = [] → K (.tuple #[.bool false]) w)
    (h1 : ∀ x ∈ mleft m seen, ∀ w', w' = w ∨ w' = w.drew → K (.tuple #[.bool true, enc x.1, x.2.1]) (put w' it (.mapIter (some b) c (seen.push x.2.2) c))) :
    Run P (Instr.next (ptr it 0) false ty) w K := by
  have hes : ∀ p : MapEntry → Bool, (entsOf enc m).filter p = entsOf enc (m.filter fun x => p { key := enc x.1, val := x.2.1, born := x.2.2 }) := by
    intro p
    unfold entsOf
    rw [List.filter_toArray, List.filter_map]
    rfl
  have hg1 : (getObj it).run P w = .ok (.mapIter (some b) c seen c) w := run_getObj hit (by simp)
  have hg2 : (getObj b).run P w = .ok (.map (entsOf enc m) c) w := run_getObj h (by simp)
  have hstop : (!seen.isEmpty && !(entsOf enc m).isEmpty && (entsOf enc m).all fun e => decide (e.born ≥ c)) = false := by
    cases hm : m with
    | nil => simp [entsOf]
    | cons x m' =>
      have := hb x (by rw [hm]; simp)
      have hn : ((entsOf enc (x :: m')).all fun e => decide (e.born ≥ c)) = false := by
        simp only [entsOf, List.map_cons, List.all_toArray, List.all_cons, ge_iff_le, Nat.not_le.2 this, decide_false, Bool.false_and]
      rw [hn]; simp
  have hleft : (entsOf enc m).filter (fun e => !seen.contains e.born) = entsOf enc (mleft m seen) := hes _
  have hold : (entsOf enc (mleft m seen)).filter (fun e => decide (e.born < c)) = entsOf enc (mleft m seen) := by
    have : (mleft m seen).filter (fun x => decide (x.2.2 < c)) = mleft m seen := List.filter_eq_self.2 fun x hx => by
      have := hb x (List.mem_filter.1 hx).1
      simpa using this
    unfold entsOf
    rw [List.filter_toArray, List.filter_map]
    congr 2
  have hnew : (entsOf enc (mleft m seen)).filter (fun e => decide (e.born ≥ c)) = #[] := by
    have : (mleft m seen).filter (fun x => decide (x.2.2 ≥ c)) = [] := List.filter_eq_nil_iff.2 fun x hx => by
      have := hb x (List.mem_filter.1 hx).1
      simp; omega
    unfold entsOf
    rw [List.filter_toArray, List.filter_map]
    have e : (List.filter ((fun e : MapEntry => decide (e.born ≥ c)) ∘ fun x : κ × Value × Nat => ({ key := enc x.1, val := x.2.1, born := x.2.2 } : MapEntry)) (mleft m seen)) = [] := this
    rw [e]; rfl
  have hrun : ∀ (r : Result Value), (Instr.next (ptr it 0) false ty).run P w = r → (match r with | .ok v w' => K v w' | .halt _ _ => False) → Run P (Instr.next (ptr it 0) false ty) w K := by
    intro r hr hk; unfold Run; rw [hr]; cases r <;> exact hk
  refine hrun _ rfl ?_
  unfold Instr.next
  simp only [Sem.run_bind, hg1, Result.andThen_ok, hg2, hstop, Bool.false_eq_true, if_false, hleft, hold, hnew, Array.append_empty]
  cases hl : mleft m seen with
  | nil =>
    have e1 : ((if (entsOf enc ([] : Ents κ)).isEmpty = true then #[none] else #[]) ++ (entsOf enc ([] : Ents κ)).map some : Array (Option MapEntry)) = #[none] := by simp [entsOf]
    simp only [e1]
    have e2 : (choose (.mapNext (#[none] : Array (Option MapEntry)).size)).run P w = .ok 0 w := by simp [choose, Sem.run, Question.forced]
    simp only [Sem.run_bind, e2, Result.andThen_ok]
    exact h0 hl
  | cons x l =>
    have e1 : ((if (entsOf enc (x :: l)).isEmpty = true then #[none] else #[]) ++ (entsOf enc (x :: l)).map some : Array (Option MapEntry)) = ((x :: l).map fun x => some ({ key := enc x.1, val := x.2.1, born := x.2.2 } : MapEntry)).toArray := by
      simp [entsOf]
    simp only [e1]
    have hsz : (((x :: l).map fun x => some ({ key := enc x.1, val := x.2.1, born := x.2.2 } : MapEntry)).toArray).size = l.length + 1 := by simp
    obtain ⟨j, w', hj, hw', hch⟩ : ∃ j w', j < l.length + 1 ∧ (w' = w ∨ w' = w.drew) ∧ (choose (.mapNext (((x :: l).map fun x => some ({ key := enc x.1, val := x.2.1, born := x.2.2 } : MapEntry)).toArray).size)).run P w = .ok j w' := by
      rw [hsz]
      by_cases hn : l.length + 1 ≤ 1
      · exact ⟨0, w, by omega, .inl rfl, by simp only [choose, Sem.run, Question.forced, hn, decide_true, if_true]⟩
      · exact ⟨_, w.drew, Nat.mod_lt _ (by omega), .inr rfl, by simp only [choose, Sem.run, Question.forced, hn, decide_false, if_false, Question.cut, Bool.false_eq_true]; rfl⟩
    simp only [Sem.run_bind, hch, Result.andThen_ok]
    obtain ⟨y, hy⟩ : ∃ y, (x :: l)[j]? = some y := ⟨_, List.getElem?_eq_getElem (by simpa using hj)⟩
    have hget : (((x :: l).map fun x => some ({ key := enc x.1, val := x.2.1, born := x.2.2 } : MapEntry)).toArray)[j]? = some (some { key := enc y.1, val := y.2.1, born := y.2.2 }) := by
      rw [List.getElem?_toArray, List.getElem?_map, hy]; rfl
    simp only [hget]
    have hit' : Hp w' it = some (.mapIter (some b) c seen c) := by rcases hw' with rfl | rfl <;> exact hit
    rw [Sem.run_bind, run_setObj hit' (by simp), Result.andThen_ok, Sem.run_pure]
    exact h1 y (by rw [hl]; exact List.mem_of_getElem? hy) w' hw'
end
end Go.Lf
namespace Go.Lf
open Go
section
variable {P : Program} {T e z : Nat} {zv : Value}
theorem foldl_set (cs : List Value) (acc : Array Value) (off : Nat) : ∀ k, off + k + cs.length ≤ acc.size →
    (cs.zipIdx k).foldl (fun (a : Array Value) (x : Value × Nat) => a.setIfInBounds (off + x.2) x.1) acc = splice acc (off + k) cs.toArray := by
  induction cs generalizing acc with
  | nil =>
    intro k h
    apply Array.ext_getElem?
    intro j
    rw [splice_get (by simpa using h)]
    simp only [List.zipIdx_nil, List.foldl_nil, List.size_toArray, List.length_nil]
    rw [if_neg (by omega)]
  | cons c cs ih =>
    intro k h
    simp only [List.length_cons] at h
    simp only [List.zipIdx_cons, List.foldl_cons]
    rw [ih _ (k + 1) (by simp; omega)]
    apply Array.ext_getElem?
    intro j
    rw [splice_get (by simp; omega), splice_get (by simp; omega), Array.getElem?_setIfInBounds]
    simp only [List.size_toArray, List.length_cons]
    by_cases h1 : off + k = j
    · subst h1
      rw [if_neg (by omega), if_pos rfl, if_pos (by omega), if_pos ⟨by omega, by omega⟩]
      simp
    · rw [if_neg h1]
      by_cases h2 : off + (k + 1) ≤ j ∧ j < off + (k + 1) + cs.length
      · rw [if_pos h2, if_pos ⟨by omega, by omega⟩]
        obtain ⟨d, rfl⟩ : ∃ d, j = off + (k + 1) + d := ⟨j - (off + (k + 1)), by omega⟩
        rw [show off + (k + 1) + d - (off + (k + 1)) = d by omega, show off + (k + 1) + d - (off + k) = d + 1 by omega]
        simp
      · rw [if_neg h2, if_neg (by omega)]
/-- the cells of values, one behind the other -/
def catC (vs : List Value) : List Value := vs.flatMap fun v => v.cells.toList
theorem catC_length {vs : List Value} (h : ∀ v ∈ vs, v.cells.size = z) : (catC vs).length = vs.length * z := by
  induction vs with
  | nil => simp [catC]
  | cons v vs ih =>
    have := ih fun u hu => h u (by simp [hu])
    simp only [catC, List.flatMap_cons, List.length_append, List.length_cons, Array.length_toList] at this ⊢
    rw [this, h v (by simp), Nat.add_mul, Nat.one_mul, Nat.add_comm]
theorem fill_all : ∀ (vs : List Value) (k : Nat) (acc : Array Value), (∀ v ∈ vs, v.cells.size = z) → k * z + vs.length * z ≤ acc.size →
    Instr.fill (fun i => some (i * z, z)) acc ((vs.zipIdx k).map fun x => (x.2, x.1)) = some (splice acc (k * z) (catC vs).toArray) := by
  intro vs
  induction vs with
  | nil =>
    intro k acc _ h
    simp only [List.zipIdx_nil, List.map_nil, Instr.fill, Option.some.injEq]
    apply Array.ext_getElem?
    intro j
    rw [splice_get (by simpa [catC] using h)]
    simp only [catC, List.flatMap_nil, List.size_toArray, List.length_nil]
    rw [if_neg (by omega)]
  | cons v vs ih =>
    intro k acc hv h
    have hz := hv v (by simp)
    simp only [List.length_cons, Nat.add_mul, Nat.one_mul] at h
    simp only [List.zipIdx_cons, List.map_cons, Instr.fill, hz, ne_eq, not_true_eq_false, false_or, gt_iff_lt]
    rw [if_neg (by simp only [Bool.false_or, decide_eq_true_eq, not_true_eq_false, decide_false]; omega)]
    have e1 : v.cells.zipIdx.foldl (fun (cs : Array Value) (x : Value × Nat) => cs.setIfInBounds (k * z + x.2) x.1) acc = splice acc (k * z) v.cells := by
      have := foldl_set v.cells.toList acc (k * z) 0 (by simp [hz]; omega)
      simp only [Nat.add_zero, Array.toArray_toList] at this
      rw [← this, ← Array.foldl_toList, Array.toList_zipIdx]
    have e2 : (v.cells.zipIdx.foldl (fun (cs : Array Value) (x : Value × Nat) => match x with | (c, j) => cs.setIfInBounds (k * z + j) c) acc) = splice acc (k * z) v.cells := e1
    rw [e2, ih (k + 1) _ (fun u hu => hv u (by simp [hu])) (by rw [splice_size (by rw [hz]; omega), Nat.add_mul]; omega)]
    congr 1
    have hc := catC_length (vs := vs) (z := z) fun u hu => hv u (by simp [hu])
    apply Array.ext_getElem?
    intro j
    rw [splice_get (by rw [splice_size (by rw [hz]; omega)]; simp only [List.size_toArray, hc, Nat.add_mul]; omega), splice_get (by rw [hz]; omega),
      splice_get (by simp only [List.size_toArray, catC, List.flatMap_cons, List.length_append, Array.length_toList, hz]; simp only [catC] at hc; omega)]
    simp only [List.size_toArray, hc, catC, List.flatMap_cons, List.length_append, Array.length_toList, hz, Nat.add_mul, Nat.one_mul, List.getElem?_toArray]
    simp only [catC] at hc
    rw [hc, List.getElem?_append]
    simp only [Array.length_toList, hz, Array.getElem?_toList]
    by_cases h1 : k * z ≤ j ∧ j < k * z + z
    · rw [if_neg (by omega), if_pos h1, if_pos (by omega), if_pos (by omega)]
    · rw [if_neg h1]
      by_cases h2 : k * z + z ≤ j ∧ j < k * z + z + vs.length * z
      · rw [if_pos h2, if_pos (by omega), if_neg (by omega)]
        congr 1; omega
      · rw [if_neg h2, if_neg (by omega)]
/-- []T{a, b, ..}. -/
theorem r_buildSlice (hu : ∀ w, (underlying T).run P w = .ok (.slice e) w) (hs : ∀ w, (sizeOf e).run P w = .ok z w) (hz : ∀ w, (zeroValue e).run P w = .ok zv w) (hzs : zv.cells.size = z)
    (vs : List Value) (hv : ∀ v ∈ vs, v.cells.size = z) (hl : vs.length * z ≤ 16777216) (w : World) (K : Value → World → Prop) :
    Run P (Instr.buildSlice T vs.length ((vs.zipIdx).map fun x => (x.2, x.1)).toArray) w K = K (.slice (some ⟨sz w, 0, none⟩) vs.length vs.length) (w.alloc (.cells (catC vs).toArray e)) := Run_eq (by
  unfold Instr.buildSlice
  rw [Sem.run_bind, hu, Result.andThen_ok]
  simp only [Sem.run_bind, hs, Result.andThen_ok]
  rw [if_neg (by simpa using hl)]
  have hc := catC_length hv
  by_cases h0 : vs.length * z = 0
  · simp only [h0, if_true, Sem.run_bind, Sem.run_pure, Result.andThen_ok]
    have hf := fill_all (z := z) vs 0 ((Array.range 0).map fun x => (#[] : Array Value)[x % (#[] : Array Value).size]!) hv (by simp [h0])
    rw [hf]
    have e3 : splice ((Array.range 0).map fun x => (#[] : Array Value)[x % (#[] : Array Value).size]!) (0 * z) (catC vs).toArray = (catC vs).toArray := by
      rw [Nat.zero_mul]; exact splice_all _ _ (by simp [hc, h0])
    rw [e3]
    rfl
  · simp only [h0, if_false, Sem.run_bind, hz, Sem.run_pure, Result.andThen_ok]
    have hf := fill_all (z := z) vs 0 ((Array.range (vs.length * z)).map fun x => zv.cells[x % zv.cells.size]!) hv (by simp)
    rw [hf]
    have e3 : splice ((Array.range (vs.length * z)).map fun x => zv.cells[x % zv.cells.size]!) (0 * z) (catC vs).toArray = (catC vs).toArray := by
      rw [Nat.zero_mul]; exact splice_all _ _ (by simp [hc])
    rw [e3]
    rfl) K
theorem p_eqlNilS (hu : ∀ w, (underlying T).run P w = .ok (.slice e) w) (x y : Operand) (a : Option Addr) (n c : Nat) (K : Value → Prop) :
    PRun P (eqS .eql T x y (.slice a n c) (.slice none 0 0)) K = K (.bool a.isNone) := PRun_eq (fun w => by
  have h : (Op.equal T (.slice a n c) (.slice none 0 0)).run P w = .ok a.isNone w := by
    unfold Op.equal Op.maxDepth Op.equalIn
    rw [Sem.run_bind, hu, Result.andThen_ok]
    cases a <;> rfl
  have hg : ∀ op, (eqGuard op T x y (.slice a n c) (.slice none 0 0)).run P w = .ok () w := by
    intro op; unfold eqGuard; cases op <;> rfl
  unfold eqS
  rw [Sem.run_bind, hg, Result.andThen_ok]
  simp only [binOp, Sem.run_bind, Sem.run_pure, Result.andThen_ok, h]) K
theorem p_neqNilS (hu : ∀ w, (underlying T).run P w = .ok (.slice e) w) (x y : Operand) (a : Option Addr) (n c : Nat) (K : Value → Prop) :
    PRun P (eqS .neq T x y (.slice a n c) (.slice none 0 0)) K = K (.bool (!a.isNone)) := PRun_eq (fun w => by
  have h : (Op.equal T (.slice a n c) (.slice none 0 0)).run P w = .ok a.isNone w := by
    unfold Op.equal Op.maxDepth Op.equalIn
    rw [Sem.run_bind, hu, Result.andThen_ok]
    cases a <;> rfl
  have hg : ∀ op, (eqGuard op T x y (.slice a n c) (.slice none 0 0)).run P w = .ok () w := by
    intro op; unfold eqGuard; cases op <;> rfl
  unfold eqS
  rw [Sem.run_bind, hg, Result.andThen_ok]
  simp only [binOp, Sem.run_bind, Sem.run_pure, Result.andThen_ok, h]) K
end
section
variable {P : Program} {κ : Type} [DecidableEq κ] {enc : κ → Value}
/-- The entry at which an iterator stands. -/
theorem q_entry {w : World} {it b c : Nat} {m : Ents κ} {seen : Array Nat} {s : Nat} (h : MapAt w b enc m c) (hit : Hp w it = some (.mapIter (some b) s seen c)) {x : κ × Value × Nat} (hx : x ∈ m)
    (hl : seen.back? = some x.2.2) (hnd : ∀ y ∈ m, y.2.2 = x.2.2 → y = x) (K : Value → Prop) : QRun P (Instr.entry (ptr it 0)) w K = K (.tuple #[enc x.1, x.2.1]) := QRun_eq (by
  have hg1 : (getObj it).run P w = .ok (.mapIter (some b) s seen c) w := run_getObj hit (by simp)
  have hg2 : (getObj b).run P w = .ok (.map (entsOf enc m) c) w := run_getObj h (by simp)
  have hf : (entsOf enc m).find? (fun e => e.born == x.2.2) = some { key := enc x.1, val := x.2.1, born := x.2.2 } := by
    unfold entsOf
    rw [List.find?_toArray, List.find?_map]
    have : m.find? ((fun e : MapEntry => e.born == x.2.2) ∘ fun x : κ × Value × Nat => ({ key := enc x.1, val := x.2.1, born := x.2.2 } : MapEntry)) = some x := by
      clear h hg2
      induction m with
      | nil => cases hx
      | cons y m ih =>
        rw [List.find?_cons]
        by_cases hy : y.2.2 = x.2.2
        · have : y = x := hnd y (by simp) hy
          subst this
          simp
        · have : ((fun e : MapEntry => e.born == x.2.2) ∘ fun x : κ × Value × Nat => ({ key := enc x.1, val := x.2.1, born := x.2.2 } : MapEntry)) y = false := by simpa using hy
          rw [this]
          refine ih ?_ fun z hz => hnd z (by simp [hz])
          cases hx with
          | head => exact absurd rfl hy
          | tail _ hx => exact hx
    rw [this]; rfl
  unfold Instr.entry
  simp only [Sem.run_bind, hg1, Result.andThen_ok, hl, hg2, bne_self_eq_false, Bool.false_eq_true, if_false, hf]
  rfl) K
end
/-! ### Laws of keys -/
section
variable {P : Program} {T e n : Nat}
theorem key_int {k : IntKind} (hu : ∀ w, (underlying T).run P w = .ok (.int k) w) : KeyLaw P T (fun _ : Int => True) (fun n => .int k n) where
  eq := fun a b _ _ w => run_eqInt 9999 hu a b w
  chk := fun a _ em w => by
    unfold Instr.checkKey
    rw [Sem.run_bind, hu, Result.andThen_ok]; rfl
  same := fun a _ => by simp [Instr.sameBits]
  now := ⟨_, hu, fun a b _ _ r h => by
    simp only [Instr.sameNow, if_true, Option.some.injEq] at h
    rw [← h]
    by_cases hab : a = b <;> simp [hab]⟩
theorem sameBits_self : ∀ (l : List Value), (∀ v ∈ l, ∃ k n, v = .int k n) → (l.zip l).all (fun (x, y) => Instr.sameBits 9999 x y) = true := by
  intro l
  induction l with
  | nil => intro _; rfl
  | cons v l ih =>
    intro h
    obtain ⟨k, n, rfl⟩ := h v (by simp)
    simp only [List.zip_cons_cons, List.all_cons, ih fun u hu => h u (by simp [hu]), Bool.and_true]
    simp [Instr.sameBits]
theorem key_bytes {i : TypeInfo} (hu : P.underlying T = some (.array n e)) (hu' : ∀ w, (underlying T).run P w = .ok (.array n e) w) (hi : P.info? e = some i) (hz : i.size = 1) (hz' : ∀ w, (sizeOf e).run P w = .ok 1 w)
    (he : ∀ w, (underlying e).run P w = .ok (.int .u8) w) (hg : ∀ w, (isAgg e).run P w = .ok false w) : KeyLaw P T (fun l : List UInt8 => l.length = n) idv where
  eq := fun a b ha hb w => run_equalBytes hu hi hz he hg a b ha hb w
  chk := fun a ha em w => by
    unfold Instr.checkKey
    rw [Sem.run_bind, hu', Result.andThen_ok]
    simp only [idv]
    simp only [Std.Legacy.Range.forIn_eq_forIn_range', Std.Legacy.Range.size, Nat.sub_zero, Nat.add_one_sub_one, Nat.div_one]
    have key : ∀ (m k : Nat), k + m = n → (forIn (m := Sem) (List.range' k m) PUnit.unit fun i r => do
        let x ← sizeOf e
        let y ← part e (bc a).toArray (i * x)
        Instr.checkKey em 9999 e y
        pure (ForInStep.yield PUnit.unit)).run P w = .ok PUnit.unit w := by
      intro m
      induction m with
      | zero => intro k _; rfl
      | succ m ih =>
        intro k hk
        rw [List.range'_succ, List.forIn_cons]
        have hp : (part e (bc a).toArray (k * 1)).run P w = .ok (.int .u8 (a[k]'(by omega)).toNat) w := by
          unfold part
          rw [Sem.run_bind, hg, Result.andThen_ok]
          simp only [Bool.false_eq_true, if_false, Nat.mul_one, List.getElem?_toArray, bc_get, List.getElem?_eq_getElem (show k < a.length by omega), Option.map_some, Sem.run_pure]
        have hc : ∀ n, (Instr.checkKey em 9999 e (.int .u8 n)).run P w = .ok () w := by
          intro n
          unfold Instr.checkKey
          rw [Sem.run_bind, he, Result.andThen_ok]; rfl
        simp only [Sem.run_bind, hz', Result.andThen_ok, hp, hc, Sem.run_pure]
        exact ih (k + 1) (by omega)
    rw [Sem.run_bind, key n 0 (by omega)]; rfl
  same := fun a _ => by
    unfold idv Instr.sameBits
    simp only [beq_self_eq_true, Bool.true_and]
    exact sameBits_self _ fun v hv => by
      obtain ⟨b, _, rfl⟩ := List.mem_map.1 hv
      exact ⟨_, _, rfl⟩
  now := ⟨_, hu', fun a b _ _ r h => by simp [Instr.sameNow, idv] at h⟩
end
end Go.Lf
namespace Go.Lf
open Go
theorem ext_bc {k : List UInt8} {n : Nat} (b : Array Value) (h : k.length = n) : ((bc k).toArray ++ b).extract 0 n = (bc k).toArray := by
  subst h
  apply Array.ext_getElem?
  intro j
  simp only [Array.getElem?_extract, Array.size_append, List.size_toArray, bc_length, Nat.sub_zero, Nat.zero_add, Array.getElem?_append]
  by_cases hj : j < k.length
  · rw [if_pos (by omega), if_pos hj]
  · rw [if_neg (by omega), List.getElem?_toArray, List.getElem?_eq_none (by rw [bc_length]; omega)]
theorem ext_bc0 {k : List UInt8} {n : Nat} (h : k.length = n) : ((bc k).toArray).extract 0 n = (bc k).toArray := by
  have := ext_bc (k := k) #[] h
  simpa using this
theorem get_bc (k : List UInt8) (b : Array Value) (j : Nat) (h : k.length ≤ j) : ((bc k).toArray ++ b)[j]? = b[j - k.length]? := by
  rw [Array.getElem?_append, if_neg (by simp [bc_length]; omega)]; simp [bc_length]
theorem splice_bc (k : List UInt8) (b vs : Array Value) (o : Nat) (h : k.length ≤ o) (hs : o + vs.size ≤ k.length + b.size) : splice ((bc k).toArray ++ b) o vs = (bc k).toArray ++ splice b (o - k.length) vs := by
  apply Array.ext_getElem?
  intro j
  rw [splice_get (by simp [bc_length]; omega), Array.getElem?_append, Array.getElem?_append]
  simp only [List.size_toArray, bc_length]
  by_cases h1 : j < k.length
  · rw [if_neg (by omega), if_pos h1, if_pos h1]
  · rw [if_neg h1, if_neg h1, splice_get (by omega)]
    by_cases h2 : o ≤ j ∧ j < o + vs.size
    · rw [if_pos h2, if_pos (by omega)]; congr 1; omega
    · rw [if_neg h2, if_neg (by omega)]
theorem splice_lit (l : List Value) (o : Nat) (v : Value) (h : o < l.length) : splice (List.toArray l) o (List.toArray [v]) = List.toArray (l.set o v) := by
  rw [splice_one _ _ _ (by simpa using h)]; simp
theorem splice_id {k k' : List UInt8} (b : Array Value) (h : k.length = k'.length) : splice ((bc k).toArray ++ b) 0 (bc k').toArray = (bc k').toArray ++ b := by
  apply Array.ext_getElem?
  intro j
  rw [splice_get (by simp [bc_length]; omega), Array.getElem?_append, Array.getElem?_append]
  simp only [List.size_toArray, bc_length, Nat.zero_add, Nat.zero_le, true_and, Nat.sub_zero, h]
  split <;> rfl
theorem splice_bc_all {k k' : List UInt8} (h : k.length = k'.length) : splice (bc k).toArray 0 (bc k').toArray = (bc k').toArray := splice_all _ _ (by simp [bc_length, h])
theorem u8w (n : Int) : IntKind.u8.wrap n = n % 256 := by
  unfold IntKind.wrap
  simp only [IntKind.signed, IntKind.bits]
  simp
theorem i64w (n : Int) : IntKind.i64.wrap n = wr n := rfl
/-- one byte of an array -/
theorem set_bc (k : List UInt8) (j : Nat) (x : UInt8) : ((bc k).set j (.int .u8 x.toNat)) = bc (k.set j x) := by
  unfold bc
  rw [List.map_set]
def allOne (vs : Array Value) : Prop := ∀ u ∈ vs.toList, oneCell u
theorem allOne_bc (k : List UInt8) : allOne (bc k).toArray := by intro u hu; exact bc_one k u (by simpa using hu)
theorem allOne_nil : allOne (List.toArray []) := by intro u hu; simp at hu
theorem allOne_cons (v : Value) (l : List Value) (hv : oneCell v) (hl : allOne (List.toArray l)) : allOne (List.toArray (v :: l)) := by
  intro u hu
  simp only [List.mem_cons] at hu
  rcases hu with rfl | hu
  · exact hv
  · exact hl u (by simpa using hu)
theorem allOne_app (a b : Array Value) (ha : allOne a) (hb : allOne b) : allOne (a ++ b) := by
  intro u hu
  simp only [Array.toList_append, List.mem_append] at hu
  exact hu.elim (ha u) (hb u)
theorem CallF_of {P : Program} {f : FuncId} (hc : ∀ args w, (callFunc f args).run P w = .ok (.enter f args) w) {args : Array Value} {w : World} {K : Value → World → Prop} (h : Calls P f args w (retK K)) : CallF P f args w K := by
  unfold CallF; rw [hc]; exact h
theorem CallF_by {P : Program} {f : FuncId} (hc : ∀ args w, (callFunc f args).run P w = .ok (.enter f args) w) {args : Array Value} {w : World} {K R : Value → World → Prop} (h : Calls P f args w (retK R))
    (hk : ∀ v w', R v w' → K v w') : CallF P f args w K := CallF_of hc (Calls.ret_mono h hk)
theorem Loop0 {w : World} {body : World → (World → Prop) → Prop} (I : World → Prop) (μ : World → Nat) (h0 : I w) (h : ∀ w, I w → body w fun w' => I w' ∧ μ w' < μ w) : LoopF 0 [] w body := ⟨I, μ, h0, h⟩
theorem Loop1 {a : Value} {w : World} {body : Value → World → (Value → World → Prop) → Prop} (I : Value → World → Prop) (μ : Value → World → Nat) (h0 : I a w)
    (h : ∀ x w, I x w → body x w fun x' w' => I x' w' ∧ μ x' w' < μ x w) : LoopF 1 [a] w body := ⟨I, μ, h0, h⟩
theorem Loop2 {a b : Value} {w : World} {body : Value → Value → World → (Value → Value → World → Prop) → Prop} (I : Value → Value → World → Prop) (μ : Value → Value → World → Nat) (h0 : I a b w)
    (h : ∀ x y w, I x y w → body x y w fun x' y' w' => I x' y' w' ∧ μ x' y' w' < μ x y w) : LoopF 2 [a, b] w body := ⟨I, μ, h0, h⟩
theorem Loop3 {a b c : Value} {w : World} {body : Value → Value → Value → World → (Value → Value → Value → World → Prop) → Prop} (I : Value → Value → Value → World → Prop) (μ : Value → Value → Value → World → Nat) (h0 : I a b c w)
    (h : ∀ x y z w, I x y z w → body x y z w fun x' y' z' w' => I x' y' z' w' ∧ μ x' y' z' w' < μ x y z w) : LoopF 3 [a, b, c] w body := ⟨I, μ, h0, h⟩
theorem Loop4 {a b c d : Value} {w : World} {body : Value → Value → Value → Value → World → (Value → Value → Value → Value → World → Prop) → Prop} (I : Value → Value → Value → Value → World → Prop) (μ : Value → Value → Value → Value → World → Nat) (h0 : I a b c d w)
    (h : ∀ x y z u w, I x y z u w → body x y z u w fun x' y' z' u' w' => I x' y' z' u' w' ∧ μ x' y' z' u' w' < μ x y z u w) : LoopF 4 [a, b, c, d] w body := ⟨I, μ, h0, h⟩
theorem Join0 {body : (World → Prop) → Prop} {r : World → Prop} (J : World → Prop) (h : body J) (hr : ∀ w, J w → r w) : LetJ 0 body r := ⟨J, h, hr⟩
theorem Join1 {body : (Value → World → Prop) → Prop} {r : Value → World → Prop} (J : Value → World → Prop) (h : body J) (hr : ∀ a w, J a w → r a w) : LetJ 1 body r := ⟨J, h, hr⟩
theorem Join2 {body : (Value → Value → World → Prop) → Prop} {r : Value → Value → World → Prop} (J : Value → Value → World → Prop) (h : body J) (hr : ∀ a b w, J a b w → r a b w) : LetJ 2 body r := ⟨J, h, hr⟩
theorem Join3 {body : (Value → Value → Value → World → Prop) → Prop} {r : Value → Value → Value → World → Prop} (J : Value → Value → Value → World → Prop) (h : body J) (hr : ∀ a b c w, J a b c w → r a b c w) : LetJ 3 body r := ⟨J, h, hr⟩
theorem cells_agg (cs : Array Value) : (Value.agg cs).cells = cs := rfl
theorem cells_int (k : IntKind) (n : Int) : (Value.int k n).cells = #[.int k n] := rfl
theorem cells_bool (b : Bool) : (Value.bool b).cells = #[.bool b] := rfl
theorem cells_str (b : ByteArray) : (Value.string b).cells = #[.string b] := rfl
theorem cells_ptr (b : Option Addr) : (Value.pointer b).cells = #[.pointer b] := rfl
theorem cells_sl (a : Option Addr) (n c : Nat) : (Value.slice a n c).cells = #[.slice a n c] := rfl
theorem cells_map (a : Option Nat) : (Value.map a).cells = #[.map a] := rfl
theorem cells_func (f : Fn) (a b : Array Value) : (Value.func f a b).cells = #[.func f a b] := rfl
theorem cells_iface (t : TypeId) (v : Value) : (Value.iface t v).cells = #[.iface t v] := rfl
theorem put_alloc (w : World) (o o' : Obj) : put (w.alloc o) (sz w) o' = w.alloc o' := by
  unfold put World.alloc sz
  congr 1
  apply Array.ext_getElem?
  intro i
  rw [Array.getElem?_setIfInBounds, Array.getElem?_push, Array.getElem?_push, Array.size_push]
  by_cases h : w.heap.size = i
  · subst h; simp
  · rw [if_neg h, if_neg fun e => h e.symm, if_neg fun e => h e.symm]
theorem allOne_int (k : IntKind) (n : Int) (l : List Value) (h : allOne (List.toArray l)) : allOne (List.toArray (.int k n :: l)) := allOne_cons _ _ trivial h
theorem allOne_sl (a : Option Addr) (n c : Nat) (l : List Value) (h : allOne (List.toArray l)) : allOne (List.toArray (.slice a n c :: l)) := allOne_cons _ _ trivial h
theorem allOne_ptr (a : Option Addr) (l : List Value) (h : allOne (List.toArray l)) : allOne (List.toArray (.pointer a :: l)) := allOne_cons _ _ trivial h
theorem allOne_map (a : Option Nat) (l : List Value) (h : allOne (List.toArray l)) : allOne (List.toArray (.map a :: l)) := allOne_cons _ _ trivial h
theorem allOne_bool (a : Bool) (l : List Value) (h : allOne (List.toArray l)) : allOne (List.toArray (.bool a :: l)) := allOne_cons _ _ trivial h
theorem allOne_str (a : ByteArray) (l : List Value) (h : allOne (List.toArray l)) : allOne (List.toArray (.string a :: l)) := allOne_cons _ _ trivial h
theorem allOne_iface (t : TypeId) (v : Value) (l : List Value) (h : allOne (List.toArray l)) : allOne (List.toArray (.iface t v :: l)) := allOne_cons _ _ trivial h
theorem allOneT_ {P : Prop} (h : P := by first | (((repeat' (first | exact allOne_bc _ | exact allOne_nil | (refine allOne_int _ _ _ ?_) | (refine allOne_sl _ _ _ _ ?_) | (refine allOne_ptr _ _ ?_) | (refine allOne_map _ _ ?_) | (refine allOne_bool _ _ ?_) | (refine allOne_str _ _ ?_) | (refine allOne_iface _ _ _ ?_) | (refine allOne_app _ _ ?_ ?_))); done); done) | fail) : P := h
theorem put_allocN (w : World) (b : Nat) (o o' : Obj) (h : b = sz w) : put (w.alloc o) b o' = w.alloc o' := by subst h; exact put_alloc w o o'
theorem splice_bca {k k' : List UInt8} {l l' : List Value} (h : k.length = k'.length) (h' : l.length = l'.length) : splice ((bc k).toArray ++ List.toArray l) 0 ((bc k').toArray ++ List.toArray l') = (bc k').toArray ++ List.toArray l' :=
  splice_all _ _ (by simp [bc_length, h, h'])
theorem ext_bca {k : List UInt8} {l : List Value} {n : Nat} (h : k.length + l.length = n) : ((bc k).toArray ++ List.toArray l).extract 0 n = (bc k).toArray ++ List.toArray l := by
  have : n = ((bc k).toArray ++ List.toArray l).size := by simp [bc_length, h]
  rw [this]; exact Array.extract_size
theorem szT_ {P : Prop} (h : P := by first | ((first | omega | (simp only [List.length_cons, List.length_nil, sz_alloc, sz_put, sz_drew]; done) | (simp only [List.length_replicate, List.length_cons, List.length_nil, *]; done) | (simp only [List.size_toArray, List.length_cons, List.length_nil, sz_alloc, sz_put, sz_drew] at *; omega)); done) | fail) : P := h
theorem hpt_ {P : Prop} (h : P := by first | ((simp (disch := (first | assumption | (first | exact szT_ | fail))) only [MapAt, Hp_drew, Hp_alloc_old, Hp_alloc_new, Hp_put_same, Hp_put_other, *]); done) | fail) : P := h
end Go.Lf
/- A range over a function: what an iterator gives, and the law of the statement (no early leaving), in this framework's terms. -/
namespace Go.Lf
open Go

def keepO (A B : World) : Prop := sz A ≤ sz B ∧ ∀ b o, Hp A b = some o → o.isCells = false → Hp B b = some o
def keepW (A B : World) : Prop := sz A ≤ sz B ∧ ∀ b o, Hp A b = some o → o.isWalk = true → Hp B b = some o
theorem keepO.walks {A B : World} (h : keepO A B) : keepW A B := ⟨h.1, fun b o ho hw => h.2 b o ho (Obj.not_cells_of_walk hw)⟩
theorem keepW.trans {A B C : World} (h : keepW A B) (h' : keepW B C) : keepW A C := ⟨Nat.le_trans h.1 h'.1, fun b o ho hw => h'.2 b o (h.2 b o ho hw) hw⟩
theorem keepW.put {A : World} {b : Nat} {o o' : Obj} (h : Hp A b = some o) (hw : o.isWalk = false) : keepW A (put A b o') := by
  refine ⟨by rw [sz_put]; exact Nat.le_refl _, fun c x hx hxw => ?_⟩
  by_cases e : c = b
  · subst e; rw [h] at hx; cases hx; rw [hw] at hxw; cases hxw
  · rw [Hp_put_other _ _ _ _ e]; exact hx

/-- What an iterator gives: the elements of one of the lists S, each handed to yield. -/
def Gives (P : Program) (gf : Nat) (lb : Array Value) {α : Type} (enc : α → Value) (ok : α → Prop) (N : Nat) (S : List α → Prop) (w : World) : Prop :=
  ∀ (l : Nat) (J : List α → World → Prop) (W : World), Ext (fun _ => False) w W →
    (∀ pre A B M, J pre A → Ext M A B → (∀ b, b < sz A → M b → sz W ≤ b ∧ ∃ o, Hp A b = some o ∧ o.isWalk = true) → J pre B) →
    (∀ pre x A, ok x → pre.length < N → J pre A → YieldAt Fence.wide 0 P l #[enc x] A fun e B => e = .returned (.bool true) ∧ J (pre ++ [x]) B ∧ keepW A B) →
    J [] W → Calls P gf (#[.func (.yield l) #[] #[]] ++ lb) W (retK fun _ B => ∃ xs, S xs ∧ J xs B)

theorem putObj_put (w : World) (b : Nat) (o : Obj) : w.putObj b o = put w b o := rfl

theorem act_set (n : Nat) (E : Env) (p : Nat) (v : Value) : (act n E).tmps.setIfInBounds p v = (act n (E.set p v)).tmps := by
  have := congrArg Act.tmps (act_put n E (some p) v)
  exact this

theorem rf_law {P : Program} {n : Nat} {E : Env} {w : World} {g : Operand} {p : Nat} {assign body : Code} {Q : Exit → Act → World → Prop} {gf : Nat} {lb : Array Value} {α : Type} {enc : α → Value} {ok : α → Prop} {N : Nat} {S : List α → Prop}
    (hg : ev n E g = .func (.func gf) #[] lb) (eg : ∀ args w, (callFunc gf args).run P w = .ok (.enter gf args) w) (hG : Gives P gf lb enc ok N S w)
    (I : List α → World → Prop) (hI : ∀ pre A B M, I pre A → Ext M A B → (∀ b, b < sz A → M b → sz w ≤ b ∧ ∃ o, Hp A b = some o ∧ o.isCells = false) → I pre B) (h0 : I [] w)
    (hbody : ∀ l pre x A, ok x → pre.length < N → I pre A → assign.wpIn (Gr (some l)) 0 P (Exit.then (fun a1 A1 => keepO A A1 ∧
        ∀ A2, Ext (fun b => b = l) A1 A2 → (∃ o, Hp A1 l = some o ∧ o.isCells = false) → sz w ≤ l → body.wpIn (Gr (some l)) 0 P (fun e _ B => e = .normal ∧ keepO A2 B ∧ I (pre ++ [x]) B) a1 A2) (fun _ _ _ => False))
        (act n (E.set p (enc x))) A)
    (hdone : ∀ D xs A, S xs → I xs A → Hp A D = some (.deferred (some [])) → sz w ≤ D → Q .normal { act n E with defers := [{ target := .collected D, args := #[] }] } A) :
    (Code.rangeFunc g #[p] assign body).wpIn (Gr none) 0 P Q (act n E) w := by
  refine wpIn_rangeFunc fun fn hfn => ?_
  let D := sz w
  let l := sz w + 1
  let rec0 : LoopState → Option Code → Loop := fun st pe => { state := st, pending := pe, fn, tmps := (act n E).tmps, params := #[p], assign, body, defers := D }
  let W1 := (w.alloc (.deferred (some []))).alloc (.loop (rec0 .ready none))
  have hL1 : Hp W1 l = some (.loop (rec0 .ready none)) := Hp_alloc_new _ _ _ (by rw [sz_alloc])
  have hD1 : Hp W1 D = some (.deferred (some [])) := (Hp_alloc_old _ _ _ (by rw [sz_alloc]; exact Nat.lt_succ_self _)).trans (Hp_alloc_new _ _ _ rfl)
  have hx1 : Ext (fun _ => False) w W1 := ((Ext.refl _ w).alloc _).alloc _
  have hI1 : I [] W1 := hI _ _ _ _ h0 hx1 fun b _ h => h.elim
  refine ⟨l, [{ target := .collected D, args := #[] }], W1, { target := .fn (.func gf) lb, args := #[.func (.yield l) #[] #[]] }, W1, gf, #[.func (.yield l) #[] #[]] ++ lb, W1, run_enterLoop_outer _ _ _ _ _, ?_, fun _ _ => trivial, ?_, fun h => (by cases h), ?_⟩
  · simp only [resolve, act_eval, rangeCall, hg]
    simp [go_sem]
    rfl
  · simp [invoke, go_sem, eg]
  refine callsIn_wide.2 ?_
  refine (hG l (fun pre W => I pre W ∧ Hp W l = some (.loop (rec0 .ready none)) ∧ Hp W D = some (.deferred (some []))) W1 hx1 ?_ ?_ ⟨hI1, hL1, hD1⟩).mono ?_
  · rintro pre A B M ⟨hi, hl, hd⟩ hx hm
    refine ⟨hI _ _ _ _ hi hx fun b hb h => ?_, ?_, ?_⟩
    · obtain ⟨h1, o, ho, hw⟩ := hm b hb h
      exact ⟨Nat.le_trans hx1.size h1, o, ho, Obj.not_cells_of_walk hw⟩
    · refine hx.at hl fun h => ?_
      obtain ⟨_, o, ho, hw⟩ := hm _ (Hp_lt hl) h
      rw [hl] at ho; cases ho; cases hw
    · refine hx.at hd fun h => ?_
      obtain ⟨_, o, ho, hw⟩ := hm _ (Hp_lt hd) h
      rw [hd] at ho; cases ho; cases hw
  · rintro pre x A hok hN ⟨hi, hl, hd⟩
    have hy := run_yield (P := P) (args := #[enc x]) hl rfl
    have hlt := Hp_lt hl
    have hDl : D ≠ l := Nat.ne_of_lt (Nat.lt_succ_self _)
    refine ⟨fn, _, assign, body, hy, roundIn_of_wpIn hfn ?_⟩
    have e1 : ((rec0 .ready none).params.zip #[enc x]).foldl (fun t (q, v) => t.setIfInBounds q v) (rec0 .ready none).tmps = (act n (E.set p (enc x))).tmps := by
      show (#[p].zip #[enc x]).foldl (fun t (q, v) => t.setIfInBounds q v) (act n E).tmps = _
      rw [← act_set]; simp [Array.zip]
    have e2 : ({ tmps := ((rec0 .ready none).params.zip #[enc x]).foldl (fun t (q, v) => t.setIfInBounds q v) (rec0 .ready none).tmps, defers := [] } : Act) = act n (E.set p (enc x)) := by rw [e1]; rfl
    rw [e2]
    refine wpIn_mono (hbody l pre x A hok hN hi) ?_
    intro e a1 A1 hpost
    cases e with
    | normal =>
      obtain ⟨hk1, hb⟩ := hpost
      have hl1 := hk1.2 _ _ hl rfl
      have hd1 := hk1.2 _ _ hd rfl
      have hlt1 := Hp_lt hl1
      refine ⟨_, run_beginRound hl1 rfl, ?_⟩
      have hx2 : Ext (fun b => b = l) A1 (A1.putObj l (.loop { rec0 .ready none with state := .busy })) := by
        rw [putObj_put]; exact (Ext.refl _ _).put _ _ fun _ => rfl
      refine wpIn_mono (hb _ hx2 ⟨_, hl1, rfl⟩ (Nat.le_succ _)) ?_
      rintro e a B ⟨rfl, hk2, hi2⟩
      have hl2 := hk2.2 l _ (Hp_put_same _ _ _ hlt1) rfl
      have hd2 := hk2.2 D _ ((Hp_put_other _ _ _ _ hDl).trans hd1) rfl
      refine ⟨_, _, run_endRound none hl2, rfl, ⟨?_, ?_, ?_⟩, ?_⟩
      · refine hI _ B _ (fun b => b = l) hi2 ((Ext.refl _ _).put _ _ fun _ => rfl) fun b _ h => ?_
        subst h
        exact ⟨Nat.le_succ _, _, hl2, rfl⟩
      · exact Hp_put_same _ _ _ (Hp_lt hl2)
      · exact (Hp_put_other _ _ _ _ hDl).trans hd2
      · exact ((hk1.walks.trans (keepW.put hl1 rfl)).trans hk2.walks).trans (keepW.put hl2 rfl)
    | _ => exact hpost.elim
  · intro e W2 hpost
    cases e with
    | returned v =>
      obtain ⟨xs, hS, hi, hl, hd⟩ := hpost
      refine ⟨none, _, run_endLoop hl (by simp [rec0]), ?_⟩
      have hDl : D ≠ l := Nat.ne_of_lt (Nat.lt_succ_self _)
      refine hdone D xs _ hS ?_ ((Hp_put_other _ _ _ _ hDl).trans hd) (Nat.le_refl _)
      refine hI _ W2 _ (fun b => b = l) hi ((Ext.refl _ _).put _ _ fun _ => rfl) fun b _ h => ?_
      subst h
      exact ⟨Nat.le_succ _, _, hl, rfl⟩
    | panicked _ => exact hpost.elim
    | outgrown => exact hpost.elim

/-- One quiet operation of a region, whatever deferred calls stand. -/
theorem wpOp_val {P : Program} {r : Option Nat} {ops : Array Oper} {Q : Exit → Act → World → Prop} {i : Nat} {o : Oper} {a : Act} {v : Value} {w : World} {K : Act → World → Prop} {n : Nat} {E : Env}
    (hi : ops[i]? = some o) (hgd : o.guard = none) (ha : a.eval = ev n E) (hdf : ∀ c, o.op ≠ .defer c) (hr : (semQ (ev n E) o).run P w = .ok v w) (hk : K (a.put o.dst v) w) : wpOpIn (Gr r) 0 P ops Q i K a w := by
  unfold wpOpIn
  simp only [hi]
  have hw : Region.wanted o (yielded ops a.tmps) = true := by unfold Region.wanted; rw [hgd]
  rw [if_pos hw]
  unfold Oper.wpIn
  refine ⟨fun _ _ => trivial, ?_⟩
  rw [Oper.semAt_eq _ _ _ hdf, ha, semQ_exec hr, Oper.uponIn_value]
  exact hk
theorem evalD (n : Nat) (E : Env) (ds : List Deferred) : ({ act n E with defers := ds } : Act).eval = ev n E := by rw [← act_eval]; rfl
theorem putD (n : Nat) (E : Env) (ds : List Deferred) (d : Option Nat) (v : Value) : ({ act n E with defers := ds } : Act).put d v = { act n (E.put d v) with defers := ds } := by
  rw [← act_put]; cases d <;> rfl
theorem Vec.block {w : World} {e z n : Nat} {v : Value} {cells : List Value} {Q : Nat → Prop} (h : Vec w e z v n cells Q) {b : Nat} (hb : some b = blockOf v) : Q b ∧ ∃ row, Hp w b = some (.cells row e (0, 0)) := by
  rcases h.2 with ⟨rfl, _⟩ | ⟨b', o, cap, row, rfl, _, hb', _, _, hQ⟩
  · cases hb
  · simp only [blockOf, Option.some.injEq] at hb; subst hb; exact ⟨hQ, row, hb'⟩
theorem Vec.fresh {w : World} {e z n : Nat} (row : Array Value) (h : row.size = n * z) : Vec (w.alloc (.cells row e (0, 0))) e z (.slice (some ⟨sz w, 0, none⟩) n n) n row.toList (fun b => b = sz w) :=
  ⟨by simpa using h, .inr ⟨sz w, 0, n, row, rfl, Nat.le_refl _, Hp_alloc_new _ _ _ rfl, by omega, fun j hj => by simp, rfl⟩⟩
theorem Vec.extc {w w' : World} {e z n : Nat} {v : Value} {cells : List Value} {Q M : Nat → Prop} (h : Vec w e z v n cells Q) (x : Ext M w w') (hq : ∀ b row, Hp w b = some (.cells row e (0, 0)) → Q b → ¬ M b) : Vec w' e z v n cells Q := by
  obtain ⟨h1, h2⟩ := h
  refine ⟨h1, h2.imp id ?_⟩
  rintro ⟨b, o, cap, row, hv, hn, hb, ho, hc, hQ⟩
  exact ⟨b, o, cap, row, hv, hn, x.at hb (hq b row hb hQ), ho, hc, hQ⟩
end Go.Lf
/- Entries of the model that stand for bodies without text: internal/bytealg.Compare. -/
namespace Go.Lf
open Go
theorem run_loadBytes {P : Program} {w : World} {b : Nat} {row : Array Value} {U : TypeId} {fr : Nat × Nat} (h : Hp w b = some (.cells row U fr)) : ∀ (l : List UInt8) (o : Nat) (acc : ByteArray), (∀ j, j < l.length → row[o + j]? = (bc l)[j]?) →
    (Extern.Bytes.loadBytes ⟨b, o, none⟩ l.length acc).run P w = .ok ⟨acc.data ++ l.toArray⟩ w
  | [], o, acc, _ => by simp [Extern.Bytes.loadBytes]
  | x :: l, o, acc, hr => by
    have h0 : w.cell? ⟨b, o, none⟩ = some (.int .u8 x.toNat) := by
      rw [cell_Hp h]; simpa [bc] using hr 0 (by simp)
    have ih := run_loadBytes (P := P) h l (o + 1) (acc.push x) fun j hj => by
      have := hr (j + 1) (by simpa using hj)
      rw [show o + 1 + j = o + (j + 1) by omega, this]; simp [bc]
    simp only [List.length_cons, Extern.Bytes.loadBytes, Sem.run_bind, run_load, h0, Result.andThen]
    have e : (⟨b, o, none⟩ : Addr).add 1 = ⟨b, o + 1, none⟩ := addr_add _ _ _
    have e2 : ((x.toNat : Int).toNat.toUInt8) = x := by simp
    rw [e, e2, ih]
    congr 1
    apply ByteArray.ext
    simp [ByteArray.push]
/-- A slice value whose bytes are these. -/
def BOf (w : World) (v : Value) (l : List UInt8) : Prop :=
  (v = .slice none 0 0 ∧ l = []) ∨ ∃ b o cap row U fr, v = .slice (some ⟨b, o, none⟩) l.length cap ∧ Hp w b = some (.cells row U fr) ∧ ∀ j, j < l.length → row[o + j]? = (bc l)[j]?
theorem Bytes.of {u8 : Nat} {w : World} {v : Value} {l : List UInt8} {Q : Nat → Prop} (h : Bytes u8 w v l Q) : BOf w v l := by
  rcases h.2 with ⟨rfl, h2⟩ | ⟨b, o, cap, row, rfl, hn, hb, ho, hc, _⟩
  · exact .inl ⟨rfl, List.length_eq_zero_iff.1 h2⟩
  · exact .inr ⟨b, o, cap, row, _, _, rfl, hb, fun j hj => hc j (by omega)⟩
theorem run_bytesOf {P : Program} {w : World} {v : Value} {l : List UInt8} (h : BOf w v l) : (Extern.Bytes.bytesOf v).run P w = .ok ⟨l.toArray⟩ w := by
  rcases h with ⟨rfl, rfl⟩ | ⟨b, o, cap, row, U, fr, rfl, hb, hc⟩
  · rfl
  · show (Extern.Bytes.loadBytes ⟨b, o, none⟩ l.length .empty).run P w = _
    rw [run_loadBytes hb l o .empty hc]
    congr 1
    apply ByteArray.ext
    show (#[] : Array UInt8) ++ l.toArray = l.toArray
    simp
theorem run_compare {P : Program} {w : World} {x y : Value} {a b : List UInt8} (hx : BOf w x a) (hy : BOf w y b) :
    (Extern.BytealgCompare.compare #[x, y]).run P w = .ok (i64 (Lib.compareBytes a b)) w := by
  change Sem.run P (do pure (goInt (Extern.BytealgCompare.cmp (← Extern.Bytes.bytesOf x) (← Extern.Bytes.bytesOf y)))) w = _
  simp only [Sem.run_bind, Sem.run_pure, Result.andThen, run_bytesOf hx, run_bytesOf hy]
  rw [Lib.cmp_eq]
  rfl
theorem CallF_ext {P : Program} {f : FuncId} {fn : Func} {e : Array Value → Sem Value} (hf : P.funcs[f]? = some fn) (hname : (fn.name == "runtime.NumGoroutine") = false)
    (hb : fn.body.isNone = true) (hn : Extern.findNext fn = none) (he : Extern.find fn = some e) {args : Array Value} {w : World} {v : Value} (hr : (e args).run P w = .ok v w) (K : Value → World → Prop) : CallF P f args w K = K v w := by
  unfold CallF
  rw [run_callFunc_extern hf hname hb hn he, hr]
  rfl
/-- The first constant string that a body indexes. -/
def bigOps : List Oper → Option ByteArray
  | [] => none
  | o :: l => match o.op with
    | .index _ (.const (.string s)) _ => some s
    | _ => bigOps l
def bigOf : Code → Option ByteArray
  | .region _ ops _ => bigOps ops.toList
  | .seq x y => match bigOf x with | some s => some s | none => bigOf y
  | .cond _ x y => match bigOf x with | some s => some s | none => bigOf y
  | .block _ x => bigOf x
  | .loop x => bigOf x
  | .scope x => bigOf x
  | _ => none
theorem p_indexStr {P : Program} {T : Nat} (hu : ∀ w, (underlying T).run P w = .ok .string w) (s : ByteArray) (k : IntKind) (i : Int) (K : Value → Prop) (h0 : 0 ≤ i) (h1 : i < s.size) :
    PRun P (Instr.index T (.string s) (.int k i)) K = K (.int .u8 ((s[i.toNat]?).getD 0).toNat) := PRun_eq (fun w => by
  unfold Instr.index
  have e : s[i.toNat]? = some (s[i.toNat]'(by omega)) := getElem?_pos s i.toNat (by omega)
  simp only [asIntOf, Sem.run_bind, Sem.run_pure, Result.andThen_ok, hu]
  rw [if_pos h0, e]
  rfl) K
end Go.Lf
/- Slices of elements of z cells each, element by element. -/
namespace Go.Lf
open Go
section
variable {α : Type} (f : α → List Value) (z : Nat)
theorem flat_length : ∀ (L : List α), (∀ x ∈ L, (f x).length = z) → (L.flatMap f).length = L.length * z
  | [], _ => by simp
  | x :: L, h => by
    rw [List.flatMap_cons, List.length_append, flat_length L fun y hy => h y (by simp [hy]), h x (by simp), List.length_cons, Nat.succ_mul, Nat.add_comm]
theorem flat_get : ∀ (L : List α), (∀ x ∈ L, (f x).length = z) → ∀ (i : Nat) (x : α), L[i]? = some x → ∀ j, j < z → (L.flatMap f)[i * z + j]? = (f x)[j]?
  | [], _, i, x, h, j, _ => by simp at h
  | y :: L, hL, 0, x, h, j, hj => by
    simp at h; subst h
    rw [List.flatMap_cons, List.getElem?_append_left (by rw [hL y (by simp)]; omega)]; simp
  | y :: L, hL, i + 1, x, h, j, hj => by
    rw [List.flatMap_cons, List.getElem?_append_right (by rw [hL y (by simp), Nat.succ_mul]; omega), hL y (by simp), show (i + 1) * z + j - z = i * z + j by rw [Nat.succ_mul]; omega]
    exact flat_get L (fun y hy => hL y (by simp [hy])) i x (by simpa using h) j hj
/-- The row reads, from place o on, as the elements L. -/
def VRow (row : Array Value) (o : Nat) (L : List α) : Prop :=
  (∀ x ∈ L, (f x).length = z) ∧ o + L.length * z ≤ row.size ∧ ∀ i x, L[i]? = some x → ∀ j, j < z → row[o + i * z + j]? = (f x)[j]?
variable {f z}
theorem idx_lt {i n z : Nat} (h : i < n) : i * z + z ≤ n * z := by
  have := Nat.mul_le_mul_right z (Nat.succ_le_of_lt h); rwa [Nat.succ_mul] at this
theorem VRow.get {row : Array Value} {o : Nat} {L : List α} (h : VRow f z row o L) {i : Nat} {x : α} (hx : L[i]? = some x) : row.extract (o + i * z) (o + i * z + z) = (f x).toArray := by
  obtain ⟨h1, h2, h3⟩ := h
  have hi : i < L.length := (List.getElem?_eq_some_iff.1 hx).1
  have hlx := h1 x (List.mem_of_getElem? hx)
  have hle := idx_lt (z := z) hi
  apply Array.ext_getElem?
  intro j
  have e : (f x).toArray[j]? = (f x)[j]? := List.getElem?_toArray
  rw [Array.getElem?_extract, e]
  by_cases hj : j < z
  · rw [if_pos (by omega)]; exact h3 i x hx j hj
  · rw [if_neg (by omega), List.getElem?_eq_none (by omega)]
theorem VRow.set {row : Array Value} {o : Nat} {L : List α} (h : VRow f z row o L) {i : Nat} (hi : i < L.length) {x : α} (hx : (f x).length = z) : VRow f z (splice row (o + i * z) (f x).toArray) o (L.set i x) := by
  obtain ⟨h1, h2, h3⟩ := h
  have hle := idx_lt (z := z) hi
  have hsz : (splice row (o + i * z) (f x).toArray).size = row.size := by
    unfold splice; simp only [Array.size_append, Array.size_extract, List.size_toArray, hx]; omega
  refine ⟨fun y hy => ?_, by rw [hsz, List.length_set]; exact h2, fun k y hy j hj => ?_⟩
  · rcases List.mem_or_eq_of_mem_set hy with hy | rfl
    · exact h1 y hy
    · exact hx
  · have hk : k < L.length := by have := (List.getElem?_eq_some_iff.1 hy).1; simpa using this
    have hlk := idx_lt (z := z) hk
    rw [splice_get (by simp only [List.size_toArray, hx]; omega), List.size_toArray, hx]
    rw [List.getElem?_set] at hy
    by_cases e : i = k
    · subst e
      rw [if_pos rfl, if_pos hi] at hy
      cases hy
      rw [if_pos (by omega), List.getElem?_toArray, show o + i * z + j - (o + i * z) = j by omega]
    · rw [if_neg e] at hy
      rw [if_neg ?_]
      · exact h3 k y hy j hj
      · intro hh
        rcases Nat.lt_or_gt_of_ne e with h | h
        · have := idx_lt (z := z) h; omega
        · have := idx_lt (z := z) h; omega
theorem VRow.of {row : Array Value} {o cap : Nat} {L : List α} (hL : ∀ x ∈ L, (f x).length = z) (hn : L.length ≤ cap) (ho : o + cap * z ≤ row.size) (h : ∀ j, j < L.length * z → row[o + j]? = (L.flatMap f)[j]?) : VRow f z row o L :=
  ⟨hL, Nat.le_trans (Nat.add_le_add_left (Nat.mul_le_mul_right z hn) o) ho, fun i x hx j hj => by
    have hi : i < L.length := (List.getElem?_eq_some_iff.1 hx).1
    have := idx_lt (z := z) hi
    rw [Nat.add_assoc, h _ (by omega), flat_get f z L hL i x hx j hj]⟩
theorem VRow.flat {row : Array Value} {o : Nat} {L : List α} (h : VRow f z row o L) (hz : 0 < z) : ∀ j, j < L.length * z → row[o + j]? = (L.flatMap f)[j]? := by
  intro j hj
  have hi : j / z < L.length := Nat.div_lt_of_lt_mul (by rw [Nat.mul_comm]; exact hj)
  have e : j / z * z + j % z = j := by rw [Nat.mul_comm]; exact Nat.div_add_mod j z
  have hx : L[j / z]? = some L[j / z] := List.getElem?_eq_getElem hi
  have hm := Nat.mod_lt j hz
  rw [← e, ← Nat.add_assoc, h.2.2 _ _ hx _ hm, flat_get f z L h.1 _ _ hx _ hm]
end
/-- A slice value that reads as the elements L. -/
def Sl {α : Type} (f : α → List Value) (e z : Nat) (w : World) (v : Value) (L : List α) (Q : Nat → Prop) : Prop :=
  (∀ x ∈ L, (f x).length = z) ∧ ((v = .slice none 0 0 ∧ L = []) ∨
    ∃ b o cap row, v = .slice (some ⟨b, o, none⟩) L.length cap ∧ L.length ≤ cap ∧ Hp w b = some (.cells row e (0, 0)) ∧ o + cap * z ≤ row.size ∧ VRow f z row o L ∧ Q b)
section
variable {α : Type} {f : α → List Value} {e z : Nat} {w : World} {v : Value} {L : List α} {Q : Nat → Prop}
theorem Sl.of_vec (hL : ∀ x ∈ L, (f x).length = z) (h : Vec w e z v L.length (L.flatMap f) Q) : Sl f e z w v L Q := by
  refine ⟨hL, ?_⟩
  rcases h.2 with ⟨h1, h2⟩ | ⟨b, o, cap, row, h1, h2, h3, h4, h5, h6⟩
  · exact .inl ⟨h1, List.length_eq_zero_iff.1 h2⟩
  · exact .inr ⟨b, o, cap, row, h1, h2, h3, h4, VRow.of hL h2 h4 h5, h6⟩
theorem Sl.vec (hz : 0 < z) (h : Sl f e z w v L Q) : Vec w e z v L.length (L.flatMap f) Q := by
  refine ⟨flat_length f z L h.1, ?_⟩
  rcases h.2 with ⟨h1, h2⟩ | ⟨b, o, cap, row, h1, h2, h3, h4, h5, h6⟩
  · exact .inl ⟨h1, by rw [h2]; rfl⟩
  · exact .inr ⟨b, o, cap, row, h1, h2, h3, h4, h5.flat hz, h6⟩
theorem Sl.ext {w' : World} {M : Nat → Prop} (h : Sl f e z w v L Q) (x : Ext M w w') (hq : ∀ b, b < sz w → Q b → ¬ M b) : Sl f e z w' v L Q := by
  refine ⟨h.1, h.2.imp id ?_⟩
  rintro ⟨b, o, cap, row, h1, h2, h3, h4, h5, h6⟩
  exact ⟨b, o, cap, row, h1, h2, x.at h3 (hq b (Hp_lt h3) h6), h4, h5, h6⟩
theorem Sl.mono {Q' : Nat → Prop} (h : Sl f e z w v L Q) (hq : ∀ b, b < sz w → Q b → Q' b) : Sl f e z w v L Q' := by
  refine ⟨h.1, h.2.imp id ?_⟩
  rintro ⟨b, o, cap, row, h1, h2, h3, h4, h5, h6⟩
  exact ⟨b, o, cap, row, h1, h2, h3, h4, h5, hq b (Hp_lt h3) h6⟩
theorem Sl.nil (f : α → List Value) (e z : Nat) (w : World) (Q : Nat → Prop) : Sl f e z w (.slice none 0 0) [] Q := ⟨by simp, .inl ⟨rfl, rfl⟩⟩
theorem Sl.form (h : Sl f e z w v L Q) : ∃ a cap, v = .slice a L.length cap := by
  rcases h.2 with ⟨h1, h2⟩ | ⟨b, o, cap, row, h1, _⟩
  · exact ⟨_, 0, by rw [h1, h2]; rfl⟩
  · exact ⟨_, cap, h1⟩
theorem Sl.at (h : Sl f e z w v L Q) (hne : L ≠ []) : ∃ b o cap row, v = .slice (some ⟨b, o, none⟩) L.length cap ∧ L.length ≤ cap ∧ Hp w b = some (.cells row e (0, 0)) ∧ o + cap * z ≤ row.size ∧ VRow f z row o L ∧ Q b := by
  rcases h.2 with ⟨_, h2⟩ | h
  · exact absurd h2 hne
  · exact h
end
theorem Loop5 {a0 a1 a2 a3 a4 : Value} {w : World} {body : Value → Value → Value → Value → Value → World → (Value → Value → Value → Value → Value → World → Prop) → Prop} (I : Value → Value → Value → Value → Value → World → Prop) (μ : Value → Value → Value → Value → Value → World → Nat) (h0 : I a0 a1 a2 a3 a4 w)
    (h : ∀ x0 x1 x2 x3 x4 w, I x0 x1 x2 x3 x4 w → body x0 x1 x2 x3 x4 w fun y0 y1 y2 y3 y4 w' => I y0 y1 y2 y3 y4 w' ∧ μ y0 y1 y2 y3 y4 w' < μ x0 x1 x2 x3 x4 w) : LoopF 5 [a0, a1, a2, a3, a4] w body := ⟨I, μ, h0, h⟩
theorem Loop6 {a0 a1 a2 a3 a4 a5 : Value} {w : World} {body : Value → Value → Value → Value → Value → Value → World → (Value → Value → Value → Value → Value → Value → World → Prop) → Prop} (I : Value → Value → Value → Value → Value → Value → World → Prop) (μ : Value → Value → Value → Value → Value → Value → World → Nat) (h0 : I a0 a1 a2 a3 a4 a5 w)
    (h : ∀ x0 x1 x2 x3 x4 x5 w, I x0 x1 x2 x3 x4 x5 w → body x0 x1 x2 x3 x4 x5 w fun y0 y1 y2 y3 y4 y5 w' => I y0 y1 y2 y3 y4 y5 w' ∧ μ y0 y1 y2 y3 y4 y5 w' < μ x0 x1 x2 x3 x4 x5 w) : LoopF 6 [a0, a1, a2, a3, a4, a5] w body := ⟨I, μ, h0, h⟩
theorem Loop7 {a0 a1 a2 a3 a4 a5 a6 : Value} {w : World} {body : Value → Value → Value → Value → Value → Value → Value → World → (Value → Value → Value → Value → Value → Value → Value → World → Prop) → Prop} (I : Value → Value → Value → Value → Value → Value → Value → World → Prop) (μ : Value → Value → Value → Value → Value → Value → Value → World → Nat) (h0 : I a0 a1 a2 a3 a4 a5 a6 w)
    (h : ∀ x0 x1 x2 x3 x4 x5 x6 w, I x0 x1 x2 x3 x4 x5 x6 w → body x0 x1 x2 x3 x4 x5 x6 w fun y0 y1 y2 y3 y4 y5 y6 w' => I y0 y1 y2 y3 y4 y5 y6 w' ∧ μ y0 y1 y2 y3 y4 y5 y6 w' < μ x0 x1 x2 x3 x4 x5 x6 w) : LoopF 7 [a0, a1, a2, a3, a4, a5, a6] w body := ⟨I, μ, h0, h⟩
theorem Loop8 {a0 a1 a2 a3 a4 a5 a6 a7 : Value} {w : World} {body : Value → Value → Value → Value → Value → Value → Value → Value → World → (Value → Value → Value → Value → Value → Value → Value → Value → World → Prop) → Prop} (I : Value → Value → Value → Value → Value → Value → Value → Value → World → Prop) (μ : Value → Value → Value → Value → Value → Value → Value → Value → World → Nat) (h0 : I a0 a1 a2 a3 a4 a5 a6 a7 w)
    (h : ∀ x0 x1 x2 x3 x4 x5 x6 x7 w, I x0 x1 x2 x3 x4 x5 x6 x7 w → body x0 x1 x2 x3 x4 x5 x6 x7 w fun y0 y1 y2 y3 y4 y5 y6 y7 w' => I y0 y1 y2 y3 y4 y5 y6 y7 w' ∧ μ y0 y1 y2 y3 y4 y5 y6 y7 w' < μ x0 x1 x2 x3 x4 x5 x6 x7 w) : LoopF 8 [a0, a1, a2, a3, a4, a5, a6, a7] w body := ⟨I, μ, h0, h⟩
theorem Join4 {body : (Value → Value → Value → Value → World → Prop) → Prop} {r : Value → Value → Value → Value → World → Prop} (J : Value → Value → Value → Value → World → Prop) (h : body J) (hr : ∀ x0 x1 x2 x3 w, J x0 x1 x2 x3 w → r x0 x1 x2 x3 w) : LetJ 4 body r := ⟨J, h, hr⟩
theorem Join5 {body : (Value → Value → Value → Value → Value → World → Prop) → Prop} {r : Value → Value → Value → Value → Value → World → Prop} (J : Value → Value → Value → Value → Value → World → Prop) (h : body J) (hr : ∀ x0 x1 x2 x3 x4 w, J x0 x1 x2 x3 x4 w → r x0 x1 x2 x3 x4 w) : LetJ 5 body r := ⟨J, h, hr⟩
theorem Join6 {body : (Value → Value → Value → Value → Value → Value → World → Prop) → Prop} {r : Value → Value → Value → Value → Value → Value → World → Prop} (J : Value → Value → Value → Value → Value → Value → World → Prop) (h : body J) (hr : ∀ x0 x1 x2 x3 x4 x5 w, J x0 x1 x2 x3 x4 x5 w → r x0 x1 x2 x3 x4 x5 w) : LetJ 6 body r := ⟨J, h, hr⟩
end Go.Lf
/- Composite literals of structs; make of a slice. -/
namespace Go.Lf
open Go
theorem foldl_splice (cells vs : Array Value) (off : Nat) (h : off + vs.size ≤ cells.size) : vs.zipIdx.foldl (fun cs (x : Value × Nat) => cs.setIfInBounds (off + x.2) x.1) cells = splice cells off vs := by
  rw [← Array.foldl_toList, Array.toList_zipIdx]
  have := foldl_set vs.toList cells off 0 (by simpa using h)
  simpa using this
theorem madeCells_one (z : Value) (n : Nat) : madeCells #[z] n = (List.replicate n z).toArray := by
  unfold madeCells
  apply Array.ext
  · simp
  · intro i h1 h2; simp [Nat.mod_one]
theorem madeCells_u8 (n : Nat) : madeCells #[Value.int .u8 0] n = (bc (List.replicate n 0)).toArray := by
  rw [madeCells_one]; simp [bc]
theorem fill_step {place : Nat → Option (Nat × Nat)} {cells : Array Value} {i off size N : Nat} {v : Value} {l : List (Nat × Value)} {r : Option (Array Value)} (hp : place i = some (off, size)) (hv : v.cells.size = size) (hN : cells.size = N) (ho : off + size ≤ N)
    (hr : (splice cells off v.cells).size = N → Instr.fill place (splice cells off v.cells) l = r) : Instr.fill place cells ((i, v) :: l) = r := by
  unfold Instr.fill
  rw [hp]
  simp only [hv, ne_eq, not_true_eq_false, decide_false, Bool.false_or, decide_eq_true_eq]
  rw [if_neg (by omega)]
  rw [← hr (by rw [splice_size (by omega), hN]), ← foldl_splice _ _ _ (by omega)]
theorem p_buildS {P : Program} {t : Nat} {zv : Value} {fields : Array Field} {places : Array (Nat × Nat)} {parts : Array (Nat × Value)} {cells : Array Value} (hz : ∀ w, (zeroValue t).run P w = .ok zv w)
    (hu : ∀ w, (underlying t).run P w = .ok (.struct fields) w) (hpl : ∀ w, (fields.mapM fun f => do pure (f.offset, ← sizeOf f.type) : Sem (Array (Nat × Nat))).run P w = .ok places w)
    (hf : Instr.fill (places[·]?) zv.cells parts.toList = some cells) (K : Value → Prop) : PRun P (Instr.build t parts) K = K (.agg cells) := PRun_eq (fun w => by
  unfold Instr.build
  simp only [Sem.run_bind, hz, Result.andThen_ok, hu, hpl, hf]
  rfl) K
theorem r_makeSlice {P : Program} {t e : Nat} {i : TypeInfo} {z : Value} (ht : P.underlying t = some (.slice e)) (hi : P.info? e = some i) (hz : i.zero = some z)
    (kl kc : IntKind) (l c : Int) (w : World) (K : Value → World → Prop) (h0 : 0 ≤ l) (hlc : l ≤ c) (hcells : c.toNat * i.size ≤ 16777216) (hbytes : (i.bytes : Int) * c ≤ 281474976710656) (h63 : c ≤ 9223372036854775807) :
    Run P (Instr.makeSlice t (.int kl l) (.int kc c)) w K = K (.slice (some ⟨sz w, 0, none⟩) l.toNat c.toNat) (w.alloc (.cells (madeCells z.cells (c.toNat * i.size)) e)) :=
  Run_eq (run_makeSlice _ t e i z ht hi hz kl kc l c h0 hlc hcells hbytes h63) K
theorem p_makeFunc {P : Program} (f : Fn) (a b : Array Value) (K : Value → Prop) : PRun P (Instr.makeFunc f a b) K = K (.func f a b) := PRun_eq (fun _ => rfl) K
theorem VRow.setCell {α : Type} {f : α → List Value} {z : Nat} {row : Array Value} {o : Nat} {L : List α} (h : VRow f z row o L) {i j : Nat} {x x' : α} {v : Value} (hx : L[i]? = some x) (hj : j < z) (hx' : f x' = (f x).set j v) :
    VRow f z (splice row (o + i * z + j) #[v]) o (L.set i x') := by
  obtain ⟨h1, h2, h3⟩ := h
  have hi : i < L.length := (List.getElem?_eq_some_iff.1 hx).1
  have hle := idx_lt (z := z) hi
  have hlx := h1 x (List.mem_of_getElem? hx)
  have hsz : (splice row (o + i * z + j) #[v]).size = row.size := splice_size (by simp; omega)
  refine ⟨fun y hy => ?_, by rw [hsz, List.length_set]; exact h2, fun k y hy m hm => ?_⟩
  · rcases List.mem_or_eq_of_mem_set hy with hy | rfl
    · exact h1 y hy
    · rw [hx', List.length_set]; exact hlx
  · have hk : k < L.length := by have := (List.getElem?_eq_some_iff.1 hy).1; simpa using this
    have hlk := idx_lt (z := z) hk
    rw [splice_get (by simp; omega)]
    simp only [List.size_toArray, List.length_cons, List.length_nil, Nat.zero_add]
    rw [List.getElem?_set] at hy
    by_cases e : i = k
    · subst e
      rw [if_pos rfl, if_pos hi] at hy
      cases hy
      rw [hx', List.getElem?_set]
      by_cases hm' : j = m
      · subst hm'
        rw [if_pos (by omega), if_pos rfl, if_pos (by omega)]; simp
      · rw [if_neg (by omega), if_neg hm']; exact h3 i x hx m hm
    · rw [if_neg e] at hy
      rw [if_neg ?_]
      · exact h3 k y hy m hm
      · intro hh
        rcases Nat.lt_or_gt_of_ne e with h | h
        · have := idx_lt (z := z) h; omega
        · have := idx_lt (z := z) h; omega
theorem cellT_ {P : Prop} (h : P := by first | ((simp only [cells_agg, cells_int, cells_bool, cells_str, cells_ptr, cells_sl, cells_map, cells_func, cells_iface, List.size_toArray, Array.size_append, bc_length, List.length_cons, List.length_nil, Nat.zero_add, Nat.reduceAdd, *]; done); done) | fail) : P := h
end Go.Lf
/- Parts of slices of many-celled elements; append of one to another. -/
namespace Go.Lf
open Go
section
variable {α : Type} {f : α → List Value} {e z : Nat} {w : World} {v : Value} {L : List α} {Q : Nat → Prop}
theorem VRow.take {row : Array Value} {o : Nat} (h : VRow f z row o L) (i : Nat) : VRow f z row o (L.take i) := by
  obtain ⟨h1, h2, h3⟩ := h
  refine ⟨fun x hx => h1 x (List.mem_of_mem_take hx), ?_, fun k x hx j hj => ?_⟩
  · have : (L.take i).length ≤ L.length := by rw [List.length_take]; omega
    have := Nat.mul_le_mul_right z this; omega
  · rw [List.getElem?_take] at hx
    split at hx
    · exact h3 k x hx j hj
    · cases hx
theorem VRow.drop {row : Array Value} {o : Nat} (h : VRow f z row o L) (i : Nat) (hi : i ≤ L.length) : VRow f z row (o + i * z) (L.drop i) := by
  obtain ⟨h1, h2, h3⟩ := h
  refine ⟨fun x hx => h1 x (List.mem_of_mem_drop hx), ?_, fun k x hx j hj => ?_⟩
  · rw [List.length_drop]
    have : i * z + (L.length - i) * z = L.length * z := by rw [← Nat.add_mul]; congr 1; omega
    omega
  · rw [List.getElem?_drop] at hx
    rw [← h3 (i + k) x hx j hj, Nat.add_mul]
    congr 1; omega
theorem Sl.takeV {a : Option Addr} {n cap : Nat} (h : Sl f e z w (.slice a n cap) L Q) (i : Nat) (hi : i ≤ L.length) : Sl f e z w (.slice (cutAt a cap 0 z) i cap) (L.take i) Q ∧ i ≤ cap ∧ n = L.length := by
  rcases h.2 with ⟨h1, h2⟩ | ⟨b, o, cap', row, h1, h2, h3, h4, h5, h6⟩
  · cases h1; subst h2
    have : i = 0 := by simpa using hi
    subst this
    exact ⟨by rw [cutAt_none, List.take_nil]; exact Sl.nil _ _ _ _ _, Nat.le_refl _, rfl⟩
  · cases h1
    have hl : (L.take i).length = i := by rw [List.length_take]; omega
    refine ⟨⟨fun x hx => h.1 x (List.mem_of_mem_take hx), .inr ⟨b, o, cap, row, by rw [cutAt_zero, hl], by omega, h3, h4, h5.take i, h6⟩⟩, by omega, rfl⟩
theorem Sl.dropV {a : Option Addr} {n cap : Nat} (h : Sl f e z w (.slice a n cap) L Q) (i : Nat) (hi : i ≤ L.length) : Sl f e z w (.slice (cutAt a cap i z) (n - i) (cap - i)) (L.drop i) Q ∧ i ≤ n ∧ n = L.length := by
  rcases h.2 with ⟨h1, h2⟩ | ⟨b, o, cap', row, h1, h2, h3, h4, h5, h6⟩
  · cases h1; subst h2
    have : i = 0 := by simpa using hi
    subst this
    exact ⟨by rw [cutAt_none, List.drop_nil]; exact Sl.nil _ _ _ _ _, Nat.le_refl _, rfl⟩
  · cases h1
    have hl : (L.drop i).length = L.length - i := List.length_drop
    refine ⟨⟨fun x hx => h.1 x (List.mem_of_mem_drop hx), ?_⟩, hi, rfl⟩
    right
    by_cases hc : i < cap
    · refine ⟨b, o + i * z, cap - i, row, by rw [cutAt_some _ _ _ _ _ hc, hl], by omega, h3, ?_, h5.drop i hi, h6⟩
      have : i * z + (cap - i) * z = cap * z := by rw [← Nat.add_mul]; congr 1; omega
      omega
    · have hci : i = cap := by omega
      subst hci
      have hn : L.drop i = [] := List.drop_eq_nil_of_le (by omega)
      refine ⟨b, o, i - i, row, by rw [cutAt_end, hl], by omega, h3, by simp; omega, ?_, h6⟩
      rw [hn]
      exact ⟨by simp, by simp; omega, by simp⟩
theorem Sl.fresh (row : Array Value) (hL : ∀ x ∈ L, (f x).length = z) (h : row.toList = L.flatMap f) : Sl f e z (w.alloc (.cells row e (0, 0))) (.slice (some ⟨sz w, 0, none⟩) L.length L.length) L (fun b => b = sz w) := by
  have hsz : row.size = L.length * z := by rw [← Array.length_toList, h, flat_length f z L hL]
  have := Vec.fresh (w := w) (e := e) (z := z) (n := L.length) row hsz
  rw [h] at this
  exact Sl.of_vec hL this
end
theorem split_at {α : Type} {L : List α} {i : Nat} {y : α} (hy : L[i]? = some y) : L = L.take i ++ [y] ++ L.drop (i + 1) := by
  obtain ⟨hlt, he⟩ := List.getElem?_eq_some_iff.1 hy
  have := List.take_append_drop i L
  rw [List.drop_eq_getElem_cons hlt, he] at this
  rw [List.append_assoc]; exact this.symm
theorem Ext.trans2 {M M1 M2 : Nat → Prop} {w w' w'' : World} (h : Ext M1 w w') (h' : Ext M2 w' w'') (h1 : ∀ b, b < sz w → M1 b → M b) (h2 : ∀ b, b < sz w → M2 b → M b) : Ext M w w'' :=
  (h.mono h1).trans h' h2
end Go.Lf
/- Equality: a pointer with nil; bools. -/
namespace Go.Lf
open Go
section
variable {P : Program} {T e : Nat}
theorem p_eqlNilP (hu : ∀ w, (underlying T).run P w = .ok (.pointer e) w) (x y : Operand) (a : Option Addr) (K : Value → Prop) :
    PRun P (eqS .eql T x y (.pointer a) (.pointer none)) K = K (.bool a.isNone) := PRun_eq (fun w => by
  have h : (Op.equal T (.pointer a) (.pointer none)).run P w = .ok a.isNone w := by
    unfold Op.equal Op.maxDepth Op.equalIn
    rw [Sem.run_bind, hu, Result.andThen_ok]
    cases a <;> rfl
  have hg : ∀ op, (eqGuard op T x y (.pointer a) (.pointer none)).run P w = .ok () w := by
    intro op; unfold eqGuard; cases op <;> rfl
  unfold eqS
  rw [Sem.run_bind, hg, Result.andThen_ok]
  simp only [binOp, Sem.run_bind, Sem.run_pure, Result.andThen_ok, h]) K
theorem p_neqNilP (hu : ∀ w, (underlying T).run P w = .ok (.pointer e) w) (x y : Operand) (a : Option Addr) (K : Value → Prop) :
    PRun P (eqS .neq T x y (.pointer a) (.pointer none)) K = K (.bool (!a.isNone)) := PRun_eq (fun w => by
  have h : (Op.equal T (.pointer a) (.pointer none)).run P w = .ok a.isNone w := by
    unfold Op.equal Op.maxDepth Op.equalIn
    rw [Sem.run_bind, hu, Result.andThen_ok]
    cases a <;> rfl
  have hg : ∀ op, (eqGuard op T x y (.pointer a) (.pointer none)).run P w = .ok () w := by
    intro op; unfold eqGuard; cases op <;> rfl
  unfold eqS
  rw [Sem.run_bind, hg, Result.andThen_ok]
  simp only [binOp, Sem.run_bind, Sem.run_pure, Result.andThen_ok, h]) K
theorem p_eqlBool (hu : ∀ w, (underlying T).run P w = .ok .bool w) (x y : Operand) (a b : Bool) (K : Value → Prop) :
    PRun P (eqS .eql T x y (.bool a) (.bool b)) K = K (.bool (a == b)) := PRun_eq (fun w => by
  have h : (Op.equal T (.bool a) (.bool b)).run P w = .ok (a == b) w := by
    unfold Op.equal Op.maxDepth Op.equalIn
    rw [Sem.run_bind, hu, Result.andThen_ok]; rfl
  have hg : ∀ op, (eqGuard op T x y (.bool a) (.bool b)).run P w = .ok () w := by
    intro op; unfold eqGuard; cases op <;> rfl
  unfold eqS
  rw [Sem.run_bind, hg, Result.andThen_ok]
  simp only [binOp, Sem.run_bind, Sem.run_pure, Result.andThen_ok, h]) K
theorem p_neqBool (hu : ∀ w, (underlying T).run P w = .ok .bool w) (x y : Operand) (a b : Bool) (K : Value → Prop) :
    PRun P (eqS .neq T x y (.bool a) (.bool b)) K = K (.bool (!(a == b))) := PRun_eq (fun w => by
  have h : (Op.equal T (.bool a) (.bool b)).run P w = .ok (a == b) w := by
    unfold Op.equal Op.maxDepth Op.equalIn
    rw [Sem.run_bind, hu, Result.andThen_ok]; rfl
  have hg : ∀ op, (eqGuard op T x y (.bool a) (.bool b)).run P w = .ok () w := by
    intro op; unfold eqGuard; cases op <;> rfl
  unfold eqS
  rw [Sem.run_bind, hg, Result.andThen_ok]
  simp only [binOp, Sem.run_bind, Sem.run_pure, Result.andThen_ok, h]) K
end
end Go.Lf
/- Unsigned words as values: arithmetic, bits, shifts; conversions; rows of words. -/
namespace Go.Lf
open Go
abbrev u8v (x : UInt8) : Value := .int .u8 x.toNat
abbrev u32v (x : UInt32) : Value := .int .u32 x.toNat
/-- the low bits of a number -/
def b8 (n : Int) : UInt8 := UInt8.ofNat (n % 256).toNat
def b32 (n : Int) : UInt32 := UInt32.ofNat (n % 4294967296).toNat
theorem b8_toNat (n : Int) : ((b8 n).toNat : Int) = n % 256 := by
  unfold b8; rw [UInt8.toNat_ofNat']; omega
theorem b32_toNat (n : Int) : ((b32 n).toNat : Int) = n % 4294967296 := by
  unfold b32; rw [UInt32.toNat_ofNat']; omega
theorem u8b (n : Int) : Value.int .u8 (IntKind.u8.wrap n) = u8v (b8 n) := by rw [u8w, ← b8_toNat]
theorem u32w (n : Int) : IntKind.u32.wrap n = n % 4294967296 := by
  unfold IntKind.wrap
  simp [IntKind.signed, IntKind.bits]
theorem u32b (n : Int) : Value.int .u32 (IntKind.u32.wrap n) = u32v (b32 n) := by rw [u32w, ← b32_toNat]
theorem u64w (n : Int) : IntKind.u64.wrap n = n % 18446744073709551616 := by
  unfold IntKind.wrap
  simp [IntKind.signed, IntKind.bits]
def shl32 (x : UInt32) (n : Nat) : UInt32 := UInt32.ofNat (x.toNat * 2 ^ n)
def shr32 (x : UInt32) (n : Nat) : UInt32 := UInt32.ofNat (x.toNat / 2 ^ n)
def shr8 (x : UInt8) (n : Nat) : UInt8 := UInt8.ofNat (x.toNat / 2 ^ n)
section
variable {P : Program} (t : TypeId) (K : Value → Prop)
theorem eq_u32 {n : Int} {x : UInt32} (h : n = x.toNat) : Value.int .u32 n = u32v x := by rw [h]
theorem p_add32 (x y : UInt32) : PRun P (binOp .add t (u32v x) (u32v y)) K = K (u32v (x + y)) := PRun_eq (fun w => by
  show Result.ok (Value.int .u32 (IntKind.u32.wrap (x.toNat + y.toNat))) w = _
  rfl) K
theorem bits_back (r : BitVec 32) : IntKind.u32.wrap r.toNat = r.toNat := by
  rw [u32w]; have := r.isLt; omega
theorem bv32 (x : UInt32) : BitVec.ofInt 32 (x.toNat : Int) = x.toBitVec := by
  apply BitVec.eq_of_toNat_eq
  show (BitVec.ofInt 32 (x.toNat : Int)).toNat = x.toBitVec.toNat
  rw [BitVec.toNat_ofInt]
  have := x.toNat_lt
  show ((x.toNat : Int) % (2 ^ 32 : Nat)).toNat = x.toNat
  omega
theorem p_xor32 (x y : UInt32) : PRun P (binOp .xor t (u32v x) (u32v y)) K = K (u32v (x ^^^ y)) := PRun_eq (fun w => by
  show Result.ok (Value.int .u32 (IntKind.u32.wrap (BitVec.ofInt 32 (x.toNat : Int) ^^^ BitVec.ofInt 32 (y.toNat : Int)).toNat)) w = _
  congr 1
  refine eq_u32 ?_
  rw [bv32, bv32, bits_back]; rfl) K
theorem p_and32 (x y : UInt32) : PRun P (binOp .and t (u32v x) (u32v y)) K = K (u32v (x &&& y)) := PRun_eq (fun w => by
  show Result.ok (Value.int .u32 (IntKind.u32.wrap (BitVec.ofInt 32 (x.toNat : Int) &&& BitVec.ofInt 32 (y.toNat : Int)).toNat)) w = _
  congr 1
  refine eq_u32 ?_
  rw [bv32, bv32, bits_back]; rfl) K
theorem p_or32 (x y : UInt32) : PRun P (binOp .or t (u32v x) (u32v y)) K = K (u32v (x ||| y)) := PRun_eq (fun w => by
  show Result.ok (Value.int .u32 (IntKind.u32.wrap (BitVec.ofInt 32 (x.toNat : Int) ||| BitVec.ofInt 32 (y.toNat : Int)).toNat)) w = _
  congr 1
  refine eq_u32 ?_
  rw [bv32, bv32, bits_back]; rfl) K
theorem p_not32 (x : UInt32) : PRun P (Op.unary .xor (u32v x)) K = K (u32v (~~~ x)) := PRun_eq (fun w => by
  show Result.ok (Value.int .u32 (IntKind.u32.wrap (BitVec.ofInt 32 4294967295 ^^^ BitVec.ofInt 32 (x.toNat : Int)).toNat)) w = _
  congr 1
  refine eq_u32 ?_
  rw [bv32, bits_back]
  have e : (BitVec.ofInt 32 4294967295) = BitVec.allOnes 32 := by decide
  rw [e]
  have e2 : BitVec.allOnes 32 ^^^ x.toBitVec = ~~~ x.toBitVec := by rw [BitVec.allOnes_xor]
  rw [e2]; rfl) K
theorem shl32_wrap (x : UInt32) (n : Nat) : IntKind.u32.wrap ((x.toNat : Int) * 2 ^ n) = (shl32 x n).toNat := by
  rw [u32w]; unfold shl32; rw [UInt32.toNat_ofNat']
  have : ((x.toNat : Int) * 2 ^ n) = ((x.toNat * 2 ^ n : Nat) : Int) := by rw [Int.natCast_mul, Int.natCast_pow]; rfl
  rw [this]; omega
theorem p_shl32 (x : UInt32) (k : IntKind) (n : Int) (h0 : 0 ≤ n) (h1 : n ≤ 32) : PRun P (binOp .shl t (u32v x) (.int k n)) K = K (u32v (shl32 x n.toNat)) := PRun_eq (fun w => by
  show (Op.shift .shl .u32 x.toNat k n).run P w = _
  unfold Op.shift
  rw [if_neg (by omega)]
  show Result.ok (Value.int .u32 (IntKind.u32.wrap ((x.toNat : Int) * 2 ^ (min n.toNat 32)))) w = _
  rw [show min n.toNat 32 = n.toNat by omega, shl32_wrap]) K
theorem shr32_fdiv (x : UInt32) (n : Nat) : (x.toNat : Int).fdiv (2 ^ n) = (shr32 x n).toNat := by
  rw [Int.fdiv_eq_ediv_of_nonneg _ (by exact Int.le_of_lt (Int.pow_pos (by decide)))]
  unfold shr32; rw [UInt32.toNat_ofNat']
  have e : (2 : Int) ^ n = ((2 ^ n : Nat) : Int) := by rw [Int.natCast_pow]; rfl
  rw [e, ← Int.natCast_ediv]
  have h := x.toNat_lt
  have := Nat.div_le_self x.toNat (2 ^ n)
  congr 1
  rw [Nat.mod_eq_of_lt]; omega
theorem p_shr32 (x : UInt32) (k : IntKind) (n : Int) (h0 : 0 ≤ n) (h1 : n ≤ 32) : PRun P (binOp .shr t (u32v x) (.int k n)) K = K (u32v (shr32 x n.toNat)) := PRun_eq (fun w => by
  show (Op.shift .shr .u32 x.toNat k n).run P w = _
  unfold Op.shift
  rw [if_neg (by omega)]
  show Result.ok (Value.int .u32 ((x.toNat : Int).fdiv (2 ^ (min n.toNat 32)))) w = _
  rw [show min n.toNat 32 = n.toNat by omega, shr32_fdiv]) K
theorem shr8_fdiv (x : UInt8) (n : Nat) : (x.toNat : Int).fdiv (2 ^ n) = (shr8 x n).toNat := by
  rw [Int.fdiv_eq_ediv_of_nonneg _ (by exact Int.le_of_lt (Int.pow_pos (by decide)))]
  unfold shr8; rw [UInt8.toNat_ofNat']
  have e : (2 : Int) ^ n = ((2 ^ n : Nat) : Int) := by rw [Int.natCast_pow]; rfl
  rw [e, ← Int.natCast_ediv]
  have h := x.toNat_lt
  have := Nat.div_le_self x.toNat (2 ^ n)
  congr 1
  rw [Nat.mod_eq_of_lt]; omega
theorem p_shr8 (x : UInt8) (k : IntKind) (n : Int) (h0 : 0 ≤ n) (h1 : n ≤ 8) : PRun P (binOp .shr t (u8v x) (.int k n)) K = K (u8v (shr8 x n.toNat)) := PRun_eq (fun w => by
  show (Op.shift .shr .u8 x.toNat k n).run P w = _
  unfold Op.shift
  rw [if_neg (by omega)]
  show Result.ok (Value.int .u8 ((x.toNat : Int).fdiv (2 ^ (min n.toNat 8)))) w = _
  rw [show min n.toNat 8 = n.toNat by omega, shr8_fdiv]) K
theorem p_shli (x : Int) (k : IntKind) (n : Int) (h0 : 0 ≤ n) (h1 : n ≤ 64) : PRun P (binOp .shl t (i64 x) (.int k n)) K = K (i64 (wr (x * 2 ^ n.toNat))) := PRun_eq (fun w => by
  show (Op.shift .shl .i64 x k n).run P w = _
  unfold Op.shift
  rw [if_neg (by omega)]
  show Result.ok (Value.int .i64 (IntKind.i64.wrap (x * 2 ^ (min n.toNat 64)))) w = _
  rw [show min n.toNat 64 = n.toNat by omega]; rfl) K
theorem p_shri (j k : IntKind) (hj : j.bits = 64) (x : Int) (n : Int) (h0 : 0 ≤ n) (h1 : n ≤ 64) : PRun P (binOp .shr t (.int j x) (.int k n)) K = K (.int j (x / 2 ^ n.toNat)) := PRun_eq (fun w => by
  have e : binOp .shr t (.int j x) (.int k n) = Op.shift .shr j x k n := by cases j <;> rfl
  rw [e]
  unfold Op.shift
  rw [if_neg (by omega)]
  simp only [hj]
  rw [show min n.toNat 64 = n.toNat by omega, Int.fdiv_eq_ediv_of_nonneg _ (by exact Int.le_of_lt (Int.pow_pos (by decide)))]; rfl) K
theorem bv8 (x : UInt8) : BitVec.ofInt 8 (x.toNat : Int) = x.toBitVec := by
  apply BitVec.eq_of_toNat_eq
  show (BitVec.ofInt 8 (x.toNat : Int)).toNat = x.toBitVec.toNat
  rw [BitVec.toNat_ofInt]
  have := x.toNat_lt
  show ((x.toNat : Int) % (2 ^ 8 : Nat)).toNat = x.toNat
  omega
theorem bits_back8 (r : BitVec 8) : IntKind.u8.wrap r.toNat = r.toNat := by
  rw [u8w]; have := r.isLt; omega
theorem p_and8 (x y : UInt8) : PRun P (binOp .and t (u8v x) (u8v y)) K = K (u8v (x &&& y)) := PRun_eq (fun w => by
  show Result.ok (Value.int .u8 (IntKind.u8.wrap (BitVec.ofInt 8 (x.toNat : Int) &&& BitVec.ofInt 8 (y.toNat : Int)).toNat)) w = _
  congr 1
  rw [bv8, bv8, bits_back8]; rfl) K
theorem p_xor8 (x y : UInt8) : PRun P (binOp .xor t (u8v x) (u8v y)) K = K (u8v (x ^^^ y)) := PRun_eq (fun w => by
  show Result.ok (Value.int .u8 (IntKind.u8.wrap (BitVec.ofInt 8 (x.toNat : Int) ^^^ BitVec.ofInt 8 (y.toNat : Int)).toNat)) w = _
  congr 1
  rw [bv8, bv8, bits_back8]; rfl) K
theorem p_add8 (x y : UInt8) : PRun P (binOp .add t (u8v x) (u8v y)) K = K (u8v (x + y)) := PRun_eq (fun w => by
  show Result.ok (Value.int .u8 (IntKind.u8.wrap (x.toNat + y.toNat))) w = _
  rfl) K
end
/-! ### rows of words -/
def wc (l : List UInt32) : List Value := l.map u32v
theorem wc_length (l : List UInt32) : (wc l).length = l.length := by simp [wc]
theorem wc_get (l : List UInt32) (i : Nat) (h : i < l.length) : (wc l).toArray[i]? = some (u32v (l.getD i 0)) := by
  rw [List.getElem?_toArray, wc, List.getElem?_map, List.getElem?_eq_getElem h, List.getD_eq_getElem?_getD, List.getElem?_eq_getElem h]; rfl
theorem wc_set (l : List UInt32) (i : Nat) (x : UInt32) (h : i < l.length) : splice (wc l).toArray i (List.toArray [u32v x]) = (wc (l.set i x)).toArray := by
  rw [splice_lit _ _ _ (by rw [wc_length]; exact h)]
  congr 1
  unfold wc; rw [List.map_set]
theorem wc_size (l : List UInt32) : (wc l).toArray.size = l.length := by simp [wc]
theorem bc_size (l : List UInt8) : (bc l).toArray.size = l.length := by simp [bc]
theorem bc_getD (l : List UInt8) (i : Nat) (h : i < l.length) : (bc l).toArray[i]? = some (u8v (l.getD i 0)) := by
  rw [List.getElem?_toArray, bc_get, List.getElem?_eq_getElem h, List.getD_eq_getElem?_getD, List.getElem?_eq_getElem h]; rfl
theorem bc_setD (l : List UInt8) (i : Nat) (x : UInt8) (h : i < l.length) : splice (bc l).toArray i (List.toArray [u8v x]) = (bc (l.set i x)).toArray := by
  rw [splice_lit _ _ _ (by rw [bc_length]; exact h), set_bc]
theorem allOne_wc (k : List UInt32) : allOne (wc k).toArray := by
  intro u hu
  simp only [wc] at hu
  obtain ⟨x, _, rfl⟩ := List.mem_map.1 (by simpa using hu)
  trivial
/-- numbers as cells -/
def ic (l : List Int) : List Value := l.map i64
theorem ic_length (l : List Int) : (ic l).length = l.length := by simp [ic]
theorem ic_get (l : List Int) (i : Nat) (h : i < l.length) : (ic l).toArray[i]? = some (i64 (l.getD i 0)) := by
  rw [List.getElem?_toArray, ic, List.getElem?_map, List.getElem?_eq_getElem h, List.getD_eq_getElem?_getD, List.getElem?_eq_getElem h]; rfl
theorem ic_set (l : List Int) (i : Nat) (x : Int) (h : i < l.length) : splice (ic l).toArray i (List.toArray [i64 x]) = (ic (l.set i x)).toArray := by
  rw [splice_lit _ _ _ (by rw [ic_length]; exact h)]
  congr 1
  unfold ic; rw [List.map_set]
theorem allOne_ic (k : List Int) : allOne (ic k).toArray := by
  intro u hu
  obtain ⟨x, _, rfl⟩ := List.mem_map.1 (show u ∈ k.map i64 by simpa [ic] using hu)
  trivial
theorem allOneT2_ {P : Prop} (h : P := by first | (((repeat' (first | exact allOne_bc _ | exact allOne_wc _ | exact allOne_ic _ | exact allOne_nil | (refine allOne_int _ _ _ ?_) | (refine allOne_sl _ _ _ _ ?_) | (refine allOne_ptr _ _ ?_) | (refine allOne_map _ _ ?_) | (refine allOne_bool _ _ ?_) | (refine allOne_str _ _ ?_) | (refine allOne_iface _ _ _ ?_) | (refine allOne_app _ _ ?_ ?_))); done); done) | fail) : P := h
end Go.Lf
namespace Go.Lf
open Go
section
variable {P : Program} (t : TypeId) (K : Value → Prop)
theorem p_sub64u (x y : Int) : PRun P (binOp .sub t (.int .u64 x) (.int .u64 y)) K = K (.int .u64 (IntKind.u64.wrap (x - y))) := PRun_eq (fun _ => rfl) K
theorem p_mul64u (x y : Int) : PRun P (binOp .mul t (.int .u64 x) (.int .u64 y)) K = K (.int .u64 (IntKind.u64.wrap (x * y))) := PRun_eq (fun _ => rfl) K
theorem p_and31 (x : Int) (h0 : 0 ≤ x) (h1 : x < 18446744073709551616) : PRun P (binOp .and t (.int .u64 x) (.int .u64 31)) K = K (.int .u64 (x % 32)) := PRun_eq (fun w => by
  show Result.ok (Value.int .u64 (IntKind.u64.wrap ((BitVec.ofInt 64 x &&& BitVec.ofInt 64 31).toNat : Int))) w = _
  congr 2
  have e1 : (BitVec.ofInt 64 x).toNat = x.toNat := by
    rw [BitVec.toNat_ofInt]
    show (x % (2 ^ 64 : Nat)).toNat = x.toNat
    congr 1
    exact Int.emod_eq_of_lt h0 h1
  rw [BitVec.toNat_and, e1, u64w]
  have e2 : (BitVec.ofInt 64 31).toNat = 2 ^ 5 - 1 := by decide
  rw [e2, Nat.and_two_pow_sub_one_eq_mod]
  omega) K
end
end Go.Lf
namespace Go.Lf
open Go
theorem wc_getL (l : List UInt32) (i : Nat) (h : i < l.length) : (wc l)[i]? = some (u32v (l.getD i 0)) := by rw [← List.getElem?_toArray]; exact wc_get l i h
theorem bc_getL (l : List UInt8) (i : Nat) (h : i < l.length) : (bc l)[i]? = some (u8v (l.getD i 0)) := by rw [← List.getElem?_toArray]; exact bc_getD l i h
theorem ic_getL (l : List Int) (i : Nat) (h : i < l.length) : (ic l)[i]? = some (i64 (l.getD i 0)) := by rw [← List.getElem?_toArray]; exact ic_get l i h
end Go.Lf
/- Arrays as values and in memory: index, literals, parts; copy; bytes that lie in any row. -/
namespace Go.Lf
open Go
section
variable {P : Program} {T e n z : Nat}
theorem p_indexW (hu : ∀ w, (underlying T).run P w = .ok (.array n e) w) (hs : ∀ w, (sizeOf e).run P w = .ok 1 w) (hg : ∀ w, (isAgg e).run P w = .ok false w) (l : List UInt32) (i : Int) (K : Value → Prop)
    (hl : l.length = n) (h0 : 0 ≤ i) (h1 : i < n) : PRun P (Instr.index T (.agg (wc l).toArray) (i64 i)) K = K (u32v (l.getD i.toNat 0)) := PRun_eq (fun w => by
  unfold Instr.index asIntOf
  simp only [Sem.run_bind, Sem.run_pure, Result.andThen_ok, hu]
  rw [if_pos ⟨h0, h1⟩]
  simp only [Sem.run_bind, hs, Result.andThen_ok]
  unfold part
  simp only [Sem.run_bind, hg, Result.andThen_ok, Bool.false_eq_true, if_false, Nat.mul_one, wc_get l i.toNat (by omega), Sem.run_pure]) K
/-- an array's value, all its elements given -/
theorem p_buildA {zv : Value} (hz : ∀ w, (zeroValue T).run P w = .ok zv w) (hu : ∀ w, (underlying T).run P w = .ok (.array n e) w) (hs : ∀ w, (sizeOf e).run P w = .ok z w)
    (vs : List Value) (hv : ∀ v ∈ vs, v.cells.size = z) (hl : vs.length * z = zv.cells.size) (K : Value → Prop) :
    PRun P (Instr.build T ((vs.zipIdx).map fun x => (x.2, x.1)).toArray) K = K (.agg (catC vs).toArray) := PRun_eq (fun w => by
  unfold Instr.build
  simp only [Sem.run_bind, hz, Result.andThen_ok, hu, hs]
  have hf := fill_all (z := z) vs 0 zv.cells hv (by simp [hl])
  rw [hf]
  have e3 : splice zv.cells (0 * z) (catC vs).toArray = (catC vs).toArray := by
    rw [Nat.zero_mul]; exact splice_all _ _ (by simp [catC_length hv, hl])
  rw [e3]
  rfl) K
theorem p_sliceArrH {s : Nat} (hu : ∀ w, (underlying T).run P w = .ok (.array n e) w) (hs : ∀ w, (sizeOf e).run P w = .ok s w) (b o : Nat) (h : Int) (K : Value → Prop) (h0 : 0 ≤ h) (h1 : h ≤ n) :
    PRun P (Instr.sliceAt T (ptr b o) none (some (i64 h)) none) K = K (.slice (some ⟨b, o, none⟩) h.toNat n) := PRun_eq (fun w => by
  unfold Instr.sliceAt
  simp only [Sem.run_bind, hu, Result.andThen_ok, Instr.sureAddr, Sem.run_pure]
  unfold Instr.sliceBounds
  simp only [Sem.run_bind, Sem.run_pure, Result.andThen_ok, run_bound h n _ h0 h1, hs, Nat.zero_mul, Nat.sub_zero, addr_add, Nat.add_zero, ite_self]) K
theorem p_sliceArrL {s : Nat} (hu : ∀ w, (underlying T).run P w = .ok (.array n e) w) (hs : ∀ w, (sizeOf e).run P w = .ok s w) (b o : Nat) (l : Int) (K : Value → Prop) (h0 : 0 ≤ l) (h1 : l < n) :
    PRun P (Instr.sliceAt T (ptr b o) (some (i64 l)) none none) K = K (.slice (some ⟨b, o + l.toNat * s, none⟩) (n - l.toNat) (n - l.toNat)) := PRun_eq (fun w => by
  unfold Instr.sliceAt
  simp only [Sem.run_bind, hu, Result.andThen_ok, Instr.sureAddr, Sem.run_pure]
  unfold Instr.sliceBounds
  simp only [Sem.run_bind, Sem.run_pure, Result.andThen_ok, run_bound l n _ h0 (by omega), hs, addr_add]
  rw [if_neg (by omega)]) K
end
/-! ### bytes in any row -/
/-- The first bytes of a slice value. -/
theorem run_firstB {P : Program} {w : World} {v : Value} {l : List UInt8} (h : BOf w v l) (m : Nat) (hm : m ≤ l.length) : (Builtin.firstCells 1 m v).run P w = .ok (bc (l.take m)).toArray w := by
  rcases h with ⟨rfl, rfl⟩ | ⟨b, o, cap, row, U, fr, rfl, hb, hc⟩
  · have : m = 0 := by simpa using hm
    subst this; rfl
  · show (loadCells ⟨b, o, none⟩ (m * 1)).run P w = _
    rw [Nat.mul_one]
    by_cases h0 : m = 0
    · subst h0
      have := Go.run_loadCells_list (P := P) w ⟨b, o, none⟩ [] (by simp)
      exact this
    have hsz : o + m ≤ row.size := by
      have := hc (m - 1) (by omega)
      rw [bc_get, List.getElem?_eq_getElem (by omega)] at this
      have := (Array.getElem?_eq_some_iff.1 this).1
      omega
    rw [run_loadCells hb hsz]
    congr 1
    apply Array.ext_getElem?
    intro j
    have e : (bc (l.take m)).toArray[j]? = (bc (l.take m))[j]? := List.getElem?_toArray
    rw [Array.getElem?_extract, e, bc_get, List.getElem?_take]
    by_cases hj : j < m
    · rw [if_pos (by omega), if_pos hj, hc j (by omega), bc_get]
    · rw [if_neg (by omega), if_neg hj]; rfl
theorem BOf.src {P : Program} {w : World} {v : Value} {l : List UInt8} (h : BOf w v l) : Src P w 1 v l.length (bc l) := by
  refine ⟨by simp [bc_length], ?_, ?_⟩
  · rcases h with ⟨rfl, rfl⟩ | ⟨b, o, cap, row, U, fr, rfl, hb, hc⟩
    · exact fun _ _ => rfl
    · exact fun _ _ => rfl
  · intro w' hw'
    have h' : BOf w' v l := by
      rcases h with h | ⟨b, o, cap, row, U, fr, h1, hb, hc⟩
      · exact .inl h
      · exact .inr ⟨b, o, cap, row, U, fr, h1, by unfold Hp at hb ⊢; rw [hw']; exact hb, hc⟩
    have := run_firstB (P := P) h' l.length (Nat.le_refl _)
    rwa [List.take_length] at this
/-- where the bytes lie -/
def BIn (w : World) (v : Value) (l : List UInt8) (Q : Nat → Prop) : Prop :=
  (v = .slice none 0 0 ∧ l = []) ∨ ∃ b o cap row U fr, v = .slice (some ⟨b, o, none⟩) l.length cap ∧ Hp w b = some (.cells row U fr) ∧ (∀ j, j < l.length → row[o + j]? = (bc l)[j]?) ∧ Q b
theorem BIn.of {w : World} {v : Value} {l : List UInt8} {Q : Nat → Prop} (h : BIn w v l Q) : BOf w v l := by
  rcases h with h | ⟨b, o, cap, row, U, fr, h1, h2, h3, _⟩
  · exact .inl h
  · exact .inr ⟨b, o, cap, row, U, fr, h1, h2, h3⟩
theorem BIn.form {w : World} {v : Value} {l : List UInt8} {Q : Nat → Prop} (h : BIn w v l Q) : ∃ a cap, v = .slice a l.length cap := by
  rcases h with ⟨rfl, rfl⟩ | ⟨b, o, cap, row, U, fr, h1, _⟩
  · exact ⟨none, 0, rfl⟩
  · exact ⟨_, _, h1⟩
theorem BIn.ext {w w' : World} {v : Value} {l : List UInt8} {Q M : Nat → Prop} (h : BIn w v l Q) (x : Ext M w w') (hq : ∀ b, b < sz w → Q b → ¬ M b) : BIn w' v l Q := by
  rcases h with h | ⟨b, o, cap, row, U, fr, h1, h2, h3, h4⟩
  · exact .inl h
  · exact .inr ⟨b, o, cap, row, U, fr, h1, x.at h2 (hq b (Hp_lt h2) h4), h3, h4⟩
theorem BIn.mono {w : World} {v : Value} {l : List UInt8} {Q Q' : Nat → Prop} (h : BIn w v l Q) (hq : ∀ b, b < sz w → Q b → Q' b) : BIn w v l Q' := by
  rcases h with h | ⟨b, o, cap, row, U, fr, h1, h2, h3, h4⟩
  · exact .inl h
  · exact .inr ⟨b, o, cap, row, U, fr, h1, h2, h3, hq b (Hp_lt h2) h4⟩
theorem Bytes.bin {u8 : Nat} {w : World} {v : Value} {l : List UInt8} {Q : Nat → Prop} (h : Bytes u8 w v l Q) : BIn w v l Q := by
  rcases h.2 with ⟨rfl, h2⟩ | ⟨b, o, cap, row, rfl, hn, hb, ho, hc, hq⟩
  · exact .inl ⟨rfl, List.length_eq_zero_iff.1 h2⟩
  · exact .inr ⟨b, o, cap, row, _, _, rfl, hb, fun j hj => hc j (by omega), hq⟩
/-- a whole array as a slice -/
theorem BIn.arr {w : World} {b U : Nat} {fr : Nat × Nat} {l : List UInt8} {n cap : Nat} (h : Hp w b = some (.cells (bc l).toArray U fr)) (hn : l.length = n) : BIn w (.slice (some ⟨b, 0, none⟩) n cap) l (fun x => x = b) := by
  subst hn
  exact .inr ⟨b, 0, cap, _, _, _, rfl, h, fun j hj => by simp, rfl⟩
/-- a part of a slice -/
theorem BIn.sub {w : World} {a : Option Addr} {n cap : Nat} {l : List UInt8} {Q : Nat → Prop} (h : BIn w (.slice a n cap) l Q) (i m cap' : Nat) (hi : i + m ≤ l.length) (hc : i < cap ∨ m = 0) :
    n = l.length ∧ BIn w (.slice (cutAt a cap i 1) m cap') ((l.drop i).take m) Q ∨ (n = l.length ∧ m = 0) := by
  rcases h with ⟨h1, rfl⟩ | ⟨b, o, c, row, U, fr, h1, h2, h3, h4⟩
  · right; cases h1; exact ⟨rfl, by simp at hi; omega⟩
  · cases h1
    rcases hc with hc | hc
    · left
      refine ⟨rfl, .inr ⟨b, o + i, cap', row, U, fr, ?_, h2, fun j hj => ?_, h4⟩⟩
      · rw [cutAt_some _ _ _ _ _ hc, Nat.mul_one]; congr 1; simp; omega
      · simp only [List.length_take, List.length_drop] at hj
        rw [Nat.add_assoc, h3 _ (by omega), bc_get, bc_get, List.getElem?_take, if_pos (by omega), List.getElem?_drop]
    · right; exact ⟨rfl, hc⟩
section
variable {P : Program} {D S e : Nat}
/-- copy(dst, src) of bytes -/
theorem r_copy (hu : ∀ w, (underlying D).run P w = .ok (.slice e) w) (hs : ∀ w, (sizeOf e).run P w = .ok 1 w) (R : TypeId) {w : World} {b o dl dc U : Nat} {row : Array Value} (hb : Hp w b = some (.cells row U (0, 0))) (ho : o + dl ≤ row.size)
    {x : Value} {l : List UInt8} (hx : BOf w x l) (K : Value → World → Prop) :
    Run P (Builtin.copy_ #[D, S] R #[.slice (some ⟨b, o, none⟩) dl dc, x]) w K = K (i64 (min l.length dl : Nat)) (put w b (.cells (splice row o (bc (l.take dl)).toArray) U (0, 0))) := Run_eq (by
  have hl : (Builtin.lenOf x).run P w = .ok l.length w := (BOf.src (P := P) hx).2.1 w rfl
  unfold Builtin.copy_
  simp only [List.getElem?_toArray, List.getElem?_cons_zero, List.getElem?_cons_succ]
  rw [Sem.run_bind, hu, Result.andThen_ok]
  simp only [Sem.run_bind, hl, Result.andThen_ok, hs]
  rw [show Nat.min l.length dl = min l.length dl from rfl, run_firstB hx _ (by omega), Result.andThen_ok]
  have e1 : l.take (min l.length dl) = l.take dl := by
    rw [Nat.min_comm]
    apply List.ext_getElem?
    intro j
    simp only [List.getElem?_take]
    by_cases h1 : j < dl
    · by_cases h2 : j < l.length
      · rw [if_pos (by omega), if_pos h1]
      · rw [if_neg (by omega), if_pos h1, List.getElem?_eq_none (by omega)]
    · rw [if_neg (by omega), if_neg h1]
  rw [e1]
  have hst := run_storeCells (P := P) (bc (l.take dl)) w b o 0 row U hb (by rw [bc_length, List.length_take]; omega) (bc_one _)
  simp only [Nat.add_zero] at hst
  simp only [Sem.run_bind, hst, Result.andThen_ok, Sem.run_pure]
  rfl) K
end
section
variable {P : Program}
theorem run_toStrB {u8 : Nat} {w : World} {v : Value} {l : List UInt8} (h : BOf w v l) (S : Nat) (T : Nat) (hS : ∀ w, (underlying S).run P w = .ok (.slice u8) w) (hT : ∀ w, (underlying T).run P w = .ok .string w)
    (hu : ∀ w, (underlying u8).run P w = .ok (.int .u8) w) : (convert S T v).run P w = .ok (str l) w := by
  have hf := run_firstB (P := P) h l.length (Nat.le_refl _)
  rw [List.take_length] at hf
  obtain ⟨a, cap, rfl⟩ : ∃ a cap, v = .slice a l.length cap := by
    rcases h with ⟨rfl, rfl⟩ | ⟨b, o, cap, row, U, fr, rfl, _⟩
    · exact ⟨none, 0, rfl⟩
    · exact ⟨_, _, rfl⟩
  have hc : (convert S T (.slice a l.length cap)).run P w = (Conv.bytesToString (.slice a l.length cap)).run P w := by
    unfold convert
    rw [Sem.run_bind, hS, Result.andThen_ok, Sem.run_bind, hT, Result.andThen_ok]
    simp only [Sem.run_bind, hu, Result.andThen_ok]
  rw [hc]
  cases a with
  | none =>
    have : l = [] := by
      rcases h with ⟨h1, h2⟩ | ⟨b, o, cap', row, U, fr, h1, _⟩
      · exact h2
      · simp at h1
    subst this
    rfl
  | some a =>
    have h2 : (loadCells a l.length).run P w = .ok ((l.map fun b => (b.toNat : Int)).map (Value.int .u8)).toArray w := by
      have : Builtin.firstCells 1 l.length (.slice (some a) l.length cap) = loadCells a (l.length * 1) := rfl
      rw [this, Nat.mul_one] at hf
      rw [hf]
      simp [bc, Function.comp_def]
    rw [run_bytesToString w a l.length cap _ h2]
    congr 2
    rw [List.foldl_map]
    have : (fun (r : ByteArray) (b : UInt8) => r.push (UInt8.ofNat (Int.toNat (b.toNat : Int)))) = fun r b => r.push b := by
      funext r b; simp
    rw [this, push_all]
    simp
end
end Go.Lf
/- Bytes of one's own: slices whose block is not older than a mark. -/
namespace Go.Lf
open Go
def BOwn (u8 : Nat) (w : World) (v : Value) (l : List UInt8) (m : Nat) : Prop := Bytes u8 w v l (fun b => m ≤ b)
theorem BOwn.ext {u8 m : Nat} {w w' : World} {v : Value} {l : List UInt8} {M : Nat → Prop} (h : BOwn u8 w v l m) (x : Ext M w w') (hq : ∀ b, b < sz w → m ≤ b → ¬ M b) : BOwn u8 w' v l m := Vec.ext h x hq
theorem BOwn.mono {u8 m m' : Nat} {w : World} {v : Value} {l : List UInt8} (h : BOwn u8 w v l m) (hm : m' ≤ m) : BOwn u8 w v l m' := Vec.mono h fun _ _ hb => Nat.le_trans hm hb
theorem BOwn.of {u8 m : Nat} {w : World} {v : Value} {l : List UInt8} (h : BOwn u8 w v l m) : BOf w v l := Bytes.of h
theorem BOwn.bin {u8 m : Nat} {w : World} {v : Value} {l : List UInt8} (h : BOwn u8 w v l m) : BIn w v l (fun b => m ≤ b) := Bytes.bin h
theorem BOwn.nil (u8 : Nat) (w : World) (m : Nat) : BOwn u8 w (.slice none 0 0) [] m := Vec.nil w u8 1 _
theorem BOwn.form {u8 m : Nat} {w : World} {v : Value} {l : List UInt8} (h : BOwn u8 w v l m) : ∃ a cap, v = .slice a l.length cap := Vec.slice h
theorem BOwn.blk {u8 m b : Nat} {w : World} {v : Value} {l : List UInt8} (h : BOwn u8 w v l m) (hb : some b = blockOf v) : m ≤ b := by
  rcases h.2 with ⟨rfl, _⟩ | ⟨b', o, cap, row, rfl, _, _, _, _, hq⟩
  · cases hb
  · cases hb; exact hq
/-- the slice that a row was just laid for -/
theorem BOwn.fresh {u8 m n cap : Nat} {w : World} {row : Array Value} {l : List UInt8} (t : List Value) (hr : row = (bc l ++ t).toArray) (hn : n = l.length) (hc : cap ≤ l.length + t.length) (hl : l.length ≤ cap) (hm : m ≤ sz w) : BOwn u8 (w.alloc (.cells row u8)) (.slice (some ⟨sz w, 0, none⟩) n cap) l m := by
  subst hr hn
  refine ⟨by simp [bc_length], .inr ⟨sz w, 0, cap, _, rfl, hl, Hp_alloc_new _ _ _ rfl, by simp [bc_length]; omega, fun j hj => ?_, hm⟩⟩
  rw [Nat.zero_add, List.getElem?_toArray, List.getElem?_append_left (by rw [bc_length]; omega)]
/-- what stays of bytes when only newer blocks change -/
theorem BOf.keep {w w' : World} {v : Value} {l : List UInt8} {m : Nat} {Q : Nat → Prop} (h : BIn w v l Q) (x : Ext (fun b => m ≤ b) w w') (hq : ∀ b, b < sz w → Q b → b < m) : BIn w' v l Q := h.ext x fun b hb hQ hm => by have := hq b hb hQ; omega
end Go.Lf
