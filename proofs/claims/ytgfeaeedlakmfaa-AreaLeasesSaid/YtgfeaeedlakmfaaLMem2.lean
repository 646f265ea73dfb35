/- A part of the proof: Lf.Mem2. -/
import Derived.Test.YtgfeaeedlakmfaaLMem
set_option linter.unusedVariables false
set_option linter.unusedSimpArgs false
set_option linter.unusedSectionVars false
namespace Go.Lf
open Go

theorem put_setCell {w : World} {b o : Nat} {cs : Array Value} {U : TypeId} {fr : Nat × Nat} (h : Hp w b = some (.cells cs U fr)) (v : Value) :
    w.setCell ⟨b, o, none⟩ v = put w b (.cells (cs.setIfInBounds o v) U fr) := by
  unfold World.setCell put
  congr 1
  unfold Hp at h
  apply Array.ext_getElem?
  intro i
  rw [Array.getElem?_modify, Array.getElem?_setIfInBounds]
  by_cases e : b = i
  · subst e
    rw [if_pos rfl, if_pos rfl, if_pos (Array.getElem?_eq_some_iff.1 h).1, h]
    simp
  · rw [if_neg e, if_neg e]
theorem put_put (w : World) (b : Nat) (o o' : Obj) : put (put w b o) b o' = put w b o' := by
  unfold put
  congr 1
  apply Array.ext_getElem?
  intro i
  simp only [Array.getElem?_setIfInBounds, Array.size_setIfInBounds]
  split <;> rfl
theorem put_self {w : World} {b : Nat} {o : Obj} (h : Hp w b = some o) : put w b o = w := by
  unfold put
  have : w.heap.setIfInBounds b o = w.heap := by
    apply Array.ext_getElem?
    intro i
    rw [Array.getElem?_setIfInBounds]
    unfold Hp at h
    have hl := (Array.getElem?_eq_some_iff.1 h).1
    split
    · rename_i e; subst e; first | exact h.symm | rw [if_pos hl, h]
    · rfl
  rw [this]

def SFail (P : Program) (T : TypeId) (b o : Nat) (v : Value) (w : World) (K : Unit → World → Prop) : Prop := Run P (Instr.storeAt T (ptr b o) v) w K
def St (P : Program) (T : TypeId) (n : Nat) (w : World) (b o : Nat) (v : Value) (x : Option Obj) (K : Unit → World → Prop) : Prop :=
  match x with
  | some (.cells cs U fr) => if fr = (0, 0) ∧ v.cells.size = n ∧ o + n ≤ cs.size then K () (put w b (.cells (splice cs o v.cells) U fr)) else SFail P T b o v w K
  | _ => SFail P T b o v w K
theorem St_cells (P : Program) (T : TypeId) (n : Nat) (w : World) (b o : Nat) (v : Value) (cs : Array Value) (U : TypeId) (K : Unit → World → Prop) :
    St P T n w b o v (some (.cells cs U (0, 0))) K = if v.cells.size = n ∧ o + n ≤ cs.size then K () (put w b (.cells (splice cs o v.cells) U (0, 0))) else SFail P T b o v w K := by
  unfold St; simp

def oneCell : Value → Prop
  | .agg _ => False
  | .tuple _ => False
  | _ => True
theorem run_store1 {P : Program} {w : World} {b o : Nat} {cs : Array Value} {U : TypeId} {v : Value} (h : Hp w b = some (.cells cs U (0, 0))) (ho : o < cs.size) (hv : oneCell v) :
    (store ⟨b, o, none⟩ v).run P w = .ok () (put w b (.cells (cs.setIfInBounds o v) U (0, 0))) := by
  have hc : w.cell? ⟨b, o, none⟩ = some cs[o] := by rw [cell_Hp h, Array.getElem?_eq_getElem ho]
  have hf : w.frozen? ⟨b, o, none⟩ = false := frozen_of_row w b o cs U h
  unfold store
  cases v <;> first | exact hv.elim | simp only [Sem.run, hc, hf, put_setCell h, Bool.false_eq_true, if_false]
theorem run_storeCells {P : Program} : ∀ (vs : List Value) (w : World) (b o i : Nat) (cs : Array Value) (U : TypeId), Hp w b = some (.cells cs U (0, 0)) → o + i + vs.length ≤ cs.size → (∀ v ∈ vs, oneCell v) →
    (storeCells ⟨b, o, none⟩ vs i).run P w = .ok () (put w b (.cells (splice cs (o + i) vs.toArray) U (0, 0))) := by
  intro vs
  induction vs with
  | nil =>
    intro w b o i cs U h hl _
    have e : splice cs (o + i) #[] = cs := by
      apply Array.ext_getElem?
      intro j
      rw [splice_get (by simpa using hl)]
      simp only [List.size_toArray, List.length_nil]
      rw [if_neg (by omega)]
    rw [e, put_self h]; rfl
  | cons v vs ih =>
    intro w b o i cs U h hl hv
    simp only [List.length_cons] at hl
    unfold storeCells
    have e : ((⟨b, o, none⟩ : Addr).add i) = ⟨b, o + i, none⟩ := by unfold Addr.add; split <;> simp_all
    rw [e, Sem.run_bind, run_store1 h (by omega) (hv v (by simp)), Result.andThen_ok]
    have hb := Hp_lt h
    rw [ih (put w b (.cells (cs.setIfInBounds (o + i) v) U (0, 0))) b o (i + 1) _ U (Hp_put_same _ _ _ hb) (by simp; omega) (fun u hu => hv u (by simp [hu])), put_put]
    have e2 : splice (cs.setIfInBounds (o + i) v) (o + (i + 1)) vs.toArray = splice cs (o + i) (v :: vs).toArray := ?_
    · rw [e2]
    apply Array.ext_getElem?
    intro j
    rw [splice_get (by simp; omega), splice_get (by simp; omega), Array.getElem?_setIfInBounds]
    simp only [List.size_toArray, List.length_cons]
    by_cases h1 : o + i = j
    · subst h1
      rw [if_neg (by omega), if_pos rfl, if_pos (by omega), if_pos ⟨by omega, by omega⟩]
      simp
    · rw [if_neg h1]
      by_cases h2 : o + (i + 1) ≤ j ∧ j < o + (i + 1) + vs.length
      · rw [if_pos h2, if_pos ⟨by omega, by omega⟩]
        obtain ⟨d, rfl⟩ : ∃ d, j = o + (i + 1) + d := ⟨j - (o + (i + 1)), by omega⟩
        rw [show o + (i + 1) + d - (o + (i + 1)) = d by omega, show o + (i + 1) + d - (o + i) = d + 1 by omega]
        simp
      · rw [if_neg h2, if_neg (by omega)]
section
variable {P : Program} {T : TypeId} {n : Nat}
theorem run_storeAt (hs : ∀ w, (sizeOf T).run P w = .ok n w) {w : World} {b o : Nat} {cs : Array Value} {U : TypeId} {v : Value} (h : Hp w b = some (.cells cs U (0, 0)))
    (hv : v.cells.size = n) (ho : o + n ≤ cs.size) (h1 : ∀ u ∈ v.cells.toList, oneCell u) : (Instr.storeAt T (ptr b o) v).run P w = .ok () (put w b (.cells (splice cs o v.cells) U (0, 0))) := by
  show (Instr.sureAddr (ptr b o) >>= fun x => storeVar T x v).run P w = _
  simp only [Instr.sureAddr, Sem.run_bind, Sem.run_pure, Result.andThen_ok]
  unfold storeVar
  rw [Sem.run_bind, hs, Result.andThen_ok]
  simp only [hv, ne_eq, not_true_eq_false, if_false]
  have := run_storeCells (P := P) v.cells.toList w b o 0 cs U h (by simp; omega) h1
  simpa using this
/-- A value of one cell is stored. -/
theorem r_store1 (hs : ∀ w, (sizeOf T).run P w = .ok 1 w) (w : World) (b o : Nat) (v : Value) (K : Unit → World → Prop) (hv : oneCell v) :
    Run P (Instr.storeAt T (ptr b o) v) w K = St P T 1 w b o v (Hp w b) K := by
  unfold St
  split
  · rename_i cs U fr h
    split
    · rename_i hc
      obtain ⟨rfl, h1, h2⟩ := hc
      exact Run_eq (run_storeAt hs h h1 h2 (by cases v <;> first | exact hv.elim | simp [Value.cells, oneCell])) K
    · rfl
  · rfl
/-- A struct or an array is stored. -/
theorem r_storen (hs : ∀ w, (sizeOf T).run P w = .ok n w) (w : World) (b o : Nat) (vs : Array Value) (K : Unit → World → Prop) (hv : ∀ u ∈ vs.toList, oneCell u) :
    Run P (Instr.storeAt T (ptr b o) (.agg vs)) w K = St P T n w b o (.agg vs) (Hp w b) K := by
  unfold St
  split
  · rename_i cs U fr h
    split
    · rename_i hc
      obtain ⟨rfl, h1, h2⟩ := hc
      exact Run_eq (run_storeAt hs h h1 h2 hv) K
    · rfl
  · rfl
theorem r_box (w : World) (v : Value) (K : Value → World → Prop) : Run P (Instr.box T v) w K = K (ptr (sz w) 0) (w.alloc (.cells v.cells T)) := Run_eq rfl K
theorem r_alloc {z : Value} (hz : ∀ w, (zeroValue T).run P w = .ok z w) (w : World) (x : Value) (K : Value → World → Prop) :
    Run P (Instr.alloc T true x) w K = K (ptr (sz w) 0) (w.alloc (.cells z.cells T)) := Run_eq (by
  unfold Instr.alloc
  rw [Sem.run_bind, hz, Result.andThen_ok]; rfl) K
theorem r_makeMap (w : World) (K : Value → World → Prop) : Run P (Instr.makeMap T none) w K = K (.map (some (sz w))) (w.alloc (.map #[] 0)) := Run_eq rfl K

/-! ### Addresses -/
theorem p_field {fs : Array Field} {i ft off : Nat} (hu : ∀ w, (underlying T).run P w = .ok (.struct fs) w) (hf : (fs[i]?).map (fun f => (f.type, f.offset)) = some (ft, off)) (hs : ∀ w, (sizeOf ft).run P w = .ok (n + 1) w)
    (b o : Nat) (K : Value → Prop) : PRun P (Instr.fieldAt T (ptr b o) i) K = K (ptr b (o + off)) := PRun_eq (fun w => by
  obtain ⟨f, hf1, h2⟩ := Option.map_eq_some_iff.1 hf
  simp only [Prod.mk.injEq] at h2
  obtain ⟨rfl, rfl⟩ := h2
  unfold Instr.fieldAt
  rw [Sem.run_bind, hu, Result.andThen_ok]
  simp only [hf1, Instr.sureAddr, Sem.run_bind, Sem.run_pure, Result.andThen_ok]
  unfold fieldPlace
  rw [Sem.run_bind, hs, Result.andThen_ok]
  simp only [Nat.add_one_ne_zero, if_false, Sem.run_pure, Result.andThen_ok]
  congr 3
  unfold Addr.add
  split <;> simp_all) K
theorem p_indexSlice {e : TypeId} {s : Nat} (hu : ∀ w, (underlying T).run P w = .ok (.slice e) w) (hs : ∀ w, (sizeOf e).run P w = .ok s w) (b o len cap : Nat) (i : Int) (K : Value → Prop) (h0 : 0 ≤ i) (h1 : i < len) :
    PRun P (Instr.indexAt T (.slice (some ⟨b, o, none⟩) len cap) (i64 i)) K = K (ptr b (o + i.toNat * s)) := PRun_eq (fun w => by
  have h : 0 ≤ i ∧ i < (len : Int) := ⟨h0, h1⟩
  unfold Instr.indexAt asIntOf
  rw [Sem.run_bind, Sem.run_pure, Result.andThen_ok]
  simp only [Sem.run_bind, hu, Result.andThen_ok, Sem.run_pure, h, and_self, if_true, hs]
  congr 3
  unfold Addr.add
  split <;> simp_all) K
theorem p_indexArr {e : TypeId} {s len : Nat} (hu : ∀ w, (underlying T).run P w = .ok (.array len e) w) (hs : ∀ w, (sizeOf e).run P w = .ok s w) (b o : Nat) (i : Int) (K : Value → Prop) (h0 : 0 ≤ i) (h1 : i < len) :
    PRun P (Instr.indexAt T (ptr b o) (i64 i)) K = K (ptr b (o + i.toNat * s)) := PRun_eq (fun w => by
  have h : 0 ≤ i ∧ i < (len : Int) := ⟨h0, h1⟩
  unfold Instr.indexAt asIntOf
  rw [Sem.run_bind, Sem.run_pure, Result.andThen_ok]
  simp only [Sem.run_bind, hu, Result.andThen_ok, Sem.run_pure, Instr.sureAddr, h, and_self, if_true, hs]
  congr 3
  unfold Addr.add
  split <;> simp_all) K
theorem p_lenSlice {e : TypeId} (hu : ∀ w, (underlying T).run P w = .ok (.slice e) w) (R : TypeId) (a : Option Addr) (len cap : Nat) (K : Value → Prop) :
    PRun P (Builtin.len_ #[T] R #[.slice a len cap]) K = K (i64 len) := PRun_eq (fun w => by
  show ((underlying T) >>= _).run P w = _
  rw [Sem.run_bind, hu, Result.andThen_ok]; rfl) K
theorem p_lenString (hu : ∀ w, (underlying T).run P w = .ok .string w) (R : TypeId) (s : ByteArray) (K : Value → Prop) :
    PRun P (Builtin.len_ #[T] R #[.string s]) K = K (i64 s.size) := PRun_eq (fun w => by
  show ((underlying T) >>= _).run P w = _
  rw [Sem.run_bind, hu, Result.andThen_ok]; rfl) K
/-- Where a part of a slice begins. -/
def cutAt (a : Option Addr) (cap l s : Nat) : Option Addr := if cap = l then a else a.map (·.add (l * s))
theorem addr_add (b o n : Nat) : (⟨b, o, none⟩ : Addr).add n = ⟨b, o + n, none⟩ := by unfold Addr.add; split <;> simp_all
theorem cutAt_some (b o cap l s : Nat) (h : l < cap) : cutAt (some ⟨b, o, none⟩) cap l s = some ⟨b, o + l * s, none⟩ := by
  unfold cutAt; rw [if_neg (by omega), Option.map_some, addr_add]
theorem cutAt_zero (b o cap s : Nat) : cutAt (some ⟨b, o, none⟩) cap 0 s = some ⟨b, o, none⟩ := by
  unfold cutAt; split
  · rfl
  · simp [addr_add]
theorem cutAt_end (a : Option Addr) (cap s : Nat) : cutAt a cap cap s = a := by unfold cutAt; simp
theorem cutAt_none (cap l s : Nat) : cutAt none cap l s = none := by unfold cutAt; split <;> rfl
theorem run_bound (n : Int) (y : Nat) (c : BoundsCode) (h0 : 0 ≤ n) (h1 : n ≤ y) (w : World) : (Instr.sliceBound (i64 n) y c).run P w = .ok n.toNat w := by
  have e : 0 ≤ n ∧ n ≤ (y : Int) := ⟨h0, h1⟩
  unfold Instr.sliceBound asIntOf
  simp only [Sem.run_bind, Sem.run_pure, Result.andThen_ok, e, and_self, if_true]
section
variable {e : TypeId} {s : Nat} (hu : ∀ w, (underlying T).run P w = .ok (.slice e) w) (hs : ∀ w, (sizeOf e).run P w = .ok s w) (a : Option Addr) (len cap : Nat) (K : Value → Prop)
include hu hs
/-- xs[l:h], xs[l:], xs[:h], xs[:]. -/
theorem p_sliceLH (l h : Int) (h0 : 0 ≤ l) (h1 : l ≤ h) (h2 : h ≤ cap) :
    PRun P (Instr.sliceAt T (.slice a len cap) (some (i64 l)) (some (i64 h)) none) K = K (.slice (cutAt a cap l.toNat s) (h.toNat - l.toNat) (cap - l.toNat)) := PRun_eq (fun w => by
    unfold Instr.sliceAt
    simp only [Sem.run_bind, hu, Result.andThen_ok]
    unfold Instr.slice
    simp only [Sem.run_bind, hu, Result.andThen_ok]
    unfold Instr.sliceBounds
    simp only [Sem.run_bind, Sem.run_pure, Result.andThen_ok, hs, run_bound h cap _ (by omega) h2, run_bound l h.toNat _ h0 (by omega)]
    rfl) K
theorem p_sliceL (l : Int) (h0 : 0 ≤ l) (h1 : l ≤ len) :
    PRun P (Instr.sliceAt T (.slice a len cap) (some (i64 l)) none none) K = K (.slice (cutAt a cap l.toNat s) (len - l.toNat) (cap - l.toNat)) := PRun_eq (fun w => by
    unfold Instr.sliceAt
    simp only [Sem.run_bind, hu, Result.andThen_ok]
    unfold Instr.slice
    simp only [Sem.run_bind, hu, Result.andThen_ok]
    unfold Instr.sliceBounds
    simp only [Sem.run_bind, Sem.run_pure, Result.andThen_ok, hs, run_bound l len _ h0 (by omega)]
    rfl) K
theorem p_sliceH (h : Int) (h0 : 0 ≤ h) (h2 : h ≤ cap) :
    PRun P (Instr.sliceAt T (.slice a len cap) none (some (i64 h)) none) K = K (.slice (cutAt a cap 0 s) h.toNat cap) := PRun_eq (fun w => by
    unfold Instr.sliceAt
    simp only [Sem.run_bind, hu, Result.andThen_ok]
    unfold Instr.slice
    simp only [Sem.run_bind, hu, Result.andThen_ok]
    unfold Instr.sliceBounds
    simp only [Sem.run_bind, Sem.run_pure, Result.andThen_ok, hs, run_bound h cap _ (by omega) h2]
    rfl) K
theorem p_sliceN : PRun P (Instr.sliceAt T (.slice a len cap) none none none) K = K (.slice (cutAt a cap 0 s) len cap) := PRun_eq (fun w => by
    unfold Instr.sliceAt
    simp only [Sem.run_bind, hu, Result.andThen_ok]
    unfold Instr.slice
    simp only [Sem.run_bind, hu, Result.andThen_ok]
    unfold Instr.sliceBounds
    simp only [Sem.run_bind, Sem.run_pure, Result.andThen_ok, hs]
    rfl) K
end
/-- The whole of an array, or a part, as a slice. -/
theorem run_sliceArr {e : TypeId} {s n : Nat} (hu : ∀ w, (underlying T).run P w = .ok (.array n e) w) (hs : ∀ w, (sizeOf e).run P w = .ok s w) (b o : Nat) (w : World) :
    (Instr.sliceAt T (ptr b o) none none none).run P w = .ok (.slice (some ⟨b, o, none⟩) n n) w := by
  unfold Instr.sliceAt
  simp only [Sem.run_bind, hu, Result.andThen_ok, Instr.sureAddr, Sem.run_pure]
  unfold Instr.sliceBounds
  simp only [Sem.run_bind, Sem.run_pure, Result.andThen_ok, hs]
  congr 3
  split
  · rfl
  · simp [addr_add]
theorem p_sliceArr {e : TypeId} {s n : Nat} (hu : ∀ w, (underlying T).run P w = .ok (.array n e) w) (hs : ∀ w, (sizeOf e).run P w = .ok s w) (b o : Nat) (K : Value → Prop) :
    PRun P (Instr.sliceAt T (ptr b o) none none none) K = K (.slice (some ⟨b, o, none⟩) n n) := PRun_eq (run_sliceArr hu hs b o) K
end
end Go.Lf
