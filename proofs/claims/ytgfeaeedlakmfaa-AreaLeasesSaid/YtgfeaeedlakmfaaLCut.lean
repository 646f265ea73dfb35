/- Parts of slices of many-celled elements; append of one to another. -/
import Derived.Test.YtgfeaeedlakmfaaLBuild
set_option linter.unusedVariables false
set_option linter.unusedSimpArgs false
set_option linter.unusedSectionVars false
namespace Go.Lf
open Go
section
variable {α : Type} {f : α → List Value} {e z : Nat} {w : World} {v : Value} {L : List α} {Q : Nat → Prop}
theorem VRow.take {row : Array Value} {o : Nat} (h : VRow f z row o L) (i : Nat) : VRow f z row o (L.take i) := by
  obtain ⟨h1, h2, h3⟩ := h
  refine ⟨fun x hx => h1 x (List.mem_of_mem_take hx), ?_, fun k x hx j hj => ?_⟩
  · have : (L.take i).length ≤ L.length := by rw [List.length_take]; omega
    have := Nat.mul_le_mul_right z this; omega
  · rw [List.getElem?_take] at hx
    split at hx
    · exact h3 k x hx j hj
    · cases hx
theorem VRow.drop {row : Array Value} {o : Nat} (h : VRow f z row o L) (i : Nat) (hi : i ≤ L.length) : VRow f z row (o + i * z) (L.drop i) := by
  obtain ⟨h1, h2, h3⟩ := h
  refine ⟨fun x hx => h1 x (List.mem_of_mem_drop hx), ?_, fun k x hx j hj => ?_⟩
  · rw [List.length_drop]
    have : i * z + (L.length - i) * z = L.length * z := by rw [← Nat.add_mul]; congr 1; omega
    omega
  · rw [List.getElem?_drop] at hx
    rw [← h3 (i + k) x hx j hj, Nat.add_mul]
    congr 1; omega
theorem Sl.takeV {a : Option Addr} {n cap : Nat} (h : Sl f e z w (.slice a n cap) L Q) (i : Nat) (hi : i ≤ L.length) : Sl f e z w (.slice (cutAt a cap 0 z) i cap) (L.take i) Q ∧ i ≤ cap ∧ n = L.length := by
  rcases h.2 with ⟨h1, h2⟩ | ⟨b, o, cap', row, h1, h2, h3, h4, h5, h6⟩
  · cases h1; subst h2
    have : i = 0 := by simpa using hi
    subst this
    exact ⟨by rw [cutAt_none, List.take_nil]; exact Sl.nil _ _ _ _ _, Nat.le_refl _, rfl⟩
  · cases h1
    have hl : (L.take i).length = i := by rw [List.length_take]; omega
    refine ⟨⟨fun x hx => h.1 x (List.mem_of_mem_take hx), .inr ⟨b, o, cap, row, by rw [cutAt_zero, hl], by omega, h3, h4, h5.take i, h6⟩⟩, by omega, rfl⟩
theorem Sl.dropV {a : Option Addr} {n cap : Nat} (h : Sl f e z w (.slice a n cap) L Q) (i : Nat) (hi : i ≤ L.length) : Sl f e z w (.slice (cutAt a cap i z) (n - i) (cap - i)) (L.drop i) Q ∧ i ≤ n ∧ n = L.length := by
  rcases h.2 with ⟨h1, h2⟩ | ⟨b, o, cap', row, h1, h2, h3, h4, h5, h6⟩
  · cases h1; subst h2
    have : i = 0 := by simpa using hi
    subst this
    exact ⟨by rw [cutAt_none, List.drop_nil]; exact Sl.nil _ _ _ _ _, Nat.le_refl _, rfl⟩
  · cases h1
    have hl : (L.drop i).length = L.length - i := List.length_drop
    refine ⟨⟨fun x hx => h.1 x (List.mem_of_mem_drop hx), ?_⟩, hi, rfl⟩
    right
    by_cases hc : i < cap
    · refine ⟨b, o + i * z, cap - i, row, by rw [cutAt_some _ _ _ _ _ hc, hl], by omega, h3, ?_, h5.drop i hi, h6⟩
      have : i * z + (cap - i) * z = cap * z := by rw [← Nat.add_mul]; congr 1; omega
      omega
    · have hci : i = cap := by omega
      subst hci
      have hn : L.drop i = [] := List.drop_eq_nil_of_le (by omega)
      refine ⟨b, o, i - i, row, by rw [cutAt_end, hl], by omega, h3, by simp; omega, ?_, h6⟩
      rw [hn]
      exact ⟨by simp, by simp; omega, by simp⟩
theorem Sl.fresh (row : Array Value) (hL : ∀ x ∈ L, (f x).length = z) (h : row.toList = L.flatMap f) : Sl f e z (w.alloc (.cells row e (0, 0))) (.slice (some ⟨sz w, 0, none⟩) L.length L.length) L (fun b => b = sz w) := by
  have hsz : row.size = L.length * z := by rw [← Array.length_toList, h, flat_length f z L hL]
  have := Vec.fresh (w := w) (e := e) (z := z) (n := L.length) row hsz
  rw [h] at this
  exact Sl.of_vec hL this
end
theorem split_at {α : Type} {L : List α} {i : Nat} {y : α} (hy : L[i]? = some y) : L = L.take i ++ [y] ++ L.drop (i + 1) := by
  obtain ⟨hlt, he⟩ := List.getElem?_eq_some_iff.1 hy
  have := List.take_append_drop i L
  rw [List.drop_eq_getElem_cons hlt, he] at this
  rw [List.append_assoc]; exact this.symm
theorem Ext.trans2 {M M1 M2 : Nat → Prop} {w w' w'' : World} (h : Ext M1 w w') (h' : Ext M2 w' w'') (h1 : ∀ b, b < sz w → M1 b → M b) (h2 : ∀ b, b < sz w → M2 b → M b) : Ext M w w'' :=
  (h.mono h1).trans h' h2
end Go.Lf
