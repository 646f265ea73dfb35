/- Slices of elements of z cells each, element by element. -/
import Derived.Test.YtgfeaeedlakmfaaLExt
set_option linter.unusedVariables false
set_option linter.unusedSimpArgs false
set_option linter.unusedSectionVars false
namespace Go.Lf
open Go
section
variable {α : Type} (f : α → List Value) (z : Nat)
theorem flat_length : ∀ (L : List α), (∀ x ∈ L, (f x).length = z) → (L.flatMap f).length = L.length * z
  | [], _ => by simp
  | x :: L, h => by
    rw [List.flatMap_cons, List.length_append, flat_length L fun y hy => h y (by simp [hy]), h x (by simp), List.length_cons, Nat.succ_mul, Nat.add_comm]
theorem flat_get : ∀ (L : List α), (∀ x ∈ L, (f x).length = z) → ∀ (i : Nat) (x : α), L[i]? = some x → ∀ j, j < z → (L.flatMap f)[i * z + j]? = (f x)[j]?
  | [], _, i, x, h, j, _ => by simp at h
  | y :: L, hL, 0, x, h, j, hj => by
    simp at h; subst h
    rw [List.flatMap_cons, List.getElem?_append_left (by rw [hL y (by simp)]; omega)]; simp
  | y :: L, hL, i + 1, x, h, j, hj => by
    rw [List.flatMap_cons, List.getElem?_append_right (by rw [hL y (by simp), Nat.succ_mul]; omega), hL y (by simp), show (i + 1) * z + j - z = i * z + j by rw [Nat.succ_mul]; omega]
    exact flat_get L (fun y hy => hL y (by simp [hy])) i x (by simpa using h) j hj
/-- The row reads, from place o on, as the elements L. -/
def VRow (row : Array Value) (o : Nat) (L : List α) : Prop :=
  (∀ x ∈ L, (f x).length = z) ∧ o + L.length * z ≤ row.size ∧ ∀ i x, L[i]? = some x → ∀ j, j < z → row[o + i * z + j]? = (f x)[j]?
variable {f z}
theorem idx_lt {i n z : Nat} (h : i < n) : i * z + z ≤ n * z := by
  have := Nat.mul_le_mul_right z (Nat.succ_le_of_lt h); rwa [Nat.succ_mul] at this
theorem VRow.get {row : Array Value} {o : Nat} {L : List α} (h : VRow f z row o L) {i : Nat} {x : α} (hx : L[i]? = some x) : row.extract (o + i * z) (o + i * z + z) = (f x).toArray := by
  obtain ⟨h1, h2, h3⟩ := h
  have hi : i < L.length := (List.getElem?_eq_some_iff.1 hx).1
  have hlx := h1 x (List.mem_of_getElem? hx)
  have hle := idx_lt (z := z) hi
  apply Array.ext_getElem?
  intro j
  have e : (f x).toArray[j]? = (f x)[j]? := List.getElem?_toArray
  rw [Array.getElem?_extract, e]
  by_cases hj : j < z
  · rw [if_pos (by omega)]; exact h3 i x hx j hj
  · rw [if_neg (by omega), List.getElem?_eq_none (by omega)]
theorem VRow.set {row : Array Value} {o : Nat} {L : List α} (h : VRow f z row o L) {i : Nat} (hi : i < L.length) {x : α} (hx : (f x).length = z) : VRow f z (splice row (o + i * z) (f x).toArray) o (L.set i x) := by
  obtain ⟨h1, h2, h3⟩ := h
  have hle := idx_lt (z := z) hi
  have hsz : (splice row (o + i * z) (f x).toArray).size = row.size := by
    unfold splice; simp only [Array.size_append, Array.size_extract, List.size_toArray, hx]; omega
  refine ⟨fun y hy => ?_, by rw [hsz, List.length_set]; exact h2, fun k y hy j hj => ?_⟩
  · rcases List.mem_or_eq_of_mem_set hy with hy | rfl
    · exact h1 y hy
    · exact hx
  · have hk : k < L.length := by have := (List.getElem?_eq_some_iff.1 hy).1; simpa using this
    have hlk := idx_lt (z := z) hk
    rw [splice_get (by simp only [List.size_toArray, hx]; omega), List.size_toArray, hx]
    rw [List.getElem?_set] at hy
    by_cases e : i = k
    · subst e
      rw [if_pos rfl, if_pos hi] at hy
      cases hy
      rw [if_pos (by omega), List.getElem?_toArray, show o + i * z + j - (o + i * z) = j by omega]
    · rw [if_neg e] at hy
      rw [if_neg ?_]
      · exact h3 k y hy j hj
      · intro hh
        rcases Nat.lt_or_gt_of_ne e with h | h
        · have := idx_lt (z := z) h; omega
        · have := idx_lt (z := z) h; omega
theorem VRow.of {row : Array Value} {o cap : Nat} {L : List α} (hL : ∀ x ∈ L, (f x).length = z) (hn : L.length ≤ cap) (ho : o + cap * z ≤ row.size) (h : ∀ j, j < L.length * z → row[o + j]? = (L.flatMap f)[j]?) : VRow f z row o L :=
  ⟨hL, Nat.le_trans (Nat.add_le_add_left (Nat.mul_le_mul_right z hn) o) ho, fun i x hx j hj => by
    have hi : i < L.length := (List.getElem?_eq_some_iff.1 hx).1
    have := idx_lt (z := z) hi
    rw [Nat.add_assoc, h _ (by omega), flat_get f z L hL i x hx j hj]⟩
theorem VRow.flat {row : Array Value} {o : Nat} {L : List α} (h : VRow f z row o L) (hz : 0 < z) : ∀ j, j < L.length * z → row[o + j]? = (L.flatMap f)[j]? := by
  intro j hj
  have hi : j / z < L.length := Nat.div_lt_of_lt_mul (by rw [Nat.mul_comm]; exact hj)
  have e : j / z * z + j % z = j := by rw [Nat.mul_comm]; exact Nat.div_add_mod j z
  have hx : L[j / z]? = some L[j / z] := List.getElem?_eq_getElem hi
  have hm := Nat.mod_lt j hz
  rw [← e, ← Nat.add_assoc, h.2.2 _ _ hx _ hm, flat_get f z L h.1 _ _ hx _ hm]
end
/-- A slice value that reads as the elements L. -/
def Sl {α : Type} (f : α → List Value) (e z : Nat) (w : World) (v : Value) (L : List α) (Q : Nat → Prop) : Prop :=
  (∀ x ∈ L, (f x).length = z) ∧ ((v = .slice none 0 0 ∧ L = []) ∨
    ∃ b o cap row, v = .slice (some ⟨b, o, none⟩) L.length cap ∧ L.length ≤ cap ∧ Hp w b = some (.cells row e (0, 0)) ∧ o + cap * z ≤ row.size ∧ VRow f z row o L ∧ Q b)
section
variable {α : Type} {f : α → List Value} {e z : Nat} {w : World} {v : Value} {L : List α} {Q : Nat → Prop}
theorem Sl.of_vec (hL : ∀ x ∈ L, (f x).length = z) (h : Vec w e z v L.length (L.flatMap f) Q) : Sl f e z w v L Q := by
  refine ⟨hL, ?_⟩
  rcases h.2 with ⟨h1, h2⟩ | ⟨b, o, cap, row, h1, h2, h3, h4, h5, h6⟩
  · exact .inl ⟨h1, List.length_eq_zero_iff.1 h2⟩
  · exact .inr ⟨b, o, cap, row, h1, h2, h3, h4, VRow.of hL h2 h4 h5, h6⟩
theorem Sl.vec (hz : 0 < z) (h : Sl f e z w v L Q) : Vec w e z v L.length (L.flatMap f) Q := by
  refine ⟨flat_length f z L h.1, ?_⟩
  rcases h.2 with ⟨h1, h2⟩ | ⟨b, o, cap, row, h1, h2, h3, h4, h5, h6⟩
  · exact .inl ⟨h1, by rw [h2]; rfl⟩
  · exact .inr ⟨b, o, cap, row, h1, h2, h3, h4, h5.flat hz, h6⟩
theorem Sl.ext {w' : World} {M : Nat → Prop} (h : Sl f e z w v L Q) (x : Ext M w w') (hq : ∀ b, b < sz w → Q b → ¬ M b) : Sl f e z w' v L Q := by
  refine ⟨h.1, h.2.imp id ?_⟩
  rintro ⟨b, o, cap, row, h1, h2, h3, h4, h5, h6⟩
  exact ⟨b, o, cap, row, h1, h2, x.at h3 (hq b (Hp_lt h3) h6), h4, h5, h6⟩
theorem Sl.mono {Q' : Nat → Prop} (h : Sl f e z w v L Q) (hq : ∀ b, b < sz w → Q b → Q' b) : Sl f e z w v L Q' := by
  refine ⟨h.1, h.2.imp id ?_⟩
  rintro ⟨b, o, cap, row, h1, h2, h3, h4, h5, h6⟩
  exact ⟨b, o, cap, row, h1, h2, h3, h4, h5, hq b (Hp_lt h3) h6⟩
theorem Sl.nil (f : α → List Value) (e z : Nat) (w : World) (Q : Nat → Prop) : Sl f e z w (.slice none 0 0) [] Q := ⟨by simp, .inl ⟨rfl, rfl⟩⟩
theorem Sl.form (h : Sl f e z w v L Q) : ∃ a cap, v = .slice a L.length cap := by
  rcases h.2 with ⟨h1, h2⟩ | ⟨b, o, cap, row, h1, _⟩
  · exact ⟨_, 0, by rw [h1, h2]; rfl⟩
  · exact ⟨_, cap, h1⟩
theorem Sl.at (h : Sl f e z w v L Q) (hne : L ≠ []) : ∃ b o cap row, v = .slice (some ⟨b, o, none⟩) L.length cap ∧ L.length ≤ cap ∧ Hp w b = some (.cells row e (0, 0)) ∧ o + cap * z ≤ row.size ∧ VRow f z row o L ∧ Q b := by
  rcases h.2 with ⟨_, h2⟩ | h
  · exact absurd h2 hne
  · exact h
end
theorem Loop5 {a0 a1 a2 a3 a4 : Value} {w : World} {body : Value → Value → Value → Value → Value → World → (Value → Value → Value → Value → Value → World → Prop) → Prop} (I : Value → Value → Value → Value → Value → World → Prop) (μ : Value → Value → Value → Value → Value → World → Nat) (h0 : I a0 a1 a2 a3 a4 w)
    (h : ∀ x0 x1 x2 x3 x4 w, I x0 x1 x2 x3 x4 w → body x0 x1 x2 x3 x4 w fun y0 y1 y2 y3 y4 w' => I y0 y1 y2 y3 y4 w' ∧ μ y0 y1 y2 y3 y4 w' < μ x0 x1 x2 x3 x4 w) : LoopF 5 [a0, a1, a2, a3, a4] w body := ⟨I, μ, h0, h⟩
theorem Loop6 {a0 a1 a2 a3 a4 a5 : Value} {w : World} {body : Value → Value → Value → Value → Value → Value → World → (Value → Value → Value → Value → Value → Value → World → Prop) → Prop} (I : Value → Value → Value → Value → Value → Value → World → Prop) (μ : Value → Value → Value → Value → Value → Value → World → Nat) (h0 : I a0 a1 a2 a3 a4 a5 w)
    (h : ∀ x0 x1 x2 x3 x4 x5 w, I x0 x1 x2 x3 x4 x5 w → body x0 x1 x2 x3 x4 x5 w fun y0 y1 y2 y3 y4 y5 w' => I y0 y1 y2 y3 y4 y5 w' ∧ μ y0 y1 y2 y3 y4 y5 w' < μ x0 x1 x2 x3 x4 x5 w) : LoopF 6 [a0, a1, a2, a3, a4, a5] w body := ⟨I, μ, h0, h⟩
theorem Loop7 {a0 a1 a2 a3 a4 a5 a6 : Value} {w : World} {body : Value → Value → Value → Value → Value → Value → Value → World → (Value → Value → Value → Value → Value → Value → Value → World → Prop) → Prop} (I : Value → Value → Value → Value → Value → Value → Value → World → Prop) (μ : Value → Value → Value → Value → Value → Value → Value → World → Nat) (h0 : I a0 a1 a2 a3 a4 a5 a6 w)
    (h : ∀ x0 x1 x2 x3 x4 x5 x6 w, I x0 x1 x2 x3 x4 x5 x6 w → body x0 x1 x2 x3 x4 x5 x6 w fun y0 y1 y2 y3 y4 y5 y6 w' => I y0 y1 y2 y3 y4 y5 y6 w' ∧ μ y0 y1 y2 y3 y4 y5 y6 w' < μ x0 x1 x2 x3 x4 x5 x6 w) : LoopF 7 [a0, a1, a2, a3, a4, a5, a6] w body := ⟨I, μ, h0, h⟩
theorem Loop8 {a0 a1 a2 a3 a4 a5 a6 a7 : Value} {w : World} {body : Value → Value → Value → Value → Value → Value → Value → Value → World → (Value → Value → Value → Value → Value → Value → Value → Value → World → Prop) → Prop} (I : Value → Value → Value → Value → Value → Value → Value → Value → World → Prop) (μ : Value → Value → Value → Value → Value → Value → Value → Value → World → Nat) (h0 : I a0 a1 a2 a3 a4 a5 a6 a7 w)
    (h : ∀ x0 x1 x2 x3 x4 x5 x6 x7 w, I x0 x1 x2 x3 x4 x5 x6 x7 w → body x0 x1 x2 x3 x4 x5 x6 x7 w fun y0 y1 y2 y3 y4 y5 y6 y7 w' => I y0 y1 y2 y3 y4 y5 y6 y7 w' ∧ μ y0 y1 y2 y3 y4 y5 y6 y7 w' < μ x0 x1 x2 x3 x4 x5 x6 x7 w) : LoopF 8 [a0, a1, a2, a3, a4, a5, a6, a7] w body := ⟨I, μ, h0, h⟩
theorem Join4 {body : (Value → Value → Value → Value → World → Prop) → Prop} {r : Value → Value → Value → Value → World → Prop} (J : Value → Value → Value → Value → World → Prop) (h : body J) (hr : ∀ x0 x1 x2 x3 w, J x0 x1 x2 x3 w → r x0 x1 x2 x3 w) : LetJ 4 body r := ⟨J, h, hr⟩
theorem Join5 {body : (Value → Value → Value → Value → Value → World → Prop) → Prop} {r : Value → Value → Value → Value → Value → World → Prop} (J : Value → Value → Value → Value → Value → World → Prop) (h : body J) (hr : ∀ x0 x1 x2 x3 x4 w, J x0 x1 x2 x3 x4 w → r x0 x1 x2 x3 x4 w) : LetJ 5 body r := ⟨J, h, hr⟩
theorem Join6 {body : (Value → Value → Value → Value → Value → Value → World → Prop) → Prop} {r : Value → Value → Value → Value → Value → Value → World → Prop} (J : Value → Value → Value → Value → Value → Value → World → Prop) (h : body J) (hr : ∀ x0 x1 x2 x3 x4 x5 w, J x0 x1 x2 x3 x4 x5 w → r x0 x1 x2 x3 x4 x5 w) : LetJ 6 body r := ⟨J, h, hr⟩
end Go.Lf
