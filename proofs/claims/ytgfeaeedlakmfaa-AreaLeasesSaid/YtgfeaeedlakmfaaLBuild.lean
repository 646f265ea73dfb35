/- Composite literals of structs; make of a slice. -/
import Derived.Test.YtgfeaeedlakmfaaLVecL
import Derived.Laws.MakeOwn
set_option linter.unusedVariables false
set_option linter.unusedSimpArgs false
set_option linter.unusedSectionVars false
namespace Go.Lf
open Go
theorem foldl_splice (cells vs : Array Value) (off : Nat) (h : off + vs.size ≤ cells.size) : vs.zipIdx.foldl (fun cs (x : Value × Nat) => cs.setIfInBounds (off + x.2) x.1) cells = splice cells off vs := by
  rw [← Array.foldl_toList, Array.toList_zipIdx]
  have := foldl_set vs.toList cells off 0 (by simpa using h)
  simpa using this
theorem madeCells_one (z : Value) (n : Nat) : madeCells #[z] n = (List.replicate n z).toArray := by
  unfold madeCells
  apply Array.ext
  · simp
  · intro i h1 h2; simp [Nat.mod_one]
theorem madeCells_u8 (n : Nat) : madeCells #[Value.int .u8 0] n = (bc (List.replicate n 0)).toArray := by
  rw [madeCells_one]; simp [bc]
theorem fill_step {place : Nat → Option (Nat × Nat)} {cells : Array Value} {i off size N : Nat} {v : Value} {l : List (Nat × Value)} {r : Option (Array Value)} (hp : place i = some (off, size)) (hv : v.cells.size = size) (hN : cells.size = N) (ho : off + size ≤ N)
    (hr : (splice cells off v.cells).size = N → Instr.fill place (splice cells off v.cells) l = r) : Instr.fill place cells ((i, v) :: l) = r := by
  unfold Instr.fill
  rw [hp]
  simp only [hv, ne_eq, not_true_eq_false, decide_false, Bool.false_or, decide_eq_true_eq]
  rw [if_neg (by omega)]
  rw [← hr (by rw [splice_size (by omega), hN]), ← foldl_splice _ _ _ (by omega)]
theorem p_buildS {P : Program} {t : Nat} {zv : Value} {fields : Array Field} {places : Array (Nat × Nat)} {parts : Array (Nat × Value)} {cells : Array Value} (hz : ∀ w, (zeroValue t).run P w = .ok zv w)
    (hu : ∀ w, (underlying t).run P w = .ok (.struct fields) w) (hpl : ∀ w, (fields.mapM fun f => do pure (f.offset, ← sizeOf f.type) : Sem (Array (Nat × Nat))).run P w = .ok places w)
    (hf : Instr.fill (places[·]?) zv.cells parts.toList = some cells) (K : Value → Prop) : PRun P (Instr.build t parts) K = K (.agg cells) := PRun_eq (fun w => by
  unfold Instr.build
  simp only [Sem.run_bind, hz, Result.andThen_ok, hu, hpl, hf]
  rfl) K
theorem r_makeSlice {P : Program} {t e : Nat} {i : TypeInfo} {z : Value} (ht : P.underlying t = some (.slice e)) (hi : P.info? e = some i) (hz : i.zero = some z)
    (kl kc : IntKind) (l c : Int) (w : World) (K : Value → World → Prop) (h0 : 0 ≤ l) (hlc : l ≤ c) (hcells : c.toNat * i.size ≤ 16777216) (hbytes : (i.bytes : Int) * c ≤ 281474976710656) (h63 : c ≤ 9223372036854775807) :
    Run P (Instr.makeSlice t (.int kl l) (.int kc c)) w K = K (.slice (some ⟨sz w, 0, none⟩) l.toNat c.toNat) (w.alloc (.cells (madeCells z.cells (c.toNat * i.size)) e)) :=
  Run_eq (run_makeSlice _ t e i z ht hi hz kl kc l c h0 hlc hcells hbytes h63) K
theorem p_makeFunc {P : Program} (f : Fn) (a b : Array Value) (K : Value → Prop) : PRun P (Instr.makeFunc f a b) K = K (.func f a b) := PRun_eq (fun _ => rfl) K
theorem VRow.setCell {α : Type} {f : α → List Value} {z : Nat} {row : Array Value} {o : Nat} {L : List α} (h : VRow f z row o L) {i j : Nat} {x x' : α} {v : Value} (hx : L[i]? = some x) (hj : j < z) (hx' : f x' = (f x).set j v) :
    VRow f z (splice row (o + i * z + j) #[v]) o (L.set i x') := by
  obtain ⟨h1, h2, h3⟩ := h
  have hi : i < L.length := (List.getElem?_eq_some_iff.1 hx).1
  have hle := idx_lt (z := z) hi
  have hlx := h1 x (List.mem_of_getElem? hx)
  have hsz : (splice row (o + i * z + j) #[v]).size = row.size := splice_size (by simp; omega)
  refine ⟨fun y hy => ?_, by rw [hsz, List.length_set]; exact h2, fun k y hy m hm => ?_⟩
  · rcases List.mem_or_eq_of_mem_set hy with hy | rfl
    · exact h1 y hy
    · rw [hx', List.length_set]; exact hlx
  · have hk : k < L.length := by have := (List.getElem?_eq_some_iff.1 hy).1; simpa using this
    have hlk := idx_lt (z := z) hk
    rw [splice_get (by simp; omega)]
    simp only [List.size_toArray, List.length_cons, List.length_nil, Nat.zero_add]
    rw [List.getElem?_set] at hy
    by_cases e : i = k
    · subst e
      rw [if_pos rfl, if_pos hi] at hy
      cases hy
      rw [hx', List.getElem?_set]
      by_cases hm' : j = m
      · subst hm'
        rw [if_pos (by omega), if_pos rfl, if_pos (by omega)]; simp
      · rw [if_neg (by omega), if_neg hm']; exact h3 i x hx m hm
    · rw [if_neg e] at hy
      rw [if_neg ?_]
      · exact h3 k y hy m hm
      · intro hh
        rcases Nat.lt_or_gt_of_ne e with h | h
        · have := idx_lt (z := z) h; omega
        · have := idx_lt (z := z) h; omega
end Go.Lf
