/- A part of the proof: Lf.Mem6. -/
import Derived.Test.YtgfeaeedlakmfaaLMem5
set_option linter.unusedVariables false
set_option linter.unusedSimpArgs false
set_option linter.unusedSectionVars false
namespace Go.Lf
open Go
theorem ext_bc {k : List UInt8} {n : Nat} (b : Array Value) (h : k.length = n) : ((bc k).toArray ++ b).extract 0 n = (bc k).toArray := by
  subst h
  apply Array.ext_getElem?
  intro j
  simp only [Array.getElem?_extract, Array.size_append, List.size_toArray, bc_length, Nat.sub_zero, Nat.zero_add, Array.getElem?_append]
  by_cases hj : j < k.length
  · rw [if_pos (by omega), if_pos hj]
  · rw [if_neg (by omega), List.getElem?_toArray, List.getElem?_eq_none (by rw [bc_length]; omega)]
theorem ext_bc0 {k : List UInt8} {n : Nat} (h : k.length = n) : ((bc k).toArray).extract 0 n = (bc k).toArray := by
  have := ext_bc (k := k) #[] h
  simpa using this
theorem get_bc (k : List UInt8) (b : Array Value) (j : Nat) (h : k.length ≤ j) : ((bc k).toArray ++ b)[j]? = b[j - k.length]? := by
  rw [Array.getElem?_append, if_neg (by simp [bc_length]; omega)]; simp [bc_length]
theorem splice_bc (k : List UInt8) (b vs : Array Value) (o : Nat) (h : k.length ≤ o) (hs : o + vs.size ≤ k.length + b.size) : splice ((bc k).toArray ++ b) o vs = (bc k).toArray ++ splice b (o - k.length) vs := by
  apply Array.ext_getElem?
  intro j
  rw [splice_get (by simp [bc_length]; omega), Array.getElem?_append, Array.getElem?_append]
  simp only [List.size_toArray, bc_length]
  by_cases h1 : j < k.length
  · rw [if_neg (by omega), if_pos h1, if_pos h1]
  · rw [if_neg h1, if_neg h1, splice_get (by omega)]
    by_cases h2 : o ≤ j ∧ j < o + vs.size
    · rw [if_pos h2, if_pos (by omega)]; congr 1; omega
    · rw [if_neg h2, if_neg (by omega)]
theorem splice_lit (l : List Value) (o : Nat) (v : Value) (h : o < l.length) : splice (List.toArray l) o (List.toArray [v]) = List.toArray (l.set o v) := by
  rw [splice_one _ _ _ (by simpa using h)]; simp
theorem splice_id {k k' : List UInt8} (b : Array Value) (h : k.length = k'.length) : splice ((bc k).toArray ++ b) 0 (bc k').toArray = (bc k').toArray ++ b := by
  apply Array.ext_getElem?
  intro j
  rw [splice_get (by simp [bc_length]; omega), Array.getElem?_append, Array.getElem?_append]
  simp only [List.size_toArray, bc_length, Nat.zero_add, Nat.zero_le, true_and, Nat.sub_zero, h]
  split <;> rfl
theorem splice_bc_all {k k' : List UInt8} (h : k.length = k'.length) : splice (bc k).toArray 0 (bc k').toArray = (bc k').toArray := splice_all _ _ (by simp [bc_length, h])
theorem u8w (n : Int) : IntKind.u8.wrap n = n % 256 := by
  unfold IntKind.wrap
  simp only [IntKind.signed, IntKind.bits]
  simp
theorem i64w (n : Int) : IntKind.i64.wrap n = wr n := rfl
/-- one byte of an array -/
theorem set_bc (k : List UInt8) (j : Nat) (x : UInt8) : ((bc k).set j (.int .u8 x.toNat)) = bc (k.set j x) := by
  unfold bc
  rw [List.map_set]
def allOne (vs : Array Value) : Prop := ∀ u ∈ vs.toList, oneCell u
theorem allOne_bc (k : List UInt8) : allOne (bc k).toArray := by intro u hu; exact bc_one k u (by simpa using hu)
theorem allOne_nil : allOne (List.toArray []) := by intro u hu; simp at hu
theorem allOne_cons (v : Value) (l : List Value) (hv : oneCell v) (hl : allOne (List.toArray l)) : allOne (List.toArray (v :: l)) := by
  intro u hu
  simp only [List.mem_cons] at hu
  rcases hu with rfl | hu
  · exact hv
  · exact hl u (by simpa using hu)
theorem allOne_app (a b : Array Value) (ha : allOne a) (hb : allOne b) : allOne (a ++ b) := by
  intro u hu
  simp only [Array.toList_append, List.mem_append] at hu
  exact hu.elim (ha u) (hb u)
theorem CallF_of {P : Program} {f : FuncId} (hc : ∀ args w, (callFunc f args).run P w = .ok (.enter f args) w) {args : Array Value} {w : World} {K : Value → World → Prop} (h : Calls P f args w (retK K)) : CallF P f args w K := by
  unfold CallF; rw [hc]; exact h
theorem CallF_by {P : Program} {f : FuncId} (hc : ∀ args w, (callFunc f args).run P w = .ok (.enter f args) w) {args : Array Value} {w : World} {K R : Value → World → Prop} (h : Calls P f args w (retK R))
    (hk : ∀ v w', R v w' → K v w') : CallF P f args w K := CallF_of hc (Calls.ret_mono h hk)
theorem Loop0 {w : World} {body : World → (World → Prop) → Prop} (I : World → Prop) (μ : World → Nat) (h0 : I w) (h : ∀ w, I w → body w fun w' => I w' ∧ μ w' < μ w) : LoopF 0 [] w body := ⟨I, μ, h0, h⟩
theorem Loop1 {a : Value} {w : World} {body : Value → World → (Value → World → Prop) → Prop} (I : Value → World → Prop) (μ : Value → World → Nat) (h0 : I a w)
    (h : ∀ x w, I x w → body x w fun x' w' => I x' w' ∧ μ x' w' < μ x w) : LoopF 1 [a] w body := ⟨I, μ, h0, h⟩
theorem Loop2 {a b : Value} {w : World} {body : Value → Value → World → (Value → Value → World → Prop) → Prop} (I : Value → Value → World → Prop) (μ : Value → Value → World → Nat) (h0 : I a b w)
    (h : ∀ x y w, I x y w → body x y w fun x' y' w' => I x' y' w' ∧ μ x' y' w' < μ x y w) : LoopF 2 [a, b] w body := ⟨I, μ, h0, h⟩
theorem Loop3 {a b c : Value} {w : World} {body : Value → Value → Value → World → (Value → Value → Value → World → Prop) → Prop} (I : Value → Value → Value → World → Prop) (μ : Value → Value → Value → World → Nat) (h0 : I a b c w)
    (h : ∀ x y z w, I x y z w → body x y z w fun x' y' z' w' => I x' y' z' w' ∧ μ x' y' z' w' < μ x y z w) : LoopF 3 [a, b, c] w body := ⟨I, μ, h0, h⟩
theorem Loop4 {a b c d : Value} {w : World} {body : Value → Value → Value → Value → World → (Value → Value → Value → Value → World → Prop) → Prop} (I : Value → Value → Value → Value → World → Prop) (μ : Value → Value → Value → Value → World → Nat) (h0 : I a b c d w)
    (h : ∀ x y z u w, I x y z u w → body x y z u w fun x' y' z' u' w' => I x' y' z' u' w' ∧ μ x' y' z' u' w' < μ x y z u w) : LoopF 4 [a, b, c, d] w body := ⟨I, μ, h0, h⟩
theorem Join0 {body : (World → Prop) → Prop} {r : World → Prop} (J : World → Prop) (h : body J) (hr : ∀ w, J w → r w) : LetJ 0 body r := ⟨J, h, hr⟩
theorem Join1 {body : (Value → World → Prop) → Prop} {r : Value → World → Prop} (J : Value → World → Prop) (h : body J) (hr : ∀ a w, J a w → r a w) : LetJ 1 body r := ⟨J, h, hr⟩
theorem Join2 {body : (Value → Value → World → Prop) → Prop} {r : Value → Value → World → Prop} (J : Value → Value → World → Prop) (h : body J) (hr : ∀ a b w, J a b w → r a b w) : LetJ 2 body r := ⟨J, h, hr⟩
theorem Join3 {body : (Value → Value → Value → World → Prop) → Prop} {r : Value → Value → Value → World → Prop} (J : Value → Value → Value → World → Prop) (h : body J) (hr : ∀ a b c w, J a b c w → r a b c w) : LetJ 3 body r := ⟨J, h, hr⟩
theorem cells_agg (cs : Array Value) : (Value.agg cs).cells = cs := rfl
theorem cells_int (k : IntKind) (n : Int) : (Value.int k n).cells = #[.int k n] := rfl
theorem cells_bool (b : Bool) : (Value.bool b).cells = #[.bool b] := rfl
theorem cells_str (b : ByteArray) : (Value.string b).cells = #[.string b] := rfl
theorem cells_ptr (b : Option Addr) : (Value.pointer b).cells = #[.pointer b] := rfl
theorem cells_sl (a : Option Addr) (n c : Nat) : (Value.slice a n c).cells = #[.slice a n c] := rfl
theorem cells_map (a : Option Nat) : (Value.map a).cells = #[.map a] := rfl
theorem cells_func (f : Fn) (a b : Array Value) : (Value.func f a b).cells = #[.func f a b] := rfl
theorem cells_iface (t : TypeId) (v : Value) : (Value.iface t v).cells = #[.iface t v] := rfl
theorem put_alloc (w : World) (o o' : Obj) : put (w.alloc o) (sz w) o' = w.alloc o' := by
  unfold put World.alloc sz
  congr 1
  apply Array.ext_getElem?
  intro i
  rw [Array.getElem?_setIfInBounds, Array.getElem?_push, Array.getElem?_push, Array.size_push]
  by_cases h : w.heap.size = i
  · subst h; simp
  · rw [if_neg h, if_neg fun e => h e.symm, if_neg fun e => h e.symm]
theorem allOne_int (k : IntKind) (n : Int) (l : List Value) (h : allOne (List.toArray l)) : allOne (List.toArray (.int k n :: l)) := allOne_cons _ _ trivial h
theorem allOne_sl (a : Option Addr) (n c : Nat) (l : List Value) (h : allOne (List.toArray l)) : allOne (List.toArray (.slice a n c :: l)) := allOne_cons _ _ trivial h
theorem allOne_ptr (a : Option Addr) (l : List Value) (h : allOne (List.toArray l)) : allOne (List.toArray (.pointer a :: l)) := allOne_cons _ _ trivial h
theorem allOne_map (a : Option Nat) (l : List Value) (h : allOne (List.toArray l)) : allOne (List.toArray (.map a :: l)) := allOne_cons _ _ trivial h
theorem allOne_bool (a : Bool) (l : List Value) (h : allOne (List.toArray l)) : allOne (List.toArray (.bool a :: l)) := allOne_cons _ _ trivial h
theorem allOne_str (a : ByteArray) (l : List Value) (h : allOne (List.toArray l)) : allOne (List.toArray (.string a :: l)) := allOne_cons _ _ trivial h
theorem allOne_iface (t : TypeId) (v : Value) (l : List Value) (h : allOne (List.toArray l)) : allOne (List.toArray (.iface t v :: l)) := allOne_cons _ _ trivial h
theorem put_allocN (w : World) (b : Nat) (o o' : Obj) (h : b = sz w) : put (w.alloc o) b o' = w.alloc o' := by subst h; exact put_alloc w o o'
theorem splice_bca {k k' : List UInt8} {l l' : List Value} (h : k.length = k'.length) (h' : l.length = l'.length) : splice ((bc k).toArray ++ List.toArray l) 0 ((bc k').toArray ++ List.toArray l') = (bc k').toArray ++ List.toArray l' :=
  splice_all _ _ (by simp [bc_length, h, h'])
theorem ext_bca {k : List UInt8} {l : List Value} {n : Nat} (h : k.length + l.length = n) : ((bc k).toArray ++ List.toArray l).extract 0 n = (bc k).toArray ++ List.toArray l := by
  have : n = ((bc k).toArray ++ List.toArray l).size := by simp [bc_length, h]
  rw [this]; exact Array.extract_size
end Go.Lf
