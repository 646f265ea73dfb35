/- A part of the proof: Lf.Mem5. -/
import Derived.Test.YtgfeaeedlakmfaaLMaps
set_option linter.unusedVariables false
set_option linter.unusedSimpArgs false
set_option linter.unusedSectionVars false
namespace Go.Lf
open Go
section
variable {P : Program} {T e z : Nat} {zv : Value}
theorem foldl_set (cs : List Value) (acc : Array Value) (off : Nat) : ∀ k, off + k + cs.length ≤ acc.size →
    (cs.zipIdx k).foldl (fun (a : Array Value) (x : Value × Nat) => a.setIfInBounds (off + x.2) x.1) acc = splice acc (off + k) cs.toArray := by
  induction cs generalizing acc with
  | nil =>
    intro k h
    apply Array.ext_getElem?
    intro j
    rw [splice_get (by simpa using h)]
    simp only [List.zipIdx_nil, List.foldl_nil, List.size_toArray, List.length_nil]
    rw [if_neg (by omega)]
  | cons c cs ih =>
    intro k h
    simp only [List.length_cons] at h
    simp only [List.zipIdx_cons, List.foldl_cons]
    rw [ih _ (k + 1) (by simp; omega)]
    apply Array.ext_getElem?
    intro j
    rw [splice_get (by simp; omega), splice_get (by simp; omega), Array.getElem?_setIfInBounds]
    simp only [List.size_toArray, List.length_cons]
    by_cases h1 : off + k = j
    · subst h1
      rw [if_neg (by omega), if_pos rfl, if_pos (by omega), if_pos ⟨by omega, by omega⟩]
      simp
    · rw [if_neg h1]
      by_cases h2 : off + (k + 1) ≤ j ∧ j < off + (k + 1) + cs.length
      · rw [if_pos h2, if_pos ⟨by omega, by omega⟩]
        obtain ⟨d, rfl⟩ : ∃ d, j = off + (k + 1) + d := ⟨j - (off + (k + 1)), by omega⟩
        rw [show off + (k + 1) + d - (off + (k + 1)) = d by omega, show off + (k + 1) + d - (off + k) = d + 1 by omega]
        simp
      · rw [if_neg h2, if_neg (by omega)]
/-- the cells of values, one behind the other -/
def catC (vs : List Value) : List Value := vs.flatMap fun v => v.cells.toList
theorem catC_length {vs : List Value} (h : ∀ v ∈ vs, v.cells.size = z) : (catC vs).length = vs.length * z := by
  induction vs with
  | nil => simp [catC]
  | cons v vs ih =>
    have := ih fun u hu => h u (by simp [hu])
    simp only [catC, List.flatMap_cons, List.length_append, List.length_cons, Array.length_toList] at this ⊢
    rw [this, h v (by simp), Nat.add_mul, Nat.one_mul, Nat.add_comm]
theorem fill_all : ∀ (vs : List Value) (k : Nat) (acc : Array Value), (∀ v ∈ vs, v.cells.size = z) → k * z + vs.length * z ≤ acc.size →
    Instr.fill (fun i => some (i * z, z)) acc ((vs.zipIdx k).map fun x => (x.2, x.1)) = some (splice acc (k * z) (catC vs).toArray) := by
  intro vs
  induction vs with
  | nil =>
    intro k acc _ h
    simp only [List.zipIdx_nil, List.map_nil, Instr.fill, Option.some.injEq]
    apply Array.ext_getElem?
    intro j
    rw [splice_get (by simpa [catC] using h)]
    simp only [catC, List.flatMap_nil, List.size_toArray, List.length_nil]
    rw [if_neg (by omega)]
  | cons v vs ih =>
    intro k acc hv h
    have hz := hv v (by simp)
    simp only [List.length_cons, Nat.add_mul, Nat.one_mul] at h
    simp only [List.zipIdx_cons, List.map_cons, Instr.fill, hz, ne_eq, not_true_eq_false, false_or, gt_iff_lt]
    rw [if_neg (by simp only [Bool.false_or, decide_eq_true_eq, not_true_eq_false, decide_false]; omega)]
    have e1 : v.cells.zipIdx.foldl (fun (cs : Array Value) (x : Value × Nat) => cs.setIfInBounds (k * z + x.2) x.1) acc = splice acc (k * z) v.cells := by
      have := foldl_set v.cells.toList acc (k * z) 0 (by simp [hz]; omega)
      simp only [Nat.add_zero, Array.toArray_toList] at this
      rw [← this, ← Array.foldl_toList, Array.toList_zipIdx]
    have e2 : (v.cells.zipIdx.foldl (fun (cs : Array Value) (x : Value × Nat) => match x with | (c, j) => cs.setIfInBounds (k * z + j) c) acc) = splice acc (k * z) v.cells := e1
    rw [e2, ih (k + 1) _ (fun u hu => hv u (by simp [hu])) (by rw [splice_size (by rw [hz]; omega), Nat.add_mul]; omega)]
    congr 1
    have hc := catC_length (vs := vs) (z := z) fun u hu => hv u (by simp [hu])
    apply Array.ext_getElem?
    intro j
    rw [splice_get (by rw [splice_size (by rw [hz]; omega)]; simp only [List.size_toArray, hc, Nat.add_mul]; omega), splice_get (by rw [hz]; omega),
      splice_get (by simp only [List.size_toArray, catC, List.flatMap_cons, List.length_append, Array.length_toList, hz]; simp only [catC] at hc; omega)]
    simp only [List.size_toArray, hc, catC, List.flatMap_cons, List.length_append, Array.length_toList, hz, Nat.add_mul, Nat.one_mul, List.getElem?_toArray]
    simp only [catC] at hc
    rw [hc, List.getElem?_append]
    simp only [Array.length_toList, hz, Array.getElem?_toList]
    by_cases h1 : k * z ≤ j ∧ j < k * z + z
    · rw [if_neg (by omega), if_pos h1, if_pos (by omega), if_pos (by omega)]
    · rw [if_neg h1]
      by_cases h2 : k * z + z ≤ j ∧ j < k * z + z + vs.length * z
      · rw [if_pos h2, if_pos (by omega), if_neg (by omega)]
        congr 1; omega
      · rw [if_neg h2, if_neg (by omega)]
/-- []T{a, b, ..}. -/
theorem r_buildSlice (hu : ∀ w, (underlying T).run P w = .ok (.slice e) w) (hs : ∀ w, (sizeOf e).run P w = .ok z w) (hz : ∀ w, (zeroValue e).run P w = .ok zv w) (hzs : zv.cells.size = z)
    (vs : List Value) (hv : ∀ v ∈ vs, v.cells.size = z) (hl : vs.length * z ≤ 16777216) (w : World) (K : Value → World → Prop) :
    Run P (Instr.buildSlice T vs.length ((vs.zipIdx).map fun x => (x.2, x.1)).toArray) w K = K (.slice (some ⟨sz w, 0, none⟩) vs.length vs.length) (w.alloc (.cells (catC vs).toArray e)) := Run_eq (by
  unfold Instr.buildSlice
  rw [Sem.run_bind, hu, Result.andThen_ok]
  simp only [Sem.run_bind, hs, Result.andThen_ok]
  rw [if_neg (by simpa using hl)]
  have hc := catC_length hv
  by_cases h0 : vs.length * z = 0
  · simp only [h0, if_true, Sem.run_bind, Sem.run_pure, Result.andThen_ok]
    have hf := fill_all (z := z) vs 0 ((Array.range 0).map fun x => (#[] : Array Value)[x % (#[] : Array Value).size]!) hv (by simp [h0])
    rw [hf]
    have e3 : splice ((Array.range 0).map fun x => (#[] : Array Value)[x % (#[] : Array Value).size]!) (0 * z) (catC vs).toArray = (catC vs).toArray := by
      rw [Nat.zero_mul]; exact splice_all _ _ (by simp [hc, h0])
    rw [e3]
    rfl
  · simp only [h0, if_false, Sem.run_bind, hz, Sem.run_pure, Result.andThen_ok]
    have hf := fill_all (z := z) vs 0 ((Array.range (vs.length * z)).map fun x => zv.cells[x % zv.cells.size]!) hv (by simp)
    rw [hf]
    have e3 : splice ((Array.range (vs.length * z)).map fun x => zv.cells[x % zv.cells.size]!) (0 * z) (catC vs).toArray = (catC vs).toArray := by
      rw [Nat.zero_mul]; exact splice_all _ _ (by simp [hc])
    rw [e3]
    rfl) K
theorem p_eqlNilS (hu : ∀ w, (underlying T).run P w = .ok (.slice e) w) (x y : Operand) (a : Option Addr) (n c : Nat) (K : Value → Prop) :
    PRun P (eqS .eql T x y (.slice a n c) (.slice none 0 0)) K = K (.bool a.isNone) := PRun_eq (fun w => by
  have h : (Op.equal T (.slice a n c) (.slice none 0 0)).run P w = .ok a.isNone w := by
    unfold Op.equal Op.maxDepth Op.equalIn
    rw [Sem.run_bind, hu, Result.andThen_ok]
    cases a <;> rfl
  have hg : ∀ op, (eqGuard op T x y (.slice a n c) (.slice none 0 0)).run P w = .ok () w := by
    intro op; unfold eqGuard; cases op <;> rfl
  unfold eqS
  rw [Sem.run_bind, hg, Result.andThen_ok]
  simp only [binOp, Sem.run_bind, Sem.run_pure, Result.andThen_ok, h]) K
theorem p_neqNilS (hu : ∀ w, (underlying T).run P w = .ok (.slice e) w) (x y : Operand) (a : Option Addr) (n c : Nat) (K : Value → Prop) :
    PRun P (eqS .neq T x y (.slice a n c) (.slice none 0 0)) K = K (.bool (!a.isNone)) := PRun_eq (fun w => by
  have h : (Op.equal T (.slice a n c) (.slice none 0 0)).run P w = .ok a.isNone w := by
    unfold Op.equal Op.maxDepth Op.equalIn
    rw [Sem.run_bind, hu, Result.andThen_ok]
    cases a <;> rfl
  have hg : ∀ op, (eqGuard op T x y (.slice a n c) (.slice none 0 0)).run P w = .ok () w := by
    intro op; unfold eqGuard; cases op <;> rfl
  unfold eqS
  rw [Sem.run_bind, hg, Result.andThen_ok]
  simp only [binOp, Sem.run_bind, Sem.run_pure, Result.andThen_ok, h]) K
end
section
variable {P : Program} {κ : Type} [DecidableEq κ] {enc : κ → Value}
/-- The entry at which an iterator stands. -/
theorem q_entry {w : World} {it b c : Nat} {m : Ents κ} {seen : Array Nat} {s : Nat} (h : MapAt w b enc m c) (hit : Hp w it = some (.mapIter (some b) s seen c)) {x : κ × Value × Nat} (hx : x ∈ m)
    (hl : seen.back? = some x.2.2) (hnd : ∀ y ∈ m, y.2.2 = x.2.2 → y = x) (K : Value → Prop) : QRun P (Instr.entry (ptr it 0)) w K = K (.tuple #[enc x.1, x.2.1]) := QRun_eq (by
  have hg1 : (getObj it).run P w = .ok (.mapIter (some b) s seen c) w := run_getObj hit (by simp)
  have hg2 : (getObj b).run P w = .ok (.map (entsOf enc m) c) w := run_getObj h (by simp)
  have hf : (entsOf enc m).find? (fun e => e.born == x.2.2) = some { key := enc x.1, val := x.2.1, born := x.2.2 } := by
    unfold entsOf
    rw [List.find?_toArray, List.find?_map]
    have : m.find? ((fun e : MapEntry => e.born == x.2.2) ∘ fun x : κ × Value × Nat => ({ key := enc x.1, val := x.2.1, born := x.2.2 } : MapEntry)) = some x := by
      clear h hg2
      induction m with
      | nil => cases hx
      | cons y m ih =>
        rw [List.find?_cons]
        by_cases hy : y.2.2 = x.2.2
        · have : y = x := hnd y (by simp) hy
          subst this
          simp
        · have : ((fun e : MapEntry => e.born == x.2.2) ∘ fun x : κ × Value × Nat => ({ key := enc x.1, val := x.2.1, born := x.2.2 } : MapEntry)) y = false := by simpa using hy
          rw [this]
          refine ih ?_ fun z hz => hnd z (by simp [hz])
          cases hx with
          | head => exact absurd rfl hy
          | tail _ hx => exact hx
    rw [this]; rfl
  unfold Instr.entry
  simp only [Sem.run_bind, hg1, Result.andThen_ok, hl, hg2, bne_self_eq_false, Bool.false_eq_true, if_false, hf]
  rfl) K
end
/-! ### Laws of keys -/
section
variable {P : Program} {T e n : Nat}
theorem key_int {k : IntKind} (hu : ∀ w, (underlying T).run P w = .ok (.int k) w) : KeyLaw P T (fun _ : Int => True) (fun n => .int k n) where
  eq := fun a b _ _ w => run_eqInt 9999 hu a b w
  chk := fun a _ em w => by
    unfold Instr.checkKey
    rw [Sem.run_bind, hu, Result.andThen_ok]; rfl
  same := fun a _ => by simp [Instr.sameBits]
  now := ⟨_, hu, fun a b _ _ r h => by
    simp only [Instr.sameNow, if_true, Option.some.injEq] at h
    rw [← h]
    by_cases hab : a = b <;> simp [hab]⟩
theorem sameBits_self : ∀ (l : List Value), (∀ v ∈ l, ∃ k n, v = .int k n) → (l.zip l).all (fun (x, y) => Instr.sameBits 9999 x y) = true := by
  intro l
  induction l with
  | nil => intro _; rfl
  | cons v l ih =>
    intro h
    obtain ⟨k, n, rfl⟩ := h v (by simp)
    simp only [List.zip_cons_cons, List.all_cons, ih fun u hu => h u (by simp [hu]), Bool.and_true]
    simp [Instr.sameBits]
theorem key_bytes {i : TypeInfo} (hu : P.underlying T = some (.array n e)) (hu' : ∀ w, (underlying T).run P w = .ok (.array n e) w) (hi : P.info? e = some i) (hz : i.size = 1) (hz' : ∀ w, (sizeOf e).run P w = .ok 1 w)
    (he : ∀ w, (underlying e).run P w = .ok (.int .u8) w) (hg : ∀ w, (isAgg e).run P w = .ok false w) : KeyLaw P T (fun l : List UInt8 => l.length = n) idv where
  eq := fun a b ha hb w => run_equalBytes hu hi hz he hg a b ha hb w
  chk := fun a ha em w => by
    unfold Instr.checkKey
    rw [Sem.run_bind, hu', Result.andThen_ok]
    simp only [idv]
    simp only [Std.Legacy.Range.forIn_eq_forIn_range', Std.Legacy.Range.size, Nat.sub_zero, Nat.add_one_sub_one, Nat.div_one]
    have key : ∀ (m k : Nat), k + m = n → (forIn (m := Sem) (List.range' k m) PUnit.unit fun i r => do
        let x ← sizeOf e
        let y ← part e (bc a).toArray (i * x)
        Instr.checkKey em 9999 e y
        pure (ForInStep.yield PUnit.unit)).run P w = .ok PUnit.unit w := by
      intro m
      induction m with
      | zero => intro k _; rfl
      | succ m ih =>
        intro k hk
        rw [List.range'_succ, List.forIn_cons]
        have hp : (part e (bc a).toArray (k * 1)).run P w = .ok (.int .u8 (a[k]'(by omega)).toNat) w := by
          unfold part
          rw [Sem.run_bind, hg, Result.andThen_ok]
          simp only [Bool.false_eq_true, if_false, Nat.mul_one, List.getElem?_toArray, bc_get, List.getElem?_eq_getElem (show k < a.length by omega), Option.map_some, Sem.run_pure]
        have hc : ∀ n, (Instr.checkKey em 9999 e (.int .u8 n)).run P w = .ok () w := by
          intro n
          unfold Instr.checkKey
          rw [Sem.run_bind, he, Result.andThen_ok]; rfl
        simp only [Sem.run_bind, hz', Result.andThen_ok, hp, hc, Sem.run_pure]
        exact ih (k + 1) (by omega)
    rw [Sem.run_bind, key n 0 (by omega)]; rfl
  same := fun a _ => by
    unfold idv Instr.sameBits
    simp only [beq_self_eq_true, Bool.true_and]
    exact sameBits_self _ fun v hv => by
      obtain ⟨b, _, rfl⟩ := List.mem_map.1 hv
      exact ⟨_, _, rfl⟩
  now := ⟨_, hu', fun a b _ _ r h => by simp [Instr.sameNow, idv] at h⟩
end
end Go.Lf
