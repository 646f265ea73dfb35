/-
  Arrays of bytes as values; strings; equality; conversions.
-/
import Derived.Test.YtgfeaeedlakmfaaLMem3
import Derived.ChangeKeysEq
import Derived.Laws.BytesString
set_option linter.unusedVariables false
set_option linter.unusedSimpArgs false
set_option linter.unusedSectionVars false
namespace Go.Lf
open Go
/-- an array of bytes as a value -/
abbrev idv (l : List UInt8) : Value := .agg (bc l).toArray
theorem idv_cells (l : List UInt8) : (idv l).cells = (bc l).toArray := rfl
theorem idv_inj {a b : List UInt8} (h : idv a = idv b) : a = b := by
  simp only [idv, Value.agg.injEq] at h
  exact bc_inj (by simpa using congrArg Array.toList h)
section
variable {P : Program} {T e n : Nat}
theorem run_eqInt (d : Nat) {k : IntKind} (hu : ∀ w, (underlying T).run P w = .ok (.int k) w) (a b : Int) (w : World) : (Op.equalIn (d + 1) T (.int k a) (.int k b)).run P w = .ok (decide (a = b)) w := by
  unfold Op.equalIn
  rw [Sem.run_bind, hu, Result.andThen_ok]
  simp only [if_true, Sem.run_pure]
  by_cases h : a = b <;> simp [h]
theorem run_eqBytes (d : Nat) {i : TypeInfo} (hu : P.underlying T = some (.array n e)) (hi : P.info? e = some i) (hz : i.size = 1) (he : ∀ w, (underlying e).run P w = .ok (.int .u8) w) (hg : ∀ w, (isAgg e).run P w = .ok false w)
    (a b : List UInt8) (ha : a.length = n) (hb : b.length = n) (w : World) : (Op.equalIn (d + 2) T (idv a) (idv b)).run P w = .ok (decide (a = b)) w := by
  unfold idv
  rw [run_equalIn_array w (d + 1) _ _ hu hi]
  have hc : P.cellsOf e = 1 := by unfold Program.cellsOf; rw [hi]; simp [hz]
  rw [hc]
  have part1 : ∀ (l : List UInt8) (j : Nat) (x : UInt8), l[j]? = some x → (part e (bc l).toArray (j * 1)).run P w = .ok (.int .u8 x.toNat) w := by
    intro l j x hx
    unfold part
    rw [Sem.run_bind, hg, Result.andThen_ok]
    simp only [Bool.false_eq_true, if_false, Nat.mul_one, List.getElem?_toArray, bc_get, hx, Option.map_some, Sem.run_pure]
  have key : ∀ (m k : Nat), k + m = n → (Op.eqItems (d + 1) e 1 (bc a).toArray (bc b).toArray (List.range' k m)).run P w = .ok (decide (a.drop k = b.drop k)) w := by
    intro m
    induction m with
    | zero =>
      intro k hk
      rw [List.drop_eq_nil_of_le (by omega), List.drop_eq_nil_of_le (by omega)]
      simp [Op.eqItems]
    | succ m ih =>
      intro k hk
      have hka : k < a.length := by omega
      have hkb : k < b.length := by omega
      simp only [List.range'_succ, Op.eqItems, Sem.run_bind]
      rw [part1 a k a[k] (by simp [hka]), Result.andThen_ok, part1 b k b[k] (by simp [hkb]), Result.andThen_ok, run_eqInt d he, Result.andThen_ok]
      have hd : a.drop k = b.drop k ↔ a[k] = b[k] ∧ a.drop (k + 1) = b.drop (k + 1) := by
        rw [List.drop_eq_getElem_cons hka, List.drop_eq_getElem_cons hkb, List.cons.injEq]
      by_cases h : a[k] = b[k]
      · rw [h]
        simp only [decide_true, Bool.not_true, Bool.false_eq_true, if_false]
        rw [ih (k + 1) (by omega)]
        congr 1
        simp only [hd, h, true_and]
      · have h2 : ¬ ((a[k].toNat : Int) = (b[k].toNat : Int)) := fun e => h (UInt8.toNat_inj.1 (by omega))
        simp only [h2, decide_false, Bool.not_false, if_true, Sem.run_pure]
        congr 1
        simp only [hd, h, false_and, decide_false]
  have := key n 0 (by omega)
  simpa [List.range_eq_range'] using this
theorem run_equalBytes {i : TypeInfo} (hu : P.underlying T = some (.array n e)) (hi : P.info? e = some i) (hz : i.size = 1) (he : ∀ w, (underlying e).run P w = .ok (.int .u8) w) (hg : ∀ w, (isAgg e).run P w = .ok false w)
    (a b : List UInt8) (ha : a.length = n) (hb : b.length = n) (w : World) : (Op.equal T (idv a) (idv b)).run P w = .ok (decide (a = b)) w :=
  run_eqBytes 9998 hu hi hz he hg a b ha hb w
theorem run_eqGuardAgg (op : BinOp) (x y : Operand) (xs ys : Array Value) (hm : P.eqGuardType P.depth T = false) (w : World) : (eqGuard op T x y (.agg xs) (.agg ys)).run P w = .ok () w := by
  unfold eqGuard
  cases op <;> simp [hm]
theorem p_eqlAgg {xs ys : Array Value} {r : Bool} (hm : P.eqGuardType P.depth T = false) (h : ∀ w, (Op.equal T (.agg xs) (.agg ys)).run P w = .ok r w) (x y : Operand) (K : Value → Prop) :
    PRun P (eqS .eql T x y (.agg xs) (.agg ys)) K = K (.bool r) := PRun_eq (fun w => by
  unfold eqS
  rw [Sem.run_bind, run_eqGuardAgg _ _ _ _ _ hm, Result.andThen_ok]
  simp only [binOp, Sem.run_bind, h, Result.andThen_ok, Sem.run_pure]) K
theorem p_neqAgg {xs ys : Array Value} {r : Bool} (hm : P.eqGuardType P.depth T = false) (h : ∀ w, (Op.equal T (.agg xs) (.agg ys)).run P w = .ok r w) (x y : Operand) (K : Value → Prop) :
    PRun P (eqS .neq T x y (.agg xs) (.agg ys)) K = K (.bool (!r)) := PRun_eq (fun w => by
  unfold eqS
  rw [Sem.run_bind, run_eqGuardAgg _ _ _ _ _ hm, Result.andThen_ok]
  simp only [binOp, Sem.run_bind, h, Result.andThen_ok, Sem.run_pure]) K

/-! ### strings -/
def str (l : List UInt8) : Value := .string ⟨l.toArray⟩
theorem push_all (l : List UInt8) (s : ByteArray) : l.foldl (fun r (n : UInt8) => r.push n) s = ⟨s.data ++ l.toArray⟩ := by
  induction l generalizing s with
  | nil => simp
  | cons a l ih => rw [List.foldl_cons, ih]; simp [ByteArray.push]
theorem run_toStr {u8 : Nat} {w : World} {v : Value} {l : List UInt8} {Q : Nat → Prop} (h : Bytes u8 w v l Q) (S : Nat) (T : Nat) (hS : ∀ w, (underlying S).run P w = .ok (.slice u8) w) (hT : ∀ w, (underlying T).run P w = .ok .string w)
    (hu : ∀ w, (underlying u8).run P w = .ok (.int .u8) w) : (convert S T v).run P w = .ok (str l) w := by
  have hsrc := (h.src (P := P)).2.2 w rfl
  obtain ⟨a, cap, rfl⟩ := Vec.slice h
  have hc : (convert S T (.slice a l.length cap)).run P w = (Conv.bytesToString (.slice a l.length cap)).run P w := by
    unfold convert
    rw [Sem.run_bind, hS, Result.andThen_ok, Sem.run_bind, hT, Result.andThen_ok]
    simp only [Sem.run_bind, hu, Result.andThen_ok]
  rw [hc]
  cases a with
  | none =>
    have : l = [] := by
      rcases h.2 with ⟨h1, h2⟩ | ⟨b, o, cap', row, h1, _⟩
      · exact List.length_eq_zero_iff.1 h2
      · simp at h1
    subst this
    rfl
  | some a =>
    have h2 : (loadCells a l.length).run P w = .ok ((l.map fun b => (b.toNat : Int)).map (Value.int .u8)).toArray w := by
      have : Builtin.firstCells 1 l.length (.slice (some a) l.length cap) = loadCells a (l.length * 1) := rfl
      rw [this, Nat.mul_one] at hsrc
      rw [hsrc]
      simp [bc, Function.comp_def]
    rw [run_bytesToString w a l.length cap _ h2]
    congr 2
    rw [List.foldl_map]
    have : (fun (r : ByteArray) (b : UInt8) => r.push (UInt8.ofNat (Int.toNat (b.toNat : Int)))) = fun r b => r.push b := by
      funext r b; simp
    rw [this, push_all]
    simp
theorem beq_bytes (a b : List UInt8) : ((⟨a.toArray⟩ : ByteArray).toList == (⟨b.toArray⟩ : ByteArray).toList) = decide (a = b) := by
  have e : ∀ l : List UInt8, (⟨l.toArray⟩ : ByteArray).toList = l := fun l => by simp [ByteArray.toList_eq]
  rw [e, e]
  by_cases h : a = b <;> simp [h]
theorem p_eqlStr (t : TypeId) (x y : Operand) (a b : List UInt8) (K : Value → Prop) : PRun P (eqS .eql t x y (str a) (str b)) K = K (.bool (decide (a = b))) := PRun_eq (fun w => by
  unfold eqS str
  simp only [eqGuard, binOp, Op.stringOp, beq_bytes]
  rfl) K
theorem p_neqStr (t : TypeId) (x y : Operand) (a b : List UInt8) (K : Value → Prop) : PRun P (eqS .neq t x y (str a) (str b)) K = K (.bool (!decide (a = b))) := PRun_eq (fun w => by
  unfold eqS str
  simp only [eqGuard, binOp, Op.stringOp, beq_bytes]
  rfl) K
theorem p_lenStr (hu : ∀ w, (underlying T).run P w = .ok .string w) (R : TypeId) (l : List UInt8) (K : Value → Prop) : PRun P (Builtin.len_ #[T] R #[str l]) K = K (i64 l.length) := by
  unfold str
  rw [p_lenString hu]
  simp [ByteArray.size]
/-- a whole number as one of another kind -/
theorem p_conv {src dst : TypeId} {dsrc : TypeDesc} {k k' : IntKind} (h1 : ∀ w, (underlying src).run P w = .ok dsrc w) (h2 : ∀ w, (underlying dst).run P w = .ok (.int k') w) (n : Int) (K : Value → Prop) :
    PRun P (convert src dst (.int k n)) K = K (.int k' (k'.wrap n)) := PRun_eq (fun w => by
  unfold convert
  rw [Sem.run_bind, h1, Result.andThen_ok, Sem.run_bind, h2, Result.andThen_ok]
  cases dsrc <;> rfl) K
end
end Go.Lf
