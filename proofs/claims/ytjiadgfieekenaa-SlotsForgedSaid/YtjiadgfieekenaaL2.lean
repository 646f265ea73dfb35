/- Parts of the proof: Lf.Grow. -/
import Derived.Test.YtjiadgfieekenaaL1
set_option linter.unusedVariables false
set_option linter.unusedSimpArgs false
set_option linter.unusedSectionVars false
/- append to a slice that is full: it copies, so its row is only read (it may be marked). -/
namespace Go.Lf
open Go
section
variable {P : Program} {S X e by_ : Nat} {dx : TypeDesc} {ti : TypeInfo} {zv : Value}
theorem run_appendFull (hu : ∀ w, (underlying S).run P w = .ok (.slice e) w) (hs : ∀ w, (sizeOf e).run P w = .ok 1 w) (hx : ∀ w, (underlying X).run P w = .ok dx w) (hdx : ∀ k, dx ≠ .int k)
    (hi : ∀ w, (typeInfo e).run P w = .ok ti w) (hb0 : ti.bytes ≠ 0) (hz : ∀ w, (zeroValue e).run P w = .ok zv w) (hzs : zv.cells.size = 1)
    (R : TypeId) {w : World} {a : Option Addr} {cap n : Nat} {x : Value} {l : List UInt8} {ys : List Value} (hv : BOf w (.slice a l.length cap) l) (hy : Src P w 1 x n ys)
    (hsmall : (2 * (l.length + n) + 1000) * ti.bytes ≤ 281474976710656) (hfull : cap < l.length + n) :
    ∃ v' w', (Builtin.append_ #[S, X] R #[.slice a l.length cap, x]).run P w = .ok v' w' ∧ Vec w' e 1 v' (l.length + n) (bc l ++ ys) (fun b => b = sz w) ∧ Ext (fun _ => False) w w' := by
  obtain ⟨hyl, hyn0, hyc0⟩ := hy
  have hyn := hyn0 w rfl
  have hsrc := (BOf.src (P := P) hv).2.2
  have hdx' : (match dx with | .int _ => true | _ => false) = false := by cases dx <;> first | rfl | exact absurd rfl (hdx _)
  unfold Builtin.append_
  simp only [List.getElem?_toArray, List.getElem?_cons_zero, List.getElem?_cons_succ, Sem.run_bind, hu, Result.andThen_ok, hs, hx, Sem.run_pure]
  simp only [Bool.false_eq_true, if_false, Bool.not_false, if_true, false_or, Sem.run_bind, hyn, Result.andThen_ok]
  have hfit : ¬ l.length + n ≤ cap := by omega
  have hnc := nextslicecap_le (l.length + n) cap hfull
  have hle : Builtin.nextslicecap (l.length + n) cap * ti.bytes ≤ 2 ^ 48 := Nat.le_trans (Nat.mul_le_mul_right _ hnc) (by simpa using hsmall)
  have hlen : l.length + n ≤ 281474976710656 := by
    have : l.length + n ≤ (2 * (l.length + n) + 1000) * 1 := by omega
    exact Nat.le_trans this (Nat.le_trans (Nat.mul_le_mul_left _ (by omega)) hsmall)
  simp only [hfit, if_false, Sem.run_bind, hi, Result.andThen_ok, hb0, and_false, if_neg (Nat.not_lt.2 hle), Sem.run_pure, run_askRoom, hz]
  have hch : (choose (Question.appendCap (l.length + n) cap e)).run P w = .ok (Question.cut (.appendCap (l.length + n) cap e) (w.tape w.drawn (.appendCap (l.length + n) cap e))) w.drew := rfl
  generalize hnew : Question.cut (.appendCap (l.length + n) cap e) (w.tape w.drawn (.appendCap (l.length + n) cap e)) = newCap at hch
  have hge : l.length + n ≤ newCap := by rw [← hnew]; simp only [Question.cut]; omega
  have holdD : (Builtin.firstCells 1 l.length (.slice a l.length cap)).run P w.drew = .ok (bc l).toArray w.drew := hsrc _ rfl
  have hycD : (Builtin.firstCells 1 n x).run P w.drew = .ok ys.toArray w.drew := hyc0 _ rfl
  simp only [hch, Result.andThen_ok, holdD, hycD]
  have hzc : (Builtin.zeroCells zv.cells (newCap - (l.length + n))).size = (newCap - (l.length + n)) * 1 := by simp [Builtin.zeroCells, hzs]
  generalize Builtin.zeroCells zv.cells (newCap - (l.length + n)) = tail at hzc
  have hnr : (newRow e ((bc l).toArray ++ ys.toArray ++ tail)).run P w.drew = .ok ⟨sz w, 0, none⟩ (w.drew.alloc (.cells ((bc l).toArray ++ ys.toArray ++ tail) e)) := rfl
  rw [hnr, Result.andThen_ok]
  have hls : (bc l ++ ys).length = (l.length + n) * 1 := by rw [List.length_append, bc_length, hyl]; omega
  refine ⟨_, _, rfl, ⟨hls, .inr ⟨sz w, 0, newCap, _, rfl, hge, Hp_alloc_new _ _ _ rfl, ?_, fun j hj => ?_, rfl⟩⟩, ((Ext.refl _ _).drew).alloc _⟩
  · simp only [List.append_toArray, Array.size_append, List.size_toArray, hls, hzc]; omega
  · rw [Nat.zero_add, show (bc l).toArray ++ ys.toArray = (bc l ++ ys).toArray from by simp, Array.getElem?_append, if_pos (by simp only [List.size_toArray, hls]; exact hj), List.getElem?_toArray]
end
end Go.Lf
namespace Go.Lf
theorem dT_ {P : Prop} (h : P := by first | omega | trivial | assumption | (first | exact szT_ | fail) | (first | exact allOneT2_ | fail) | (first | exact cellT_ | fail) | (first | exact hpt_ | fail) | fail) : P := h
end Go.Lf
