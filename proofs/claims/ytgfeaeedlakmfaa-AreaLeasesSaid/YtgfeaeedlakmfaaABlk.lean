/- A part of the proof: A.Blk. -/
import Derived.Test.YtgfeaeedlakmfaaLVecL
set_option linter.unusedVariables false
set_option linter.unusedSimpArgs false
set_option linter.unusedSectionVars false
namespace Go.Proofs
open Go Go.Lf
structure Blk where
  key : List UInt8
  data : List UInt8
  src : Int
  exp : Int
abbrev BV := Blk × Value
def bcell (x : BV) : List Value := bc x.1.key ++ [x.2, i64 x.1.src, i64 x.1.exp]
theorem bcell_arr (x : BV) : (bcell x).toArray = (bc x.1.key).toArray ++ #[x.2, i64 x.1.src, i64 x.1.exp] := by simp [bcell]
theorem bcell_length (x : BV) (h : x.1.key.length = 32) : (bcell x).length = 35 := by simp [bcell, bc_length, h]
abbrev cmpB (a b : List UInt8) : Int := Lib.compareBytes a b
theorem cmpB_self : ∀ a : List UInt8, cmpB a a = 0
  | [] => rfl
  | x :: a => by
    show Lib.compareBytes (x :: a) (x :: a) = 0
    unfold Lib.compareBytes
    rw [if_neg (UInt8.lt_irrefl x), if_neg (UInt8.lt_irrefl x)]; exact cmpB_self a
theorem cmpB_eq : ∀ a b : List UInt8, cmpB a b = 0 → a = b
  | [], [], _ => rfl
  | [], _ :: _, h => by cases h
  | _ :: _, [], h => by cases h
  | x :: a, y :: b, h => by
    change Lib.compareBytes (x :: a) (y :: b) = 0 at h
    unfold Lib.compareBytes at h
    split at h
    · cases h
    · split at h
      · cases h
      · rename_i h1 h2
        have : x = y := UInt8.le_antisymm (UInt8.not_lt.1 h2) (UInt8.not_lt.1 h1)
        rw [this, cmpB_eq a b h]
theorem cmpB_swap : ∀ a b : List UInt8, cmpB b a = - cmpB a b
  | [], [] => rfl
  | [], _ :: _ => rfl
  | _ :: _, [] => rfl
  | x :: a, y :: b => by
    show Lib.compareBytes (y :: b) (x :: a) = - Lib.compareBytes (x :: a) (y :: b)
    unfold Lib.compareBytes
    by_cases h1 : x < y
    · have h2 : ¬ y < x := UInt8.lt_asymm h1
      simp [h1, h2]
    · by_cases h2 : y < x
      · simp [h1, h2]
      · simp only [h1, h2, if_false]; exact cmpB_swap a b
theorem cmpB_trans : ∀ a b c : List UInt8, cmpB a b ≤ 0 → cmpB b c ≤ 0 → cmpB a c ≤ 0
  | [], _, [], _, _ => by decide
  | [], _, _ :: _, _, _ => by show (-1 : Int) ≤ 0; decide
  | _ :: _, [], _, h, _ => by change (1 : Int) ≤ 0 at h; omega
  | _ :: _, _ :: _, [], _, h => by change (1 : Int) ≤ 0 at h; omega
  | x :: a, y :: b, z :: c, h1, h2 => by
    change Lib.compareBytes (x :: a) (y :: b) ≤ 0 at h1
    change Lib.compareBytes (y :: b) (z :: c) ≤ 0 at h2
    show Lib.compareBytes (x :: a) (z :: c) ≤ 0
    unfold Lib.compareBytes at h1 h2 ⊢
    by_cases hxy : x < y
    · by_cases hyz : y < z
      · rw [if_pos (UInt8.lt_trans hxy hyz)]; decide
      · rw [if_neg hyz] at h2
        by_cases hzy : z < y
        · rw [if_pos hzy] at h2; omega
        · have : y = z := UInt8.le_antisymm (UInt8.not_lt.1 hzy) (UInt8.not_lt.1 hyz)
          rw [if_pos (this ▸ hxy)]; decide
    · rw [if_neg hxy] at h1
      by_cases hyx : y < x
      · rw [if_pos hyx] at h1; omega
      · rw [if_neg hyx] at h1
        have : x = y := UInt8.le_antisymm (UInt8.not_lt.1 hyx) (UInt8.not_lt.1 hxy)
        subst this
        by_cases hyz : x < z
        · rw [if_pos hyz]; decide
        · rw [if_neg hyz] at h2 ⊢
          by_cases hzy : z < x
          · rw [if_pos hzy] at h2; omega
          · rw [if_neg hzy] at h2 ⊢
            exact cmpB_trans a b c h1 h2
/-- keys rise -/
def leK (x y : BV) : Prop := cmpB x.1.key y.1.key ≤ 0
theorem leK_of_not {x y : BV} (h : ¬ cmpB x.1.key y.1.key < 0) : leK y x := by
  unfold leK; rw [cmpB_swap x.1.key]; omega
theorem leK_trans {x y z : BV} (h : leK x y) (h' : leK y z) : leK x z := cmpB_trans _ _ _ h h'
end Go.Proofs
