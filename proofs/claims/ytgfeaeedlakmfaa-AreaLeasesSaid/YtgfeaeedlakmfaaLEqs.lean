/- Equality: a pointer with nil; bools. -/
import Derived.Test.YtgfeaeedlakmfaaLCut
set_option linter.unusedVariables false
set_option linter.unusedSimpArgs false
set_option linter.unusedSectionVars false
namespace Go.Lf
open Go
section
variable {P : Program} {T e : Nat}
theorem p_eqlNilP (hu : ∀ w, (underlying T).run P w = .ok (.pointer e) w) (x y : Operand) (a : Option Addr) (K : Value → Prop) :
    PRun P (eqS .eql T x y (.pointer a) (.pointer none)) K = K (.bool a.isNone) := PRun_eq (fun w => by
  have h : (Op.equal T (.pointer a) (.pointer none)).run P w = .ok a.isNone w := by
    unfold Op.equal Op.maxDepth Op.equalIn
    rw [Sem.run_bind, hu, Result.andThen_ok]
    cases a <;> rfl
  have hg : ∀ op, (eqGuard op T x y (.pointer a) (.pointer none)).run P w = .ok () w := by
    intro op; unfold eqGuard; cases op <;> rfl
  unfold eqS
  rw [Sem.run_bind, hg, Result.andThen_ok]
  simp only [binOp, Sem.run_bind, Sem.run_pure, Result.andThen_ok, h]) K
theorem p_neqNilP (hu : ∀ w, (underlying T).run P w = .ok (.pointer e) w) (x y : Operand) (a : Option Addr) (K : Value → Prop) :
    PRun P (eqS .neq T x y (.pointer a) (.pointer none)) K = K (.bool (!a.isNone)) := PRun_eq (fun w => by
  have h : (Op.equal T (.pointer a) (.pointer none)).run P w = .ok a.isNone w := by
    unfold Op.equal Op.maxDepth Op.equalIn
    rw [Sem.run_bind, hu, Result.andThen_ok]
    cases a <;> rfl
  have hg : ∀ op, (eqGuard op T x y (.pointer a) (.pointer none)).run P w = .ok () w := by
    intro op; unfold eqGuard; cases op <;> rfl
  unfold eqS
  rw [Sem.run_bind, hg, Result.andThen_ok]
  simp only [binOp, Sem.run_bind, Sem.run_pure, Result.andThen_ok, h]) K
theorem p_eqlBool (hu : ∀ w, (underlying T).run P w = .ok .bool w) (x y : Operand) (a b : Bool) (K : Value → Prop) :
    PRun P (eqS .eql T x y (.bool a) (.bool b)) K = K (.bool (a == b)) := PRun_eq (fun w => by
  have h : (Op.equal T (.bool a) (.bool b)).run P w = .ok (a == b) w := by
    unfold Op.equal Op.maxDepth Op.equalIn
    rw [Sem.run_bind, hu, Result.andThen_ok]; rfl
  have hg : ∀ op, (eqGuard op T x y (.bool a) (.bool b)).run P w = .ok () w := by
    intro op; unfold eqGuard; cases op <;> rfl
  unfold eqS
  rw [Sem.run_bind, hg, Result.andThen_ok]
  simp only [binOp, Sem.run_bind, Sem.run_pure, Result.andThen_ok, h]) K
theorem p_neqBool (hu : ∀ w, (underlying T).run P w = .ok .bool w) (x y : Operand) (a b : Bool) (K : Value → Prop) :
    PRun P (eqS .neq T x y (.bool a) (.bool b)) K = K (.bool (!(a == b))) := PRun_eq (fun w => by
  have h : (Op.equal T (.bool a) (.bool b)).run P w = .ok (a == b) w := by
    unfold Op.equal Op.maxDepth Op.equalIn
    rw [Sem.run_bind, hu, Result.andThen_ok]; rfl
  have hg : ∀ op, (eqGuard op T x y (.bool a) (.bool b)).run P w = .ok () w := by
    intro op; unfold eqGuard; cases op <;> rfl
  unfold eqS
  rw [Sem.run_bind, hg, Result.andThen_ok]
  simp only [binOp, Sem.run_bind, Sem.run_pure, Result.andThen_ok, h]) K
end
end Go.Lf
