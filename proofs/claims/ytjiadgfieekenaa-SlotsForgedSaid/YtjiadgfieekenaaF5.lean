/- Parts of the proof: S.F5. -/
import Derived.Test.YtjiadgfieekenaaL2
import Derived.Test.YtjiadgfieekenaaTy
set_option linter.unusedVariables false
set_option linter.unusedSimpArgs false
set_option linter.unusedSectionVars false
namespace Go.Proofs
open Go Go.Lf
set_option maxRecDepth 100000
def F40x1 (v7 : Value) (w3 : World) (a1 : Value) (a0 : Value) (k1 : World → Prop) : Prop :=
  QRun Try.prog (Instr.entry v7) w3 fun v10 =>
  PRun Try.prog (Instr.extract v10 0) fun v11 =>
  PRun Try.prog (Instr.extract v10 1) fun v12 =>
  Run Try.prog (Instr.alloc 25 true (.tuple #[])) w3 fun v4 w4 =>
  Run Try.prog (Instr.alloc 36 true (.tuple #[])) w4 fun v5 w5 =>
  Run Try.prog (Instr.storeAt 25 v4 v11) w5 fun _ w6 =>
  Run Try.prog (Instr.storeAt 36 v5 v12) w6 fun _ w7 =>
  QRun Try.prog (Instr.loadAt 25 v4) w7 fun v14 =>
  QRun Try.prog (Instr.loadAt 36 v5) w7 fun v15 =>
  CallV Try.prog a1 #[v14, v15] w7 fun v16 w8 =>
  Branch v16 (
    QRun Try.prog (Instr.loadAt 25 v4) w8 fun v18 =>
    Run Try.prog (Builtin.delete_ #[46, 25] 0 #[a0, v18]) w8 fun _ w9 =>
    k1 w9
  ) (
    k1 w8
  )
/-- maps.DeleteFunc[map[lattice/api.Id]lattice/slots.Slot,lattice/api.Id,lattice/slots.Slot] -/
def F40 (a0 : Value) (a1 : Value) (K : Value → World → Prop) (w : World) : Prop :=
  Run Try.prog (Instr.range 46 a0) w fun v7 w1 =>
  LoopF 0 [] w1 fun w2 k1 => ∀ _ : Env,
  Run Try.prog (Instr.next v7 false 0) w2 fun v8 w3 =>
  PRun Try.prog (Instr.extract v8 0) fun v9 =>
  Branch v9 (
    F40x1 v7 w3 a1 a0 k1
  ) (
    K (Value.tuple #[]) w3
  )
def H40 : Hints := { n := 19, reg := [(0, ⟨[.p, .e], [0, 1]⟩), (1, ⟨[.e, .p], [0, 1]⟩), (2, ⟨[.q, .p, .p, .e, .e, .e, .e], [0, 1, 1, 0, 0, 27, 63]⟩), (3, ⟨[.p, .q, .q, .e], [0, 0, 0, 7]⟩), (4, ⟨[.p, .q, .e], [0, 0, 3]⟩)], loop := [(1, [])], join := [] }
noncomputable def C40 : Code := Try.f40.body.getD .skip
theorem E40 (a0 : Value) (a1 : Value) (K : Value → World → Prop) (w : World) : F40 a0 a1 K w = lift Try.prog H40 C40 (envOf [a0, a1] 0) w (fun E w => resV Try.prog H40.n E Try.f40.results.toList w fun vs => K (retV vs) w) [] (fun E w => resV Try.prog H40.n E Try.f40.results.toList w fun vs => K (retV vs) w) := by kernel_rfl
theorem R40 : regOk H40 C40 = true := by kernel_rfl
theorem B40 : Try.f40.body = some C40 := by kernel_rfl
theorem F40_ok (a0 : Value) (a1 : Value) (K : Value → World → Prop) (w : World) (h : F40 a0 a1 K w) : Calls Try.prog 40 #[a0, a1] w (retK K) :=
  lift_call mixed Try.func40 B40 Try.ntmps40 R40 (Nat.le_of_ble_eq_true rfl) (Eq.mp (E40 a0 a1 K w) h)
end Go.Proofs
