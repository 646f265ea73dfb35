/- A part of the proof: A.P15. -/
import Derived.Test.YtgfeaeedlakmfaaAP14
set_option linter.unusedVariables false
set_option linter.unusedSimpArgs false
set_option linter.unusedSectionVars false
namespace Go.Proofs
open Go Go.Lf
set_option maxRecDepth 20000
set_option maxHeartbeats 2000000
set_option linter.unusedSimpArgs false
set_option linter.unusedVariables false
/-- append(v, y) -/
theorem app1 {w : World} {v : Value} {L : List BV} {Q : Nat → Prop} (hv : Sl bcell 39 35 w v L Q) (y : BV) (hk : y.1.key.length = 32) (hone : allOne (bcell y).toArray) (hl : L.length ≤ 1000000) (R : TypeId) (cs : Array Value) (hcs : cs = (bcell y).toArray) {K : Value → World → Prop}
    (hK : ∀ v' w', Sl bcell 39 35 w' v' (L ++ [y]) (fun b => Q b ∨ sz w ≤ b) → Ext (fun b => some b = blockOf v) w w' → K v' w') :
    Run Try.prog (Builtin.append_ #[47, 47] R #[v, .slice (some ⟨sz w, 0, none⟩) 1 1]) (w.alloc (.cells cs 39 (0, 0))) K := by
  subst hcs
  have hx : Ext (fun _ => False) w (w.alloc (.cells (bcell y).toArray 39 (0, 0))) := (Ext.refl _ _).alloc _
  have hz : 0 < 35 := by decide
  have hly := bcell_length y hk
  refine ap47 R ((hv.vec hz).ext hx fun _ _ _ => not_false) (Vec.fresh (e := 39) (z := 35) (n := 1) (bcell y).toArray (by simp [hly])).src (fun u hu => hone u (by simpa using hu)) (by omega) ?_
  intro v' w' hv' hx'
  refine hK v' w' (Sl.of_vec (fun a ha => ?_) ?_) (((hx.mono fun _ _ h => h.elim).trans hx' fun _ _ h => h))
  · rcases List.mem_append.1 ha with ha | ha
    · exact hv.1 a ha
    · rw [List.mem_singleton.1 ha]; exact hly
  · have e : (L ++ [y]).flatMap bcell = L.flatMap bcell ++ (bcell y).toArray.toList := by simp
    rw [e, List.length_append]
    refine hv'.mono fun b _ hb => ?_
    rcases hb with hb | hb
    · exact .inl ((hv.vec hz).block hb).1
    · right; rw [hb, sz_alloc]; omega
end Go.Proofs
