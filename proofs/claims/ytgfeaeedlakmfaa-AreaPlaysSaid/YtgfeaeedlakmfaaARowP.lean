/- 'AreaPlays' returns true for every input (two ints and a slice of calls), and writes nothing that was there before. -/
import Derived.Test.YtgfeaeedlakmfaaRows
import Derived.WalkKit
import Derived.ProofKit
import Derived.OpenShut
import Derived.ChangeOld
import Derived.Below
import Derived.Deep.Slices
import Derived.Test.YtgfeaeedlakmfaaAP26
set_option linter.unusedVariables false
set_option linter.unusedSimpArgs false
set_option linter.unusedSectionVars false
namespace Go.Proofs.Ytgfeaeedlakmfaa.areaPlays
open Go.ChangeShapes Go.WideShapes Go.ChangeAt Go.RowKit
open Go Go.Lf
set_option linter.unusedVariables false
theorem own : ownKnob Try.prog.godebug = none := by kernel_rfl
theorem laidOut : laidOutB Try.prog = true := by kernel_rfl
theorem below_ext {w w' : World} (h : Ext (fun _ => False) w w') : Below w.heap.size w w' :=
  ⟨h.os, h.tape, h.out, h.size, fun k hk => h.keep k hk not_false⟩
theorem wf64 {n : Int} (h : (Lit.int .i64 n).wf = true) : okI n := by
  simp [Lit.wf, IntKind.min, IntKind.max, IntKind.signed, IntKind.bits] at h
  exact h
instance : Inhabited CallT := ⟨⟨0, 0, 0, 0, 0⟩⟩
theorem struct_call {H : Type} {enc : TypeId × Value → H} {W : World} {base n : Nat} {spare : Nat → Bool} {held : Bool} {cs : List Value} {x : DataW H × List MemPlace} (h : DataW.trod enc Try.prog W base spare held n 33 cs = some x) :
    ∃ c : CallT, c.ok ∧ cs = c.row.toList := by
  obtain ⟨xs, m, -, -, hl, hxl, hf⟩ := DataW.trod_struct Try.underlying33 h
  have hc : Try.prog.cellsOf 33 = 5 := by kernel_rfl
  have hc3 : Try.prog.cellsOf 3 = 1 := by kernel_rfl
  rw [hc] at hl
  match cs, hl with
  | [v0, v1, v2, v3, v4], _ =>
    have g0 := hf 0 _ rfl
    have g1 := hf 1 _ rfl
    have g2 := hf 2 _ rfl
    have g3 := hf 3 _ rfl
    have g4 := hf 4 _ rfl
    simp [hc3] at g0 g1 g2 g3 g4
    have key : ∀ (i : Nat) (v : Value), i < 5 → DataW.trod enc Try.prog W base spare held m 3 [v] = xs[i]? → ∃ k, v = .int .i64 k ∧ okI k := fun i v hi hv => by
      have hxi : ∃ y, xs[i]? = some y := ⟨_, List.getElem?_eq_getElem (by rw [hxl]; exact hi)⟩
      obtain ⟨y, hy⟩ := hxi
      rw [hy] at hv
      obtain ⟨k, hk, -, hw⟩ := DataW.trod_int Try.underlying3 hv
      simp only [List.cons.injEq, and_true] at hk
      exact ⟨k, hk, wf64 hw⟩
    obtain ⟨k0, rfl, o0⟩ := key 0 v0 (by decide) g0
    obtain ⟨k1, rfl, o1⟩ := key 1 v1 (by decide) g1
    obtain ⟨k2, rfl, o2⟩ := key 2 v2 (by decide) g2
    obtain ⟨k3, rfl, o3⟩ := key 3 v3 (by decide) g3
    obtain ⟨k4, rfl, o4⟩ := key 4 v4 (by decide) g4
    exact ⟨⟨k0, k1, k2, k3, k4⟩, ⟨o0, o1, o2, o3, o4⟩, rfl⟩
theorem arg_calls {H : Type} {enc : TypeId × Value → H} {W : World} {fuel : Nat} {held : Bool} {v : Value} {x : DataW H × List MemPlace} (hv : ∃ a len cap, v = .slice a len cap) (h : DataW.trod enc Try.prog W 0 (fun _ => true) held fuel 22 [v] = some x) :
    ∃ cs, ArgC W v cs := by
  obtain ⟨a0, l0, c0, rfl⟩ := hv
  have hc : Try.prog.cellsOf 33 = 5 := by kernel_rfl
  rcases Go.Deep.open_slice Try.underlying22 h with ⟨hcs, -⟩ | ⟨a, len, cap, m, n, D, Pl, hcs, -, hlen, -, hm, -, hx⟩
  · simp only [List.cons.injEq, Value.slice.injEq, and_true] at hcs
    obtain ⟨rfl, rfl, rfl⟩ := hcs
    exact ⟨[], .inl ⟨⟨_, _, rfl⟩, rfl⟩⟩
  · simp only [List.cons.injEq, Value.slice.injEq, and_true] at hcs
    obtain ⟨rfl, rfl, rfl⟩ := hcs
    simp only [if_true] at hm
    subst hm
    rw [hc] at hx
    by_cases h0 : l0 = 0
    · subst h0; exact ⟨[], .inl ⟨⟨_, _, rfl⟩, rfl⟩⟩
    obtain ⟨b, o, sp⟩ := a
    obtain ⟨f, hf⟩ := Go.Deep.choose_lt (α := CallT) (n := l0) (p := fun i c => c.ok ∧ W.cells? 0 ((⟨b, o, sp⟩ : Addr).add (i * 5)) 5 = some c.row.toList) (fun i hi => by
      obtain ⟨cs', h1, h2⟩ := hx i (by omega)
      obtain ⟨c, hok, rfl⟩ := struct_call h2
      exact ⟨c, hok, h1⟩)
    have hcell : ∀ i, i < l0 → ∀ j, j < 5 → W.cell? (((⟨b, o, sp⟩ : Addr).add (i * 5)).add j) = (f i).row.toList[j]? := fun i hi j hj => (World.cells?_some (hf i hi).2).2.2 j hj
    have hsp : sp = none := by
      have := hcell 0 (by omega) 0 (by decide)
      have h2 : W.cell? (⟨b, o, sp⟩ : Addr) = some (i64 (f 0).kind) := by simpa [Addr.add] using this
      simpa using World.cell?_spot h2
    subst hsp
    have hplain : ∀ i j, (((⟨b, o, none⟩ : Addr).add (i * 5)).add j) = ⟨b, o + i * 5 + j, none⟩ := fun i j => by rw [addr_add, addr_add]
    obtain ⟨row, U, fr, hrow⟩ : ∃ row U fr, Hp W b = some (.cells row U fr) := by
      have h2 := hcell 0 (by omega) 0 (by decide)
      rw [hplain] at h2
      unfold World.cell? at h2
      split at h2
      · rename_i c U fr hh; exact ⟨c, U, fr, hh⟩
      · cases h2
    refine ⟨(List.range l0).map f, .inr ⟨b, o, m, row, U, fr, by simp, hrow, fun i c hi => ?_⟩⟩
    rw [List.getElem?_map] at hi
    obtain ⟨i', hi', rfl⟩ := Option.map_eq_some_iff.1 hi
    obtain ⟨hil, rfl⟩ : i < l0 ∧ i = i' := by
      have := List.getElem?_eq_some_iff.1 hi'
      obtain ⟨h1, h2⟩ := this
      simp only [List.length_range] at h1
      simp only [List.getElem_range] at h2
      exact ⟨h1, h2⟩
    have hget : ∀ j, j < 5 → row[o + i * 5 + j]? = (f i).row.toList[j]? := fun j hj => by
      rw [← hcell i hil j hj, hplain, cell_Hp hrow]
    have hsz : o + i * 5 + 5 ≤ row.size := by
      have h4 := hget 4 (by decide)
      have h5 : row[o + i * 5 + 4]? = some (i64 (f i).for_) := by rw [h4]; rfl
      have := (Array.getElem?_eq_some_iff.1 h5).1
      omega
    refine ⟨(hf i hil).1, ?_, hsz⟩
    apply Array.ext_getElem?
    intro j
    rw [Array.getElem?_extract]
    by_cases hj : j < 5
    · rw [if_pos (by omega), hget j hj, Array.getElem?_toList]
    · rw [if_neg (by omega), Array.getElem?_eq_none (by show 5 ≤ j; omega)]
theorem walk (a0 a1 : Int) (w0 : (Lit.int .i64 a0).wf = true) (w1 : (Lit.int .i64 a1).wf = true) (v : Value) (w : World) (cs : List CallT) (hv : ArgC w v cs) :
    Calls Try.prog 3 #[.int .i64 a0, .int .i64 a1, v] w fun e w' => e = .returned (.bool true) ∧ Below w.heap.size w w' := by
  refine (plays_spec (w := w) (wf64 w0) (wf64 w1) hv).mono fun e w' he => ?_
  cases e with
  | returned v => obtain ⟨rfl, hx⟩ := he; exact ⟨rfl, below_ext hx⟩
  | panicked _ => exact he.elim
  | outgrown => exact he.elim
set_option maxRecDepth 100000 in
theorem lifted (os : Os) (started : os.Started) (H : Type) (enc : TypeId × Value → H) :
    ReturnsInHanded {} Try.checked os 3 .any (Rows.areaPlaysSpec.pre6 enc Try.prog Try.f3 Rows.areaPlaysRow.domain false) (Rows.areaPlaysSpec.post enc Try.prog Try.f3 false true false false) := by
  refine returnsInHanded_of_change (C := Try.checked) own started (by kernel_rfl) Try.func3
    (ChangeSpec.witness6 (enc := enc) (C := Try.checked) false ⟨#[], #[.int .i64 0, .int .i64 0, .slice none 0 0], []⟩ 8 (by kernel_rfl) (by kernel_rfl) (by kernel_rfl) (by kernel_rfl)) ?_
  intro W base args ds gs before hval0 hW hcnd _
  have hval : ∀ (j : Nat) t v, Try.f3.params[j]? = some t → args[j]? = some v → Value.okWide Try.prog W .any base t v := hval0
  have hW' := hW
  obtain ⟨p, q, hA0, hV, rfl, hfz, hnd⟩ := hW
  have hA : DataW.TrodAll enc Try.prog W 0 (fun _ => true) true Try.f3.params.toList args.toList ds p := hA0
  rw [Try.params3] at hA hval
  obtain ⟨v0, vs0, d0, ds0, p0, q0, hargs, rfl, rfl, h0, r0⟩ := trodAll_cons hA
  obtain ⟨v1, vs1, d1, ds1, p1, q1, rfl, rfl, rfl, h1, r1⟩ := trodAll_cons r0
  obtain ⟨v2, vs2, d2, ds2, p2, q2, rfl, rfl, rfl, h2, r2⟩ := trodAll_cons r1
  obtain ⟨rfl, rfl, rfl⟩ := trodAll_nil r2
  obtain rfl : args = #[v0, v1, v2] := by cases args; simp_all
  obtain ⟨rfl, rfl⟩ := trodVars_none hV
  obtain ⟨a0, rfl, rfl, rfl, w0⟩ := open_int Try.underlying3 (hval 0 3 v0 rfl rfl) h0
  obtain ⟨a1, rfl, rfl, rfl, w1⟩ := open_int Try.underlying3 (hval 1 3 v1 rfl rfl) h1
  obtain ⟨sa, sl, sc, rfl⟩ := okWide_slice Try.underlying22 (hval 2 22 v2 rfl rfl)
  have k2 := h2
  have lt2 : ∀ x ∈ p2, x.block < W.heap.size := by obtain ⟨m, hm⟩ := k2; exact DataW.trod_lt m _ _ _ hm
  obtain ⟨cs, hcs⟩ : ∃ cs, ArgC W (.slice sa sl sc) cs := by
    obtain ⟨fuel, hf⟩ := h2
    exact arg_calls ⟨_, _, _, rfl⟩ hf
  clear hA0 hval0
  refine (walk a0 a1 w0 w1 _ W cs hcs).mono fun e W' ⟨he, bel⟩ => ?_
  subst he
  exact ⟨_, rfl, _, _, _, [], _, [], hW', trodAll_mk1 (shut_bool Try.underlying4 _), (trodAll_cons_mk (shut_int Try.underlying3 w0) (trodAll_cons_mk (shut_int Try.underlying3 w1) (trodAll_cons_mk (Below.trod laidOut (by kernel_rfl) (of_decide_eq_true (by kernel_rfl)) k2 bel lt2) trodAll_mk0))), rfl, bel.frame _, fun h => by cases h⟩
theorem over : Rows.areaPlaysRow.holds Try.pinned (OpenSpec.ofChange Rows.areaPlaysSpec) :=
  OpenClaim.holds_of_wide 3 Try.f3 rfl rfl rfl rfl rfl rfl rfl ⟨rfl, rfl, rfl, rfl, rfl⟩ rfl rfl rfl rfl rfl (by kernel_rfl) Try.func3 (by kernel_rfl)
    (of_decide_eq_true (by kernel_rfl)) (by unfold Func.isWrapper; first | (rw [if_pos (by decide +kernel)]; kernel_rfl) | (rw [if_neg (by decide +kernel)]; exact ⟨rfl, rfl⟩))
    (fun os started H enc _ => lifted os started H enc)
theorem proved : Rows.AreaPlaysSaid := over
#print axioms proved
end Go.Proofs.Ytgfeaeedlakmfaa.areaPlays
