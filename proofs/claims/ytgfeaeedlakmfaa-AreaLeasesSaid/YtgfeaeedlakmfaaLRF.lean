/- A range over a function: what an iterator gives, and the law of the statement (no early leaving), in this framework's terms. -/
import Derived.Test.YtgfeaeedlakmfaaLMem6
import Derived.RangeFuncLeaves
import Derived.RangeFuncOwn
set_option linter.unusedVariables false
set_option linter.unusedSimpArgs false
set_option linter.unusedSectionVars false
namespace Go.Lf
open Go

def keepO (A B : World) : Prop := sz A ≤ sz B ∧ ∀ b o, Hp A b = some o → o.isCells = false → Hp B b = some o
def keepW (A B : World) : Prop := sz A ≤ sz B ∧ ∀ b o, Hp A b = some o → o.isWalk = true → Hp B b = some o
theorem keepO.walks {A B : World} (h : keepO A B) : keepW A B := ⟨h.1, fun b o ho hw => h.2 b o ho (Obj.not_cells_of_walk hw)⟩
theorem keepW.trans {A B C : World} (h : keepW A B) (h' : keepW B C) : keepW A C := ⟨Nat.le_trans h.1 h'.1, fun b o ho hw => h'.2 b o (h.2 b o ho hw) hw⟩
theorem keepW.put {A : World} {b : Nat} {o o' : Obj} (h : Hp A b = some o) (hw : o.isWalk = false) : keepW A (put A b o') := by
  refine ⟨by rw [sz_put]; exact Nat.le_refl _, fun c x hx hxw => ?_⟩
  by_cases e : c = b
  · subst e; rw [h] at hx; cases hx; rw [hw] at hxw; cases hxw
  · rw [Hp_put_other _ _ _ _ e]; exact hx

/-- What an iterator gives: the elements of one of the lists S, each handed to yield. -/
def Gives (P : Program) (gf : Nat) (lb : Array Value) {α : Type} (enc : α → Value) (ok : α → Prop) (N : Nat) (S : List α → Prop) (w : World) : Prop :=
  ∀ (l : Nat) (J : List α → World → Prop) (W : World), Ext (fun _ => False) w W →
    (∀ pre A B M, J pre A → Ext M A B → (∀ b, b < sz A → M b → sz W ≤ b ∧ ∃ o, Hp A b = some o ∧ o.isWalk = true) → J pre B) →
    (∀ pre x A, ok x → pre.length < N → J pre A → YieldAt Fence.wide 0 P l #[enc x] A fun e B => e = .returned (.bool true) ∧ J (pre ++ [x]) B ∧ keepW A B) →
    J [] W → Calls P gf (#[.func (.yield l) #[] #[]] ++ lb) W (retK fun _ B => ∃ xs, S xs ∧ J xs B)

theorem putObj_put (w : World) (b : Nat) (o : Obj) : w.putObj b o = put w b o := rfl

theorem act_set (n : Nat) (E : Env) (p : Nat) (v : Value) : (act n E).tmps.setIfInBounds p v = (act n (E.set p v)).tmps := by
  have := congrArg Act.tmps (act_put n E (some p) v)
  exact this

theorem rf_law {P : Program} {n : Nat} {E : Env} {w : World} {g : Operand} {p : Nat} {assign body : Code} {Q : Exit → Act → World → Prop} {gf : Nat} {lb : Array Value} {α : Type} {enc : α → Value} {ok : α → Prop} {N : Nat} {S : List α → Prop}
    (hg : ev n E g = .func (.func gf) #[] lb) (eg : ∀ args w, (callFunc gf args).run P w = .ok (.enter gf args) w) (hG : Gives P gf lb enc ok N S w)
    (I : List α → World → Prop) (hI : ∀ pre A B M, I pre A → Ext M A B → (∀ b, b < sz A → M b → sz w ≤ b ∧ ∃ o, Hp A b = some o ∧ o.isCells = false) → I pre B) (h0 : I [] w)
    (hbody : ∀ l pre x A, ok x → pre.length < N → I pre A → assign.wpIn (Gr (some l)) 0 P (Exit.then (fun a1 A1 => keepO A A1 ∧
        ∀ A2, Ext (fun b => b = l) A1 A2 → (∃ o, Hp A1 l = some o ∧ o.isCells = false) → sz w ≤ l → body.wpIn (Gr (some l)) 0 P (fun e _ B => e = .normal ∧ keepO A2 B ∧ I (pre ++ [x]) B) a1 A2) (fun _ _ _ => False))
        (act n (E.set p (enc x))) A)
    (hdone : ∀ D xs A, S xs → I xs A → Hp A D = some (.deferred (some [])) → sz w ≤ D → Q .normal { act n E with defers := [{ target := .collected D, args := #[] }] } A) :
    (Code.rangeFunc g #[p] assign body).wpIn (Gr none) 0 P Q (act n E) w := by
  refine wpIn_rangeFunc fun fn hfn => ?_
  let D := sz w
  let l := sz w + 1
  let rec0 : LoopState → Option Code → Loop := fun st pe => { state := st, pending := pe, fn, tmps := (act n E).tmps, params := #[p], assign, body, defers := D }
  let W1 := (w.alloc (.deferred (some []))).alloc (.loop (rec0 .ready none))
  have hL1 : Hp W1 l = some (.loop (rec0 .ready none)) := Hp_alloc_new _ _ _ (by rw [sz_alloc])
  have hD1 : Hp W1 D = some (.deferred (some [])) := (Hp_alloc_old _ _ _ (by rw [sz_alloc]; exact Nat.lt_succ_self _)).trans (Hp_alloc_new _ _ _ rfl)
  have hx1 : Ext (fun _ => False) w W1 := ((Ext.refl _ w).alloc _).alloc _
  have hI1 : I [] W1 := hI _ _ _ _ h0 hx1 fun b _ h => h.elim
  refine ⟨l, [{ target := .collected D, args := #[] }], W1, { target := .fn (.func gf) lb, args := #[.func (.yield l) #[] #[]] }, W1, gf, #[.func (.yield l) #[] #[]] ++ lb, W1, run_enterLoop_outer _ _ _ _ _, ?_, fun _ _ => trivial, ?_, fun h => (by cases h), ?_⟩
  · simp only [resolve, act_eval, rangeCall, hg]
    simp [go_sem]
    rfl
  · simp [invoke, go_sem, eg]
  refine callsIn_wide.2 ?_
  refine (hG l (fun pre W => I pre W ∧ Hp W l = some (.loop (rec0 .ready none)) ∧ Hp W D = some (.deferred (some []))) W1 hx1 ?_ ?_ ⟨hI1, hL1, hD1⟩).mono ?_
  · rintro pre A B M ⟨hi, hl, hd⟩ hx hm
    refine ⟨hI _ _ _ _ hi hx fun b hb h => ?_, ?_, ?_⟩
    · obtain ⟨h1, o, ho, hw⟩ := hm b hb h
      exact ⟨Nat.le_trans hx1.size h1, o, ho, Obj.not_cells_of_walk hw⟩
    · refine hx.at hl fun h => ?_
      obtain ⟨_, o, ho, hw⟩ := hm _ (Hp_lt hl) h
      rw [hl] at ho; cases ho; cases hw
    · refine hx.at hd fun h => ?_
      obtain ⟨_, o, ho, hw⟩ := hm _ (Hp_lt hd) h
      rw [hd] at ho; cases ho; cases hw
  · rintro pre x A hok hN ⟨hi, hl, hd⟩
    have hy := run_yield (P := P) (args := #[enc x]) hl rfl
    have hlt := Hp_lt hl
    have hDl : D ≠ l := Nat.ne_of_lt (Nat.lt_succ_self _)
    refine ⟨fn, _, assign, body, hy, roundIn_of_wpIn hfn ?_⟩
    have e1 : ((rec0 .ready none).params.zip #[enc x]).foldl (fun t (q, v) => t.setIfInBounds q v) (rec0 .ready none).tmps = (act n (E.set p (enc x))).tmps := by
      show (#[p].zip #[enc x]).foldl (fun t (q, v) => t.setIfInBounds q v) (act n E).tmps = _
      rw [← act_set]; simp [Array.zip]
    have e2 : ({ tmps := ((rec0 .ready none).params.zip #[enc x]).foldl (fun t (q, v) => t.setIfInBounds q v) (rec0 .ready none).tmps, defers := [] } : Act) = act n (E.set p (enc x)) := by rw [e1]; rfl
    rw [e2]
    refine wpIn_mono (hbody l pre x A hok hN hi) ?_
    intro e a1 A1 hpost
    cases e with
    | normal =>
      obtain ⟨hk1, hb⟩ := hpost
      have hl1 := hk1.2 _ _ hl rfl
      have hd1 := hk1.2 _ _ hd rfl
      have hlt1 := Hp_lt hl1
      refine ⟨_, run_beginRound hl1 rfl, ?_⟩
      have hx2 : Ext (fun b => b = l) A1 (A1.putObj l (.loop { rec0 .ready none with state := .busy })) := by
        rw [putObj_put]; exact (Ext.refl _ _).put _ _ fun _ => rfl
      refine wpIn_mono (hb _ hx2 ⟨_, hl1, rfl⟩ (Nat.le_succ _)) ?_
      rintro e a B ⟨rfl, hk2, hi2⟩
      have hl2 := hk2.2 l _ (Hp_put_same _ _ _ hlt1) rfl
      have hd2 := hk2.2 D _ ((Hp_put_other _ _ _ _ hDl).trans hd1) rfl
      refine ⟨_, _, run_endRound none hl2, rfl, ⟨?_, ?_, ?_⟩, ?_⟩
      · refine hI _ B _ (fun b => b = l) hi2 ((Ext.refl _ _).put _ _ fun _ => rfl) fun b _ h => ?_
        subst h
        exact ⟨Nat.le_succ _, _, hl2, rfl⟩
      · exact Hp_put_same _ _ _ (Hp_lt hl2)
      · exact (Hp_put_other _ _ _ _ hDl).trans hd2
      · exact ((hk1.walks.trans (keepW.put hl1 rfl)).trans hk2.walks).trans (keepW.put hl2 rfl)
    | _ => exact hpost.elim
  · intro e W2 hpost
    cases e with
    | returned v =>
      obtain ⟨xs, hS, hi, hl, hd⟩ := hpost
      refine ⟨none, _, run_endLoop hl (by simp [rec0]), ?_⟩
      have hDl : D ≠ l := Nat.ne_of_lt (Nat.lt_succ_self _)
      refine hdone D xs _ hS ?_ ((Hp_put_other _ _ _ _ hDl).trans hd) (Nat.le_refl _)
      refine hI _ W2 _ (fun b => b = l) hi ((Ext.refl _ _).put _ _ fun _ => rfl) fun b _ h => ?_
      subst h
      exact ⟨Nat.le_succ _, _, hl, rfl⟩
    | panicked _ => exact hpost.elim
    | outgrown => exact hpost.elim

/-- One quiet operation of a region, whatever deferred calls stand. -/
theorem wpOp_val {P : Program} {r : Option Nat} {ops : Array Oper} {Q : Exit → Act → World → Prop} {i : Nat} {o : Oper} {a : Act} {v : Value} {w : World} {K : Act → World → Prop} {n : Nat} {E : Env}
    (hi : ops[i]? = some o) (hgd : o.guard = none) (ha : a.eval = ev n E) (hdf : ∀ c, o.op ≠ .defer c) (hr : (semQ (ev n E) o).run P w = .ok v w) (hk : K (a.put o.dst v) w) : wpOpIn (Gr r) 0 P ops Q i K a w := by
  unfold wpOpIn
  simp only [hi]
  have hw : Region.wanted o (yielded ops a.tmps) = true := by unfold Region.wanted; rw [hgd]
  rw [if_pos hw]
  unfold Oper.wpIn
  refine ⟨fun _ _ => trivial, ?_⟩
  rw [Oper.semAt_eq _ _ _ hdf, ha, semQ_exec hr, Oper.uponIn_value]
  exact hk
theorem evalD (n : Nat) (E : Env) (ds : List Deferred) : ({ act n E with defers := ds } : Act).eval = ev n E := by rw [← act_eval]; rfl
theorem putD (n : Nat) (E : Env) (ds : List Deferred) (d : Option Nat) (v : Value) : ({ act n E with defers := ds } : Act).put d v = { act n (E.put d v) with defers := ds } := by
  rw [← act_put]; cases d <;> rfl
theorem Vec.block {w : World} {e z n : Nat} {v : Value} {cells : List Value} {Q : Nat → Prop} (h : Vec w e z v n cells Q) {b : Nat} (hb : some b = blockOf v) : Q b ∧ ∃ row, Hp w b = some (.cells row e (0, 0)) := by
  rcases h.2 with ⟨rfl, _⟩ | ⟨b', o, cap, row, rfl, _, hb', _, _, hQ⟩
  · cases hb
  · simp only [blockOf, Option.some.injEq] at hb; subst hb; exact ⟨hQ, row, hb'⟩
theorem Vec.fresh {w : World} {e z n : Nat} (row : Array Value) (h : row.size = n * z) : Vec (w.alloc (.cells row e (0, 0))) e z (.slice (some ⟨sz w, 0, none⟩) n n) n row.toList (fun b => b = sz w) :=
  ⟨by simpa using h, .inr ⟨sz w, 0, n, row, rfl, Nat.le_refl _, Hp_alloc_new _ _ _ rfl, by omega, fun j hj => by simp, rfl⟩⟩
theorem Vec.extc {w w' : World} {e z n : Nat} {v : Value} {cells : List Value} {Q M : Nat → Prop} (h : Vec w e z v n cells Q) (x : Ext M w w') (hq : ∀ b row, Hp w b = some (.cells row e (0, 0)) → Q b → ¬ M b) : Vec w' e z v n cells Q := by
  obtain ⟨h1, h2⟩ := h
  refine ⟨h1, h2.imp id ?_⟩
  rintro ⟨b, o, cap, row, hv, hn, hb, ho, hc, hQ⟩
  exact ⟨b, o, cap, row, hv, hn, x.at hb (hq b row hb hQ), ho, hc, hQ⟩
end Go.Lf
