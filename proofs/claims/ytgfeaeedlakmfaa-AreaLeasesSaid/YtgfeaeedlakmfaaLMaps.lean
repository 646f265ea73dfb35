/-
  Maps: a block that holds entries; told as a list of keys, values and stamps, each key once.
-/
import Derived.Test.YtgfeaeedlakmfaaLMem4
set_option linter.unusedVariables false
set_option linter.unusedSimpArgs false
set_option linter.unusedSectionVars false
namespace Go.Lf
open Go

structure KeyLaw (P : Program) (T : Nat) {κ : Type} [DecidableEq κ] (ok : κ → Prop) (enc : κ → Value) : Prop where
  eq : ∀ a b, ok a → ok b → ∀ w, (Op.equal T (enc a) (enc b)).run P w = .ok (decide (a = b)) w
  chk : ∀ a, ok a → ∀ em w, (Instr.checkKey em 10000 T (enc a)).run P w = .ok () w
  same : ∀ a, ok a → Instr.sameBits 10000 (enc a) (enc a) = true
  now : ∃ d, (∀ w, (underlying T).run P w = .ok d w) ∧ ∀ a b, ok a → ok b → ∀ r, Instr.sameNow d (enc a) (enc b) = some r → r = decide (a = b)

section
variable {κ : Type} [DecidableEq κ]
/-- the entries of a map: key, value, stamp -/
abbrev Ents (κ : Type) := List (κ × Value × Nat)
def entsOf (enc : κ → Value) (m : Ents κ) : Array MapEntry := (m.map fun x => ({ key := enc x.1, val := x.2.1, born := x.2.2 } : MapEntry)).toArray
def absFind (k : κ) : Ents κ → Nat → Option (Nat × Value)
  | [], _ => none
  | (k', v, _) :: m, i => if k = k' then some (i, v) else absFind k m (i + 1)
def mget (m : Ents κ) (k : κ) : Option Value := (m.find? fun x => decide (k = x.1)).map (·.2.1)
def mset (m : Ents κ) (k : κ) (v : Value) (c : Nat) : Ents κ :=
  match m with
  | [] => [(k, v, c)]
  | (k', v', b) :: m => if k = k' then (k', v, b) :: m else (k', v', b) :: mset m k v c
def mdel (m : Ents κ) (k : κ) : Ents κ :=
  match m with
  | [] => []
  | x :: m => if k = x.1 then m else x :: mdel m k
theorem absFind_get (m : Ents κ) (k : κ) (i : Nat) : (absFind k m i).map (·.2) = mget m k := by
  induction m generalizing i with
  | nil => rfl
  | cons x m ih =>
    obtain ⟨k', v, b⟩ := x
    unfold absFind mget
    by_cases h : k = k'
    · simp [h]
    · simp only [h, if_false, List.find?_cons, decide_false]
      exact ih (i + 1)
variable {P : Program} {T : Nat} {ok : κ → Prop} {enc : κ → Value}
theorem run_findKey (L : KeyLaw P T ok enc) (m : Ents κ) (k : κ) (hk : ok k) (hm : ∀ x ∈ m, ok x.1) (w : World) : (Instr.findKey T (enc k) (entsOf enc m).toList).run P w = .ok (absFind k m 0) w := by
  have hl : (entsOf enc m).toList = m.map fun x => ({ key := enc x.1, val := x.2.1, born := x.2.2 } : MapEntry) := by simp [entsOf]
  rw [hl]
  unfold Instr.findKey
  obtain ⟨desc, hund, hnw⟩ := L.now
  rw [Sem.run_bind, hund, Result.andThen_ok]
  have hnow : ∀ (m : Ents κ) (i : Nat) r, (∀ x ∈ m, ok x.1) → Instr.findNow desc (enc k) (m.map fun x => ({ key := enc x.1, val := x.2.1, born := x.2.2 } : MapEntry)) i = some r → r = absFind k m i := by
    intro m
    induction m with
    | nil => intro i r _ h; simp only [List.map_nil, Instr.findNow, Option.some.injEq] at h; exact h.symm
    | cons x m ih =>
      obtain ⟨k', v, b⟩ := x
      intro i r hm h
      simp only [List.map_cons, Instr.findNow] at h
      cases hs : Instr.sameNow desc (enc k) (enc k') with
      | none => rw [hs] at h; cases h
      | some q =>
        have := hnw k k' hk (hm (k', v, b) (by simp)) q hs
        rw [hs] at h
        unfold absFind
        cases q with
        | true =>
          simp only [Option.some.injEq] at h
          rw [if_pos (of_decide_eq_true this.symm)]; exact h.symm
        | false =>
          rw [if_neg (of_decide_eq_false this.symm)]
          exact ih (i + 1) r (fun y hy => hm y (by simp [hy])) h
  have hask : ∀ (m : Ents κ) (i : Nat), (∀ x ∈ m, ok x.1) → (Instr.findAsking T (enc k) (m.map fun x => ({ key := enc x.1, val := x.2.1, born := x.2.2 } : MapEntry)) i).run P w = .ok (absFind k m i) w := by
    intro m
    induction m with
    | nil => intro i _; rfl
    | cons x m ih =>
      obtain ⟨k', v, b⟩ := x
      intro i hm
      simp only [List.map_cons, Instr.findAsking, Sem.run_bind]
      rw [L.eq k k' hk (hm (k', v, b) (by simp)), Result.andThen_ok]
      unfold absFind
      by_cases h : k = k'
      · simp [h]
      · simp only [h, decide_false, if_false, Bool.false_eq_true]
        exact ih (i + 1) fun y hy => hm y (by simp [hy])
  split
  · rename_i r hr; rw [hnow m 0 r hm hr]; rfl
  · exact hask m 0 hm
theorem run_getObj {w : World} {b : Nat} {o : Obj} (h : Hp w b = some o) (ho : ∀ c e f, o ≠ .cells c e f) : (getObj b).run P w = .ok o w := by
  unfold getObj
  unfold Hp at h
  simp only [Sem.run, h]
theorem run_setObj {w : World} {b : Nat} {o o' : Obj} (h : Hp w b = some o) (ho : ∀ c e f, o ≠ .cells c e f) : (setObj b o').run P w = .ok () (put w b o') := by
  unfold setObj put
  unfold Hp at h
  simp only [Sem.run, h]
/-- Block b is a map of these entries. -/
def MapAt (w : World) (b : Nat) (enc : κ → Value) (m : Ents κ) (c : Nat) : Prop := Hp w b = some (.map (entsOf enc m) c)
section
variable {M e : Nat} {zv : Value} (L : KeyLaw P T ok enc) (hu : ∀ w, (underlying M).run P w = .ok (.map T e) w) (hz : ∀ w, (zeroValue e).run P w = .ok zv w)
include L hu
theorem run_lookup (hz : ∀ w, (zeroValue e).run P w = .ok zv w) {w : World} {b c : Nat} {m : Ents κ} (h : MapAt w b enc m c) (k : κ) (hk : ok k) (hm : ∀ x ∈ m, ok x.1) (comma : Bool) :
    (Instr.lookup M (.map (some b)) (enc k) comma).run P w = .ok (if comma then .tuple #[(mget m k).getD zv, .bool (mget m k).isSome] else (mget m k).getD zv) w := by
  unfold Instr.lookup
  rw [Sem.run_bind, hu, Result.andThen_ok]
  simp only [Sem.run_bind, run_getObj (P := P) h (by simp), Result.andThen_ok, Sem.run_pure, L.chk k hk, run_findKey L m k hk hm]
  have hg := absFind_get m k 0
  cases hf : absFind k m 0 with
  | none =>
    rw [hf] at hg
    simp only [Option.map_none] at hg
    simp only [← hg, Sem.run_bind, hz, Result.andThen_ok, Sem.run_pure, Option.getD_none, Option.isSome_none]
  | some x =>
    obtain ⟨i, v⟩ := x
    rw [hf] at hg
    simp only [Option.map_some] at hg
    simp only [← hg, Option.getD_some, Option.isSome_some]
    simp only [Sem.run_bind, Sem.run_pure, Result.andThen_ok]
theorem q_lookup (hz : ∀ w, (zeroValue e).run P w = .ok zv w) {w : World} {b c : Nat} {m : Ents κ} (h : MapAt w b enc m c) (k : κ) (hk : ok k) (hm : ∀ x ∈ m, ok x.1) (K : Value → Prop) :
    QRun P (Instr.lookup M (.map (some b)) (enc k) false) w K = K ((mget m k).getD zv) := QRun_eq (run_lookup L hu hz h k hk hm false) K
theorem q_lookup2 (hz : ∀ w, (zeroValue e).run P w = .ok zv w) {w : World} {b c : Nat} {m : Ents κ} (h : MapAt w b enc m c) (k : κ) (hk : ok k) (hm : ∀ x ∈ m, ok x.1) (K : Value → Prop) :
    QRun P (Instr.lookup M (.map (some b)) (enc k) true) w K = K (.tuple #[(mget m k).getD zv, .bool (mget m k).isSome]) := QRun_eq (run_lookup L hu hz h k hk hm true) K
/-- The clock behind a store. -/
def mclock (m : Ents κ) (k : κ) (c : Nat) : Nat := if (mget m k).isSome then c else c + 1
theorem run_mapUpdate {w : World} {b c : Nat} {m : Ents κ} (h : MapAt w b enc m c) (k : κ) (hk : ok k) (hm : ∀ x ∈ m, ok x.1) (v : Value) :
    (Instr.mapUpdate M (.map (some b)) (enc k) v).run P w = .ok () (put w b (.map (entsOf enc (mset m k v c)) (mclock m k c))) := by
  unfold Instr.mapUpdate
  rw [Sem.run_bind, hu, Result.andThen_ok]
  simp only [Sem.run_bind, run_getObj (P := P) h (by simp), Result.andThen_ok, L.chk k hk, run_findKey L m k hk hm]
  have hg := absFind_get m k 0
  have key : ∀ (m : Ents κ) (i : Nat), match absFind k m i with
      | none => mset m k v c = m ++ [(k, v, c)]
      | some (j, _) => i ≤ j ∧ (∃ x, m[j - i]? = some x ∧ x.1 = k) ∧ entsOf enc (mset m k v c) = (entsOf enc m).modify (j - i) fun e => { e with key := enc k, val := v } := by
    intro m
    induction m with
    | nil => intro i; rfl
    | cons x m ih =>
      obtain ⟨k', v', b'⟩ := x
      intro i
      unfold absFind
      by_cases hkk : k = k'
      · subst hkk
        simp only [if_true]
        refine ⟨Nat.le_refl _, ⟨(k, v', b'), by simp, rfl⟩, ?_⟩
        apply Array.ext_getElem?
        intro j
        rw [Array.getElem?_modify]
        cases j <;> simp [entsOf, mset]
      · simp only [hkk, if_false]
        have := ih (i + 1)
        cases hf : absFind k m (i + 1) with
        | none => rw [hf] at this; simp only [] at this ⊢; simp [mset, hkk, this]
        | some y =>
          obtain ⟨j, u⟩ := y
          rw [hf] at this
          simp only [] at this ⊢
          obtain ⟨h1, ⟨x, hx, hxk⟩, h2⟩ := this
          refine ⟨by omega, ⟨x, ?_, hxk⟩, ?_⟩
          · rw [show j - i = (j - (i + 1)) + 1 by omega]; simpa using hx
          · apply Array.ext_getElem?
            intro l
            rw [Array.getElem?_modify]
            have h2' := congrArg (fun a : Array MapEntry => a[l - 1]?) h2
            simp only [Array.getElem?_modify] at h2'
            cases l with
            | zero => simp [entsOf, mset, hkk, show ¬ j - i = 0 by omega]
            | succ l =>
              simp only [Nat.add_sub_cancel] at h2'
              have e1 : (entsOf enc (mset ((k', v', b') :: m) k v c))[l + 1]? = (entsOf enc (mset m k v c))[l]? := by simp [entsOf, mset, hkk]
              have e2 : (entsOf enc ((k', v', b') :: m))[l + 1]? = (entsOf enc m)[l]? := by simp [entsOf]
              rw [e1, e2, h2', show j - i = (j - (i + 1)) + 1 by omega]
              simp only [Nat.add_right_cancel_iff]
  have hk0 := key m 0
  cases hf : absFind k m 0 with
  | none =>
    rw [hf] at hg hk0
    simp only [Option.map_none] at hg
    simp only [] at hk0
    rw [run_setObj h (by simp)]
    have : mclock m k c = c + 1 := by unfold mclock; rw [← hg]; simp
    rw [this, hk0]
    congr 3
    simp [entsOf]
  | some x =>
    obtain ⟨i, u⟩ := x
    rw [hf] at hg hk0
    simp only [Option.map_some] at hg
    simp only [] at hk0
    obtain ⟨_, ⟨x, hx, hxk⟩, h2⟩ := hk0
    simp only [Nat.sub_zero] at hx h2
    have hold : (((entsOf enc m)[i]?).map (·.key)).getD (enc k) = enc k := by simp [entsOf, hx, hxk]
    simp only [hold, Instr.keyThatStays, L.same k hk, if_true, Sem.run_bind, Sem.run_pure, Result.andThen_ok]
    rw [run_setObj h (by simp)]
    have : mclock m k c = c := by unfold mclock; rw [← hg]; simp
    rw [this, h2]
theorem r_mapUpdate {w : World} {b c : Nat} {m : Ents κ} (h : MapAt w b enc m c) (k : κ) (hk : ok k) (hm : ∀ x ∈ m, ok x.1) (v : Value) (K : Unit → World → Prop) :
    Run P (Instr.mapUpdate M (.map (some b)) (enc k) v) w K = K () (put w b (.map (entsOf enc (mset m k v c)) (mclock m k c))) := Run_eq (run_mapUpdate L hu h k hk hm v) K
theorem run_delete {w : World} {b c : Nat} {m : Ents κ} (h : MapAt w b enc m c) (k : κ) (hk : ok k) (hm : ∀ x ∈ m, ok x.1) (X R : Nat) :
    (Builtin.delete_ #[M, X] R #[.map (some b), enc k]).run P w = .ok (.tuple #[]) (put w b (.map (entsOf enc (mdel m k)) c)) := by
  unfold Builtin.delete_
  simp only [List.getElem?_toArray, List.getElem?_cons_zero, List.getElem?_cons_succ]
  rw [Sem.run_bind, hu, Result.andThen_ok]
  simp only [Sem.run_bind, run_getObj (P := P) h (by simp), Result.andThen_ok, L.chk k hk, run_findKey L m k hk hm]
  have key : ∀ (m : Ents κ) (i : Nat), match absFind k m i with
      | none => mdel m k = m
      | some (j, _) => i ≤ j ∧ entsOf enc (mdel m k) = (entsOf enc m).eraseIdxIfInBounds (j - i) := by
    intro m
    induction m with
    | nil => intro i; rfl
    | cons x m ih =>
      obtain ⟨k', v', b'⟩ := x
      intro i
      unfold absFind
      by_cases hkk : k = k'
      · subst hkk
        simp [mdel, entsOf]
      · simp only [hkk, if_false]
        have := ih (i + 1)
        cases hf : absFind k m (i + 1) with
        | none => rw [hf] at this; simp only [] at this ⊢; simp [mdel, hkk, this]
        | some y =>
          obtain ⟨j, u⟩ := y
          rw [hf] at this
          simp only [] at this ⊢
          obtain ⟨h1, h2⟩ := this
          refine ⟨by omega, ?_⟩
          rw [show j - i = (j - (i + 1)) + 1 by omega]
          have e1 : entsOf enc (mdel ((k', v', b') :: m) k) = #[{ key := enc k', val := v', born := b' }] ++ entsOf enc (mdel m k) := by simp [entsOf, mdel, hkk]
          rw [e1, h2]
          simp [entsOf]
  have hk0 := key m 0
  cases hf : absFind k m 0 with
  | none =>
    rw [hf] at hk0
    simp only [] at hk0
    rw [hk0, Sem.run_bind, run_setObj h (by simp), Result.andThen_ok, Sem.run_pure]
  | some x =>
    obtain ⟨i, u⟩ := x
    rw [hf] at hk0
    simp only [Nat.sub_zero] at hk0
    rw [hk0.2]
    simp only []
    rw [Sem.run_bind, run_setObj h (by simp), Result.andThen_ok, Sem.run_pure]
theorem r_delete {w : World} {b c : Nat} {m : Ents κ} (h : MapAt w b enc m c) (k : κ) (hk : ok k) (hm : ∀ x ∈ m, ok x.1) (X R : Nat) (K : Value → World → Prop) :
    Run P (Builtin.delete_ #[M, X] R #[.map (some b), enc k]) w K = K (.tuple #[]) (put w b (.map (entsOf enc (mdel m k)) c)) := Run_eq (run_delete L hu h k hk hm X R) K
end
section
variable {M e : Nat} (hu : ∀ w, (underlying M).run P w = .ok (.map T e) w)
include hu
omit [DecidableEq κ]
theorem q_lenMap {w : World} {b c : Nat} {m : Ents κ} (h : MapAt w b enc m c) (R : Nat) (K : Value → Prop) : QRun P (Builtin.len_ #[M] R #[.map (some b)]) w K = K (i64 m.length) := QRun_eq (by
  unfold Builtin.len_
  simp only [List.getElem?_toArray, List.getElem?_cons_zero]
  rw [Sem.run_bind, hu, Result.andThen_ok]
  simp only [Sem.run_bind, run_getObj (P := P) h (by simp), Result.andThen_ok, Sem.run_pure]
  simp [entsOf, goInt]) K
theorem r_rangeMap {w : World} {b c : Nat} {m : Ents κ} (h : MapAt w b enc m c) (K : Value → World → Prop) :
    Run P (Instr.range M (.map (some b))) w K = K (ptr (sz w) 0) (w.alloc (.mapIter (some b) c #[] c)) := Run_eq (by
  unfold Instr.range
  simp only [Sem.run_bind, hu, Result.andThen_ok, run_getObj (P := P) h (by simp), Sem.run_pure]
  rfl) K
end
/-- What an iterator has still to come to. -/
def mleft (m : Ents κ) (seen : Array Nat) : Ents κ := m.filter fun x => !seen.contains x.2.2
/-- A step of a range over a map into which nothing is put meanwhile: it is over where nothing is left; else any that is left. -/
theorem r_nextMap {w : World} {it b c : Nat} {m : Ents κ} {seen : Array Nat} (h : MapAt w b enc m c) (hit : Hp w it = some (.mapIter (some b) c seen c)) (hb : ∀ x ∈ m, x.2.2 < c) (ty : Nat) {K : Value → World → Prop}
    (h0 : mleft m seen = [] → K (.tuple #[.bool false]) w)
    (h1 : ∀ x ∈ mleft m seen, ∀ w', w' = w ∨ w' = w.drew → K (.tuple #[.bool true, enc x.1, x.2.1]) (put w' it (.mapIter (some b) c (seen.push x.2.2) c))) :
    Run P (Instr.next (ptr it 0) false ty) w K := by
  have hes : ∀ p : MapEntry → Bool, (entsOf enc m).filter p = entsOf enc (m.filter fun x => p { key := enc x.1, val := x.2.1, born := x.2.2 }) := by
    intro p
    unfold entsOf
    rw [List.filter_toArray, List.filter_map]
    rfl
  have hg1 : (getObj it).run P w = .ok (.mapIter (some b) c seen c) w := run_getObj hit (by simp)
  have hg2 : (getObj b).run P w = .ok (.map (entsOf enc m) c) w := run_getObj h (by simp)
  have hstop : (!seen.isEmpty && !(entsOf enc m).isEmpty && (entsOf enc m).all fun e => decide (e.born ≥ c)) = false := by
    cases hm : m with
    | nil => simp [entsOf]
    | cons x m' =>
      have := hb x (by rw [hm]; simp)
      have hn : ((entsOf enc (x :: m')).all fun e => decide (e.born ≥ c)) = false := by
        simp only [entsOf, List.map_cons, List.all_toArray, List.all_cons, ge_iff_le, Nat.not_le.2 this, decide_false, Bool.false_and]
      rw [hn]; simp
  have hleft : (entsOf enc m).filter (fun e => !seen.contains e.born) = entsOf enc (mleft m seen) := hes _
  have hold : (entsOf enc (mleft m seen)).filter (fun e => decide (e.born < c)) = entsOf enc (mleft m seen) := by
    have : (mleft m seen).filter (fun x => decide (x.2.2 < c)) = mleft m seen := List.filter_eq_self.2 fun x hx => by
      have := hb x (List.mem_filter.1 hx).1
      simpa using this
    unfold entsOf
    rw [List.filter_toArray, List.filter_map]
    congr 2
  have hnew : (entsOf enc (mleft m seen)).filter (fun e => decide (e.born ≥ c)) = #[] := by
    have : (mleft m seen).filter (fun x => decide (x.2.2 ≥ c)) = [] := List.filter_eq_nil_iff.2 fun x hx => by
      have := hb x (List.mem_filter.1 hx).1
      simp; omega
    unfold entsOf
    rw [List.filter_toArray, List.filter_map]
    have e : (List.filter ((fun e : MapEntry => decide (e.born ≥ c)) ∘ fun x : κ × Value × Nat => ({ key := enc x.1, val := x.2.1, born := x.2.2 } : MapEntry)) (mleft m seen)) = [] := this
    rw [e]; rfl
  have hrun : ∀ (r : Result Value), (Instr.next (ptr it 0) false ty).run P w = r → (match r with | .ok v w' => K v w' | .halt _ _ => False) → Run P (Instr.next (ptr it 0) false ty) w K := by
    intro r hr hk; unfold Run; rw [hr]; cases r <;> exact hk
  refine hrun _ rfl ?_
  unfold Instr.next
  simp only [Sem.run_bind, hg1, Result.andThen_ok, hg2, hstop, Bool.false_eq_true, if_false, hleft, hold, hnew, Array.append_empty]
  cases hl : mleft m seen with
  | nil =>
    have e1 : ((if (entsOf enc ([] : Ents κ)).isEmpty = true then #[none] else #[]) ++ (entsOf enc ([] : Ents κ)).map some : Array (Option MapEntry)) = #[none] := by simp [entsOf]
    simp only [e1]
    have e2 : (choose (.mapNext (#[none] : Array (Option MapEntry)).size)).run P w = .ok 0 w := by simp [choose, Sem.run, Question.forced]
    simp only [Sem.run_bind, e2, Result.andThen_ok]
    exact h0 hl
  | cons x l =>
    have e1 : ((if (entsOf enc (x :: l)).isEmpty = true then #[none] else #[]) ++ (entsOf enc (x :: l)).map some : Array (Option MapEntry)) = ((x :: l).map fun x => some ({ key := enc x.1, val := x.2.1, born := x.2.2 } : MapEntry)).toArray := by
      simp [entsOf]
    simp only [e1]
    have hsz : (((x :: l).map fun x => some ({ key := enc x.1, val := x.2.1, born := x.2.2 } : MapEntry)).toArray).size = l.length + 1 := by simp
    obtain ⟨j, w', hj, hw', hch⟩ : ∃ j w', j < l.length + 1 ∧ (w' = w ∨ w' = w.drew) ∧ (choose (.mapNext (((x :: l).map fun x => some ({ key := enc x.1, val := x.2.1, born := x.2.2 } : MapEntry)).toArray).size)).run P w = .ok j w' := by
      rw [hsz]
      by_cases hn : l.length + 1 ≤ 1
      · exact ⟨0, w, by omega, .inl rfl, by simp only [choose, Sem.run, Question.forced, hn, decide_true, if_true]⟩
      · exact ⟨_, w.drew, Nat.mod_lt _ (by omega), .inr rfl, by simp only [choose, Sem.run, Question.forced, hn, decide_false, if_false, Question.cut, Bool.false_eq_true]; rfl⟩
    simp only [Sem.run_bind, hch, Result.andThen_ok]
    obtain ⟨y, hy⟩ : ∃ y, (x :: l)[j]? = some y := ⟨_, List.getElem?_eq_getElem (by simpa using hj)⟩
    have hget : (((x :: l).map fun x => some ({ key := enc x.1, val := x.2.1, born := x.2.2 } : MapEntry)).toArray)[j]? = some (some { key := enc y.1, val := y.2.1, born := y.2.2 }) := by
      rw [List.getElem?_toArray, List.getElem?_map, hy]; rfl
    simp only [hget]
    have hit' : Hp w' it = some (.mapIter (some b) c seen c) := by rcases hw' with rfl | rfl <;> exact hit
    rw [Sem.run_bind, run_setObj hit' (by simp), Result.andThen_ok, Sem.run_pure]
    exact h1 y (by rw [hl]; exact List.mem_of_getElem? hy) w' hw'
end
end Go.Lf
