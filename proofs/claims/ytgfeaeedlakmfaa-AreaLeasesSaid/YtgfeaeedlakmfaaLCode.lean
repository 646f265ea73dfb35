/-
  The propositions of regions, and that a region comes to what its proposition says, in whatever order its operations are carried out.
-/
import Derived.Test.YtgfeaeedlakmfaaLBase
set_option linter.unusedVariables false
set_option linter.unusedSimpArgs false
set_option linter.unusedSectionVars false
namespace Go.Lf

inductive Cls where
  | p | q | e
  deriving DecidableEq
structure RH where
  cls : List Cls
  anc : List Nat

/-- The value by which an operation is guarded. -/
def gx (n : Nat) (ops : List Oper) (E : Env) (j : Nat) : Value :=
  match (ops[j]?).bind (·.dst) with
  | some d => look n E d
  | none => undef
def NilCk (v : Value) (K : Value → Prop) : Prop :=
  match v with
  | .pointer (some a) => K (.pointer (some a))
  | .func (.func f) first captured => K (.func (.func f) first captured)
  | _ => False
def PQ (c : Cls) (P : Program) (s : Sem Value) (w : World) (K : Value → Prop) : Prop :=
  match c with
  | .p => PRun P s K
  | _ => QRun P s w K
def quietF (P : Program) (ρ : Operand → Value) (o : Oper) (c : Cls) (w : World) (K : Value → Prop) : Prop :=
  match o.op with
  | .move x => K (ρ x)
  | .assign x => K (ρ x)
  | .pick b x y => Pick (ρ b) (ρ x) (ρ y) K
  | .nilCheck x => NilCk (ρ x) K
  | _ => PQ c P (semQ ρ o) w K
def quietG (P : Program) (n : Nat) (ops : List Oper) (E : Env) (o : Oper) (c : Cls) (w : World) (K : Value → Prop) : Prop :=
  match o.guard with
  | none => quietF P (ev n E) o c w K
  | some (j, want) => Gd (gx n ops E j) want (fun k => quietF P (ev n E) o c w k) K
def predG (P : Program) (n : Nat) (ops : List Oper) (E : Env) (o : Oper) (v : Value) (w : World) : Prop :=
  match o.guard with
  | none => QRun P (semQ (ev n E) o) w fun u => u = v
  | some (j, want) => gx n ops E j = .bool want → QRun P (semQ (ev n E) o) w fun u => u = v
theorem QRun.at {P : Program} {s : Sem Value} {w : World} {v : Value} (h : QRun P s w fun u => u = v) : s.run P w = .ok v w := by
  obtain ⟨u, h, rfl⟩ := h; exact h
def effF (P : Program) (ρ : Operand → Value) (o : Oper) (w : World) (K : Value → World → Prop) : Prop :=
  match o.op with
  | .store t a x => Run P (Instr.storeAt t (ρ a) (ρ x)) w fun _ w' => K undef w'
  | .mapUpdate t m k x => Run P (Instr.mapUpdate t (ρ m) (ρ k) (ρ x)) w fun _ w' => K undef w'
  | .insert t m k x => Run P (Instr.mapUpdate t (ρ m) (ρ k) (ρ x)) w fun _ w' => K undef w'
  | .entryStore t m s x => Run P (Instr.entryStore t (ρ m) (ρ s) (ρ x)) w fun _ w' => K undef w'
  | .call c =>
    match c.callee with
    | .value (.func g) => CallF P g (argsOf ρ c.args) w K
    | .value f => CallV P (ρ f) (argsOf ρ c.args) w K
    | _ => Run P (semQ ρ o) w K
  | _ => Run P (semQ ρ o) w K
def effG (P : Program) (n : Nat) (ops : List Oper) (E : Env) (o : Oper) (w : World) (K : Value → World → Prop) : Prop :=
  match o.guard with
  | none => effF P (ev n E) o w K
  | some (j, want) => GdE (gx n ops E j) want (fun k => effF P (ev n E) o w k) w K

/-- A region whose operations stand in the text's order. -/
def seqF (P : Program) (n : Nat) (ops : List Oper) (K : Env → World → Prop) : List Oper → List Cls → Env → World → Prop
  | [], _, E, w => K E w
  | o :: l, c :: cs, E, w =>
    match c with
    | .e => effG P n ops E o w fun v w' => seqF P n ops K l cs (E.put o.dst v) w'
    | c => quietG P n ops E o c w fun v => seqF P n ops K l cs (E.put o.dst v) w
  | _ :: _, [], _, _ => False

def QOk (P : Program) (n : Nat) (ops : List Oper) (E : Env) (o : Oper) (v : Value) (w : World) : Prop :=
  match o.guard with
  | none => (semQ (ev n E) o).run P w = .ok v w
  | some (j, want) => (gx n ops E j = .bool want → (semQ (ev n E) o).run P w = .ok v w) ∧ (gx n ops E j ≠ .bool want → v = undef)

theorem quietF_ok {P : Program} {ρ : Operand → Value} {o : Oper} {c : Cls} {w : World} {K : Value → Prop} (h : quietF P ρ o c w K) :
    ∃ v, ((semQ ρ o).run P w = .ok v w ∧ (c = .p → ∀ w', (semQ ρ o).run P w' = .ok v w')) ∧ K v := by
  unfold quietF at h
  have key : ∀ (s : Sem Value), semQ ρ o = s → PQ c P s w K →
      ∃ v, ((semQ ρ o).run P w = .ok v w ∧ (c = .p → ∀ w', (semQ ρ o).run P w' = .ok v w')) ∧ K v := by
    rintro s rfl h
    cases c
    · obtain ⟨v, h1, h2⟩ := h; exact ⟨v, ⟨h1 w, fun _ => h1⟩, h2⟩
    · obtain ⟨v, h1, h2⟩ := h; exact ⟨v, ⟨h1, fun h => by cases h⟩, h2⟩
    · obtain ⟨v, h1, h2⟩ := h; exact ⟨v, ⟨h1, fun h => by cases h⟩, h2⟩
  cases ho : o.op <;> rw [ho] at h <;> simp only [] at h
  case move x => exact ⟨_, ⟨by simp only [semQ, ho]; rfl, fun _ w' => by simp only [semQ, ho]; rfl⟩, h⟩
  case assign x => exact ⟨_, ⟨by simp only [semQ, ho]; rfl, fun _ w' => by simp only [semQ, ho]; rfl⟩, h⟩
  case pick b x y =>
    obtain ⟨t, hb, hk⟩ := h
    have e : ∀ w', (semQ ρ o).run P w' = .ok (bif t then ρ x else ρ y) w' := fun w' => by simp only [semQ, ho, hb]; cases t <;> rfl
    exact ⟨_, ⟨e w, fun _ => e⟩, hk⟩
  case nilCheck x =>
    have e : ∀ v, K v → (∀ w', (nilS (ρ x)).run P w' = .ok v w') → ∃ v, ((semQ ρ o).run P w = .ok v w ∧ (c = .p → ∀ w', (semQ ρ o).run P w' = .ok v w')) ∧ K v :=
      fun v hv h => ⟨v, ⟨by simp only [semQ, ho]; exact h w, fun _ w' => by simp only [semQ, ho]; exact h w'⟩, hv⟩
    unfold NilCk at h
    split at h
    · rename_i a hx; exact e _ h fun w' => by rw [hx]; rfl
    · rename_i f first captured hx; exact e _ h fun w' => by rw [hx]; rfl
    · exact h.elim
  all_goals exact key _ rfl h

theorem quietG_ok {P : Program} {n : Nat} {ops : List Oper} {E : Env} {o : Oper} {c : Cls} {w : World} {K : Value → Prop} (h : quietG P n ops E o c w K) :
    ∃ v, (QOk P n ops E o v w ∧ (c = .p → ∀ w', QOk P n ops E o v w')) ∧ K v := by
  unfold quietG at h
  unfold QOk
  cases hg : o.guard with
  | none => rw [hg] at h; exact quietF_ok h
  | some g =>
    obtain ⟨j, want⟩ := g
    rw [hg] at h
    simp only [] at h ⊢
    by_cases hx : gx n ops E j = .bool want
    · obtain ⟨v, ⟨h1, h2⟩, h3⟩ := quietF_ok (h.1 hx)
      exact ⟨v, ⟨⟨fun _ => h1, fun hn => absurd hx hn⟩, fun hp w' => ⟨fun _ => h2 hp w', fun hn => absurd hx hn⟩⟩, h3⟩
    · exact ⟨undef, ⟨⟨fun hn => absurd hn hx, fun _ => rfl⟩, fun _ w' => ⟨fun hn => absurd hn hx, fun _ => rfl⟩⟩, h.2 hx⟩

theorem effF_ok {P : Program} {r : Option Nat} {n : Nat} {E : Env} {o : Oper} {w : World} {K : Value → World → Prop} {Q : Exit → Act → World → Prop} (h : effF P (ev n E) o w K)
    (a : Act) (he : execOp a.eval o = execOp (ev n E) o) : o.wpIn (Gr r) 0 P a w (fun a' w' => ∃ v, a' = a.put o.dst v ∧ K v w') Q := by
  unfold Oper.wpIn
  refine ⟨fun _ _ => trivial, ?_⟩
  by_cases hdf : ∃ c, o.op = .defer c
  · obtain ⟨c, hc⟩ := hdf
    unfold effF at h
    rw [hc] at h
    simp only [] at h
    unfold semQ at h
    rw [hc] at h
    exact h.elim
  rw [Oper.semAt_eq _ _ _ fun c hc => hdf ⟨c, hc⟩, he]
  have run1 : Run P (semQ (ev n E) o) w K → o.uponIn (Gr r) 0 P a (fun a' w' => ∃ v, a' = a.put o.dst v ∧ K v w') Q ((execOp (ev n E) o).run P w) := by
    intro h
    unfold Run at h
    split at h
    · rename_i v w' hr; rw [semQ_exec hr, Oper.uponIn_value]; exact ⟨v, rfl, h⟩
    · exact h.elim
  have unit1 : ∀ (s : Sem Unit), Run P s w (fun _ w' => K undef w') → execOp (ev n E) o = (do s; pure .skip) →
      o.uponIn (Gr r) 0 P a (fun a' w' => ∃ v, a' = a.put o.dst v ∧ K v w') Q ((execOp (ev n E) o).run P w) := by
    intro s h hs
    rw [hs]
    show o.uponIn (Gr r) 0 P a _ Q ((s >>= fun _ => pure Next.skip).run P w)
    rw [Sem.run_bind]
    unfold Run at h
    split at h
    · rename_i v w' hr; rw [hr, Result.andThen_ok, Sem.run_pure, Oper.uponIn_skip]; exact ⟨undef, rfl, h⟩
    · exact h.elim
  have call1 : ∀ g args, CallF P g args w K → execOp (ev n E) o = callFunc g args →
      o.uponIn (Gr r) 0 P a (fun a' w' => ∃ v, a' = a.put o.dst v ∧ K v w') Q ((execOp (ev n E) o).run P w) := by
    intro g args h hs
    rw [hs]
    unfold CallF at h
    split at h
    · rename_i f as w' hr
      rw [hr, Oper.uponIn_enter]
      refine ⟨fun h => (by cases h), callsIn_wide.2 (h.mono fun e w'' hk => ?_)⟩
      cases e with
      | returned v => exact ⟨v, rfl, hk⟩
      | panicked _ => exact hk.elim
      | outgrown => exact hk.elim
    · rename_i v w' hr; rw [hr, Oper.uponIn_value]; exact ⟨v, rfl, h⟩
    · rename_i r as w' hr; rw [hr, Oper.uponIn_row]; exact ⟨fun h => (by cases h), fun c cs _ => by obtain ⟨v, w2, hk, hs⟩ := h c cs; exact ⟨v, w2, ⟨v, rfl, hk⟩, stepsIn_wide.2 hs⟩⟩
    · exact h.elim
  unfold effF at h
  cases ho : o.op <;> rw [ho] at h <;> simp only [] at h
  case store => exact unit1 _ h (by unfold execOp; rw [ho])
  case mapUpdate => exact unit1 _ h (by unfold execOp; rw [ho])
  case insert => exact unit1 _ h (by unfold execOp; rw [ho])
  case entryStore => exact unit1 _ h (by unfold execOp; rw [ho])
  case call c =>
    have callv : ∀ x, c.callee = .value x → CallV P (ev n E x) (argsOf (ev n E) c.args) w K →
        o.uponIn (Gr r) 0 P a (fun a' w' => ∃ v, a' = a.put o.dst v ∧ K v w') Q ((execOp (ev n E) o).run P w) := by
      intro x hc h
      unfold CallV at h
      split at h
      · rename_i g first captured hx
        rw [argsOf_eq] at h
        refine call1 g _ h ?_
        unfold execOp
        rw [ho]
        simp only [resolve, hc, hx, Deferred.ofValue]
        rfl
      · rename_i l first captured hx
        rw [argsOf_eq] at h
        obtain ⟨fn, tmps, assign, body, hr, hR⟩ := h
        have he : execOp (ev n E) o = Instr.yield l (first ++ c.args.map (ev n E)) := by
          unfold execOp
          rw [ho]
          simp only [resolve, hc, hx, Deferred.ofValue]
          rfl
        rw [he, hr, Oper.uponIn_round]
        refine ⟨fun h => (by cases h), RoundIn.mono hR fun e w'' hk => ?_⟩
        cases e with
        | returned v => exact ⟨v, rfl, hk⟩
        | panicked _ => exact hk.elim
        | outgrown => exact hk.elim
      · exact h.elim
    cases hc : c.callee with
    | value x =>
      rw [hc] at h
      cases x with
      | func g =>
        simp only [] at h
        rw [argsOf_eq] at h
        refine call1 g _ h ?_
        unfold execOp
        rw [ho]
        simp only [resolve, hc, ev, Deferred.ofValue]
        show callFunc g (#[] ++ c.args.map (ev n E) ++ #[]) = _
        simp
      | tmp t => exact callv _ hc h
      | const v => exact callv _ hc h
      | global g => exact callv _ hc h
    | builtin b => rw [hc] at h; exact run1 h
    | invoke r nm => rw [hc] at h; exact run1 h
  all_goals exact run1 h

/-- The slots that an operation names. -/
def tmpsOf : List Operand → List Nat
  | [] => []
  | .tmp t :: l => t :: tmpsOf l
  | _ :: l => tmpsOf l
def namesOf (ops : List Oper) (o : Oper) : List Nat :=
  (match o.guard with | some (j, _) => (match (ops[j]?).bind (·.dst) with | some d => [d] | none => []) | none => []) ++ tmpsOf o.op.operands.toList
theorem mem_tmpsOf {t : Nat} {l : List Operand} (h : Operand.tmp t ∈ l) : t ∈ tmpsOf l := by
  induction l with
  | nil => cases h
  | cons o l ih =>
    cases h with
    | head => simp [tmpsOf]
    | tail _ h => cases o <;> simp [tmpsOf, ih h]
def notSelect (o : Oper) : Bool := match o.op with | .select .. => false | _ => true

theorem exec_agree {n : Nat} {M E : Env} {ops : List Oper} {o : Oper} (hs : notSelect o = true) (h : ∀ s ∈ namesOf ops o, M s = E s) : execOp (act n M).eval o = execOp (ev n E) o := by
  rw [act_eval]
  refine execOp_congr o (fun cs b e => by rw [notSelect, e] at hs; cases hs) fun x hx => ?_
  cases x with
  | tmp t =>
    have := h t (List.mem_append_right _ (mem_tmpsOf (by simpa using hx)))
    simp only [ev, look_eq, this]
  | _ => rfl
theorem wanted_act {n : Nat} {M E : Env} {ops : List Oper} {o : Oper} (h : ∀ s ∈ namesOf ops o, M s = E s) :
    Region.wanted o (yielded ops.toArray (act n M).tmps) = true ↔ (match o.guard with | none => True | some (j, want) => gx n ops E j = .bool want) := by
  unfold Region.wanted
  cases hg : o.guard with
  | none => simp
  | some g =>
    obtain ⟨j, want⟩ := g
    simp only [yielded, List.getElem?_toArray]
    unfold gx
    cases hd : (ops[j]?).bind (·.dst) with
    | none => simp [undef]
    | some d =>
      have hm := h d (by unfold namesOf; rw [hg]; simp only []; rw [hd]; simp)
      simp only [Option.bind_some, act_get?, look_eq, hm]
      by_cases hdn : d < n
      · simp only [if_pos hdn]
        cases hv : E d <;> simp
      · simp [if_neg hdn, undef]
theorem wpOp_quiet {P : Program} {r : Option Nat} {n : Nat} {ops : List Oper} {Q : Exit → Act → World → Prop} {i : Nat} {o : Oper} {M E : Env} {v : Value} {w : World} {K : Act → World → Prop}
    (hi : ops[i]? = some o) (hs : notSelect o = true) (hag : ∀ s ∈ namesOf ops o, M s = E s) (hq : QOk P n ops E o v w) (hk : K (act n (M.put o.dst v)) w) :
    wpOpIn (Gr r) 0 P ops.toArray Q i K (act n M) w := by
  unfold wpOpIn
  simp only [List.getElem?_toArray, hi]
  have hw := wanted_act (n := n) hag
  unfold QOk at hq
  split
  · rename_i hwt
    have hwt' := hw.1 hwt
    unfold Oper.wpIn
    refine ⟨fun _ _ => trivial, ?_⟩
    have hrun : (semQ (ev n E) o).run P w = .ok v w := by
      cases hg : o.guard with
      | none => rw [hg] at hq; exact hq
      | some g => obtain ⟨j, want⟩ := g; rw [hg] at hq hwt'; exact hq.1 hwt'
    by_cases hdf : ∃ c, o.op = .defer c
    · obtain ⟨c, hc⟩ := hdf
      unfold semQ at hrun
      rw [hc] at hrun
      cases hrun
    rw [Oper.semAt_eq _ _ _ fun c hc => hdf ⟨c, hc⟩, exec_agree (n := n) hs hag, semQ_exec hrun, Oper.uponIn_value, act_put]
    exact hk
  · rename_i hwt
    cases hg : o.guard with
    | none => exact absurd (hw.2 (by rw [hg]; trivial)) hwt
    | some g =>
      obtain ⟨j, want⟩ := g
      rw [hg] at hq
      have : v = undef := hq.2 fun hx => hwt (hw.2 (by rw [hg]; exact hx))
      subst this
      rw [act_put]; exact ⟨fun _ _ => trivial, hk⟩
theorem wpOp_eff {P : Program} {r : Option Nat} {n : Nat} {ops : List Oper} {Q : Exit → Act → World → Prop} {i : Nat} {o : Oper} {M E : Env} {w : World} {K : Value → World → Prop}
    (hi : ops[i]? = some o) (hs : notSelect o = true) (hag : ∀ s ∈ namesOf ops o, M s = E s) (he : effG P n ops E o w K) :
    wpOpIn (Gr r) 0 P ops.toArray Q i (fun a' w' => ∃ v, a' = act n (M.put o.dst v) ∧ K v w') (act n M) w := by
  unfold wpOpIn
  simp only [List.getElem?_toArray, hi]
  have hw := wanted_act (n := n) hag
  unfold effG at he
  split
  · rename_i hwt
    have hwt' := hw.1 hwt
    have heff : effF P (ev n E) o w K := by
      cases hg : o.guard with
      | none => rw [hg] at he; exact he
      | some g => obtain ⟨j, want⟩ := g; rw [hg] at he hwt'; exact he.1 hwt'
    refine Oper.wpIn_mono (fun a' w' ⟨v, h1, h2⟩ => ⟨v, ?_, h2⟩) (effF_ok heff (act n M) (exec_agree hs hag))
    rw [h1, act_put]
  · rename_i hwt
    cases hg : o.guard with
    | none => exact absurd (hw.2 (by rw [hg]; trivial)) hwt
    | some g =>
      obtain ⟨j, want⟩ := g
      rw [hg] at he
      have := he.2 fun hx => hwt (hw.2 (by rw [hg]; exact hx))
      exact ⟨fun _ _ => trivial, undef, by rw [act_put], this⟩

/-! ### Regions in the text's order -/
theorem seqF_ok {P : Program} {r : Option Nat} {n : Nat} {ops : List Oper} {Q : Exit → Act → World → Prop} {K : Env → World → Prop} {E0 : Env} (hns : ops.all notSelect = true)
    (hK : ∀ E w, (∀ s, (∀ o ∈ ops, o.dst ≠ some s) → E s = E0 s) → K E w → Q .normal (act n E) w) : ∀ (l : List Oper) (cs : List Cls) (k : Nat) (E : Env) (w : World), (∀ j, l[j]? = ops[k + j]?) →
    (∀ s, (∀ o ∈ ops, o.dst ≠ some s) → E s = E0 s) → seqF P n ops K l cs E w →
    wpOpsIn (Gr r) 0 P ops.toArray Q (List.range' k l.length) (act n E) w := by
  intro l
  induction l with
  | nil => intro cs k E w _ hE h; exact hK _ _ hE h
  | cons o l ih =>
    intro cs k E w hl hE h
    have h0 : ops[k]? = some o := by simpa using (hl 0).symm
    have hl' : ∀ j, l[j]? = ops[k + 1 + j]? := fun j => by have := hl (j + 1); simpa [Nat.add_assoc, Nat.add_comm 1 j] using this
    have hs : notSelect o = true := List.all_eq_true.1 hns o (List.mem_of_getElem? h0)
    have hE' : ∀ v s, (∀ o ∈ ops, o.dst ≠ some s) → E.put o.dst v s = E0 s := by
      intro v s hno
      have hne := hno o (List.mem_of_getElem? h0)
      rw [← hE s hno]
      cases hd : o.dst with
      | none => rfl
      | some d =>
        show E.set d v s = E s
        rw [set_apply, if_neg]
        rintro rfl
        exact hne hd
    rw [List.length_cons, List.range'_succ, wpOpsIn_cons]
    cases cs with
    | nil => exact h.elim
    | cons c cs =>
      have quiet : quietG P n ops E o c w (fun v => seqF P n ops K l cs (E.put o.dst v) w) → wpOpIn (Gr r) 0 P ops.toArray Q k (wpOpsIn (Gr r) 0 P ops.toArray Q (List.range' (k + 1) l.length)) (act n E) w := by
        intro h
        obtain ⟨v, ⟨h1, _⟩, h2⟩ := quietG_ok h
        exact wpOp_quiet h0 hs (fun _ _ => rfl) h1 (ih cs _ _ _ hl' (hE' v) h2)
      cases c with
      | e =>
        refine wpOpIn_mono ?_ (wpOp_eff h0 hs (fun _ _ => rfl) h)
        rintro a' w' ⟨v, rfl, h2⟩
        exact ih cs _ _ _ hl' (hE' v) h2
      | p => exact quiet h
      | q => exact quiet h
theorem region_seq {P : Program} {r : Option Nat} {n : Nat} {id : Nat} {ops : List Oper} {Q : Exit → Act → World → Prop} {K : Env → World → Prop} {cs : List Cls} {E : Env} {w : World}
    (hns : ops.all notSelect = true) (hK : ∀ E' w, (∀ s, (∀ o ∈ ops, o.dst ≠ some s) → E' s = E s) → K E' w → Q .normal (act n E') w) (h : seqF P n ops K ops cs E w) :
    (Code.region id ops.toArray false).wpIn (Gr r) 0 P Q (act n E) w :=
  wpIn_region (by
    have := seqF_ok (r := r) hns hK ops cs 0 E w (by simp) (fun _ _ => rfl) h
    simpa [List.range_eq_range'] using this)
end Go.Lf
