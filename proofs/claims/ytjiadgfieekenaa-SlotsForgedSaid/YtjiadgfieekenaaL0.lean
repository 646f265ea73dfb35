/- Parts of the proof: Lf.Base, Lf.Code, Lf.Draw, Lf.Draw2, Lf.Draw3, Lf.Lift, Lf.Mem, Lf.Mem2. -/
import Derived.Calls
import Derived.Orders
import Derived.OrdersIn
import Derived.RangeFuncSeq
import Derived.Tactics
import Derived.KernelRfl
import Derived.Laws.Small
import Derived.Laws.Rows
set_option linter.unusedVariables false
set_option linter.unusedSimpArgs false
set_option linter.unusedSectionVars false
/-
  A Go function's body, told as a plain proposition over values: 'lift'. What is proved here: where the proposition holds, the call comes to what it says ('lift_sound').
-/
namespace Go.Lf

abbrev Env := Nat → Value
def Env.set (E : Env) (d : Nat) (v : Value) : Env := fun i => bif Nat.beq i d then v else E i
def Env.put (E : Env) (dst : Option Nat) (v : Value) : Env := match dst with | some d => E.set d v | none => E
def look (n : Nat) (E : Env) (t : Nat) : Value := bif Nat.blt t n then E t else undef
def ev (n : Nat) (E : Env) : Operand → Value
  | .tmp t => look n E t
  | .const v => v
  | .global g => .pointer (some ⟨g, 0, none⟩)
  | .func f => .func (.func f) #[] #[]
def act (n : Nat) (E : Env) : Act := ⟨Array.ofFn (n := n) fun i => E i, []⟩

theorem look_eq (n : Nat) (E : Env) (t : Nat) : look n E t = if t < n then E t else undef := by
  unfold look
  by_cases h : t < n
  · have : Nat.blt t n = true := by simpa using h
    rw [this, if_pos h]; rfl
  · have : Nat.blt t n = false := by
      cases hb : Nat.blt t n with
      | false => rfl
      | true => exact absurd (by simpa using hb) h
    rw [this, if_neg h]; rfl
theorem act_getD (n : Nat) (E : Env) (t : Nat) : (act n E).tmps.getD t undef = look n E t := by
  rw [look_eq]
  simp only [act]
  by_cases h : t < n <;> simp [h]
theorem act_get? (n : Nat) (E : Env) (t : Nat) : (act n E).tmps[t]? = if t < n then some (E t) else none := by
  simp only [act]
  by_cases h : t < n <;> simp [h]
theorem act_eval (n : Nat) (E : Env) : (act n E).eval = ev n E := by
  funext o
  cases o <;> simp only [Act.eval, ev]
  exact act_getD n E _
theorem set_apply (E : Env) (d : Nat) (v : Value) (i : Nat) : E.set d v i = if i = d then v else E i := by
  unfold Env.set
  by_cases h : i = d
  · subst h; simp
  · have : Nat.beq i d = false := by
      cases hb : Nat.beq i d with
      | false => rfl
      | true => exact absurd (Nat.eq_of_beq_eq_true hb) h
    rw [this, if_neg h]; rfl
theorem act_put (n : Nat) (E : Env) (dst : Option Nat) (v : Value) : (act n E).put dst v = act n (E.put dst v) := by
  cases dst with
  | none => rfl
  | some d =>
    simp only [Act.put, act, Env.put, Act.mk.injEq, and_true]
    apply Array.ext_getElem?
    intro i
    simp only [Array.getElem?_setIfInBounds, Array.size_ofFn, Array.getElem?_ofFn, set_apply]
    by_cases h : d = i
    · subst h; by_cases hd : d < n <;> simp [hd]
    · rw [if_neg h, if_neg fun e => h e.symm]

/-! ### Single steps -/
def Run {α : Type} (P : Program) (s : Sem α) (w : World) (K : α → World → Prop) : Prop :=
  match s.run P w with
  | .ok v w' => K v w'
  | .halt _ _ => False
def PRun (P : Program) (s : Sem Value) (K : Value → Prop) : Prop := ∃ v, (∀ w, s.run P w = .ok v w) ∧ K v
def QRun (P : Program) (s : Sem Value) (w : World) (K : Value → Prop) : Prop := ∃ v, s.run P w = .ok v w ∧ K v
def Pick (c a b : Value) (K : Value → Prop) : Prop := ∃ t, c = .bool t ∧ K (bif t then a else b)
def Gd (x : Value) (want : Bool) (A : (Value → Prop) → Prop) (K : Value → Prop) : Prop := (x = .bool want → A K) ∧ (x ≠ .bool want → K undef)
def GdE (x : Value) (want : Bool) (A : (Value → World → Prop) → Prop) (w : World) (K : Value → World → Prop) : Prop :=
  (x = .bool want → A K) ∧ (x ≠ .bool want → K undef w)
def Branch (c : Value) (A B : Prop) : Prop := ∃ t, c = .bool t ∧ (t = true → A) ∧ (t = false → B)
def retK (K : Value → World → Prop) : Ending → World → Prop
  | .returned v, w => K v w
  | _, _ => False
/-- A call of a function by its number. -/
def CallF (P : Program) (f : FuncId) (args : Array Value) (w : World) (K : Value → World → Prop) : Prop :=
  match (callFunc f args).run P w with
  | .ok (.enter g as) w' => Calls P g as w' (retK K)
  | .ok (.value v) w' => K v w'
  | .ok (.row r as) w' => Rows P r as w' K
  | _ => False
/-- A call of a function value. -/
def CallV (P : Program) (f : Value) (args : Array Value) (w : World) (K : Value → World → Prop) : Prop :=
  match f with
  | .func (.func g) first captured => CallF P g (first ++ args ++ captured) w K
  | .func (.yield l) first captured => YieldAt Fence.wide 0 P l (first ++ args) w (retK K)
  | _ => False
/-- No fence; a frame of a round, or of none. -/
def Gr (r : Option Nat) : Fence := { Fence.wide with round := r }

theorem Calls.ret_mono {P : Program} {f : FuncId} {args : Array Value} {w : World} {K K' : Value → World → Prop} (h : Calls P f args w (retK K))
    (hk : ∀ v w, K v w → K' v w) : Calls P f args w (retK K') :=
  h.mono fun e w he => by cases e <;> first | exact hk _ _ he | exact he
theorem Run.mono {α : Type} {P : Program} {s : Sem α} {w : World} {K K' : α → World → Prop} (h : Run P s w K) (hk : ∀ v w, K v w → K' v w) : Run P s w K' := by
  unfold Run at *
  split at h
  · rename_i e; exact hk _ _ h
  · exact h
theorem CallF.mono {P : Program} {f : FuncId} {args : Array Value} {w : World} {K K' : Value → World → Prop} (h : CallF P f args w K)
    (hk : ∀ v w, K v w → K' v w) : CallF P f args w K' := by
  unfold CallF at *
  split at h
  · exact Calls.ret_mono h hk
  · exact hk _ _ h
  · exact h.mono hk
  · exact h

/-! ### What an operation comes to -/
def argsOf (ρ : Operand → Value) (l : Array Operand) : Array Value := (l.toList.map ρ).toArray
theorem argsOf_eq (ρ : Operand → Value) (l : Array Operand) : argsOf ρ l = l.map ρ := by simp [argsOf, ← Array.toList_map]
def partsOf (ρ : Operand → Value) (l : Array (Nat × Operand)) : Array (Nat × Value) := (l.toList.map fun x => (x.1, ρ x.2)).toArray
theorem partsOf_eq (ρ : Operand → Value) (l : Array (Nat × Operand)) : partsOf ρ l = l.map fun (i, x) => (i, ρ x) := by
  simp [partsOf, ← Array.toList_map]

def nilS : Value → Sem Value
  | .pointer (some a) => pure (.pointer (some a))
  | .func (.func f) first captured => pure (.func (.func f) first captured)
  | .iface t v => pure (.iface t v)
  | _ => stuck "nil"
def eqS (op : BinOp) (t : TypeId) (x y : Operand) (a b : Value) : Sem Value := do eqGuard op t x y a b; binOp op t a b
/-- A quiet operation, as one Sem. -/
def semQ (ρ : Operand → Value) (o : Oper) : Sem Value :=
  match o.op with
  | .move x => pure (ρ x)
  | .assign x => pure (ρ x)
  | .pick c a b => do pure (if ← asBool (ρ c) then ρ a else ρ b)
  | .build t parts => Instr.build t (partsOf ρ parts)
  | .load t a => Instr.loadAt t (ρ a)
  | .nilCheck x => nilS (ρ x)
  | .binOp op t x y _ =>
    match op with
    | .eql => eqS .eql t x y (ρ x) (ρ y)
    | .neq => eqS .neq t x y (ρ x) (ρ y)
    | op => binOp op t (ρ x) (ρ y)
  | .unOp op _ x => Op.unary op (ρ x)
  | .convert src dst x => convert src dst (ρ x)
  | .sliceToArrayPointer arr x => Instr.arrayAt arr (ρ x)
  | .makeInterface t x => Instr.makeInterface t (ρ x)
  | .makeFunc fn first captured => Instr.makeFunc fn (argsOf ρ first) (argsOf ρ captured)
  | .slice t x lo hi mx => Instr.sliceAt t (ρ x) (lo.map ρ) (hi.map ρ) (mx.map ρ)
  | .fieldAddr s x f => Instr.fieldAt s (ρ x) f
  | .field t x f => Instr.field t (ρ x) f
  | .indexAddr t x i => Instr.indexAt t (ρ x) (ρ i)
  | .index t x i => Instr.index t (ρ x) (ρ i)
  | .lookup t x i ok => Instr.lookup t (ρ x) (ρ i) ok
  | .typeAssert x t a ok => Instr.typeAssert (ρ x) t a ok
  | .extract t i => Instr.extract (ρ t) i
  | .entry it => Instr.entry (ρ it)
  | .alloc e => Instr.alloc e true (.tuple #[])
  | .box e x => Instr.box e (ρ x)
  | .buildSlice t len parts => Instr.buildSlice t len (partsOf ρ parts)
  | .makeMap t r => Instr.makeMap t (r.map ρ)
  | .makeSlice t l c => Instr.makeSlice t (ρ l) (ρ c)
  | .mapEntry t m k => Instr.mapEntry t (ρ m) (ρ k)
  | .range t x => Instr.range t (ρ x)
  | .next it s => Instr.next (ρ it) s o.type
  | .call c =>
    match c.callee with
    | .builtin b =>
      match b with
      | .append => Builtin.append_ c.argTypes o.type (argsOf ρ c.args)
      | .cap => Builtin.cap_ c.argTypes o.type (argsOf ρ c.args)
      | .clear => Builtin.clear_ c.argTypes o.type (argsOf ρ c.args)
      | .copy => Builtin.copy_ c.argTypes o.type (argsOf ρ c.args)
      | .delete => Builtin.delete_ c.argTypes o.type (argsOf ρ c.args)
      | .len => Builtin.len_ c.argTypes o.type (argsOf ρ c.args)
      | .max => Builtin.max_ c.argTypes o.type (argsOf ρ c.args)
      | .min => Builtin.min_ c.argTypes o.type (argsOf ρ c.args)
      | _ => stuck ""
    | _ => stuck ""
  | _ => stuck ""

theorem run_map_value (P : Program) (s : Sem Value) (w w' : World) (v : Value) (h : s.run P w = .ok v w') :
    Sem.run P (do pure (Next.value (← s))) w = .ok (.value v) w' := by
  show Sem.run P (s >>= fun x => pure (Next.value x)) w = _
  rw [Sem.run_bind, h]; rfl

/-- eqGuard asks nothing but at '==' and '!='. -/
theorem eqGuard_other (op : BinOp) (t : TypeId) (x y : Operand) (a b : Value) (h1 : op ≠ .eql) (h2 : op ≠ .neq) : eqGuard op t x y a b = pure () := by
  cases op <;> first | rfl | exact absurd rfl h1 | exact absurd rfl h2

theorem semQ_exec {P : Program} {ρ : Operand → Value} {o : Oper} {w w' : World} {v : Value} (h : (semQ ρ o).run P w = .ok v w') :
    (execOp ρ o).run P w = .ok (.value v) w' := by
  unfold semQ at h
  unfold execOp
  cases ho : o.op <;> rw [ho] at h <;> simp only [argsOf_eq, partsOf_eq] at h ⊢
  case move => simp only [pure, Sem.run] at h ⊢; simp only [Result.ok.injEq] at h; obtain ⟨rfl, rfl⟩ := h; rfl
  case assign => simp only [pure, Sem.run] at h ⊢; simp only [Result.ok.injEq] at h; obtain ⟨rfl, rfl⟩ := h; rfl
  case pick c a b =>
    rw [Sem.run_bind] at h ⊢
    cases hb : (asBool (ρ c)).run P w with
    | ok t w1 =>
      rw [hb] at h
      rw [Result.andThen_ok, Sem.run_pure] at h ⊢
      simp only [Result.ok.injEq] at h
      obtain ⟨rfl, rfl⟩ := h; rfl
    | halt _ _ => rw [hb] at h; cases h
  case nilCheck x =>
    cases hx : ρ x <;> rw [hx] at h <;> simp only [nilS] at h ⊢
    case pointer a => cases a <;> simp only [stuck, pure, Sem.run] at h ⊢ <;> first | (simp only [Result.ok.injEq] at h; obtain ⟨rfl, rfl⟩ := h; rfl) | cases h
    case func f _ _ => cases f <;> simp only [stuck, pure, Sem.run] at h ⊢ <;> first | (simp only [Result.ok.injEq] at h; obtain ⟨rfl, rfl⟩ := h; rfl) | cases h
    case iface => simp only [pure, Sem.run] at h ⊢; simp only [Result.ok.injEq] at h; obtain ⟨rfl, rfl⟩ := h; rfl
    all_goals (simp only [stuck, Sem.run] at h; cases h)
  case binOp op t x y _ =>
    refine run_map_value P _ w w' v ?_
    cases op
    case eql => exact h
    case neq => exact h
    all_goals (simp only [] at h; rw [eqGuard_other _ _ _ _ _ _ (by simp) (by simp)]; exact h)
  case call c =>
    split at h
    · rename_i b hb
      split at h
      all_goals first
        | (simp only [stuck, Sem.run] at h; cases h; done)
        | (show Sem.run P (resolve ρ c o.type >>= fun d => invoke d.target d.args) w = _
           simp only [resolve, hb]
           rw [Sem.run_bind, Sem.run_pure, Result.andThen_ok]
           exact run_map_value P _ w w' v h)
    · simp only [stuck, Sem.run] at h; cases h
  all_goals first
    | exact run_map_value P _ w w' v h
    | (simp only [stuck, Sem.run] at h; cases h; done)
end Go.Lf
/-
  The propositions of regions, and that a region comes to what its proposition says, in whatever order its operations are carried out.
-/
namespace Go.Lf

inductive Cls where
  | p | q | e
  deriving DecidableEq
structure RH where
  cls : List Cls
  anc : List Nat

/-- The value by which an operation is guarded. -/
def gx (n : Nat) (ops : List Oper) (E : Env) (j : Nat) : Value :=
  match (ops[j]?).bind (·.dst) with
  | some d => look n E d
  | none => undef
def NilCk (v : Value) (K : Value → Prop) : Prop :=
  match v with
  | .pointer (some a) => K (.pointer (some a))
  | .func (.func f) first captured => K (.func (.func f) first captured)
  | _ => False
def PQ (c : Cls) (P : Program) (s : Sem Value) (w : World) (K : Value → Prop) : Prop :=
  match c with
  | .p => PRun P s K
  | _ => QRun P s w K
def quietF (P : Program) (ρ : Operand → Value) (o : Oper) (c : Cls) (w : World) (K : Value → Prop) : Prop :=
  match o.op with
  | .move x => K (ρ x)
  | .assign x => K (ρ x)
  | .pick b x y => Pick (ρ b) (ρ x) (ρ y) K
  | .nilCheck x => NilCk (ρ x) K
  | _ => PQ c P (semQ ρ o) w K
def quietG (P : Program) (n : Nat) (ops : List Oper) (E : Env) (o : Oper) (c : Cls) (w : World) (K : Value → Prop) : Prop :=
  match o.guard with
  | none => quietF P (ev n E) o c w K
  | some (j, want) => Gd (gx n ops E j) want (fun k => quietF P (ev n E) o c w k) K
def predG (P : Program) (n : Nat) (ops : List Oper) (E : Env) (o : Oper) (v : Value) (w : World) : Prop :=
  match o.guard with
  | none => QRun P (semQ (ev n E) o) w fun u => u = v
  | some (j, want) => gx n ops E j = .bool want → QRun P (semQ (ev n E) o) w fun u => u = v
theorem QRun.at {P : Program} {s : Sem Value} {w : World} {v : Value} (h : QRun P s w fun u => u = v) : s.run P w = .ok v w := by
  obtain ⟨u, h, rfl⟩ := h; exact h
def effF (P : Program) (ρ : Operand → Value) (o : Oper) (w : World) (K : Value → World → Prop) : Prop :=
  match o.op with
  | .store t a x => Run P (Instr.storeAt t (ρ a) (ρ x)) w fun _ w' => K undef w'
  | .mapUpdate t m k x => Run P (Instr.mapUpdate t (ρ m) (ρ k) (ρ x)) w fun _ w' => K undef w'
  | .insert t m k x => Run P (Instr.mapUpdate t (ρ m) (ρ k) (ρ x)) w fun _ w' => K undef w'
  | .entryStore t m s x => Run P (Instr.entryStore t (ρ m) (ρ s) (ρ x)) w fun _ w' => K undef w'
  | .call c =>
    match c.callee with
    | .value (.func g) => CallF P g (argsOf ρ c.args) w K
    | .value f => CallV P (ρ f) (argsOf ρ c.args) w K
    | _ => Run P (semQ ρ o) w K
  | _ => Run P (semQ ρ o) w K
def effG (P : Program) (n : Nat) (ops : List Oper) (E : Env) (o : Oper) (w : World) (K : Value → World → Prop) : Prop :=
  match o.guard with
  | none => effF P (ev n E) o w K
  | some (j, want) => GdE (gx n ops E j) want (fun k => effF P (ev n E) o w k) w K

/-- A region whose operations stand in the text's order. -/
def seqF (P : Program) (n : Nat) (ops : List Oper) (K : Env → World → Prop) : List Oper → List Cls → Env → World → Prop
  | [], _, E, w => K E w
  | o :: l, c :: cs, E, w =>
    match c with
    | .e => effG P n ops E o w fun v w' => seqF P n ops K l cs (E.put o.dst v) w'
    | c => quietG P n ops E o c w fun v => seqF P n ops K l cs (E.put o.dst v) w
  | _ :: _, [], _, _ => False

def QOk (P : Program) (n : Nat) (ops : List Oper) (E : Env) (o : Oper) (v : Value) (w : World) : Prop :=
  match o.guard with
  | none => (semQ (ev n E) o).run P w = .ok v w
  | some (j, want) => (gx n ops E j = .bool want → (semQ (ev n E) o).run P w = .ok v w) ∧ (gx n ops E j ≠ .bool want → v = undef)

theorem quietF_ok {P : Program} {ρ : Operand → Value} {o : Oper} {c : Cls} {w : World} {K : Value → Prop} (h : quietF P ρ o c w K) :
    ∃ v, ((semQ ρ o).run P w = .ok v w ∧ (c = .p → ∀ w', (semQ ρ o).run P w' = .ok v w')) ∧ K v := by
  unfold quietF at h
  have key : ∀ (s : Sem Value), semQ ρ o = s → PQ c P s w K →
      ∃ v, ((semQ ρ o).run P w = .ok v w ∧ (c = .p → ∀ w', (semQ ρ o).run P w' = .ok v w')) ∧ K v := by
    rintro s rfl h
    cases c
    · obtain ⟨v, h1, h2⟩ := h; exact ⟨v, ⟨h1 w, fun _ => h1⟩, h2⟩
    · obtain ⟨v, h1, h2⟩ := h; exact ⟨v, ⟨h1, fun h => by cases h⟩, h2⟩
    · obtain ⟨v, h1, h2⟩ := h; exact ⟨v, ⟨h1, fun h => by cases h⟩, h2⟩
  cases ho : o.op <;> rw [ho] at h <;> simp only [] at h
  case move x => exact ⟨_, ⟨by simp only [semQ, ho]; rfl, fun _ w' => by simp only [semQ, ho]; rfl⟩, h⟩
  case assign x => exact ⟨_, ⟨by simp only [semQ, ho]; rfl, fun _ w' => by simp only [semQ, ho]; rfl⟩, h⟩
  case pick b x y =>
    obtain ⟨t, hb, hk⟩ := h
    have e : ∀ w', (semQ ρ o).run P w' = .ok (bif t then ρ x else ρ y) w' := fun w' => by simp only [semQ, ho, hb]; cases t <;> rfl
    exact ⟨_, ⟨e w, fun _ => e⟩, hk⟩
  case nilCheck x =>
    have e : ∀ v, K v → (∀ w', (nilS (ρ x)).run P w' = .ok v w') → ∃ v, ((semQ ρ o).run P w = .ok v w ∧ (c = .p → ∀ w', (semQ ρ o).run P w' = .ok v w')) ∧ K v :=
      fun v hv h => ⟨v, ⟨by simp only [semQ, ho]; exact h w, fun _ w' => by simp only [semQ, ho]; exact h w'⟩, hv⟩
    unfold NilCk at h
    split at h
    · rename_i a hx; exact e _ h fun w' => by rw [hx]; rfl
    · rename_i f first captured hx; exact e _ h fun w' => by rw [hx]; rfl
    · exact h.elim
  all_goals exact key _ rfl h

theorem quietG_ok {P : Program} {n : Nat} {ops : List Oper} {E : Env} {o : Oper} {c : Cls} {w : World} {K : Value → Prop} (h : quietG P n ops E o c w K) :
    ∃ v, (QOk P n ops E o v w ∧ (c = .p → ∀ w', QOk P n ops E o v w')) ∧ K v := by
  unfold quietG at h
  unfold QOk
  cases hg : o.guard with
  | none => rw [hg] at h; exact quietF_ok h
  | some g =>
    obtain ⟨j, want⟩ := g
    rw [hg] at h
    simp only [] at h ⊢
    by_cases hx : gx n ops E j = .bool want
    · obtain ⟨v, ⟨h1, h2⟩, h3⟩ := quietF_ok (h.1 hx)
      exact ⟨v, ⟨⟨fun _ => h1, fun hn => absurd hx hn⟩, fun hp w' => ⟨fun _ => h2 hp w', fun hn => absurd hx hn⟩⟩, h3⟩
    · exact ⟨undef, ⟨⟨fun hn => absurd hn hx, fun _ => rfl⟩, fun _ w' => ⟨fun hn => absurd hn hx, fun _ => rfl⟩⟩, h.2 hx⟩

theorem effF_ok {P : Program} {r : Option Nat} {n : Nat} {E : Env} {o : Oper} {w : World} {K : Value → World → Prop} {Q : Exit → Act → World → Prop} (h : effF P (ev n E) o w K)
    (a : Act) (he : execOp a.eval o = execOp (ev n E) o) : o.wpIn (Gr r) 0 P a w (fun a' w' => ∃ v, a' = a.put o.dst v ∧ K v w') Q := by
  unfold Oper.wpIn
  refine ⟨fun _ _ => trivial, ?_⟩
  by_cases hdf : ∃ c, o.op = .defer c
  · obtain ⟨c, hc⟩ := hdf
    unfold effF at h
    rw [hc] at h
    simp only [] at h
    unfold semQ at h
    rw [hc] at h
    exact h.elim
  rw [Oper.semAt_eq _ _ _ fun c hc => hdf ⟨c, hc⟩, he]
  have run1 : Run P (semQ (ev n E) o) w K → o.uponIn (Gr r) 0 P a (fun a' w' => ∃ v, a' = a.put o.dst v ∧ K v w') Q ((execOp (ev n E) o).run P w) := by
    intro h
    unfold Run at h
    split at h
    · rename_i v w' hr; rw [semQ_exec hr, Oper.uponIn_value]; exact ⟨v, rfl, h⟩
    · exact h.elim
  have unit1 : ∀ (s : Sem Unit), Run P s w (fun _ w' => K undef w') → execOp (ev n E) o = (do s; pure .skip) →
      o.uponIn (Gr r) 0 P a (fun a' w' => ∃ v, a' = a.put o.dst v ∧ K v w') Q ((execOp (ev n E) o).run P w) := by
    intro s h hs
    rw [hs]
    show o.uponIn (Gr r) 0 P a _ Q ((s >>= fun _ => pure Next.skip).run P w)
    rw [Sem.run_bind]
    unfold Run at h
    split at h
    · rename_i v w' hr; rw [hr, Result.andThen_ok, Sem.run_pure, Oper.uponIn_skip]; exact ⟨undef, rfl, h⟩
    · exact h.elim
  have call1 : ∀ g args, CallF P g args w K → execOp (ev n E) o = callFunc g args →
      o.uponIn (Gr r) 0 P a (fun a' w' => ∃ v, a' = a.put o.dst v ∧ K v w') Q ((execOp (ev n E) o).run P w) := by
    intro g args h hs
    rw [hs]
    unfold CallF at h
    split at h
    · rename_i f as w' hr
      rw [hr, Oper.uponIn_enter]
      refine ⟨fun h => (by cases h), callsIn_wide.2 (h.mono fun e w'' hk => ?_)⟩
      cases e with
      | returned v => exact ⟨v, rfl, hk⟩
      | panicked _ => exact hk.elim
      | outgrown => exact hk.elim
    · rename_i v w' hr; rw [hr, Oper.uponIn_value]; exact ⟨v, rfl, h⟩
    · rename_i r as w' hr; rw [hr, Oper.uponIn_row]; exact ⟨fun h => (by cases h), fun c cs _ => by obtain ⟨v, w2, hk, hs⟩ := h c cs; exact ⟨v, w2, ⟨v, rfl, hk⟩, stepsIn_wide.2 hs⟩⟩
    · exact h.elim
  unfold effF at h
  cases ho : o.op <;> rw [ho] at h <;> simp only [] at h
  case store => exact unit1 _ h (by unfold execOp; rw [ho])
  case mapUpdate => exact unit1 _ h (by unfold execOp; rw [ho])
  case insert => exact unit1 _ h (by unfold execOp; rw [ho])
  case entryStore => exact unit1 _ h (by unfold execOp; rw [ho])
  case call c =>
    have callv : ∀ x, c.callee = .value x → CallV P (ev n E x) (argsOf (ev n E) c.args) w K →
        o.uponIn (Gr r) 0 P a (fun a' w' => ∃ v, a' = a.put o.dst v ∧ K v w') Q ((execOp (ev n E) o).run P w) := by
      intro x hc h
      unfold CallV at h
      split at h
      · rename_i g first captured hx
        rw [argsOf_eq] at h
        refine call1 g _ h ?_
        unfold execOp
        rw [ho]
        simp only [resolve, hc, hx, Deferred.ofValue]
        rfl
      · rename_i l first captured hx
        rw [argsOf_eq] at h
        obtain ⟨fn, tmps, assign, body, hr, hR⟩ := h
        have he : execOp (ev n E) o = Instr.yield l (first ++ c.args.map (ev n E)) := by
          unfold execOp
          rw [ho]
          simp only [resolve, hc, hx, Deferred.ofValue]
          rfl
        rw [he, hr, Oper.uponIn_round]
        refine ⟨fun h => (by cases h), RoundIn.mono hR fun e w'' hk => ?_⟩
        cases e with
        | returned v => exact ⟨v, rfl, hk⟩
        | panicked _ => exact hk.elim
        | outgrown => exact hk.elim
      · exact h.elim
    cases hc : c.callee with
    | value x =>
      rw [hc] at h
      cases x with
      | func g =>
        simp only [] at h
        rw [argsOf_eq] at h
        refine call1 g _ h ?_
        unfold execOp
        rw [ho]
        simp only [resolve, hc, ev, Deferred.ofValue]
        show callFunc g (#[] ++ c.args.map (ev n E) ++ #[]) = _
        simp
      | tmp t => exact callv _ hc h
      | const v => exact callv _ hc h
      | global g => exact callv _ hc h
    | builtin b => rw [hc] at h; exact run1 h
    | invoke r nm => rw [hc] at h; exact run1 h
  all_goals exact run1 h

/-- The slots that an operation names. -/
def tmpsOf : List Operand → List Nat
  | [] => []
  | .tmp t :: l => t :: tmpsOf l
  | _ :: l => tmpsOf l
def namesOf (ops : List Oper) (o : Oper) : List Nat :=
  (match o.guard with | some (j, _) => (match (ops[j]?).bind (·.dst) with | some d => [d] | none => []) | none => []) ++ tmpsOf o.op.operands.toList
theorem mem_tmpsOf {t : Nat} {l : List Operand} (h : Operand.tmp t ∈ l) : t ∈ tmpsOf l := by
  induction l with
  | nil => cases h
  | cons o l ih =>
    cases h with
    | head => simp [tmpsOf]
    | tail _ h => cases o <;> simp [tmpsOf, ih h]
def notSelect (o : Oper) : Bool := match o.op with | .select .. => false | _ => true

theorem exec_agree {n : Nat} {M E : Env} {ops : List Oper} {o : Oper} (hs : notSelect o = true) (h : ∀ s ∈ namesOf ops o, M s = E s) : execOp (act n M).eval o = execOp (ev n E) o := by
  rw [act_eval]
  refine execOp_congr o (fun cs b e => by rw [notSelect, e] at hs; cases hs) fun x hx => ?_
  cases x with
  | tmp t =>
    have := h t (List.mem_append_right _ (mem_tmpsOf (by simpa using hx)))
    simp only [ev, look_eq, this]
  | _ => rfl
theorem wanted_act {n : Nat} {M E : Env} {ops : List Oper} {o : Oper} (h : ∀ s ∈ namesOf ops o, M s = E s) :
    Region.wanted o (yielded ops.toArray (act n M).tmps) = true ↔ (match o.guard with | none => True | some (j, want) => gx n ops E j = .bool want) := by
  unfold Region.wanted
  cases hg : o.guard with
  | none => simp
  | some g =>
    obtain ⟨j, want⟩ := g
    simp only [yielded, List.getElem?_toArray]
    unfold gx
    cases hd : (ops[j]?).bind (·.dst) with
    | none => simp [undef]
    | some d =>
      have hm := h d (by unfold namesOf; rw [hg]; simp only []; rw [hd]; simp)
      simp only [Option.bind_some, act_get?, look_eq, hm]
      by_cases hdn : d < n
      · simp only [if_pos hdn]
        cases hv : E d <;> simp
      · simp [if_neg hdn, undef]
theorem wpOp_quiet {P : Program} {r : Option Nat} {n : Nat} {ops : List Oper} {Q : Exit → Act → World → Prop} {i : Nat} {o : Oper} {M E : Env} {v : Value} {w : World} {K : Act → World → Prop}
    (hi : ops[i]? = some o) (hs : notSelect o = true) (hag : ∀ s ∈ namesOf ops o, M s = E s) (hq : QOk P n ops E o v w) (hk : K (act n (M.put o.dst v)) w) :
    wpOpIn (Gr r) 0 P ops.toArray Q i K (act n M) w := by
  unfold wpOpIn
  simp only [List.getElem?_toArray, hi]
  have hw := wanted_act (n := n) hag
  unfold QOk at hq
  split
  · rename_i hwt
    have hwt' := hw.1 hwt
    unfold Oper.wpIn
    refine ⟨fun _ _ => trivial, ?_⟩
    have hrun : (semQ (ev n E) o).run P w = .ok v w := by
      cases hg : o.guard with
      | none => rw [hg] at hq; exact hq
      | some g => obtain ⟨j, want⟩ := g; rw [hg] at hq hwt'; exact hq.1 hwt'
    by_cases hdf : ∃ c, o.op = .defer c
    · obtain ⟨c, hc⟩ := hdf
      unfold semQ at hrun
      rw [hc] at hrun
      cases hrun
    rw [Oper.semAt_eq _ _ _ fun c hc => hdf ⟨c, hc⟩, exec_agree (n := n) hs hag, semQ_exec hrun, Oper.uponIn_value, act_put]
    exact hk
  · rename_i hwt
    cases hg : o.guard with
    | none => exact absurd (hw.2 (by rw [hg]; trivial)) hwt
    | some g =>
      obtain ⟨j, want⟩ := g
      rw [hg] at hq
      have : v = undef := hq.2 fun hx => hwt (hw.2 (by rw [hg]; exact hx))
      subst this
      rw [act_put]; exact ⟨fun _ _ => trivial, hk⟩
theorem wpOp_eff {P : Program} {r : Option Nat} {n : Nat} {ops : List Oper} {Q : Exit → Act → World → Prop} {i : Nat} {o : Oper} {M E : Env} {w : World} {K : Value → World → Prop}
    (hi : ops[i]? = some o) (hs : notSelect o = true) (hag : ∀ s ∈ namesOf ops o, M s = E s) (he : effG P n ops E o w K) :
    wpOpIn (Gr r) 0 P ops.toArray Q i (fun a' w' => ∃ v, a' = act n (M.put o.dst v) ∧ K v w') (act n M) w := by
  unfold wpOpIn
  simp only [List.getElem?_toArray, hi]
  have hw := wanted_act (n := n) hag
  unfold effG at he
  split
  · rename_i hwt
    have hwt' := hw.1 hwt
    have heff : effF P (ev n E) o w K := by
      cases hg : o.guard with
      | none => rw [hg] at he; exact he
      | some g => obtain ⟨j, want⟩ := g; rw [hg] at he hwt'; exact he.1 hwt'
    refine Oper.wpIn_mono (fun a' w' ⟨v, h1, h2⟩ => ⟨v, ?_, h2⟩) (effF_ok heff (act n M) (exec_agree hs hag))
    rw [h1, act_put]
  · rename_i hwt
    cases hg : o.guard with
    | none => exact absurd (hw.2 (by rw [hg]; trivial)) hwt
    | some g =>
      obtain ⟨j, want⟩ := g
      rw [hg] at he
      have := he.2 fun hx => hwt (hw.2 (by rw [hg]; exact hx))
      exact ⟨fun _ _ => trivial, undef, by rw [act_put], this⟩

/-! ### Regions in the text's order -/
theorem seqF_ok {P : Program} {r : Option Nat} {n : Nat} {ops : List Oper} {Q : Exit → Act → World → Prop} {K : Env → World → Prop} {E0 : Env} (hns : ops.all notSelect = true)
    (hK : ∀ E w, (∀ s, (∀ o ∈ ops, o.dst ≠ some s) → E s = E0 s) → K E w → Q .normal (act n E) w) : ∀ (l : List Oper) (cs : List Cls) (k : Nat) (E : Env) (w : World), (∀ j, l[j]? = ops[k + j]?) →
    (∀ s, (∀ o ∈ ops, o.dst ≠ some s) → E s = E0 s) → seqF P n ops K l cs E w →
    wpOpsIn (Gr r) 0 P ops.toArray Q (List.range' k l.length) (act n E) w := by
  intro l
  induction l with
  | nil => intro cs k E w _ hE h; exact hK _ _ hE h
  | cons o l ih =>
    intro cs k E w hl hE h
    have h0 : ops[k]? = some o := by simpa using (hl 0).symm
    have hl' : ∀ j, l[j]? = ops[k + 1 + j]? := fun j => by have := hl (j + 1); simpa [Nat.add_assoc, Nat.add_comm 1 j] using this
    have hs : notSelect o = true := List.all_eq_true.1 hns o (List.mem_of_getElem? h0)
    have hE' : ∀ v s, (∀ o ∈ ops, o.dst ≠ some s) → E.put o.dst v s = E0 s := by
      intro v s hno
      have hne := hno o (List.mem_of_getElem? h0)
      rw [← hE s hno]
      cases hd : o.dst with
      | none => rfl
      | some d =>
        show E.set d v s = E s
        rw [set_apply, if_neg]
        rintro rfl
        exact hne hd
    rw [List.length_cons, List.range'_succ, wpOpsIn_cons]
    cases cs with
    | nil => exact h.elim
    | cons c cs =>
      have quiet : quietG P n ops E o c w (fun v => seqF P n ops K l cs (E.put o.dst v) w) → wpOpIn (Gr r) 0 P ops.toArray Q k (wpOpsIn (Gr r) 0 P ops.toArray Q (List.range' (k + 1) l.length)) (act n E) w := by
        intro h
        obtain ⟨v, ⟨h1, _⟩, h2⟩ := quietG_ok h
        exact wpOp_quiet h0 hs (fun _ _ => rfl) h1 (ih cs _ _ _ hl' (hE' v) h2)
      cases c with
      | e =>
        refine wpOpIn_mono ?_ (wpOp_eff h0 hs (fun _ _ => rfl) h)
        rintro a' w' ⟨v, rfl, h2⟩
        exact ih cs _ _ _ hl' (hE' v) h2
      | p => exact quiet h
      | q => exact quiet h
theorem region_seq {P : Program} {r : Option Nat} {n : Nat} {id : Nat} {ops : List Oper} {Q : Exit → Act → World → Prop} {K : Env → World → Prop} {cs : List Cls} {E : Env} {w : World}
    (hns : ops.all notSelect = true) (hK : ∀ E' w, (∀ s, (∀ o ∈ ops, o.dst ≠ some s) → E' s = E s) → K E' w → Q .normal (act n E') w) (h : seqF P n ops K ops cs E w) :
    (Code.region id ops.toArray false).wpIn (Gr r) 0 P Q (act n E) w :=
  wpIn_region (by
    have := seqF_ok (r := r) hns hK ops cs 0 E w (by simp) (fun _ _ => rfl) h
    simpa [List.range_eq_range'] using this)
end Go.Lf
/-
  A region that draws its order: quiet operations are told as soon as they may run; of those that act each that may be next; a read that may still come behind one that acts must give the same there.
-/
namespace Go.Lf

def sub (a d : Nat) : Bool := Nat.beq (Nat.land d a) a
def findQ (done : Nat) : List Cls → List Nat → Nat → Option Nat
  | c :: cs, a :: as, i =>
    match c with
    | .e => findQ done cs as (i + 1)
    | _ => bif !Nat.testBit done i && sub a done then some i else findQ done cs as (i + 1)
  | _, _, _ => none
def findE (done : Nat) : List Cls → List Nat → Nat → List Nat
  | c :: cs, a :: as, i =>
    match c with
    | .e => bif !Nat.testBit done i && sub a done then i :: findE done cs as (i + 1) else findE done cs as (i + 1)
    | _ => findE done cs as (i + 1)
  | _, _, _ => []
def rechk (ea : Nat) : List (Nat × (World → Prop)) → World → Prop → Prop
  | [], _, X => X
  | (i, p) :: r, w, X => bif Nat.testBit ea i then rechk ea r w X else p w ∧ rechk ea r w X
def andAll : List Nat → (Nat → Prop) → Prop
  | [], _ => True
  | [i], f => f i
  | i :: l, f => f i ∧ andAll l f
def drawF (P : Program) (n : Nat) (ops : List Oper) (h : RH) (K : Env → World → Prop) : Nat → Nat → Nat → List (Nat × (World → Prop)) → Env → World → Prop
  | 0, _, _, _, _, _ => False
  | fuel + 1, done, ea, pend, E, w =>
    match findQ done h.cls h.anc 0 with
    | some i =>
      match ops[i]? with
      | none => False
      | some o =>
        match (h.cls[i]?).getD .q with
        | .p => quietG P n ops E o .p w fun v => drawF P n ops h K fuel (Nat.lor done (2 ^ i)) ea pend (E.put o.dst v) w
        | _ => quietG P n ops E o .q w fun v => drawF P n ops h K fuel (Nat.lor done (2 ^ i)) ea ((i, predG P n ops E o v) :: pend) (E.put o.dst v) w
    | none =>
      match findE done h.cls h.anc 0 with
      | [] => K E w
      | l => andAll l fun i =>
        match ops[i]? with
        | none => False
        | some o => effG P n ops E o w fun v w' =>
            rechk (Nat.lor ea ((h.anc[i]?).getD 0)) pend w' (drawF P n ops h K fuel (Nat.lor done (2 ^ i)) (Nat.lor ea ((h.anc[i]?).getD 0)) pend (E.put o.dst v) w')

theorem andAll_mem {l : List Nat} {f : Nat → Prop} (h : andAll l f) {i : Nat} (hi : i ∈ l) : f i := by
  induction l with
  | nil => cases hi
  | cons x l ih =>
    cases l with
    | nil => simp at hi; subst hi; exact h
    | cons y l =>
      cases hi with
      | head => exact h.1
      | tail _ hi => exact ih h.2 hi
theorem rechk_out {ea : Nat} {pend : List (Nat × (World → Prop))} {w : World} {X : Prop} (h : rechk ea pend w X) :
    X ∧ ∀ i p, (i, p) ∈ pend → ea.testBit i = false → p w := by
  induction pend with
  | nil => exact ⟨h, fun _ _ h => by cases h⟩
  | cons x r ih =>
    obtain ⟨j, q⟩ := x
    unfold rechk at h
    cases hb : ea.testBit j with
    | true =>
      rw [hb] at h
      obtain ⟨h1, h2⟩ := ih h
      refine ⟨h1, fun i p hm hi => ?_⟩
      cases hm with
      | head => rw [hb] at hi; cases hi
      | tail _ hm => exact h2 i p hm hi
    | false =>
      rw [hb] at h
      obtain ⟨hq, h⟩ := h
      obtain ⟨h1, h2⟩ := ih h
      refine ⟨h1, fun i p hm hi => ?_⟩
      cases hm with
      | head => exact hq
      | tail _ hm => exact h2 i p hm hi
theorem sub_iff {a d : Nat} : sub a d = true ↔ ∀ j, a.testBit j = true → d.testBit j = true := by
  unfold sub
  constructor
  · intro h j hj
    have e : d &&& a = a := Nat.eq_of_beq_eq_true h
    have : (d &&& a).testBit j = true := by rw [e]; exact hj
    rw [Nat.testBit_and] at this
    simp at this
    exact this.1
  · intro h
    have e : d &&& a = a := Nat.eq_of_testBit_eq fun j => by
      rw [Nat.testBit_and]
      cases hj : a.testBit j with
      | false => simp
      | true => simp [h j hj]
    show Nat.beq (d &&& a) a = true
    rw [e]; simp
theorem findQ_some {done : Nat} {cls : List Cls} {anc : List Nat} {k i : Nat} (h : findQ done cls anc k = some i) :
    ∃ j, i = k + j ∧ (∃ c, cls[j]? = some c ∧ c ≠ .e) ∧ ∃ a, anc[j]? = some a ∧ sub a done = true ∧ done.testBit i = false := by
  induction cls generalizing anc k with
  | nil => cases h
  | cons c cs ih =>
    cases anc with
    | nil => cases h
    | cons a as =>
      have step : findQ done cs as (k + 1) = some i → ∃ j, i = k + j ∧ (∃ c', (c :: cs)[j]? = some c' ∧ c' ≠ .e) ∧ ∃ a', (a :: as)[j]? = some a' ∧ sub a' done = true ∧ done.testBit i = false := by
        intro h
        obtain ⟨j, h1, h2, h3⟩ := ih h
        exact ⟨j + 1, by omega, by simpa using h2, by simpa using h3⟩
      have here : c ≠ .e → (bif !Nat.testBit done k && sub a done then some k else findQ done cs as (k + 1)) = some i →
          ∃ j, i = k + j ∧ (∃ c', (c :: cs)[j]? = some c' ∧ c' ≠ .e) ∧ ∃ a', (a :: as)[j]? = some a' ∧ sub a' done = true ∧ done.testBit i = false := by
        intro hc h
        cases hb : (!Nat.testBit done k && sub a done) with
        | false => rw [hb] at h; exact step h
        | true =>
          rw [hb] at h
          simp only [cond_true, Option.some.injEq] at h
          subst h
          simp only [Bool.and_eq_true, Bool.not_eq_true'] at hb
          exact ⟨0, rfl, ⟨c, rfl, hc⟩, a, rfl, hb.2, hb.1⟩
      cases c with
      | e => exact step h
      | p => exact here (by simp) h
      | q => exact here (by simp) h
theorem findQ_none {done : Nat} {cls : List Cls} {anc : List Nat} {k : Nat} (h : findQ done cls anc k = none) :
    ∀ j c a, cls[j]? = some c → c ≠ .e → anc[j]? = some a → sub a done = true → done.testBit (k + j) = true := by
  induction cls generalizing anc k with
  | nil => intro j c a hj; simp at hj
  | cons c0 cs ih =>
    cases anc with
    | nil => intro j c a _ _ ha; simp at ha
    | cons a0 as =>
      intro j c a hj hc ha hsub
      have nxt : findQ done cs as (k + 1) = none := by
        unfold findQ at h
        cases c0 <;> simp only [] at h
        case e => exact h
        all_goals (cases hb : (!Nat.testBit done k && sub a0 done) <;> rw [hb] at h <;> simp at h; exact h)
      cases j with
      | zero =>
        simp at hj ha
        subst hj ha
        unfold findQ at h
        cases c0 <;> simp only [] at h
        case e => exact absurd rfl hc
        all_goals
          cases hb : Nat.testBit done k with
          | true => rfl
          | false => rw [hb, hsub] at h; simp at h
      | succ j =>
        have := ih nxt j c a (by simpa using hj) hc (by simpa using ha) hsub
        simpa [Nat.add_assoc, Nat.add_comm 1 j] using this
theorem findE_mem {done : Nat} {cls : List Cls} {anc : List Nat} {k : Nat} :
    ∀ j a, cls[j]? = some .e → anc[j]? = some a → sub a done = true → done.testBit (k + j) = false → k + j ∈ findE done cls anc k := by
  induction cls generalizing anc k with
  | nil => intro j a hj; simp at hj
  | cons c0 cs ih =>
    cases anc with
    | nil => intro j a _ ha; simp at ha
    | cons a0 as =>
      intro j a hj ha hsub hd
      cases j with
      | zero =>
        simp at hj ha
        subst hj ha
        have hd' : done.testBit k = false := hd
        simp [findE, hd', hsub]
      | succ j =>
        have := ih (k := k + 1) (anc := as) j a (by simpa using hj) (by simpa using ha) hsub (by simpa [Nat.add_assoc, Nat.add_comm 1 j] using hd)
        have e : k + (j + 1) = k + 1 + j := by omega
        rw [e]
        unfold findE
        cases c0 <;> simp only []
        case e => cases (!Nat.testBit done k && sub a0 done) <;> simp [this]
        all_goals exact this
theorem testBit_lor_pow (d i j : Nat) : (Nat.lor d (2 ^ i)).testBit j = (d.testBit j || decide (i = j)) := by
  show (d ||| 2 ^ i).testBit j = _
  rw [Nat.testBit_or, Nat.testBit_two_pow]

/-! ### What is asked of a region's marks -/
def dstOf (ops : List Oper) (i : Nat) : Option Nat := (ops[i]?).bind (·.dst)
def ancAt (h : RH) (i : Nat) : Nat := (h.anc[i]?).getD 0
def upTo (h : RH) (o : Oper) : Nat := o.after.toList.foldl (fun s e => bif Region.binds .any e then Nat.lor s (Nat.lor (2 ^ e.on) (ancAt h e.on)) else s) 0
/-- Each ancestor is a direct one, or a direct one's; edges lead back. -/
def ancOk (h : RH) : List Oper → Nat → Bool
  | [], _ => true
  | o :: l, i => sub (ancAt h i) (upTo h o) && o.after.toList.all (fun e => !Region.binds .any e || Nat.blt e.on i) && ancOk h l (i + 1)
def ordered (h : RH) (i j : Nat) : Bool := Nat.testBit (ancAt h i) j || Nat.testBit (ancAt h j) i
/-- A slot that operation i names is written by i alone, or by operations that stand in an order with i; no slot is written twice. -/
def slotOk (h : RH) (ops : List Oper) (i : Nat) (o : Oper) : List Oper → Nat → Bool
  | [], _ => true
  | x :: l, j => (match x.dst with
      | none => true
      | some d => Nat.beq i j || ((!(namesOf ops o).contains d || ordered h i j) && (match o.dst with | some d' => !Nat.beq d d' | none => true))) && slotOk h ops i o l (j + 1)
def slotsOk (h : RH) (ops : List Oper) : List Oper → Nat → Bool
  | [], _ => true
  | o :: l, i => slotOk h ops i o ops 0 && slotsOk h ops l (i + 1)
def drawOk (ops : List Oper) (h : RH) : Bool :=
  Nat.beq h.cls.length ops.length && Nat.beq h.anc.length ops.length && ops.all notSelect && ancOk h ops 0 && slotsOk h ops ops 0

theorem ancOk_at {h : RH} {l : List Oper} {k : Nat} (hk : ancOk h l k = true) {i : Nat} {o : Oper} (hi : l[i]? = some o) :
    (∀ j, (ancAt h (k + i)).testBit j = true → ∃ e ∈ o.after.toList, Region.binds .any e = true ∧ (e.on = j ∨ (ancAt h e.on).testBit j = true)) ∧
    ∀ e ∈ o.after.toList, Region.binds .any e = true → e.on < k + i := by
  induction l generalizing k i with
  | nil => simp at hi
  | cons x l ih =>
    simp only [ancOk, Bool.and_eq_true] at hk
    obtain ⟨⟨h1, h2⟩, h3⟩ := hk
    cases i with
    | succ i =>
      have := ih h3 (i := i) (by simpa using hi)
      simpa [Nat.add_assoc, Nat.add_comm 1 i] using this
    | zero =>
      simp at hi
      subst hi
      refine ⟨fun j hj => ?_, fun e he hb => ?_⟩
      · have hu := sub_iff.1 h1 j (by simpa using hj)
        have key : ∀ (l : List Edge) (s : Nat), (l.foldl (fun s e => bif Region.binds .any e then Nat.lor s (Nat.lor (2 ^ e.on) (ancAt h e.on)) else s) s).testBit j = true →
            s.testBit j = true ∨ ∃ e ∈ l, Region.binds .any e = true ∧ (e.on = j ∨ (ancAt h e.on).testBit j = true) := by
          intro l
          induction l with
          | nil => intro s hs; exact .inl hs
          | cons e l ihl =>
            intro s hs
            rcases ihl _ hs with hs | ⟨e', he', hb', h'⟩
            · dsimp only at hs
              cases hb : Region.binds .any e with
              | false => rw [hb] at hs; exact .inl hs
              | true =>
                rw [hb] at hs
                simp only [cond_true] at hs
                change (s ||| (2 ^ e.on ||| ancAt h e.on)).testBit j = true at hs
                rw [Nat.testBit_or, Nat.testBit_or, Nat.testBit_two_pow] at hs
                simp only [Bool.or_eq_true, decide_eq_true_eq] at hs
                rcases hs with hs | hs | hs
                · exact .inl hs
                · exact .inr ⟨e, by simp, hb, .inl hs⟩
                · exact .inr ⟨e, by simp, hb, .inr hs⟩
            · exact .inr ⟨e', by simp [he'], hb', h'⟩
        rcases key _ 0 hu with h0 | h0
        · simp at h0
        · exact h0
      · have := List.all_eq_true.1 h2 e he
        rw [hb] at this
        simpa using this
theorem slotsOk_at {h : RH} {ops l : List Oper} {k : Nat} (hk : slotsOk h ops l k = true) {i : Nat} {o : Oper} (hi : l[i]? = some o) : slotOk h ops (k + i) o ops 0 = true := by
  induction l generalizing k i with
  | nil => simp at hi
  | cons x l ih =>
    simp only [slotsOk, Bool.and_eq_true] at hk
    cases i with
    | zero => simp at hi; subst hi; exact hk.1
    | succ i => have := ih hk.2 (i := i) (by simpa using hi); simpa [Nat.add_assoc, Nat.add_comm 1 i] using this
theorem slotOk_at {h : RH} {ops l : List Oper} {i k : Nat} {o : Oper} (hk : slotOk h ops i o l k = true) {j : Nat} {x : Oper} {d : Nat} (hj : l[j]? = some x) (hd : x.dst = some d) (hij : i ≠ k + j) :
    (d ∈ namesOf ops o → ordered h i (k + j) = true) ∧ o.dst ≠ some d := by
  induction l generalizing k j with
  | nil => simp at hj
  | cons y l ih =>
    simp only [slotOk, Bool.and_eq_true] at hk
    cases j with
    | succ j => have := ih hk.2 (j := j) (by simpa using hj) (by omega); simpa [Nat.add_assoc, Nat.add_comm 1 j] using this
    | zero =>
      simp at hj
      subst hj
      have h1 := hk.1
      rw [hd] at h1
      simp only [Bool.or_eq_true, Bool.and_eq_true, Bool.not_eq_true'] at h1
      rcases h1 with h1 | ⟨h1, h2⟩
      · exact absurd (Nat.eq_of_beq_eq_true h1) (by simpa using hij)
      · refine ⟨fun hm => ?_, fun e => ?_⟩
        · rcases h1 with h1 | h1
          · rw [List.contains_iff_mem.2 hm] at h1; cases h1
          · simpa using h1
        · rw [e] at h2; simp at h2
end Go.Lf
namespace Go.Lf

/-- Of the actual run: which operations have been carried out (L), what the slots hold (M); of the proposition: which have been told (done), what they hold there (E). -/
structure Inv (P : Program) (n : Nat) (ops : List Oper) (h : RH) (E0 : Env) (L : Array Bool) (done ea : Nat) (pend : List (Nat × (World → Prop))) (E M : Env) (w : World) : Prop where
  size : L.size = ops.length
  sub : ∀ i, i < ops.length → L.getD i true = true → done.testBit i = true
  bound : ∀ i, done.testBit i = true → i < ops.length
  closed : ∀ i, i < ops.length → L.getD i true = true → ∀ j, (ancAt h i).testBit j = true → L.getD j true = true
  dcl : ∀ i, done.testBit i = true → ∀ j, (ancAt h i).testBit j = true → done.testBit j = true
  effs : ∀ i, done.testBit i = true → h.cls[i]? = some .e → L.getD i true = true
  eaL : ∀ j, ea.testBit j = true → L.getD j true = true
  keep : ∀ s, (∀ i, done.testBit i = true → dstOf ops i ≠ some s) → E s = E0 s
  mixL : ∀ s i, i < ops.length → L.getD i true = true → dstOf ops i = some s → M s = E s
  mix0 : ∀ s, (∀ i, i < ops.length → L.getD i true = true → dstOf ops i ≠ some s) → M s = E0 s
  facts : ∀ i o, ops[i]? = some o → done.testBit i = true → L.getD i true = false → ∃ (Ei : Env) (v : Value), (∀ d, o.dst = some d → E d = v) ∧
    (∀ s ∈ namesOf ops o, (∀ j, (ancAt h i).testBit j = true → dstOf ops j = some s → Ei s = E s) ∧ ((∀ j, (ancAt h i).testBit j = true → dstOf ops j ≠ some s) → Ei s = E0 s)) ∧
    QOk P n ops Ei o v w ∧ (h.cls[i]? = some .p → ∀ w', QOk P n ops Ei o v w') ∧ (h.cls[i]? ≠ some .p → (i, predG P n ops Ei o v) ∈ pend)

theorem QOk.later {P : Program} {n : Nat} {ops : List Oper} {E : Env} {o : Oper} {v : Value} {w w' : World} (h : QOk P n ops E o v w) (hp : predG P n ops E o v w') : QOk P n ops E o v w' := by
  unfold QOk at *
  unfold predG at hp
  cases hg : o.guard with
  | none => rw [hg] at hp; exact hp.at
  | some g => obtain ⟨j, want⟩ := g; rw [hg] at hp h; exact ⟨fun hx => (hp hx).at, h.2⟩

section
variable {P : Program} {n : Nat} {ops : List Oper} {h : RH}

theorem dst_apart (hd : drawOk ops h = true) {i j : Nat} {s : Nat} (hi : dstOf ops i = some s) (hj : dstOf ops j = some s) : i = j := by
  simp only [drawOk, Bool.and_eq_true] at hd
  unfold dstOf at hi hj
  cases hoi : ops[i]? with
  | none => rw [hoi] at hi; simp at hi
  | some o =>
    cases hoj : ops[j]? with
    | none => rw [hoj] at hj; simp at hj
    | some x =>
      rw [hoi] at hi; rw [hoj] at hj
      simp at hi hj
      by_cases e : i = j
      · exact e
      · have := slotOk_at (slotsOk_at (k := 0) hd.2 hoi) hoj hj (by omega)
        exact absurd hi this.2
theorem names_ordered (hd : drawOk ops h = true) {i j : Nat} {o : Oper} {s : Nat} (hi : ops[i]? = some o) (hs : s ∈ namesOf ops o) (hj : dstOf ops j = some s) (hij : i ≠ j) :
    (ancAt h i).testBit j = true ∨ (ancAt h j).testBit i = true := by
  simp only [drawOk, Bool.and_eq_true] at hd
  unfold dstOf at hj
  cases hoj : ops[j]? with
  | none => rw [hoj] at hj; simp at hj
  | some x =>
    rw [hoj] at hj
    simp at hj
    have := (slotOk_at (slotsOk_at (k := 0) hd.2 hi) hoj hj (by omega)).1 hs
    simp only [Nat.zero_add, ordered, Bool.or_eq_true] at this
    exact this
theorem draw_lens (hd : drawOk ops h = true) : h.cls.length = ops.length ∧ h.anc.length = ops.length ∧ (∀ o ∈ ops, notSelect o = true) ∧ ancOk h ops 0 = true := by
  simp only [drawOk, Bool.and_eq_true] at hd
  exact ⟨Nat.eq_of_beq_eq_true hd.1.1.1.1, Nat.eq_of_beq_eq_true hd.1.1.1.2, fun o ho => List.all_eq_true.1 hd.1.1.2 o ho, hd.1.2⟩
theorem put_ne {E : Env} {dst : Option Nat} {v : Value} {s : Nat} (h : dst ≠ some s) : E.put dst v s = E s := by
  cases dst with
  | none => rfl
  | some d =>
    show E.set d v s = E s
    rw [set_apply, if_neg]
    rintro rfl
    exact h rfl
theorem put_eq {E : Env} {v : Value} {s : Nat} : E.put (some s) v s = v := by
  show E.set s v s = v
  rw [set_apply, if_pos rfl]
theorem dstOf_eq {i : Nat} {o : Oper} (hi : ops[i]? = some o) : dstOf ops i = o.dst := by simp [dstOf, hi]
theorem lor_bit {d i j : Nat} : (Nat.lor d (2 ^ i)).testBit j = true ↔ d.testBit j = true ∨ i = j := by
  rw [testBit_lor_pow]; simp
theorem ancAt_some {i a : Nat} (h' : h.anc[i]? = some a) : ancAt h i = a := by simp [ancAt, h']

/-- Quiet operations that may run are told, one behind the other. -/
theorem settle (hd : drawOk ops h = true) {K : Env → World → Prop} {E0 M : Env} {L : Array Bool} {w : World} {ea : Nat} : ∀ (fuel done : Nat) (pend : List (Nat × (World → Prop))) (E : Env),
    Inv P n ops h E0 L done ea pend E M w → drawF P n ops h K fuel done ea pend E w →
    ∃ fuel' done' pend' E', Inv P n ops h E0 L done' ea pend' E' M w ∧ findQ done' h.cls h.anc 0 = none ∧ drawF P n ops h K (fuel' + 1) done' ea pend' E' w := by
  intro fuel
  induction fuel with
  | zero => intro done pend E _ hF; exact hF.elim
  | succ fuel ih =>
    intro done pend E I hF
    cases hq : findQ done h.cls h.anc 0 with
    | none => exact ⟨fuel, done, pend, E, I, hq, hF⟩
    | some i =>
      obtain ⟨j, e, ⟨c, hc, hce⟩, a, ha, hsub, hnd⟩ := findQ_some hq
      have e : i = j := by omega
      subst e
      obtain ⟨hl1, hl2, hns, hanc⟩ := draw_lens hd
      have hilt : i < ops.length := by have := (List.getElem?_eq_some_iff.1 hc).1; omega
      obtain ⟨o, ho⟩ : ∃ o, ops[i]? = some o := ⟨_, List.getElem?_eq_getElem hilt⟩
      have hLi : L.getD i true = false := by
        cases hb : L.getD i true with
        | false => rfl
        | true => rw [I.sub i hilt hb] at hnd; cases hnd
      have haw : ancAt h i = a := ancAt_some ha
      have hsub' : ∀ j, (ancAt h i).testBit j = true → done.testBit j = true := by rw [haw]; exact sub_iff.1 hsub
      have step : ∀ (v : Value) (pend' : List (Nat × (World → Prop))), QOk P n ops E o v w → (c = .p → ∀ w', QOk P n ops E o v w') → (∀ x ∈ pend, x ∈ pend') → (c ≠ .p → (i, predG P n ops E o v) ∈ pend') →
          Inv P n ops h E0 L (Nat.lor done (2 ^ i)) ea pend' (E.put o.dst v) M w := by
        intro v pend' hv hvp hpp hpi
        have hdst := dstOf_eq ho
        have hne : ∀ s i', i' ≠ i → dstOf ops i' = some s → o.dst ≠ some s := fun s i' hi' hs he => hi' (dst_apart hd hs (hdst.trans he))
        refine ⟨I.size, fun i' hi' hL => lor_bit.2 (.inl (I.sub i' hi' hL)), fun i' hb => ?_, I.closed, fun i' hb j hj => ?_, fun i' hb hce' => ?_, I.eaL, fun s hs => ?_, fun s i' hi' hL hs => ?_, I.mix0, fun i' o' ho' hb hL => ?_⟩
        · rcases lor_bit.1 hb with hb | rfl
          · exact I.bound i' hb
          · exact hilt
        · rcases lor_bit.1 hb with hb | rfl
          · exact lor_bit.2 (.inl (I.dcl i' hb j hj))
          · exact lor_bit.2 (.inl (hsub' j hj))
        · rcases lor_bit.1 hb with hb | rfl
          · exact I.effs i' hb hce'
          · rw [hc] at hce'; exact absurd (Option.some.inj hce') hce
        · rw [put_ne (by rw [← hdst]; exact hs i (lor_bit.2 (.inr rfl)))]
          exact I.keep s fun i' hb => hs i' (lor_bit.2 (.inl hb))
        · rw [put_ne (hne s i' (fun e => by rw [e, hLi] at hL; cases hL) hs)]
          exact I.mixL s i' hi' hL hs
        · by_cases e : i' = i
          · subst e
            rw [ho] at ho'
            obtain rfl := Option.some.inj ho'
            refine ⟨E, v, fun d hd' => by rw [hd', put_eq], fun s hs => ⟨fun j hj hjs => ?_, fun hno => ?_⟩, hv, fun hp => hvp (by rw [hc] at hp; exact Option.some.inj hp), fun hp => hpi (fun e => hp (by rw [hc, e]))⟩
            · rw [put_ne (hne s j (fun e => by rw [e] at hj; have := hsub' _ hj; rw [this] at hnd; cases hnd) hjs)]
            · refine I.keep s fun j hj hjs => ?_
              have hji : j ≠ i' := fun e => by rw [e, hnd] at hj; cases hj
              rcases names_ordered hd ho hs hjs (fun e => hji e.symm) with hx | hx
              · exact hno j hx hjs
              · have := I.dcl j hj i' hx; rw [this] at hnd; cases hnd
          · have hb' : done.testBit i' = true := (lor_bit.1 hb).resolve_right (fun e' => e e'.symm)
            obtain ⟨Ei, v', h1, h2, h3, h4, h5⟩ := I.facts i' o' ho' hb' hL
            refine ⟨Ei, v', fun d hd' => ?_, fun s hs => ⟨fun j hj hjs => ?_, (h2 s hs).2⟩, h3, h4, fun hp => hpp _ (h5 hp)⟩
            · rw [put_ne (hne d i' e (by rw [dstOf_eq ho', hd']))]; exact h1 d hd'
            · have hji : j ≠ i := fun e' => by
                rw [e'] at hj; have := I.dcl i' hb' i hj; rw [this] at hnd; cases hnd
              rw [put_ne (hne s j hji hjs)]
              exact (h2 s hs).1 j hj hjs
      unfold drawF at hF
      rw [hq] at hF
      simp only [ho, hc, Option.getD_some] at hF
      cases c with
      | e => exact absurd rfl hce
      | p =>
        obtain ⟨v, ⟨hv, hvp⟩, hF⟩ := quietG_ok hF
        exact ih _ _ _ (step v pend hv (fun _ => hvp rfl) (fun _ hx => hx) (fun hx => absurd rfl hx)) hF
      | q =>
        obtain ⟨v, ⟨hv, _⟩, hF⟩ := quietG_ok hF
        exact ih _ _ _ (step v _ hv (fun hx => by cases hx) (fun _ hx => List.mem_cons_of_mem _ hx) (fun _ => List.mem_cons_self)) hF
end
end Go.Lf
namespace Go.Lf
section
variable {P : Program} {n : Nat} {ops : List Oper} {h : RH}

theorem findE_out {done : Nat} {cls : List Cls} {anc : List Nat} {k i : Nat} (h : i ∈ findE done cls anc k) :
    ∃ j, i = k + j ∧ cls[j]? = some .e ∧ ∃ a, anc[j]? = some a ∧ sub a done = true ∧ done.testBit i = false := by
  induction cls generalizing anc k with
  | nil => simp [findE] at h
  | cons c cs ih =>
    cases anc with
    | nil => simp [findE] at h
    | cons a as =>
      have step : i ∈ findE done cs as (k + 1) → ∃ j, i = k + j ∧ (c :: cs)[j]? = some .e ∧ ∃ a', (a :: as)[j]? = some a' ∧ sub a' done = true ∧ done.testBit i = false := by
        intro h
        obtain ⟨j, h1, h2, h3⟩ := ih h
        exact ⟨j + 1, by omega, by simpa using h2, by simpa using h3⟩
      unfold findE at h
      cases c <;> simp only [] at h
      case e =>
        cases hb : (!Nat.testBit done k && sub a done) with
        | false => rw [hb] at h; exact step h
        | true =>
          rw [hb] at h
          simp only [cond_true, List.mem_cons] at h
          rcases h with rfl | h
          · simp only [Bool.and_eq_true, Bool.not_eq_true'] at hb
            exact ⟨0, rfl, rfl, a, rfl, hb.2, hb.1⟩
          · exact step h
      all_goals exact step h

theorem unl_set : ∀ (l : List Bool) (i : Nat), l[i]? = some false → ((l.set i true).filter (!·)).length + 1 = (l.filter (!·)).length := by
  intro l
  induction l with
  | nil => intro i hi; simp at hi
  | cons b l ih =>
    intro i hi
    cases i with
    | zero => simp at hi; subst hi; simp
    | succ i =>
      have := ih i (by simpa using hi)
      cases b <;> simp <;> omega

theorem Inv.ready (hd : drawOk ops h = true) {E0 E M : Env} {L : Array Bool} {w : World} {done ea : Nat} {pend : List (Nat × (World → Prop))}
    (I : Inv P n ops h E0 L done ea pend E M w) {i : Nat} (hi : i ∈ Region.ready .any ops.toArray L) :
    i < ops.length ∧ L.getD i true = false ∧ ∃ o, ops[i]? = some o ∧ ∀ j, (ancAt h i).testBit j = true → L.getD j true = true := by
  obtain ⟨h1, o, ho, he⟩ := mem_ready.1 hi
  simp only [List.getElem?_toArray] at ho
  have hlt := (List.getElem?_eq_some_iff.1 ho).1
  obtain ⟨_, _, _, hanc⟩ := draw_lens hd
  refine ⟨hlt, h1, o, ho, fun j hj => ?_⟩
  have hA := ancOk_at hanc ho
  simp only [Nat.zero_add] at hA
  obtain ⟨ed, hm, hb, hor⟩ := hA.1 j hj
  have hon := he ed (by simpa using hm) hb
  have honlt := hA.2 ed hm hb
  have honL : L.getD ed.on true = true := by
    have : ed.on < L.size := by rw [I.size]; omega
    simp only [Array.getD_eq_getD_getElem?, Array.getElem?_eq_getElem this, Option.getD_some] at hon ⊢
    exact hon
  rcases hor with rfl | hor
  · exact honL
  · exact I.closed ed.on (by omega) honL j hor

theorem Inv.allListed (hd : drawOk ops h = true) {E0 E M : Env} {L : Array Bool} {w : World} {done ea : Nat} {pend : List (Nat × (World → Prop))}
    (I : Inv P n ops h E0 L done ea pend E M w) (hr : Region.ready .any ops.toArray L = []) : ∀ i, i < ops.length → L.getD i true = true := by
  intro i
  induction i using Nat.strongRecOn with
  | _ i ih =>
    intro hi
    cases hb : L.getD i true with
    | true => rfl
    | false =>
      obtain ⟨_, _, _, hanc⟩ := draw_lens hd
      obtain ⟨o, ho⟩ : ∃ o, ops[i]? = some o := ⟨_, List.getElem?_eq_getElem hi⟩
      have hA := (ancOk_at hanc ho).2
      have : i ∈ Region.ready .any ops.toArray L := by
        refine mem_ready.2 ⟨hb, o, by simpa using ho, fun e he hbd => ?_⟩
        have hlt := hA e (by simpa using he) hbd
        simp only [Nat.zero_add] at hlt
        have := ih e.on hlt (by omega)
        have hs : e.on < L.size := by rw [I.size]; omega
        simp only [Array.getD_eq_getD_getElem?, Array.getElem?_eq_getElem hs, Option.getD_some] at this ⊢
        exact this
      rw [hr] at this
      cases this

theorem Inv.atEnd (hd : drawOk ops h = true) {K : Env → World → Prop} {E0 E M : Env} {L : Array Bool} {w : World} {done ea fuel : Nat} {pend : List (Nat × (World → Prop))}
    (I : Inv P n ops h E0 L done ea pend E M w) (hq : findQ done h.cls h.anc 0 = none) (hF : drawF P n ops h K (fuel + 1) done ea pend E w)
    (hall : ∀ i, i < ops.length → L.getD i true = true) : K E w ∧ M = E := by
  have hE : findE done h.cls h.anc 0 = [] := by
    cases he : findE done h.cls h.anc 0 with
    | nil => rfl
    | cons x l =>
      obtain ⟨j, e, hc, a, _, _, hnd⟩ := findE_out (i := x) (by rw [he]; exact List.mem_cons_self)
      have e : x = j := by omega
      subst e
      have hlt : x < ops.length := by
        have := (List.getElem?_eq_some_iff.1 hc).1
        rw [(draw_lens hd).1] at this; exact this
      rw [I.sub x hlt (hall x hlt)] at hnd; cases hnd
  unfold drawF at hF
  rw [hq, hE] at hF
  refine ⟨hF, ?_⟩
  funext s
  by_cases hs : ∃ i, i < ops.length ∧ dstOf ops i = some s
  · obtain ⟨i, hi, hs⟩ := hs
    exact I.mixL s i hi (hall i hi) hs
  · rw [I.mix0 s (fun i hi _ e => hs ⟨i, hi, e⟩), I.keep s fun i hb e => hs ⟨i, I.bound i hb, e⟩]

theorem getD_set_self {L : Array Bool} {i : Nat} (j : Nat) : (L.setIfInBounds i true).getD j true = if i = j then true else L.getD j true := by
  by_cases e : i = j
  · subst e
    rw [if_pos rfl]
    simp only [Array.getD_eq_getD_getElem?, Array.getElem?_setIfInBounds]
    by_cases hi : i < L.size <;> simp [hi]
  · rw [if_neg e, getD_set_ne true e]

theorem Inv.listed (hd : drawOk ops h = true) {E0 E M : Env} {L : Array Bool} {w : World} {done ea : Nat} {pend : List (Nat × (World → Prop))}
    (I : Inv P n ops h E0 L done ea pend E M w) {i : Nat} {o : Oper} {v : Value} (hi : i < ops.length) (ho : ops[i]? = some o) (hdone : done.testBit i = true)
    (ha : ∀ j, (ancAt h i).testBit j = true → L.getD j true = true) (hv : ∀ d, o.dst = some d → E d = v) :
    Inv P n ops h E0 (L.setIfInBounds i true) done ea pend E (M.put o.dst v) w := by
  have hdst := dstOf_eq ho
  have hne : ∀ s i', i' ≠ i → dstOf ops i' = some s → o.dst ≠ some s := fun s i' hi' hs he => hi' (dst_apart hd hs (hdst.trans he))
  have mono : ∀ j, L.getD j true = true → (L.setIfInBounds i true).getD j true = true := fun j hj => by rw [getD_set_self]; split <;> first | rfl | exact hj
  have back : ∀ j, (L.setIfInBounds i true).getD j true = true → j ≠ i → L.getD j true = true := fun j hj e => by rw [getD_set_self, if_neg (fun e' => e e'.symm)] at hj; exact hj
  refine ⟨by simpa using I.size, fun i' hi' hL => ?_, I.bound, fun i' hi' hL j hj => ?_, I.dcl, fun i' hb hc => mono _ (I.effs i' hb hc), fun j hj => mono _ (I.eaL j hj), I.keep, fun s i' hi' hL hs => ?_, fun s hs => ?_, fun i' o' ho' hb hL => ?_⟩
  · by_cases e : i' = i
    · subst e; exact hdone
    · exact I.sub i' hi' (back i' hL e)
  · by_cases e : i' = i
    · subst e; exact mono _ (ha j hj)
    · exact mono _ (I.closed i' hi' (back i' hL e) j hj)
  · by_cases e : i' = i
    · subst e
      rw [hdst] at hs
      rw [hs, put_eq, hv s hs]
    · rw [put_ne (hne s i' e hs)]
      exact I.mixL s i' hi' (back i' hL e) hs
  · rw [put_ne (by rw [← hdst]; exact hs i hi (by rw [getD_set_self, if_pos rfl]))]
    exact I.mix0 s fun i' hi' hL => hs i' hi' (mono _ hL)
  · refine I.facts i' o' ho' hb ?_
    rw [getD_set_self] at hL
    split at hL
    · cases hL
    · exact hL

theorem Inv.frame {E0 E M : Env} {L : Array Bool} {w : World} {done ea : Nat} {pend : List (Nat × (World → Prop))}
    (I : Inv P n ops h E0 L done ea pend E M w) (s : Nat) (hs : ∀ o ∈ ops, o.dst ≠ some s) : E s = E0 s := by
  refine I.keep s fun i _ e => ?_
  unfold dstOf at e
  cases ho : ops[i]? with
  | none => rw [ho] at e; simp at e
  | some o => rw [ho] at e; simp at e; exact hs o (List.mem_of_getElem? ho) e

theorem draw_any {r : Option Nat} (hd : drawOk ops h = true) {K : Env → World → Prop} {Q : Exit → Act → World → Prop} {E0 : Env} (hK : ∀ E w, (∀ s, (∀ o ∈ ops, o.dst ≠ some s) → E s = E0 s) → K E w → Q .normal (act n E) w) :
    ∀ (m : Nat) (L : Array Bool) (fuel done ea : Nat) (pend : List (Nat × (World → Prop))) (E M : Env) (w : World), (L.toList.filter (!·)).length = m →
    Inv P n ops h E0 L done ea pend E M w → findQ done h.cls h.anc 0 = none → drawF P n ops h K (fuel + 1) done ea pend E w → wpAnyIn (Gr r) 0 P .any ops.toArray Q m L (act n M) w := by
  intro m
  induction m with
  | zero =>
    intro L fuel done ea pend E M w hm I hq hF
    have hall : ∀ i, i < ops.length → L.getD i true = true := by
      intro i hi
      cases hb : L.getD i true with
      | true => rfl
      | false =>
        have hs : i < L.size := by rw [I.size]; exact hi
        have : false ∈ L.toList.filter (!·) := by
          refine List.mem_filter.2 ⟨?_, rfl⟩
          simp only [Array.getD_eq_getD_getElem?, Array.getElem?_eq_getElem hs, Option.getD_some] at hb
          rw [← hb]; simp
        rw [List.length_eq_zero_iff.1 hm] at this
        cases this
    obtain ⟨hk, rfl⟩ := I.atEnd hd hq hF hall
    refine ⟨?_, hK _ _ (I.frame) hk⟩
    cases hr : Region.ready .any ops.toArray L with
    | nil => rfl
    | cons x l =>
      obtain ⟨h1, h2, _⟩ := I.ready hd (i := x) (by rw [hr]; exact List.mem_cons_self)
      rw [hall x h1] at h2; cases h2
  | succ m ih =>
    intro L fuel done ea pend E M w hm I hq hF
    refine ⟨fun hr => ?_, fun i hi => ?_⟩
    · obtain ⟨hk, rfl⟩ := I.atEnd hd hq hF (I.allListed hd hr)
      exact hK _ _ (I.frame) hk
    · obtain ⟨hilt, hLi, o, ho, hanc⟩ := I.ready hd hi
      obtain ⟨hl1, hl2, hns, hancOk⟩ := draw_lens hd
      have hm' : ((L.setIfInBounds i true).toList.filter (!·)).length = m := by
        have hs : i < L.size := by rw [I.size]; exact hilt
        have : L.toList[i]? = some false := by
          simp only [Array.getD_eq_getD_getElem?, Array.getElem?_eq_getElem hs, Option.getD_some] at hLi
          rw [← hLi]; simp [hs]
        have := unl_set L.toList i this
        simp only [Array.toList_setIfInBounds]
        omega
      have hsel := hns o (List.mem_of_getElem? ho)
      have hancD : ∀ j, (ancAt h i).testBit j = true → done.testBit j = true := by
        intro j hj
        have hjl : j < ops.length := by
          have hA := (ancOk_at hancOk ho)
          simp only [Nat.zero_add] at hA
          rcases Nat.lt_or_ge j ops.length with hlt | hge
          · exact hlt
          · exfalso
            have key : ∀ (k : Nat), k < ops.length → ∀ j, (ancAt h k).testBit j = true → j < k := by
              intro k
              induction k using Nat.strongRecOn with
              | _ k ihk =>
                intro hk j hj
                obtain ⟨x, hx⟩ : ∃ x, ops[k]? = some x := ⟨_, List.getElem?_eq_getElem hk⟩
                have hB := ancOk_at hancOk hx
                simp only [Nat.zero_add] at hB
                obtain ⟨ed, hm, hb, hor⟩ := hB.1 j hj
                have := hB.2 ed hm hb
                rcases hor with rfl | hor
                · exact this
                · have := ihk ed.on this (by omega) j hor; omega
            have := key i hilt j hj
            omega
        exact I.sub j hjl (hanc j hj)
      obtain ⟨c, hc⟩ : ∃ c, h.cls[i]? = some c := ⟨_, List.getElem?_eq_getElem (by omega)⟩
      obtain ⟨a, ha⟩ : ∃ a, h.anc[i]? = some a := ⟨_, List.getElem?_eq_getElem (by omega)⟩
      have hsub : sub a done = true := by rw [← ancAt_some ha]; exact sub_iff.2 hancD
      by_cases hce : c = .e
      · subst hce
        have hnd : done.testBit i = false := by
          cases hb : done.testBit i with
          | false => rfl
          | true => rw [I.effs i hb hc] at hLi; cases hLi
        have hmem := findE_mem (k := 0) i a hc ha hsub (by simpa using hnd)
        simp only [Nat.zero_add] at hmem
        have hag : ∀ s ∈ namesOf ops o, M s = E s := by
          intro s hs
          by_cases hx : ∃ j, j < ops.length ∧ L.getD j true = true ∧ dstOf ops j = some s
          · obtain ⟨j, h1, h2, h3⟩ := hx
            exact I.mixL s j h1 h2 h3
          · rw [I.mix0 s fun j h1 h2 h3 => hx ⟨j, h1, h2, h3⟩, I.keep s fun j hj hjs => ?_]
            have hji : i ≠ j := fun e => by rw [← e, hnd] at hj; cases hj
            rcases names_ordered hd ho hs hjs hji with hy | hy
            · exact hx ⟨j, I.bound j hj, hanc j hy, hjs⟩
            · have := I.dcl j hj i hy; rw [this] at hnd; cases hnd
        unfold drawF at hF
        rw [hq] at hF
        simp only [] at hF
        have hFi : effG P n ops E o w fun v w' => rechk (Nat.lor ea ((h.anc[i]?).getD 0)) pend w' (drawF P n ops h K fuel (Nat.lor done (2 ^ i)) (Nat.lor ea ((h.anc[i]?).getD 0)) pend (E.put o.dst v) w') := by
          cases he : findE done h.cls h.anc 0 with
          | nil => rw [he] at hmem; cases hmem
          | cons x l =>
            rw [he] at hF hmem
            have := andAll_mem hF hmem
            rw [ho] at this
            exact this
        refine wpOpIn_mono ?_ (wpOp_eff ho hsel hag hFi)
        rintro a' w' ⟨v, rfl, hR⟩
        obtain ⟨hF', hpend⟩ := rechk_out hR
        rw [show (h.anc[i]?).getD 0 = a by rw [ha]; rfl] at hF' hpend
        have hdst := dstOf_eq ho
        have hne : ∀ s i', i' ≠ i → dstOf ops i' = some s → o.dst ≠ some s := fun s i' hi' hs he => hi' (dst_apart hd hs (hdst.trans he))
        have mono : ∀ j, L.getD j true = true → (L.setIfInBounds i true).getD j true = true := fun j hj => by rw [getD_set_self]; split <;> first | rfl | exact hj
        have back : ∀ j, (L.setIfInBounds i true).getD j true = true → j ≠ i → L.getD j true = true := fun j hj e => by rw [getD_set_self, if_neg (fun e' => e e'.symm)] at hj; exact hj
        have hself : (L.setIfInBounds i true).getD i true = true := by rw [getD_set_self, if_pos rfl]
        have heaL : ∀ j, (Nat.lor ea a).testBit j = true → (L.setIfInBounds i true).getD j true = true := by
          intro j hj
          change (ea ||| a).testBit j = true at hj
          rw [Nat.testBit_or] at hj
          simp only [Bool.or_eq_true] at hj
          rcases hj with hj | hj
          · exact mono _ (I.eaL j hj)
          · exact mono _ (hanc j (by rw [ancAt_some ha]; exact hj))
        have I' : Inv P n ops h E0 (L.setIfInBounds i true) (Nat.lor done (2 ^ i)) (Nat.lor ea a) pend (E.put o.dst v) (M.put o.dst v) w' := by
          refine ⟨by simpa using I.size, fun i' hi' hL => ?_, fun i' hb => ?_, fun i' hi' hL j hj => ?_, fun i' hb j hj => ?_, fun i' hb hc' => ?_, heaL, fun s hs => ?_, fun s i' hi' hL hs => ?_, fun s hs => ?_, fun i' o' ho' hb hL => ?_⟩
          · by_cases e : i' = i
            · exact lor_bit.2 (.inr e.symm)
            · exact lor_bit.2 (.inl (I.sub i' hi' (back i' hL e)))
          · rcases lor_bit.1 hb with hb | rfl
            · exact I.bound i' hb
            · exact hilt
          · by_cases e : i' = i
            · subst e; exact mono _ (hanc j hj)
            · exact mono _ (I.closed i' hi' (back i' hL e) j hj)
          · rcases lor_bit.1 hb with hb | rfl
            · exact lor_bit.2 (.inl (I.dcl i' hb j hj))
            · exact lor_bit.2 (.inl (hancD j hj))
          · rcases lor_bit.1 hb with hb | rfl
            · exact mono _ (I.effs i' hb hc')
            · exact hself
          · rw [put_ne (by rw [← hdst]; exact hs i (lor_bit.2 (.inr rfl)))]
            exact I.keep s fun i' hb => hs i' (lor_bit.2 (.inl hb))
          · by_cases e : i' = i
            · subst e
              rw [hdst] at hs
              rw [hs, put_eq, put_eq]
            · rw [put_ne (hne s i' e hs), put_ne (hne s i' e hs)]
              exact I.mixL s i' hi' (back i' hL e) hs
          · rw [put_ne (by rw [← hdst]; exact hs i hilt hself)]
            exact I.mix0 s fun i' hi' hL => hs i' hi' (mono _ hL)
          · have e : i' ≠ i := fun e => by rw [e, hself] at hL; cases hL
            have hb' : done.testBit i' = true := (lor_bit.1 hb).resolve_right (fun e' => e e'.symm)
            have hL' : L.getD i' true = false := by
              cases hx : L.getD i' true with
              | false => rfl
              | true => rw [mono _ hx] at hL; cases hL
            obtain ⟨Ei, v', h1, h2, h3, h4, h5⟩ := I.facts i' o' ho' hb' hL'
            refine ⟨Ei, v', fun d hd' => ?_, fun s hs => ⟨fun j hj hjs => ?_, (h2 s hs).2⟩, ?_, h4, h5⟩
            · rw [put_ne (hne d i' e (by rw [dstOf_eq ho', hd']))]; exact h1 d hd'
            · have hji : j ≠ i := fun e' => by
                rw [e'] at hj; have := I.dcl i' hb' i hj; rw [this] at hnd; cases hnd
              rw [put_ne (hne s j hji hjs)]
              exact (h2 s hs).1 j hj hjs
            · by_cases hp : h.cls[i']? = some .p
              · exact h4 hp w'
              · refine h3.later (hpend i' _ (h5 hp) ?_)
                cases hx : (Nat.lor ea a).testBit i' with
                | false => rfl
                | true => rw [heaL i' hx] at hL; cases hL
        obtain ⟨fuel', done', pend', E', I'', hq'', hF''⟩ := settle hd fuel _ pend _ I' hF'
        exact ih _ fuel' done' _ pend' E' _ w' hm' I'' hq'' hF''
      · have hdone : done.testBit i = true := by
          have := findQ_none hq i c a hc hce ha hsub
          simpa using this
        obtain ⟨Ei, v, h1, h2, h3, _, _⟩ := I.facts i o ho hdone hLi
        have hag : ∀ s ∈ namesOf ops o, M s = Ei s := by
          intro s hs
          by_cases hx : ∃ j, (ancAt h i).testBit j = true ∧ dstOf ops j = some s
          · obtain ⟨j, hj, hjs⟩ := hx
            rw [(h2 s hs).1 j hj hjs]
            exact I.mixL s j (I.bound j (hancD j hj)) (hanc j hj) hjs
          · rw [(h2 s hs).2 fun j hj hjs => hx ⟨j, hj, hjs⟩]
            refine I.mix0 s fun j hjl hj hjs => ?_
            have hji : i ≠ j := fun e => by rw [← e, hLi] at hj; cases hj
            rcases names_ordered hd ho hs hjs hji with hy | hy
            · exact hx ⟨j, hy, hjs⟩
            · have := I.closed j hjl hj i hy; rw [this] at hLi; cases hLi
        refine wpOp_quiet ho hsel hag h3 ?_
        exact ih _ fuel done ea pend E _ w hm' (I.listed hd hilt ho hdone hanc h1) hq hF

theorem region_draw {r : Option Nat} {id : Nat} (hm : P.follows .mixedOrders = true) (hd : drawOk ops h = true) {K : Env → World → Prop} {Q : Exit → Act → World → Prop}
    {E : Env} (hK : ∀ E' w, (∀ s, (∀ o ∈ ops, o.dst ≠ some s) → E' s = E s) → K E' w → Q .normal (act n E') w) {w : World} {fuel : Nat} (hF : drawF P n ops h K fuel 0 0 [] E w.drew) : (Code.region id ops.toArray true).wpIn (Gr r) 0 P Q (act n E) w := by
  refine wpIn_region_any hm ?_
  have hz : ∀ i, i < ops.length → ¬ (Array.replicate ops.toArray.size false).getD i true = true := by
    intro i hi
    have : i < (Array.replicate ops.toArray.size false).size := by simpa using hi
    simp [Array.getD_eq_getD_getElem?, hi]
  have I : Inv P n ops h E (Array.replicate ops.toArray.size false) 0 0 [] E E w.drew := by
    refine ⟨by simp, fun i hi hL => absurd hL (hz i hi), fun i hb => by simp at hb, fun i hi hL => absurd hL (hz i hi), fun i hb => by simp at hb, fun i hb => by simp at hb, fun j hb => by simp at hb, fun s _ => rfl,
      fun s i hi hL => absurd hL (hz i hi), fun s _ => rfl, fun i o ho hb => by simp at hb⟩
  obtain ⟨fuel', done', pend', E', I', hq', hF'⟩ := settle hd fuel _ _ _ I hF
  have hlen : ((Array.replicate ops.toArray.size false).toList.filter (!·)).length = ops.toArray.size := by simp
  exact draw_any hd hK _ _ fuel' done' _ pend' E' _ _ hlen I' hq' hF'
end
end Go.Lf
/-
  The proposition of a body, and of a call.
-/
namespace Go.Lf

structure Hints where
  n : Nat
  reg : List (Nat × RH)
  loop : List (Nat × List Nat)
  join : List (Nat × List Nat)

def getK {α : Type} : List (Nat × α) → Nat → Option α
  | [], _ => none
  | (k, a) :: l, i => bif Nat.beq k i then some a else getK l i
def memN (i : Nat) : List Nat → Bool
  | [] => false
  | x :: l => bif Nat.beq i x then true else memN i l
def havoc (E : Env) (asg : List Nat) (junk : Env) : Env := fun i => bif memN i asg then junk i else E i
def setAll (E : Env) : List Nat → List Value → Env
  | x :: l, v :: vs => setAll (E.set x v) l vs
  | _, _ => E
def keyOf : Code → Nat
  | .seq _ b => keyOf b
  | .cond (.tmp t) _ _ => 2 * t + 2
  | .block id _ => 2 * id + 3
  | _ => 0
def keyLoop : Code → Option Nat
  | .region id _ _ => some id
  | .seq a b => match keyLoop a with | some i => some i | none => keyLoop b
  | .cond _ a b => match keyLoop a with | some i => some i | none => keyLoop b
  | .block _ a => keyLoop a
  | .loop a => keyLoop a
  | _ => none
def dsts : List Oper → List Nat
  | [] => []
  | o :: l => match o.dst with | some d => d :: dsts l | none => dsts l
def assigned : Code → List Nat
  | .region _ ops _ => dsts ops.toList
  | .seq a b => assigned a ++ assigned b
  | .cond _ a b => assigned a ++ assigned b
  | .block _ a => assigned a
  | .loop a => assigned a
  | _ => []

@[reducible] def Cur (T : Type) : Nat → Type
  | 0 => World → T
  | n + 1 => Value → Cur T n
def app {T : Type} : (n : Nat) → Cur T n → List Value → World → T
  | 0, k, _, w => k w
  | n + 1, k, v :: l, w => app n (k v) l w
  | n + 1, k, [], w => app n (k undef) [] w
def mk {T : Type} : (n : Nat) → (List Value → World → T) → Cur T n
  | 0, f => f []
  | n + 1, f => fun v => mk n fun l => f (v :: l)
def AllV : Nat → (List Value → Prop) → Prop
  | 0, f => f []
  | n + 1, f => ∀ v, AllV n fun l => f (v :: l)
def LeV : (n : Nat) → Cur Prop n → Cur Prop n → Prop
  | 0, J, r => ∀ w, J w → r w
  | n + 1, J, r => ∀ v, LeV n (J v) (r v)
def LetJ (n : Nat) (body : Cur Prop n → Prop) (r : Cur Prop n) : Prop := ∃ J, body J ∧ LeV n J r
def LoopF (n : Nat) (init : List Value) (w : World) (body : Cur (Cur Prop n → Prop) n) : Prop :=
  ∃ (I : Cur Prop n) (μ : Cur Nat n), app n I init w ∧ AllV n fun vs => ∀ w, app n I vs w → app n body vs w (mk n fun vs' w' => app n I vs' w' ∧ app n μ vs' w' < app n μ vs w)

theorem app_mk {T : Type} (f : List Value → World → T) (n : Nat) (l : List Value) (hl : l.length = n) (w : World) : app n (mk n f) l w = f l w := by
  induction n generalizing f l with
  | zero => simp at hl; subst hl; rfl
  | succ n ih =>
    cases l with
    | nil => simp at hl
    | cons v l => exact ih _ l (by simpa using hl)
theorem AllV_at {f : List Value → Prop} {n : Nat} (h : AllV n f) (l : List Value) (hl : l.length = n) : f l := by
  induction n generalizing f l with
  | zero => simp at hl; subst hl; exact h
  | succ n ih =>
    cases l with
    | nil => simp at hl
    | cons v l => exact ih (h v) l (by simpa using hl)
theorem LeV_at {n : Nat} {J r : Cur Prop n} (h : LeV n J r) (l : List Value) (w : World) (hj : app n J l w) : app n r l w := by
  induction n generalizing l with
  | zero => exact h w hj
  | succ n ih =>
    cases l with
    | nil => exact ih (h undef) [] hj
    | cons v l => exact ih (h v) l hj

abbrev Kx := List (Nat × (Env → World → Prop))
def lift (P : Program) (H : Hints) : Code → Env → World → (Env → World → Prop) → Kx → (Env → World → Prop) → Prop
  | .skip, E, w, nx, _, _ => nx E w
  | .region id ops d, E, w, nx, _, _ =>
    match getK H.reg id with
    | none => False
    | some h => bif d then drawF P H.n ops.toList h nx (2 * ops.toList.length + 2) 0 0 [] E w.drew else seqF P H.n ops.toList nx ops.toList h.cls E w
  | .seq x y, E, w, nx, ex, rt =>
    match getK H.join (keyOf x) with
    | none => lift P H x E w (fun E w => lift P H y E w nx ex rt) ex rt
    | some live => LetJ live.length (fun k => lift P H x E w (fun E' w' => app live.length k (live.map (look H.n E')) w') ex rt)
        (mk live.length fun vs w' => ∀ junk : Env, lift P H y (setAll (havoc E (assigned x) junk) live vs) w' nx ex rt)
  | .cond c x y, E, w, nx, ex, rt => Branch (ev H.n E c) (lift P H x E w nx ex rt) (lift P H y E w nx ex rt)
  | .block id c, E, w, nx, ex, rt => lift P H c E w nx ((id, nx) :: ex) rt
  | .exit id, E, w, _, ex, _ => match getK ex id with | none => False | some k => k E w
  | .ret, E, w, _, _, rt => rt E w
  | .loop c, E, w, _, ex, rt =>
    match keyLoop c with
    | none => False
    | some key =>
      match getK H.loop key with
      | none => False
      | some live => LoopF live.length (live.map (look H.n E)) w (mk live.length fun vs w' k =>
          ∀ junk : Env, lift P H c (setAll (havoc E (assigned c) junk) live vs) w' (fun E' w'' => app live.length k (live.map (look H.n E')) w'') ex rt)
  | _, _, _, _, _, _ => False

def regOk (H : Hints) : Code → Bool
  | .region id ops d => match getK H.reg id with | none => false | some h => bif d then drawOk ops.toList h else ops.toList.all notSelect
  | .seq a b => regOk H a && regOk H b
  | .cond _ a b => regOk H a && regOk H b
  | .block _ a => regOk H a
  | .loop a => regOk H a
  | _ => true

theorem memN_iff {i : Nat} {l : List Nat} : memN i l = true ↔ i ∈ l := by
  induction l with
  | nil => simp [memN]
  | cons x l ih =>
    unfold memN
    cases h : Nat.beq i x with
    | true => simp [Nat.eq_of_beq_eq_true h]
    | false =>
      have : i ≠ x := fun e => by subst e; simp at h
      simp [ih, this]
theorem mem_dsts {s : Nat} {l : List Oper} {o : Oper} (ho : o ∈ l) (hd : o.dst = some s) : s ∈ dsts l := by
  induction l with
  | nil => cases ho
  | cons x l ih =>
    unfold dsts
    cases ho with
    | head => rw [hd]; simp
    | tail _ h => cases x.dst <;> simp [ih h]
/-- What a piece of code does not write is as it was. -/
def Fr (n : Nat) (asg : List Nat) (E E' : Env) : Prop := ∀ s, s < n → s ∉ asg → E' s = E s
theorem Fr.refl (n : Nat) (asg : List Nat) (E : Env) : Fr n asg E E := fun _ _ _ => rfl
theorem Fr.trans {n : Nat} {asg : List Nat} {E E' E'' : Env} (h : Fr n asg E E') (h' : Fr n asg E' E'') : Fr n asg E E'' := fun s hn hs => (h' s hn hs).trans (h s hn hs)
theorem Fr.mono {n : Nat} {a b : List Nat} {E E' : Env} (h : Fr n a E E') (hab : ∀ s ∈ a, s ∈ b) : Fr n b E E' := fun s hn hs => h s hn fun h' => hs (hab s h')
theorem act_congr {n : Nat} {E E' : Env} (h : ∀ i, i < n → E i = E' i) : act n E = act n E' := by
  unfold act
  congr 1
  apply Array.ext
  · simp
  · intro i h1 h2
    simp only [Array.size_ofFn] at h1
    simp [h i h1]
theorem setAll_havoc {n : Nat} {E E' : Env} {asg live : List Nat} (h : Fr n asg E E') : ∀ i, i < n → setAll (havoc E asg E') live (live.map (look n E')) i = E' i := by
  have base : ∀ i, i < n → havoc E asg E' i = E' i := by
    intro i hi
    unfold havoc
    cases hm : memN i asg with
    | true => rfl
    | false => exact (h i hi fun hm' => by rw [memN_iff.2 hm'] at hm; cases hm).symm
  have key : ∀ (live : List Nat) (F : Env), (∀ i, i < n → F i = E' i) → ∀ i, i < n → setAll F live (live.map (look n E')) i = E' i := by
    intro live
    induction live with
    | nil => intro F hF i hi; exact hF i hi
    | cons x l ih =>
      intro F hF i hi
      refine ih _ (fun j hj => ?_) i hi
      rw [set_apply]
      split
      · rename_i e; subst e; rw [look_eq, if_pos hj]
      · exact hF j hj
  exact key live _ base

structure Meets (Q : Exit → Act → World → Prop) (n : Nat) (asg : List Nat) (E : Env) (nx : Env → World → Prop) (ex : Kx) (rt : Env → World → Prop) : Prop where
  next : ∀ E' w, Fr n asg E E' → nx E' w → Q .normal (act n E') w
  exit : ∀ id k, getK ex id = some k → ∀ E' w, Fr n asg E E' → k E' w → Q (.exit id) (act n E') w
  ret : ∀ E' w, rt E' w → Q .ret (act n E') w

theorem lift_wp {P : Program} (hm : P.follows .mixedOrders = true) {H : Hints} : ∀ (c : Code) (E : Env) (w : World) (nx : Env → World → Prop) (ex : Kx) (rt : Env → World → Prop) (Q : Exit → Act → World → Prop),
    regOk H c = true → Meets Q H.n (assigned c) E nx ex rt → lift P H c E w nx ex rt → c.wp P Q (act H.n E) w := by
  intro c
  induction c with
  | skip => intro E w nx ex rt Q _ hM h; exact wp_skip (hM.next _ _ (.refl _ _ _) h)
  | region id ops d =>
    intro E w nx ex rt Q hr hM h
    simp only [regOk] at hr
    simp only [lift] at h
    cases hg : getK H.reg id with
    | none => rw [hg] at h; exact h.elim
    | some r =>
      rw [hg] at h hr
      have hops : ops.toList.toArray = ops := Array.toArray_toList
      have hK : ∀ E' w, (∀ s, (∀ o ∈ ops.toList, o.dst ≠ some s) → E' s = E s) → nx E' w → Q .normal (act H.n E') w :=
        fun E' w hf hn => hM.next _ _ (fun s _ hs => hf s fun o ho e => hs (mem_dsts ho e)) hn
      cases d with
      | true => have := region_draw (r := none) (id := id) hm hr hK h; rw [hops] at this; exact wpIn_wide.1 this
      | false => have := region_seq (r := none) (id := id) hr hK h; rw [hops] at this; exact wpIn_wide.1 this
  | seq x y ihx ihy =>
    intro E w nx ex rt Q hr hM h
    simp only [regOk, Bool.and_eq_true] at hr
    simp only [lift] at h
    have hl : ∀ s ∈ assigned x, s ∈ assigned (.seq x y) := fun s hs => List.mem_append_left _ hs
    have hrr : ∀ s ∈ assigned y, s ∈ assigned (.seq x y) := fun s hs => List.mem_append_right _ hs
    cases hj : getK H.join (keyOf x) with
    | none =>
      rw [hj] at h
      refine wp_seq (ihx E w _ ex rt _ hr.1 ⟨fun E' w' hf hn => ?_, fun id k hk E' w' hf hn => hM.exit id k hk E' w' (hf.mono hl) hn, fun E' w' hn => hM.ret E' w' hn⟩ h)
      exact ihy E' w' nx ex rt Q hr.2 ⟨fun E'' w'' hf' hn' => hM.next _ _ ((hf.mono hl).trans (hf'.mono hrr)) hn', fun id k hk E'' w'' hf' hn' => hM.exit id k hk _ _ ((hf.mono hl).trans (hf'.mono hrr)) hn', hM.ret⟩ hn
    | some live =>
      rw [hj] at h
      obtain ⟨J, h1, h2⟩ := h
      refine wp_seq (ihx E w _ ex rt _ hr.1 ⟨fun E' w' hf hn => ?_, fun id k hk E' w' hf hn => hM.exit id k hk E' w' (hf.mono hl) hn, fun E' w' hn => hM.ret E' w' hn⟩ h1)
      have := LeV_at h2 _ _ hn
      rw [app_mk _ _ _ (by simp)] at this
      have hy := this E'
      show y.wp P Q (act H.n E') w'
      rw [show act H.n E' = act H.n (setAll (havoc E (assigned x) E') live (live.map (look H.n E'))) from (act_congr (setAll_havoc hf)).symm]
      have hfr : ∀ E'', Fr H.n (assigned y) (setAll (havoc E (assigned x) E') live (live.map (look H.n E'))) E'' → Fr H.n (assigned (.seq x y)) E E'' := by
        intro E'' hf' s hs hs'
        rw [hf' s hs fun h' => hs' (hrr s h'), setAll_havoc hf s hs]
        exact hf s hs fun h' => hs' (hl s h')
      exact ihy _ w' nx ex rt Q hr.2 ⟨fun E'' w'' hf' hn' => hM.next E'' w'' (hfr E'' hf') hn', fun id k hk E'' w'' hf' hn' => hM.exit id k hk E'' w'' (hfr E'' hf') hn', hM.ret⟩ hy
  | cond c x y ihx ihy =>
    intro E w nx ex rt Q hr hM h
    simp only [regOk, Bool.and_eq_true] at hr
    simp only [lift] at h
    obtain ⟨t, ht, h1, h2⟩ := h
    refine wp_cond_split (t := t) (by rw [act_eval]; exact ht) (fun e => ?_) (fun e => ?_)
    · exact ihx E w nx ex rt Q hr.1 ⟨fun E' w' hf => hM.next E' w' (hf.mono fun s hs => List.mem_append_left _ hs), fun id k hk E' w' hf => hM.exit id k hk E' w' (hf.mono fun s hs => List.mem_append_left _ hs), hM.ret⟩ (h1 e)
    · exact ihy E w nx ex rt Q hr.2 ⟨fun E' w' hf => hM.next E' w' (hf.mono fun s hs => List.mem_append_right _ hs), fun id k hk E' w' hf => hM.exit id k hk E' w' (hf.mono fun s hs => List.mem_append_right _ hs), hM.ret⟩ (h2 e)
  | block id c ih =>
    intro E w nx ex rt Q hr hM h
    simp only [regOk] at hr
    simp only [lift] at h
    refine wp_block (ih E w nx _ rt _ hr ⟨fun E' w' hf hn => hM.next E' w' hf hn, fun id' k hk E' w' hf hn => ?_, fun E' w' hn => hM.ret E' w' hn⟩ h)
    show Exit.inBlock id Q (.exit id') (act H.n E') w'
    unfold getK at hk
    simp only [Exit.inBlock]
    cases hb : Nat.beq id id' with
    | true =>
      rw [hb] at hk
      simp only [cond_true, Option.some.injEq] at hk
      subst hk
      rw [if_pos (Nat.eq_of_beq_eq_true hb).symm]
      exact hM.next E' w' hf hn
    | false =>
      rw [hb] at hk
      rw [if_neg fun e => by subst e; simp at hb]
      exact hM.exit id' k hk E' w' hf hn
  | exit id =>
    intro E w nx ex rt Q hr hM h
    simp only [lift] at h
    cases hk : getK ex id with
    | none => rw [hk] at h; exact h.elim
    | some k => rw [hk] at h; exact wp_exit (hM.exit id k hk E w (.refl _ _ _) h)
  | ret => intro E w nx ex rt Q _ hM h; exact wp_ret (hM.ret E w h)
  | loop c ih =>
    intro E w nx ex rt Q hr hM h
    simp only [regOk] at hr
    simp only [lift] at h
    cases hkey : keyLoop c with
    | none => rw [hkey] at h; exact h.elim
    | some key =>
      rw [hkey] at h
      simp only [] at h
      cases hl : getK H.loop key with
      | none => rw [hl] at h; exact h.elim
      | some live =>
        rw [hl] at h
        obtain ⟨I, μ, h0, hround⟩ := h
        refine wp_loop (fun a w => ∃ E', a = act H.n E' ∧ Fr H.n (assigned c) E E' ∧ app live.length I (live.map (look H.n E')) w)
          (fun a w => app live.length μ (live.map fun t => a.tmps.getD t undef) w) ⟨E, rfl, .refl _ _ _, h0⟩ ?_
        rintro a w' ⟨E', rfl, hf, hI⟩
        have hb := AllV_at hround (live.map (look H.n E')) (by simp) w' hI
        rw [app_mk _ _ _ (by simp)] at hb
        have hb := hb E'
        rw [show act H.n E' = act H.n (setAll (havoc E (assigned c) E') live (live.map (look H.n E'))) from (act_congr (setAll_havoc hf)).symm]
        have hfr : ∀ E'', Fr H.n (assigned c) (setAll (havoc E (assigned c) E') live (live.map (look H.n E'))) E'' → Fr H.n (assigned c) E E'' :=
          fun E'' hf' s hs hs' => by rw [hf' s hs hs', setAll_havoc hf s hs]; exact hf s hs hs'
        refine ih _ w' _ ex rt _ hr ⟨fun E'' w'' hf' hn' => ?_, fun id k hk E'' w'' hf' hn => hM.exit id k hk E'' w'' (hfr E'' hf') hn, fun E'' w'' hn => hM.ret E'' w'' hn⟩ hb
        rw [app_mk _ _ _ (by simp)] at hn'
        have e1 : ∀ F : Env, (live.map fun t => (act H.n F).tmps.getD t undef) = live.map (look H.n F) := fun F => List.map_congr_left fun t _ => act_getD H.n F t
        have e2 : live.map (look H.n (setAll (havoc E (assigned c) E') live (live.map (look H.n E')))) = live.map (look H.n E') :=
          List.map_congr_left fun t _ => by
            rw [look_eq, look_eq]
            split
            · rename_i ht; exact setAll_havoc hf t ht
            · rfl
        show (∃ E3, act H.n E'' = act H.n E3 ∧ Fr H.n (assigned c) E E3 ∧ app live.length I (live.map (look H.n E3)) w'') ∧
          app live.length μ (live.map fun t => (act H.n E'').tmps.getD t undef) w'' < app live.length μ (live.map fun t => (act H.n _).tmps.getD t undef) w'
        rw [e1, e1, e2]
        exact ⟨⟨E'', rfl, hfr E'' hf', hn'.1⟩, hn'.2⟩
  | rangeFunc => intro E w nx ex rt Q _ _ h; exact h.elim
  | scope => intro E w nx ex rt Q _ _ h; exact h.elim
  | label => intro E w nx ex rt Q _ _ h; exact h.elim
  | goto => intro E w nx ex rt Q _ _ h; exact h.elim
  | refuse => intro E w nx ex rt Q _ _ h; exact h.elim

/-! ### A call -/
def envOf : List Value → Nat → Env
  | [], _ => fun _ => undef
  | v :: l, i => (envOf l (i + 1)).set i v
def resV (P : Program) (n : Nat) (E : Env) : List ResultVar → World → (List Value → Prop) → Prop
  | [], _, K => K []
  | .tmp t :: l, w, K => resV P n E l w fun vs => K (look n E t :: vs)
  | .cell a ty :: l, w, K => QRun P (Instr.loadAt ty (look n E a)) w fun v => resV P n E l w fun vs => K (v :: vs)
def retV : List Value → Value
  | [v] => v
  | vs => .tuple vs.toArray
theorem envOf_get (l : List Value) (k i : Nat) : envOf l k i = if k ≤ i then (l[i - k]?).getD undef else undef := by
  induction l generalizing k with
  | nil => simp [envOf]
  | cons v l ih =>
    simp only [envOf, set_apply, ih]
    by_cases h : i = k
    · subst h; simp
    · rw [if_neg h]
      by_cases h1 : k ≤ i
      · have : k + 1 ≤ i := by omega
        rw [if_pos this, if_pos h1]
        obtain ⟨d, rfl⟩ : ∃ d, i = k + 1 + d := ⟨i - (k + 1), by omega⟩
        rw [show k + 1 + d - (k + 1) = d by omega, show k + 1 + d - k = d + 1 by omega]
        simp
      · rw [if_neg h1, if_neg (by omega)]
theorem act_init (args : List Value) (n : Nat) (h : args.length ≤ n) : ({ tmps := args.toArray ++ Array.replicate (n - args.length) undef, defers := [] } : Act) = act n (envOf args 0) := by
  unfold act
  congr 1
  apply Array.ext
  · simp; omega
  · intro i h1 h2
    simp only [Array.getElem_ofFn, envOf_get, Nat.zero_le, if_true, Nat.sub_zero]
    rw [Array.getElem_append]
    by_cases hi : i < args.length
    · simp [hi]
    · simp [hi]
theorem resV_results {P : Program} {n : Nat} {E : Env} {fn : Func} {w : World} {K : List Value → Prop} (h : resV P n E fn.results.toList w K) :
    ∃ vs, (results fn (act n E).tmps).run P w = .ok (retV vs) w ∧ K vs := by
  have key : ∀ (l : List ResultVar) (K : List Value → Prop), resV P n E l w K →
      ∃ vs, (l.mapM fun | .tmp t => pure ((act n E).tmps.getD t undef) | .cell a t => do loadVar t (← asAddr ((act n E).tmps.getD a undef)) : Sem (List Value)).run P w = .ok vs w ∧ K vs := by
    intro l
    induction l with
    | nil => intro K h; exact ⟨[], rfl, h⟩
    | cons x l ih =>
      intro K h
      cases x with
      | tmp t =>
        obtain ⟨vs, h1, h2⟩ := ih _ h
        refine ⟨_, ?_, h2⟩
        rw [List.mapM_cons]
        rw [Sem.run_bind, Sem.run_pure, Result.andThen_ok, Sem.run_bind, h1, Result.andThen_ok, Sem.run_pure, act_getD]
      | cell a ty =>
        obtain ⟨v, hv, h⟩ := h
        obtain ⟨vs, h1, h2⟩ := ih _ h
        refine ⟨_, ?_, h2⟩
        rw [List.mapM_cons]
        have hl : (do loadVar ty (← asAddr ((act n E).tmps.getD a undef)) : Sem Value).run P w = .ok v w := by
          rw [act_getD]
          unfold Instr.loadAt at hv
          show (asAddr (look n E a) >>= fun x => loadVar ty x).run P w = _
          change (Instr.sureAddr (look n E a) >>= fun x => loadVar ty x).run P w = _ at hv
          cases hx : look n E a <;> rw [hx] at hv <;> simp only [Instr.sureAddr] at hv
          case pointer p => cases p <;> first | exact hv | (simp [stuck, Sem.run_bind] at hv)
          all_goals (simp [stuck, Sem.run_bind] at hv)
        rw [Sem.run_bind, hl, Result.andThen_ok, Sem.run_bind, h1, Result.andThen_ok, Sem.run_pure]
  obtain ⟨vs, h1, h2⟩ := key _ K h
  refine ⟨vs, ?_, h2⟩
  unfold results
  rw [Array.mapM_eq_mapM_toList]
  rw [Sem.run_bind, Sem.run_map]
  refine (congrArg (fun r : Result (List Value) => (r.andThen fun a w' => Result.ok a.toArray w').andThen fun a w' => Sem.run P (pure (if h : a.size = 1 then a[0] else Value.tuple a)) w') h1).trans ?_
  simp only [Result.andThen_ok]
  rw [Sem.run_pure]
  congr 1
  match vs with
  | [] => rfl
  | [v] => rfl
  | v :: u :: l => simp [retV]

theorem lift_call {P : Program} (hm : P.follows .mixedOrders = true) {H : Hints} {f : FuncId} {fn : Func} {c : Code} (hf : P.funcs[f]? = some fn) (hb : fn.body = some c) (hn : fn.ntmps = H.n)
    (hr : regOk H c = true) {args : List Value} (ha : args.length ≤ H.n) {w : World} {K : Value → World → Prop}
    (h : lift P H c (envOf args 0) w (fun E w => resV P H.n E fn.results.toList w fun vs => K (retV vs) w) [] (fun E w => resV P H.n E fn.results.toList w fun vs => K (retV vs) w)) :
    Calls P f args.toArray w (retK K) := by
  refine calls_of_wp hf hb ?_
  rw [hn]
  rw [show (args.toArray ++ Array.replicate (H.n - args.toArray.size) undef) = (act H.n (envOf args 0)).tmps from congrArg Act.tmps (act_init args H.n ha)]
  refine lift_wp hm c (envOf args 0) w _ _ _ _ hr ⟨fun E' w' _ hk => ?_, fun id k hk => by simp [getK] at hk, fun E' w' hk => ?_⟩ h
  · obtain ⟨vs, h1, h2⟩ := resV_results hk
    exact ⟨rfl, _, h1, h2⟩
  · obtain ⟨vs, h1, h2⟩ := resV_results hk
    exact ⟨rfl, _, h1, h2⟩
end Go.Lf
/-
  What single operations come to, as equations of propositions, for a walk by simp.
-/
namespace Go.Lf
open Go

abbrev ptr (b o : Nat) : Value := .pointer (some ⟨b, o, none⟩)
def Hp (w : World) (b : Nat) : Option Obj := w.heap[b]?
def sz (w : World) : Nat := w.heap.size
def put (w : World) (b : Nat) (o : Obj) : World := { w with heap := w.heap.setIfInBounds b o }

theorem Hp_lt {w : World} {b : Nat} {o : Obj} (h : Hp w b = some o) : b < sz w := by
  unfold Hp at h
  exact (Array.getElem?_eq_some_iff.1 h).1
theorem sz_alloc (w : World) (o : Obj) : sz (w.alloc o) = sz w + 1 := by simp [sz]
theorem sz_put (w : World) (b : Nat) (o : Obj) : sz (put w b o) = sz w := by simp [sz, put]
theorem sz_drew (w : World) : sz w.drew = sz w := Nat.le_antisymm (Nat.le_refl _) (Nat.le_refl _)
theorem Hp_drew (w : World) (b : Nat) : Hp w.drew b = Hp w b := by
  have h : w.drew.heap = w.heap := rfl
  unfold Hp; rw [h]
theorem Hp_alloc_new (w : World) (o : Obj) (b : Nat) (h : b = sz w) : Hp (w.alloc o) b = some o := by subst h; exact heap_alloc_new w o
theorem Hp_alloc_old (w : World) (o : Obj) (b : Nat) (h : b < sz w) : Hp (w.alloc o) b = Hp w b := by
  unfold Hp World.alloc; unfold sz at h
  rw [Array.getElem?_push, if_neg (by omega)]
theorem Hp_put_same (w : World) (b : Nat) (o : Obj) (h : b < sz w) : Hp (put w b o) b = some o := by
  unfold Hp put; unfold sz at h; simp [h]
theorem Hp_put_other (w : World) (b b' : Nat) (o : Obj) (h : b' ≠ b) : Hp (put w b o) b' = Hp w b' := by
  unfold Hp put; rw [Array.getElem?_setIfInBounds, if_neg fun e => h e.symm]

/-! ### Plain values -/
theorem PRun_eq {P : Program} {s : Sem Value} {v : Value} (h : ∀ w, s.run P w = .ok v w) (K : Value → Prop) : PRun P s K = K v := by
  unfold PRun
  refine propext ⟨fun ⟨u, hu, hk⟩ => ?_, fun hk => ⟨v, h, hk⟩⟩
  have := (hu default).symm.trans (h default)
  simp only [Result.ok.injEq] at this
  rw [← this.1]; exact hk
theorem QRun_eq {P : Program} {s : Sem Value} {w : World} {v : Value} (h : s.run P w = .ok v w) (K : Value → Prop) : QRun P s w K = K v := by
  unfold QRun
  refine propext ⟨fun ⟨u, hu, hk⟩ => ?_, fun hk => ⟨v, h, hk⟩⟩
  have := hu.symm.trans h
  simp only [Result.ok.injEq] at this
  rw [← this.1]; exact hk
theorem Run_eq {α : Type} {P : Program} {s : Sem α} {w w' : World} {v : α} (h : s.run P w = .ok v w') (K : α → World → Prop) : Run P s w K = K v w' := by
  unfold Run; rw [h]
theorem NilCk_ptr (a : Addr) (K : Value → Prop) : NilCk (.pointer (some a)) K = K (.pointer (some a)) := rfl
theorem NilCk_func (f : FuncId) (x y : Array Value) (K : Value → Prop) : NilCk (.func (.func f) x y) K = K (.func (.func f) x y) := rfl
theorem Pick_bool (t : Bool) (a b : Value) (K : Value → Prop) : Pick (.bool t) a b K = K (bif t then a else b) := by
  unfold Pick
  refine propext ⟨fun ⟨u, hu, hk⟩ => ?_, fun hk => ⟨t, rfl, hk⟩⟩
  simp only [Value.bool.injEq] at hu; rw [hu]; exact hk
theorem Branch_bool (t : Bool) (A B : Prop) : Branch (.bool t) A B = ((t = true → A) ∧ (t = false → B)) := by
  unfold Branch
  refine propext ⟨fun ⟨u, hu, h⟩ => ?_, fun h => ⟨t, rfl, h⟩⟩
  simp only [Value.bool.injEq] at hu; rw [hu]; exact h
theorem Branch_true (A B : Prop) : Branch (.bool true) A B = A := by rw [Branch_bool]; simp
theorem Branch_false (A B : Prop) : Branch (.bool false) A B = B := by rw [Branch_bool]; simp
theorem Gd_true (t : Bool) (A : (Value → Prop) → Prop) (K : Value → Prop) (h : t = true) : Gd (.bool t) true A K = A K := by subst h; unfold Gd; simp
theorem Gd_false (t : Bool) (A : (Value → Prop) → Prop) (K : Value → Prop) (h : t = false) : Gd (.bool t) true A K = K undef := by subst h; unfold Gd; simp
theorem Gdn_true (t : Bool) (A : (Value → Prop) → Prop) (K : Value → Prop) (h : t = false) : Gd (.bool t) false A K = A K := by subst h; unfold Gd; simp
theorem Gdn_false (t : Bool) (A : (Value → Prop) → Prop) (K : Value → Prop) (h : t = true) : Gd (.bool t) false A K = K undef := by subst h; unfold Gd; simp
theorem GdE_true (t : Bool) (A : (Value → World → Prop) → Prop) (w : World) (K : Value → World → Prop) (h : t = true) : GdE (.bool t) true A w K = A K := by subst h; unfold GdE; simp
theorem GdE_false (t : Bool) (A : (Value → World → Prop) → Prop) (w : World) (K : Value → World → Prop) (h : t = false) : GdE (.bool t) true A w K = K undef w := by subst h; unfold GdE; simp
theorem GdEn_true (t : Bool) (A : (Value → World → Prop) → Prop) (w : World) (K : Value → World → Prop) (h : t = false) : GdE (.bool t) false A w K = A K := by subst h; unfold GdE; simp
theorem GdEn_false (t : Bool) (A : (Value → World → Prop) → Prop) (w : World) (K : Value → World → Prop) (h : t = true) : GdE (.bool t) false A w K = K undef w := by subst h; unfold GdE; simp

/-! ### Whole numbers -/
abbrev i64 (n : Int) : Value := .int .i64 n
def wr (n : Int) : Int := IntKind.i64.wrap n
theorem wr_in (n : Int) (h : -9223372036854775808 ≤ n ∧ n ≤ 9223372036854775807) : wr n = n := by
  unfold wr IntKind.wrap
  simp only [IntKind.signed, IntKind.bits]
  simp
  omega
section ints
variable {P : Program} (t : TypeId) (K : Value → Prop)
theorem p_add (a b : Int) : PRun P (binOp .add t (i64 a) (i64 b)) K = K (i64 (wr (a + b))) := PRun_eq (fun _ => rfl) K
theorem p_sub (a b : Int) : PRun P (binOp .sub t (i64 a) (i64 b)) K = K (i64 (wr (a - b))) := PRun_eq (fun _ => rfl) K
theorem p_mul (a b : Int) : PRun P (binOp .mul t (i64 a) (i64 b)) K = K (i64 (wr (a * b))) := PRun_eq (fun _ => rfl) K
theorem p_lss (k : IntKind) (a b : Int) : PRun P (binOp .lss t (.int k a) (.int k b)) K = K (.bool (decide (a < b))) := PRun_eq (fun _ => by simp [binOp, Op.intCmp]) K
theorem p_leq (k : IntKind) (a b : Int) : PRun P (binOp .leq t (.int k a) (.int k b)) K = K (.bool (decide (a ≤ b))) := PRun_eq (fun _ => by simp [binOp, Op.intCmp]) K
theorem p_gtr (k : IntKind) (a b : Int) : PRun P (binOp .gtr t (.int k a) (.int k b)) K = K (.bool (decide (b < a))) := PRun_eq (fun _ => by simp [binOp, Op.intCmp]) K
theorem p_geq (k : IntKind) (a b : Int) : PRun P (binOp .geq t (.int k a) (.int k b)) K = K (.bool (decide (b ≤ a))) := PRun_eq (fun _ => by simp [binOp, Op.intCmp]) K
theorem p_eql (k : IntKind) (a b : Int) (x y : Operand) : PRun P (eqS .eql t x y (.int k a) (.int k b)) K = K (.bool (decide (a = b))) :=
  PRun_eq (fun _ => by simp [eqS, eqGuard, binOp, Op.intCmp]; by_cases h : a = b <;> simp [h]) K
theorem p_neq (k : IntKind) (a b : Int) (x y : Operand) : PRun P (eqS .neq t x y (.int k a) (.int k b)) K = K (.bool (!decide (a = b))) :=
  PRun_eq (fun _ => by simp [eqS, eqGuard, binOp, Op.intCmp]; by_cases h : a = b <;> simp [h]) K
theorem p_not (b : Bool) : PRun P (Op.unary .not (.bool b)) K = K (.bool (!b)) := PRun_eq (fun _ => rfl) K
theorem p_neg (n : Int) : PRun P (Op.unary .neg (i64 n)) K = K (i64 (wr (0 - n))) := PRun_eq (fun _ => rfl) K
theorem p_extract (vs : Array Value) (i : Nat) (v : Value) (h : vs[i]? = some v) : PRun P (Instr.extract (.tuple vs) i) K = K v := PRun_eq (fun _ => by simp [Instr.extract, h]) K
theorem p_extract0 (a : Value) (l : List Value) : PRun P (Instr.extract (.tuple (List.toArray (a :: l))) 0) K = K a := p_extract K _ _ _ (by simp)
theorem p_extract1 (a b : Value) (l : List Value) : PRun P (Instr.extract (.tuple (List.toArray (a :: b :: l))) 1) K = K b := p_extract K _ _ _ (by simp)
theorem p_extract2 (a b c : Value) (l : List Value) : PRun P (Instr.extract (.tuple (List.toArray (a :: b :: c :: l))) 2) K = K c := p_extract K _ _ _ (by simp)
theorem p_max (ts : Array TypeId) (x y : Int) : PRun P (Builtin.max_ ts t #[i64 x, i64 y]) K = K (i64 (max x y)) := PRun_eq (fun w => by
  rw [run_max_int2]; congr 2; rw [Int.max_def]; split <;> split <;> omega) K
theorem p_min (ts : Array TypeId) (x y : Int) : PRun P (Builtin.min_ ts t #[i64 x, i64 y]) K = K (i64 (min x y)) := PRun_eq (fun w => by
  rw [run_min_int2]; congr 2; rw [Int.min_def]; split <;> split <;> omega) K
theorem p_rem (a b : Int) (h : b ≠ 0) : PRun P (binOp .rem t (i64 a) (i64 b)) K = K (i64 (a.tmod b)) := PRun_eq (fun _ => by
  simp [binOp, Op.intDiv, h]) K
theorem p_quo (a b : Int) (h : b ≠ 0) : PRun P (binOp .quo t (i64 a) (i64 b)) K = K (i64 (wr (a.tdiv b))) := PRun_eq (fun _ => by
  simp [binOp, Op.intDiv, h, wr]) K
end ints

/-! ### Memory -/
/-- What is left where a load or a store is not known to go well. -/
def LFail (P : Program) (T : TypeId) (b o : Nat) (w : World) (K : Value → Prop) : Prop := QRun P (Instr.loadAt T (ptr b o)) w K
def L1 (P : Program) (T : TypeId) (w : World) (b o : Nat) (x : Option Obj) (K : Value → Prop) : Prop :=
  match x with
  | some (.cells cs _ _) => (cs[o]?).elim (LFail P T b o w K) K
  | _ => LFail P T b o w K
def Ln (P : Program) (T : TypeId) (n : Nat) (w : World) (b o : Nat) (x : Option Obj) (K : Value → Prop) : Prop :=
  match x with
  | some (.cells cs _ _) => if o + n ≤ cs.size then K (.agg (cs.extract o (o + n))) else LFail P T b o w K
  | _ => LFail P T b o w K
theorem L1_cells (P : Program) (T : TypeId) (w : World) (b o : Nat) (cs : Array Value) (U : TypeId) (fr : Nat × Nat) (K : Value → Prop) :
    L1 P T w b o (some (.cells cs U fr)) K = (cs[o]?).elim (LFail P T b o w K) K := rfl
theorem Ln_cells (P : Program) (T : TypeId) (n : Nat) (w : World) (b o : Nat) (cs : Array Value) (U : TypeId) (fr : Nat × Nat) (K : Value → Prop) :
    Ln P T n w b o (some (.cells cs U fr)) K = if o + n ≤ cs.size then K (.agg (cs.extract o (o + n))) else LFail P T b o w K := rfl
theorem cell_Hp {w : World} {b : Nat} {cs : Array Value} {U : TypeId} {fr : Nat × Nat} (h : Hp w b = some (.cells cs U fr)) (j : Nat) : w.cell? ⟨b, j, none⟩ = cs[j]? := cell_of_row w b j cs U fr h
section mem
variable {P : Program} {T : TypeId}
theorem run_load1 (ha : ∀ w, (isAgg T).run P w = .ok false w) {w : World} {b o : Nat} {v : Value} (h : w.cell? ⟨b, o, none⟩ = some v) : (Instr.loadAt T (ptr b o)).run P w = .ok v w := by
  show (Instr.sureAddr (ptr b o) >>= fun x => loadVar T x).run P w = _
  simp only [Instr.sureAddr, Sem.run_bind, Sem.run_pure, Result.andThen_ok]
  unfold loadVar
  rw [Sem.run_bind, ha, Result.andThen_ok]
  simp only [Bool.false_eq_true, if_false]
  unfold load
  simp only [Sem.run, h]
theorem run_loadn {n : Nat} (ha : ∀ w, (isAgg T).run P w = .ok true w) (hs : ∀ w, (sizeOf T).run P w = .ok n w) {w : World} {b o : Nat} {cs : Array Value} {U : TypeId} {fr : Nat × Nat}
    (h : Hp w b = some (.cells cs U fr)) (hn : o + n ≤ cs.size) : (Instr.loadAt T (ptr b o)).run P w = .ok (.agg (cs.extract o (o + n))) w := by
  show (Instr.sureAddr (ptr b o) >>= fun x => loadVar T x).run P w = _
  simp only [Instr.sureAddr, Sem.run_bind, Sem.run_pure, Result.andThen_ok]
  unfold loadVar
  rw [Sem.run_bind, ha, Result.andThen_ok]
  simp only [if_true]
  rw [Sem.run_bind, hs, Result.andThen_ok, Sem.run_bind]
  have key : ∀ (m i : Nat) (acc : Array Value), o + i + m ≤ cs.size → (loadCellsFrom ⟨b, o, none⟩ i m acc).run P w = .ok (acc ++ cs.extract (o + i) (o + i + m)) w := by
    intro m
    induction m with
    | zero => intro i acc _; simp [loadCellsFrom]; omega
    | succ m ih =>
      intro i acc hm
      unfold loadCellsFrom
      have hcell : w.cell? ((⟨b, o, none⟩ : Addr).add i) = some (cs[o + i]'(by omega)) := by
        have e : ((⟨b, o, none⟩ : Addr).add i) = ⟨b, o + i, none⟩ := by unfold Addr.add; split <;> simp_all
        rw [e, cell_Hp h, Array.getElem?_eq_getElem (by omega)]
      rw [Sem.run_bind]
      unfold load
      simp only [Sem.run, hcell, Result.andThen_ok]
      rw [ih (i + 1) _ (by omega)]
      congr 1
      have e1 : cs.extract (o + i) (o + i + (m + 1)) = #[cs[o + i]'(by omega)] ++ cs.extract (o + (i + 1)) (o + (i + 1) + m) := by
        apply Array.ext_getElem?
        intro j
        rw [Array.getElem?_append]
        simp only [Array.getElem?_extract, List.size_toArray, List.length_cons, List.length_nil]
        by_cases hj : j < 1
        · have : j = 0 := by omega
          subst this
          rw [if_pos (by omega), if_pos (by omega)]
          simp
        · rw [if_neg hj]
          by_cases hj2 : j < m + 1
          · rw [if_pos (by omega), if_pos (by omega)]
            congr 1; omega
          · rw [if_neg (by omega), if_neg (by omega)]
      rw [e1, ← Array.append_assoc]
      congr 1
  unfold loadCells
  have := key n 0 #[] (by omega)
  simp only [Nat.add_zero, Array.empty_append] at this
  rw [this]; rfl
theorem q_load1 (ha : ∀ w, (isAgg T).run P w = .ok false w) (w : World) (b o : Nat) (K : Value → Prop) : QRun P (Instr.loadAt T (ptr b o)) w K = L1 P T w b o (Hp w b) K := by
  unfold L1
  split
  · rename_i cs U fr h
    cases hv : cs[o]? with
    | none => rfl
    | some v => exact QRun_eq (run_load1 ha (by rw [cell_Hp h]; exact hv)) K
  · rfl
theorem q_loadn {n : Nat} (ha : ∀ w, (isAgg T).run P w = .ok true w) (hs : ∀ w, (sizeOf T).run P w = .ok n w) (w : World) (b o : Nat) (K : Value → Prop) :
    QRun P (Instr.loadAt T (ptr b o)) w K = Ln P T n w b o (Hp w b) K := by
  unfold Ln
  split
  · rename_i cs U fr h
    split
    · rename_i hn; exact QRun_eq (run_loadn ha hs h hn) K
    · rfl
  · rfl

/-- A part of a row written anew. -/
def splice (cs : Array Value) (o : Nat) (vs : Array Value) : Array Value := cs.extract 0 o ++ vs ++ cs.extract (o + vs.size) cs.size
theorem splice_size {cs vs : Array Value} {o : Nat} (h : o + vs.size ≤ cs.size) : (splice cs o vs).size = cs.size := by simp [splice]; omega
theorem splice_all (cs vs : Array Value) (h : vs.size = cs.size) : splice cs 0 vs = vs := by simp [splice, h]
theorem splice_get {cs vs : Array Value} {o : Nat} (h : o + vs.size ≤ cs.size) (i : Nat) : (splice cs o vs)[i]? = if o ≤ i ∧ i < o + vs.size then vs[i - o]? else cs[i]? := by
  unfold splice
  rw [Array.getElem?_append, Array.getElem?_append]
  simp only [Array.size_append, Array.size_extract, Nat.min_def, Array.getElem?_extract]
  have e0 : (if o ≤ cs.size then o else cs.size) - 0 = o := by split <;> omega
  by_cases h1 : i < o
  · rw [if_neg (by omega : ¬ (o ≤ i ∧ i < o + vs.size))]
    simp only [e0]
    rw [if_pos (by omega), if_pos h1, if_pos (by omega)]; congr 1; omega
  · by_cases h2 : i < o + vs.size
    · simp only [e0]
      rw [if_pos h2, if_neg h1, if_pos (⟨by omega, h2⟩ : o ≤ i ∧ i < o + vs.size)]
    · rw [if_neg (by omega : ¬ (o ≤ i ∧ i < o + vs.size))]
      simp only [e0]
      rw [if_neg h2]
      by_cases h3 : i < cs.size
      · rw [if_pos (by simp; omega)]; congr 1; omega
      · rw [if_neg (by simp; omega), Array.getElem?_eq_none (by omega)]
theorem splice_one (cs : Array Value) (o : Nat) (v : Value) (h : o < cs.size) : splice cs o #[v] = cs.setIfInBounds o v := by
  apply Array.ext_getElem?
  intro i
  rw [splice_get (by simp; omega), Array.getElem?_setIfInBounds]
  simp only [List.size_toArray, List.length_cons, List.length_nil]
  by_cases e : o = i
  · subst e; rw [if_pos ⟨by omega, by omega⟩, if_pos rfl, if_pos h]; simp
  · rw [if_neg (by omega), if_neg e]
end mem
end Go.Lf
namespace Go.Lf
open Go

theorem put_setCell {w : World} {b o : Nat} {cs : Array Value} {U : TypeId} {fr : Nat × Nat} (h : Hp w b = some (.cells cs U fr)) (v : Value) :
    w.setCell ⟨b, o, none⟩ v = put w b (.cells (cs.setIfInBounds o v) U fr) := by
  unfold World.setCell put
  congr 1
  unfold Hp at h
  apply Array.ext_getElem?
  intro i
  rw [Array.getElem?_modify, Array.getElem?_setIfInBounds]
  by_cases e : b = i
  · subst e
    rw [if_pos rfl, if_pos rfl, if_pos (Array.getElem?_eq_some_iff.1 h).1, h]
    simp
  · rw [if_neg e, if_neg e]
theorem put_put (w : World) (b : Nat) (o o' : Obj) : put (put w b o) b o' = put w b o' := by
  unfold put
  congr 1
  apply Array.ext_getElem?
  intro i
  simp only [Array.getElem?_setIfInBounds, Array.size_setIfInBounds]
  split <;> rfl
theorem put_self {w : World} {b : Nat} {o : Obj} (h : Hp w b = some o) : put w b o = w := by
  unfold put
  have : w.heap.setIfInBounds b o = w.heap := by
    apply Array.ext_getElem?
    intro i
    rw [Array.getElem?_setIfInBounds]
    unfold Hp at h
    have hl := (Array.getElem?_eq_some_iff.1 h).1
    split
    · rename_i e; subst e; first | exact h.symm | rw [if_pos hl, h]
    · rfl
  rw [this]

def SFail (P : Program) (T : TypeId) (b o : Nat) (v : Value) (w : World) (K : Unit → World → Prop) : Prop := Run P (Instr.storeAt T (ptr b o) v) w K
def St (P : Program) (T : TypeId) (n : Nat) (w : World) (b o : Nat) (v : Value) (x : Option Obj) (K : Unit → World → Prop) : Prop :=
  match x with
  | some (.cells cs U fr) => if fr = (0, 0) ∧ v.cells.size = n ∧ o + n ≤ cs.size then K () (put w b (.cells (splice cs o v.cells) U fr)) else SFail P T b o v w K
  | _ => SFail P T b o v w K
theorem St_cells (P : Program) (T : TypeId) (n : Nat) (w : World) (b o : Nat) (v : Value) (cs : Array Value) (U : TypeId) (K : Unit → World → Prop) :
    St P T n w b o v (some (.cells cs U (0, 0))) K = if v.cells.size = n ∧ o + n ≤ cs.size then K () (put w b (.cells (splice cs o v.cells) U (0, 0))) else SFail P T b o v w K := by
  unfold St; simp

def oneCell : Value → Prop
  | .agg _ => False
  | .tuple _ => False
  | _ => True
theorem run_store1 {P : Program} {w : World} {b o : Nat} {cs : Array Value} {U : TypeId} {v : Value} (h : Hp w b = some (.cells cs U (0, 0))) (ho : o < cs.size) (hv : oneCell v) :
    (store ⟨b, o, none⟩ v).run P w = .ok () (put w b (.cells (cs.setIfInBounds o v) U (0, 0))) := by
  have hc : w.cell? ⟨b, o, none⟩ = some cs[o] := by rw [cell_Hp h, Array.getElem?_eq_getElem ho]
  have hf : w.frozen? ⟨b, o, none⟩ = false := frozen_of_row w b o cs U h
  unfold store
  cases v <;> first | exact hv.elim | simp only [Sem.run, hc, hf, put_setCell h, Bool.false_eq_true, if_false]
theorem run_storeCells {P : Program} : ∀ (vs : List Value) (w : World) (b o i : Nat) (cs : Array Value) (U : TypeId), Hp w b = some (.cells cs U (0, 0)) → o + i + vs.length ≤ cs.size → (∀ v ∈ vs, oneCell v) →
    (storeCells ⟨b, o, none⟩ vs i).run P w = .ok () (put w b (.cells (splice cs (o + i) vs.toArray) U (0, 0))) := by
  intro vs
  induction vs with
  | nil =>
    intro w b o i cs U h hl _
    have e : splice cs (o + i) #[] = cs := by
      apply Array.ext_getElem?
      intro j
      rw [splice_get (by simpa using hl)]
      simp only [List.size_toArray, List.length_nil]
      rw [if_neg (by omega)]
    rw [e, put_self h]; rfl
  | cons v vs ih =>
    intro w b o i cs U h hl hv
    simp only [List.length_cons] at hl
    unfold storeCells
    have e : ((⟨b, o, none⟩ : Addr).add i) = ⟨b, o + i, none⟩ := by unfold Addr.add; split <;> simp_all
    rw [e, Sem.run_bind, run_store1 h (by omega) (hv v (by simp)), Result.andThen_ok]
    have hb := Hp_lt h
    rw [ih (put w b (.cells (cs.setIfInBounds (o + i) v) U (0, 0))) b o (i + 1) _ U (Hp_put_same _ _ _ hb) (by simp; omega) (fun u hu => hv u (by simp [hu])), put_put]
    have e2 : splice (cs.setIfInBounds (o + i) v) (o + (i + 1)) vs.toArray = splice cs (o + i) (v :: vs).toArray := ?_
    · rw [e2]
    apply Array.ext_getElem?
    intro j
    rw [splice_get (by simp; omega), splice_get (by simp; omega), Array.getElem?_setIfInBounds]
    simp only [List.size_toArray, List.length_cons]
    by_cases h1 : o + i = j
    · subst h1
      rw [if_neg (by omega), if_pos rfl, if_pos (by omega), if_pos ⟨by omega, by omega⟩]
      simp
    · rw [if_neg h1]
      by_cases h2 : o + (i + 1) ≤ j ∧ j < o + (i + 1) + vs.length
      · rw [if_pos h2, if_pos ⟨by omega, by omega⟩]
        obtain ⟨d, rfl⟩ : ∃ d, j = o + (i + 1) + d := ⟨j - (o + (i + 1)), by omega⟩
        rw [show o + (i + 1) + d - (o + (i + 1)) = d by omega, show o + (i + 1) + d - (o + i) = d + 1 by omega]
        simp
      · rw [if_neg h2, if_neg (by omega)]
section
variable {P : Program} {T : TypeId} {n : Nat}
theorem run_storeAt (hs : ∀ w, (sizeOf T).run P w = .ok n w) {w : World} {b o : Nat} {cs : Array Value} {U : TypeId} {v : Value} (h : Hp w b = some (.cells cs U (0, 0)))
    (hv : v.cells.size = n) (ho : o + n ≤ cs.size) (h1 : ∀ u ∈ v.cells.toList, oneCell u) : (Instr.storeAt T (ptr b o) v).run P w = .ok () (put w b (.cells (splice cs o v.cells) U (0, 0))) := by
  show (Instr.sureAddr (ptr b o) >>= fun x => storeVar T x v).run P w = _
  simp only [Instr.sureAddr, Sem.run_bind, Sem.run_pure, Result.andThen_ok]
  unfold storeVar
  rw [Sem.run_bind, hs, Result.andThen_ok]
  simp only [hv, ne_eq, not_true_eq_false, if_false]
  have := run_storeCells (P := P) v.cells.toList w b o 0 cs U h (by simp; omega) h1
  simpa using this
/-- A value of one cell is stored. -/
theorem r_store1 (hs : ∀ w, (sizeOf T).run P w = .ok 1 w) (w : World) (b o : Nat) (v : Value) (K : Unit → World → Prop) (hv : oneCell v) :
    Run P (Instr.storeAt T (ptr b o) v) w K = St P T 1 w b o v (Hp w b) K := by
  unfold St
  split
  · rename_i cs U fr h
    split
    · rename_i hc
      obtain ⟨rfl, h1, h2⟩ := hc
      exact Run_eq (run_storeAt hs h h1 h2 (by cases v <;> first | exact hv.elim | simp [Value.cells, oneCell])) K
    · rfl
  · rfl
/-- A struct or an array is stored. -/
theorem r_storen (hs : ∀ w, (sizeOf T).run P w = .ok n w) (w : World) (b o : Nat) (vs : Array Value) (K : Unit → World → Prop) (hv : ∀ u ∈ vs.toList, oneCell u) :
    Run P (Instr.storeAt T (ptr b o) (.agg vs)) w K = St P T n w b o (.agg vs) (Hp w b) K := by
  unfold St
  split
  · rename_i cs U fr h
    split
    · rename_i hc
      obtain ⟨rfl, h1, h2⟩ := hc
      exact Run_eq (run_storeAt hs h h1 h2 hv) K
    · rfl
  · rfl
theorem r_box (w : World) (v : Value) (K : Value → World → Prop) : Run P (Instr.box T v) w K = K (ptr (sz w) 0) (w.alloc (.cells v.cells T)) := Run_eq rfl K
theorem r_alloc {z : Value} (hz : ∀ w, (zeroValue T).run P w = .ok z w) (w : World) (x : Value) (K : Value → World → Prop) :
    Run P (Instr.alloc T true x) w K = K (ptr (sz w) 0) (w.alloc (.cells z.cells T)) := Run_eq (by
  unfold Instr.alloc
  rw [Sem.run_bind, hz, Result.andThen_ok]; rfl) K
theorem r_makeMap (w : World) (K : Value → World → Prop) : Run P (Instr.makeMap T none) w K = K (.map (some (sz w))) (w.alloc (.map #[] 0)) := Run_eq rfl K

/-! ### Addresses -/
theorem p_field {fs : Array Field} {i ft off : Nat} (hu : ∀ w, (underlying T).run P w = .ok (.struct fs) w) (hf : (fs[i]?).map (fun f => (f.type, f.offset)) = some (ft, off)) (hs : ∀ w, (sizeOf ft).run P w = .ok (n + 1) w)
    (b o : Nat) (K : Value → Prop) : PRun P (Instr.fieldAt T (ptr b o) i) K = K (ptr b (o + off)) := PRun_eq (fun w => by
  obtain ⟨f, hf1, h2⟩ := Option.map_eq_some_iff.1 hf
  simp only [Prod.mk.injEq] at h2
  obtain ⟨rfl, rfl⟩ := h2
  unfold Instr.fieldAt
  rw [Sem.run_bind, hu, Result.andThen_ok]
  simp only [hf1, Instr.sureAddr, Sem.run_bind, Sem.run_pure, Result.andThen_ok]
  unfold fieldPlace
  rw [Sem.run_bind, hs, Result.andThen_ok]
  simp only [Nat.add_one_ne_zero, if_false, Sem.run_pure, Result.andThen_ok]
  congr 3
  unfold Addr.add
  split <;> simp_all) K
theorem p_indexSlice {e : TypeId} {s : Nat} (hu : ∀ w, (underlying T).run P w = .ok (.slice e) w) (hs : ∀ w, (sizeOf e).run P w = .ok s w) (b o len cap : Nat) (i : Int) (K : Value → Prop) (h0 : 0 ≤ i) (h1 : i < len) :
    PRun P (Instr.indexAt T (.slice (some ⟨b, o, none⟩) len cap) (i64 i)) K = K (ptr b (o + i.toNat * s)) := PRun_eq (fun w => by
  have h : 0 ≤ i ∧ i < (len : Int) := ⟨h0, h1⟩
  unfold Instr.indexAt asIntOf
  rw [Sem.run_bind, Sem.run_pure, Result.andThen_ok]
  simp only [Sem.run_bind, hu, Result.andThen_ok, Sem.run_pure, h, and_self, if_true, hs]
  congr 3
  unfold Addr.add
  split <;> simp_all) K
theorem p_indexArr {e : TypeId} {s len : Nat} (hu : ∀ w, (underlying T).run P w = .ok (.array len e) w) (hs : ∀ w, (sizeOf e).run P w = .ok s w) (b o : Nat) (i : Int) (K : Value → Prop) (h0 : 0 ≤ i) (h1 : i < len) :
    PRun P (Instr.indexAt T (ptr b o) (i64 i)) K = K (ptr b (o + i.toNat * s)) := PRun_eq (fun w => by
  have h : 0 ≤ i ∧ i < (len : Int) := ⟨h0, h1⟩
  unfold Instr.indexAt asIntOf
  rw [Sem.run_bind, Sem.run_pure, Result.andThen_ok]
  simp only [Sem.run_bind, hu, Result.andThen_ok, Sem.run_pure, Instr.sureAddr, h, and_self, if_true, hs]
  congr 3
  unfold Addr.add
  split <;> simp_all) K
theorem p_lenSlice {e : TypeId} (hu : ∀ w, (underlying T).run P w = .ok (.slice e) w) (R : TypeId) (a : Option Addr) (len cap : Nat) (K : Value → Prop) :
    PRun P (Builtin.len_ #[T] R #[.slice a len cap]) K = K (i64 len) := PRun_eq (fun w => by
  show ((underlying T) >>= _).run P w = _
  rw [Sem.run_bind, hu, Result.andThen_ok]; rfl) K
theorem p_lenString (hu : ∀ w, (underlying T).run P w = .ok .string w) (R : TypeId) (s : ByteArray) (K : Value → Prop) :
    PRun P (Builtin.len_ #[T] R #[.string s]) K = K (i64 s.size) := PRun_eq (fun w => by
  show ((underlying T) >>= _).run P w = _
  rw [Sem.run_bind, hu, Result.andThen_ok]; rfl) K
/-- Where a part of a slice begins. -/
def cutAt (a : Option Addr) (cap l s : Nat) : Option Addr := if cap = l then a else a.map (·.add (l * s))
theorem addr_add (b o n : Nat) : (⟨b, o, none⟩ : Addr).add n = ⟨b, o + n, none⟩ := by unfold Addr.add; split <;> simp_all
theorem cutAt_some (b o cap l s : Nat) (h : l < cap) : cutAt (some ⟨b, o, none⟩) cap l s = some ⟨b, o + l * s, none⟩ := by
  unfold cutAt; rw [if_neg (by omega), Option.map_some, addr_add]
theorem cutAt_zero (b o cap s : Nat) : cutAt (some ⟨b, o, none⟩) cap 0 s = some ⟨b, o, none⟩ := by
  unfold cutAt; split
  · rfl
  · simp [addr_add]
theorem cutAt_end (a : Option Addr) (cap s : Nat) : cutAt a cap cap s = a := by unfold cutAt; simp
theorem cutAt_none (cap l s : Nat) : cutAt none cap l s = none := by unfold cutAt; split <;> rfl
theorem run_bound (n : Int) (y : Nat) (c : BoundsCode) (h0 : 0 ≤ n) (h1 : n ≤ y) (w : World) : (Instr.sliceBound (i64 n) y c).run P w = .ok n.toNat w := by
  have e : 0 ≤ n ∧ n ≤ (y : Int) := ⟨h0, h1⟩
  unfold Instr.sliceBound asIntOf
  simp only [Sem.run_bind, Sem.run_pure, Result.andThen_ok, e, and_self, if_true]
section
variable {e : TypeId} {s : Nat} (hu : ∀ w, (underlying T).run P w = .ok (.slice e) w) (hs : ∀ w, (sizeOf e).run P w = .ok s w) (a : Option Addr) (len cap : Nat) (K : Value → Prop)
include hu hs
/-- xs[l:h], xs[l:], xs[:h], xs[:]. -/
theorem p_sliceLH (l h : Int) (h0 : 0 ≤ l) (h1 : l ≤ h) (h2 : h ≤ cap) :
    PRun P (Instr.sliceAt T (.slice a len cap) (some (i64 l)) (some (i64 h)) none) K = K (.slice (cutAt a cap l.toNat s) (h.toNat - l.toNat) (cap - l.toNat)) := PRun_eq (fun w => by
    unfold Instr.sliceAt
    simp only [Sem.run_bind, hu, Result.andThen_ok]
    unfold Instr.slice
    simp only [Sem.run_bind, hu, Result.andThen_ok]
    unfold Instr.sliceBounds
    simp only [Sem.run_bind, Sem.run_pure, Result.andThen_ok, hs, run_bound h cap _ (by omega) h2, run_bound l h.toNat _ h0 (by omega)]
    rfl) K
theorem p_sliceL (l : Int) (h0 : 0 ≤ l) (h1 : l ≤ len) :
    PRun P (Instr.sliceAt T (.slice a len cap) (some (i64 l)) none none) K = K (.slice (cutAt a cap l.toNat s) (len - l.toNat) (cap - l.toNat)) := PRun_eq (fun w => by
    unfold Instr.sliceAt
    simp only [Sem.run_bind, hu, Result.andThen_ok]
    unfold Instr.slice
    simp only [Sem.run_bind, hu, Result.andThen_ok]
    unfold Instr.sliceBounds
    simp only [Sem.run_bind, Sem.run_pure, Result.andThen_ok, hs, run_bound l len _ h0 (by omega)]
    rfl) K
theorem p_sliceH (h : Int) (h0 : 0 ≤ h) (h2 : h ≤ cap) :
    PRun P (Instr.sliceAt T (.slice a len cap) none (some (i64 h)) none) K = K (.slice (cutAt a cap 0 s) h.toNat cap) := PRun_eq (fun w => by
    unfold Instr.sliceAt
    simp only [Sem.run_bind, hu, Result.andThen_ok]
    unfold Instr.slice
    simp only [Sem.run_bind, hu, Result.andThen_ok]
    unfold Instr.sliceBounds
    simp only [Sem.run_bind, Sem.run_pure, Result.andThen_ok, hs, run_bound h cap _ (by omega) h2]
    rfl) K
theorem p_sliceN : PRun P (Instr.sliceAt T (.slice a len cap) none none none) K = K (.slice (cutAt a cap 0 s) len cap) := PRun_eq (fun w => by
    unfold Instr.sliceAt
    simp only [Sem.run_bind, hu, Result.andThen_ok]
    unfold Instr.slice
    simp only [Sem.run_bind, hu, Result.andThen_ok]
    unfold Instr.sliceBounds
    simp only [Sem.run_bind, Sem.run_pure, Result.andThen_ok, hs]
    rfl) K
end
/-- The whole of an array, or a part, as a slice. -/
theorem run_sliceArr {e : TypeId} {s n : Nat} (hu : ∀ w, (underlying T).run P w = .ok (.array n e) w) (hs : ∀ w, (sizeOf e).run P w = .ok s w) (b o : Nat) (w : World) :
    (Instr.sliceAt T (ptr b o) none none none).run P w = .ok (.slice (some ⟨b, o, none⟩) n n) w := by
  unfold Instr.sliceAt
  simp only [Sem.run_bind, hu, Result.andThen_ok, Instr.sureAddr, Sem.run_pure]
  unfold Instr.sliceBounds
  simp only [Sem.run_bind, Sem.run_pure, Result.andThen_ok, hs]
  congr 3
  split
  · rfl
  · simp [addr_add]
theorem p_sliceArr {e : TypeId} {s n : Nat} (hu : ∀ w, (underlying T).run P w = .ok (.array n e) w) (hs : ∀ w, (sizeOf e).run P w = .ok s w) (b o : Nat) (K : Value → Prop) :
    PRun P (Instr.sliceAt T (ptr b o) none none none) K = K (.slice (some ⟨b, o, none⟩) n n) := PRun_eq (run_sliceArr hu hs b o) K
end
end Go.Lf
