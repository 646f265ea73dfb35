/-
  A Go function's body, told as a plain proposition over values: 'lift'. What is proved here: where the proposition holds, the call comes to what it says ('lift_sound').
-/
import Derived.Calls
import Derived.Orders
import Derived.OrdersIn
import Derived.RangeFuncSeq
import Derived.Tactics
import Derived.KernelRfl
set_option linter.unusedVariables false
set_option linter.unusedSimpArgs false
set_option linter.unusedSectionVars false
namespace Go.Lf

abbrev Env := Nat → Value
def Env.set (E : Env) (d : Nat) (v : Value) : Env := fun i => bif Nat.beq i d then v else E i
def Env.put (E : Env) (dst : Option Nat) (v : Value) : Env := match dst with | some d => E.set d v | none => E
def look (n : Nat) (E : Env) (t : Nat) : Value := bif Nat.blt t n then E t else undef
def ev (n : Nat) (E : Env) : Operand → Value
  | .tmp t => look n E t
  | .const v => v
  | .global g => .pointer (some ⟨g, 0, none⟩)
  | .func f => .func (.func f) #[] #[]
def act (n : Nat) (E : Env) : Act := ⟨Array.ofFn (n := n) fun i => E i, []⟩

theorem look_eq (n : Nat) (E : Env) (t : Nat) : look n E t = if t < n then E t else undef := by
  unfold look
  by_cases h : t < n
  · have : Nat.blt t n = true := by simpa using h
    rw [this, if_pos h]; rfl
  · have : Nat.blt t n = false := by
      cases hb : Nat.blt t n with
      | false => rfl
      | true => exact absurd (by simpa using hb) h
    rw [this, if_neg h]; rfl
theorem act_getD (n : Nat) (E : Env) (t : Nat) : (act n E).tmps.getD t undef = look n E t := by
  rw [look_eq]
  simp only [act]
  by_cases h : t < n <;> simp [h]
theorem act_get? (n : Nat) (E : Env) (t : Nat) : (act n E).tmps[t]? = if t < n then some (E t) else none := by
  simp only [act]
  by_cases h : t < n <;> simp [h]
theorem act_eval (n : Nat) (E : Env) : (act n E).eval = ev n E := by
  funext o
  cases o <;> simp only [Act.eval, ev]
  exact act_getD n E _
theorem set_apply (E : Env) (d : Nat) (v : Value) (i : Nat) : E.set d v i = if i = d then v else E i := by
  unfold Env.set
  by_cases h : i = d
  · subst h; simp
  · have : Nat.beq i d = false := by
      cases hb : Nat.beq i d with
      | false => rfl
      | true => exact absurd (Nat.eq_of_beq_eq_true hb) h
    rw [this, if_neg h]; rfl
theorem act_put (n : Nat) (E : Env) (dst : Option Nat) (v : Value) : (act n E).put dst v = act n (E.put dst v) := by
  cases dst with
  | none => rfl
  | some d =>
    simp only [Act.put, act, Env.put, Act.mk.injEq, and_true]
    apply Array.ext_getElem?
    intro i
    simp only [Array.getElem?_setIfInBounds, Array.size_ofFn, Array.getElem?_ofFn, set_apply]
    by_cases h : d = i
    · subst h; by_cases hd : d < n <;> simp [hd]
    · rw [if_neg h, if_neg fun e => h e.symm]

/-! ### Single steps -/
def Run {α : Type} (P : Program) (s : Sem α) (w : World) (K : α → World → Prop) : Prop :=
  match s.run P w with
  | .ok v w' => K v w'
  | .halt _ _ => False
def PRun (P : Program) (s : Sem Value) (K : Value → Prop) : Prop := ∃ v, (∀ w, s.run P w = .ok v w) ∧ K v
def QRun (P : Program) (s : Sem Value) (w : World) (K : Value → Prop) : Prop := ∃ v, s.run P w = .ok v w ∧ K v
def Pick (c a b : Value) (K : Value → Prop) : Prop := ∃ t, c = .bool t ∧ K (bif t then a else b)
def Gd (x : Value) (want : Bool) (A : (Value → Prop) → Prop) (K : Value → Prop) : Prop := (x = .bool want → A K) ∧ (x ≠ .bool want → K undef)
def GdE (x : Value) (want : Bool) (A : (Value → World → Prop) → Prop) (w : World) (K : Value → World → Prop) : Prop :=
  (x = .bool want → A K) ∧ (x ≠ .bool want → K undef w)
def Branch (c : Value) (A B : Prop) : Prop := ∃ t, c = .bool t ∧ (t = true → A) ∧ (t = false → B)
def retK (K : Value → World → Prop) : Ending → World → Prop
  | .returned v, w => K v w
  | _, _ => False
/-- A call of a function by its number. -/
def CallF (P : Program) (f : FuncId) (args : Array Value) (w : World) (K : Value → World → Prop) : Prop :=
  match (callFunc f args).run P w with
  | .ok (.enter g as) w' => Calls P g as w' (retK K)
  | .ok (.value v) w' => K v w'
  | .ok (.row r as) w' => Rows P r as w' K
  | _ => False
/-- A call of a function value. -/
def CallV (P : Program) (f : Value) (args : Array Value) (w : World) (K : Value → World → Prop) : Prop :=
  match f with
  | .func (.func g) first captured => CallF P g (first ++ args ++ captured) w K
  | .func (.yield l) first captured => YieldAt Fence.wide 0 P l (first ++ args) w (retK K)
  | _ => False
/-- No fence; a frame of a round, or of none. -/
def Gr (r : Option Nat) : Fence := { Fence.wide with round := r }

theorem Calls.ret_mono {P : Program} {f : FuncId} {args : Array Value} {w : World} {K K' : Value → World → Prop} (h : Calls P f args w (retK K))
    (hk : ∀ v w, K v w → K' v w) : Calls P f args w (retK K') :=
  h.mono fun e w he => by cases e <;> first | exact hk _ _ he | exact he
theorem Run.mono {α : Type} {P : Program} {s : Sem α} {w : World} {K K' : α → World → Prop} (h : Run P s w K) (hk : ∀ v w, K v w → K' v w) : Run P s w K' := by
  unfold Run at *
  split at h
  · rename_i e; exact hk _ _ h
  · exact h
theorem CallF.mono {P : Program} {f : FuncId} {args : Array Value} {w : World} {K K' : Value → World → Prop} (h : CallF P f args w K)
    (hk : ∀ v w, K v w → K' v w) : CallF P f args w K' := by
  unfold CallF at *
  split at h
  · exact Calls.ret_mono h hk
  · exact hk _ _ h
  · exact h.mono hk
  · exact h

/-! ### What an operation comes to -/
def argsOf (ρ : Operand → Value) (l : Array Operand) : Array Value := (l.toList.map ρ).toArray
theorem argsOf_eq (ρ : Operand → Value) (l : Array Operand) : argsOf ρ l = l.map ρ := by simp [argsOf, ← Array.toList_map]
def partsOf (ρ : Operand → Value) (l : Array (Nat × Operand)) : Array (Nat × Value) := (l.toList.map fun x => (x.1, ρ x.2)).toArray
theorem partsOf_eq (ρ : Operand → Value) (l : Array (Nat × Operand)) : partsOf ρ l = l.map fun (i, x) => (i, ρ x) := by
  simp [partsOf, ← Array.toList_map]

def nilS : Value → Sem Value
  | .pointer (some a) => pure (.pointer (some a))
  | .func (.func f) first captured => pure (.func (.func f) first captured)
  | .iface t v => pure (.iface t v)
  | _ => stuck "nil"
def eqS (op : BinOp) (t : TypeId) (x y : Operand) (a b : Value) : Sem Value := do eqGuard op t x y a b; binOp op t a b
/-- A quiet operation, as one Sem. -/
def semQ (ρ : Operand → Value) (o : Oper) : Sem Value :=
  match o.op with
  | .move x => pure (ρ x)
  | .assign x => pure (ρ x)
  | .pick c a b => do pure (if ← asBool (ρ c) then ρ a else ρ b)
  | .build t parts => Instr.build t (partsOf ρ parts)
  | .load t a => Instr.loadAt t (ρ a)
  | .nilCheck x => nilS (ρ x)
  | .binOp op t x y _ =>
    match op with
    | .eql => eqS .eql t x y (ρ x) (ρ y)
    | .neq => eqS .neq t x y (ρ x) (ρ y)
    | op => binOp op t (ρ x) (ρ y)
  | .unOp op _ x => Op.unary op (ρ x)
  | .convert src dst x => convert src dst (ρ x)
  | .sliceToArrayPointer arr x => Instr.arrayAt arr (ρ x)
  | .makeInterface t x => Instr.makeInterface t (ρ x)
  | .makeFunc fn first captured => Instr.makeFunc fn (argsOf ρ first) (argsOf ρ captured)
  | .slice t x lo hi mx => Instr.sliceAt t (ρ x) (lo.map ρ) (hi.map ρ) (mx.map ρ)
  | .fieldAddr s x f => Instr.fieldAt s (ρ x) f
  | .field t x f => Instr.field t (ρ x) f
  | .indexAddr t x i => Instr.indexAt t (ρ x) (ρ i)
  | .index t x i => Instr.index t (ρ x) (ρ i)
  | .lookup t x i ok => Instr.lookup t (ρ x) (ρ i) ok
  | .typeAssert x t a ok => Instr.typeAssert (ρ x) t a ok
  | .extract t i => Instr.extract (ρ t) i
  | .entry it => Instr.entry (ρ it)
  | .alloc e => Instr.alloc e true (.tuple #[])
  | .box e x => Instr.box e (ρ x)
  | .buildSlice t len parts => Instr.buildSlice t len (partsOf ρ parts)
  | .makeMap t r => Instr.makeMap t (r.map ρ)
  | .makeSlice t l c => Instr.makeSlice t (ρ l) (ρ c)
  | .mapEntry t m k => Instr.mapEntry t (ρ m) (ρ k)
  | .range t x => Instr.range t (ρ x)
  | .next it s => Instr.next (ρ it) s o.type
  | .call c =>
    match c.callee with
    | .builtin b =>
      match b with
      | .append => Builtin.append_ c.argTypes o.type (argsOf ρ c.args)
      | .cap => Builtin.cap_ c.argTypes o.type (argsOf ρ c.args)
      | .clear => Builtin.clear_ c.argTypes o.type (argsOf ρ c.args)
      | .copy => Builtin.copy_ c.argTypes o.type (argsOf ρ c.args)
      | .delete => Builtin.delete_ c.argTypes o.type (argsOf ρ c.args)
      | .len => Builtin.len_ c.argTypes o.type (argsOf ρ c.args)
      | .max => Builtin.max_ c.argTypes o.type (argsOf ρ c.args)
      | .min => Builtin.min_ c.argTypes o.type (argsOf ρ c.args)
      | _ => stuck ""
    | _ => stuck ""
  | _ => stuck ""

theorem run_map_value (P : Program) (s : Sem Value) (w w' : World) (v : Value) (h : s.run P w = .ok v w') :
    Sem.run P (do pure (Next.value (← s))) w = .ok (.value v) w' := by
  show Sem.run P (s >>= fun x => pure (Next.value x)) w = _
  rw [Sem.run_bind, h]; rfl

/-- eqGuard asks nothing but at '==' and '!='. -/
theorem eqGuard_other (op : BinOp) (t : TypeId) (x y : Operand) (a b : Value) (h1 : op ≠ .eql) (h2 : op ≠ .neq) : eqGuard op t x y a b = pure () := by
  cases op <;> first | rfl | exact absurd rfl h1 | exact absurd rfl h2

theorem semQ_exec {P : Program} {ρ : Operand → Value} {o : Oper} {w w' : World} {v : Value} (h : (semQ ρ o).run P w = .ok v w') :
    (execOp ρ o).run P w = .ok (.value v) w' := by
  unfold semQ at h
  unfold execOp
  cases ho : o.op <;> rw [ho] at h <;> simp only [argsOf_eq, partsOf_eq] at h ⊢
  case move => simp only [pure, Sem.run] at h ⊢; simp only [Result.ok.injEq] at h; obtain ⟨rfl, rfl⟩ := h; rfl
  case assign => simp only [pure, Sem.run] at h ⊢; simp only [Result.ok.injEq] at h; obtain ⟨rfl, rfl⟩ := h; rfl
  case pick c a b =>
    rw [Sem.run_bind] at h ⊢
    cases hb : (asBool (ρ c)).run P w with
    | ok t w1 =>
      rw [hb] at h
      rw [Result.andThen_ok, Sem.run_pure] at h ⊢
      simp only [Result.ok.injEq] at h
      obtain ⟨rfl, rfl⟩ := h; rfl
    | halt _ _ => rw [hb] at h; cases h
  case nilCheck x =>
    cases hx : ρ x <;> rw [hx] at h <;> simp only [nilS] at h ⊢
    case pointer a => cases a <;> simp only [stuck, pure, Sem.run] at h ⊢ <;> first | (simp only [Result.ok.injEq] at h; obtain ⟨rfl, rfl⟩ := h; rfl) | cases h
    case func f _ _ => cases f <;> simp only [stuck, pure, Sem.run] at h ⊢ <;> first | (simp only [Result.ok.injEq] at h; obtain ⟨rfl, rfl⟩ := h; rfl) | cases h
    case iface => simp only [pure, Sem.run] at h ⊢; simp only [Result.ok.injEq] at h; obtain ⟨rfl, rfl⟩ := h; rfl
    all_goals (simp only [stuck, Sem.run] at h; cases h)
  case binOp op t x y _ =>
    refine run_map_value P _ w w' v ?_
    cases op
    case eql => exact h
    case neq => exact h
    all_goals (simp only [] at h; rw [eqGuard_other _ _ _ _ _ _ (by simp) (by simp)]; exact h)
  case call c =>
    split at h
    · rename_i b hb
      split at h
      all_goals first
        | (simp only [stuck, Sem.run] at h; cases h; done)
        | (show Sem.run P (resolve ρ c o.type >>= fun d => invoke d.target d.args) w = _
           simp only [resolve, hb]
           rw [Sem.run_bind, Sem.run_pure, Result.andThen_ok]
           exact run_map_value P _ w w' v h)
    · simp only [stuck, Sem.run] at h; cases h
  all_goals first
    | exact run_map_value P _ w w' v h
    | (simp only [stuck, Sem.run] at h; cases h; done)
end Go.Lf
