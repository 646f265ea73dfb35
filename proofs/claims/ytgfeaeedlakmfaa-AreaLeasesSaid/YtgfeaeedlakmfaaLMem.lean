/-
  What single operations come to, as equations of propositions, for a walk by simp.
-/
import Derived.Test.YtgfeaeedlakmfaaLLift
import Derived.Laws.Small
import Derived.Laws.Rows
set_option linter.unusedVariables false
set_option linter.unusedSimpArgs false
set_option linter.unusedSectionVars false
namespace Go.Lf
open Go

abbrev ptr (b o : Nat) : Value := .pointer (some ⟨b, o, none⟩)
def Hp (w : World) (b : Nat) : Option Obj := w.heap[b]?
def sz (w : World) : Nat := w.heap.size
def put (w : World) (b : Nat) (o : Obj) : World := { w with heap := w.heap.setIfInBounds b o }

theorem Hp_lt {w : World} {b : Nat} {o : Obj} (h : Hp w b = some o) : b < sz w := by
  unfold Hp at h
  exact (Array.getElem?_eq_some_iff.1 h).1
theorem sz_alloc (w : World) (o : Obj) : sz (w.alloc o) = sz w + 1 := by simp [sz]
theorem sz_put (w : World) (b : Nat) (o : Obj) : sz (put w b o) = sz w := by simp [sz, put]
theorem sz_drew (w : World) : sz w.drew = sz w := Nat.le_antisymm (Nat.le_refl _) (Nat.le_refl _)
theorem Hp_drew (w : World) (b : Nat) : Hp w.drew b = Hp w b := by
  have h : w.drew.heap = w.heap := rfl
  unfold Hp; rw [h]
theorem Hp_alloc_new (w : World) (o : Obj) (b : Nat) (h : b = sz w) : Hp (w.alloc o) b = some o := by subst h; exact heap_alloc_new w o
theorem Hp_alloc_old (w : World) (o : Obj) (b : Nat) (h : b < sz w) : Hp (w.alloc o) b = Hp w b := by
  unfold Hp World.alloc; unfold sz at h
  rw [Array.getElem?_push, if_neg (by omega)]
theorem Hp_put_same (w : World) (b : Nat) (o : Obj) (h : b < sz w) : Hp (put w b o) b = some o := by
  unfold Hp put; unfold sz at h; simp [h]
theorem Hp_put_other (w : World) (b b' : Nat) (o : Obj) (h : b' ≠ b) : Hp (put w b o) b' = Hp w b' := by
  unfold Hp put; rw [Array.getElem?_setIfInBounds, if_neg fun e => h e.symm]

/-! ### Plain values -/
theorem PRun_eq {P : Program} {s : Sem Value} {v : Value} (h : ∀ w, s.run P w = .ok v w) (K : Value → Prop) : PRun P s K = K v := by
  unfold PRun
  refine propext ⟨fun ⟨u, hu, hk⟩ => ?_, fun hk => ⟨v, h, hk⟩⟩
  have := (hu default).symm.trans (h default)
  simp only [Result.ok.injEq] at this
  rw [← this.1]; exact hk
theorem QRun_eq {P : Program} {s : Sem Value} {w : World} {v : Value} (h : s.run P w = .ok v w) (K : Value → Prop) : QRun P s w K = K v := by
  unfold QRun
  refine propext ⟨fun ⟨u, hu, hk⟩ => ?_, fun hk => ⟨v, h, hk⟩⟩
  have := hu.symm.trans h
  simp only [Result.ok.injEq] at this
  rw [← this.1]; exact hk
theorem Run_eq {α : Type} {P : Program} {s : Sem α} {w w' : World} {v : α} (h : s.run P w = .ok v w') (K : α → World → Prop) : Run P s w K = K v w' := by
  unfold Run; rw [h]
theorem NilCk_ptr (a : Addr) (K : Value → Prop) : NilCk (.pointer (some a)) K = K (.pointer (some a)) := rfl
theorem NilCk_func (f : FuncId) (x y : Array Value) (K : Value → Prop) : NilCk (.func (.func f) x y) K = K (.func (.func f) x y) := rfl
theorem Pick_bool (t : Bool) (a b : Value) (K : Value → Prop) : Pick (.bool t) a b K = K (bif t then a else b) := by
  unfold Pick
  refine propext ⟨fun ⟨u, hu, hk⟩ => ?_, fun hk => ⟨t, rfl, hk⟩⟩
  simp only [Value.bool.injEq] at hu; rw [hu]; exact hk
theorem Branch_bool (t : Bool) (A B : Prop) : Branch (.bool t) A B = ((t = true → A) ∧ (t = false → B)) := by
  unfold Branch
  refine propext ⟨fun ⟨u, hu, h⟩ => ?_, fun h => ⟨t, rfl, h⟩⟩
  simp only [Value.bool.injEq] at hu; rw [hu]; exact h
theorem Branch_true (A B : Prop) : Branch (.bool true) A B = A := by rw [Branch_bool]; simp
theorem Branch_false (A B : Prop) : Branch (.bool false) A B = B := by rw [Branch_bool]; simp
theorem Gd_true (t : Bool) (A : (Value → Prop) → Prop) (K : Value → Prop) (h : t = true) : Gd (.bool t) true A K = A K := by subst h; unfold Gd; simp
theorem Gd_false (t : Bool) (A : (Value → Prop) → Prop) (K : Value → Prop) (h : t = false) : Gd (.bool t) true A K = K undef := by subst h; unfold Gd; simp
theorem Gdn_true (t : Bool) (A : (Value → Prop) → Prop) (K : Value → Prop) (h : t = false) : Gd (.bool t) false A K = A K := by subst h; unfold Gd; simp
theorem Gdn_false (t : Bool) (A : (Value → Prop) → Prop) (K : Value → Prop) (h : t = true) : Gd (.bool t) false A K = K undef := by subst h; unfold Gd; simp
theorem GdE_true (t : Bool) (A : (Value → World → Prop) → Prop) (w : World) (K : Value → World → Prop) (h : t = true) : GdE (.bool t) true A w K = A K := by subst h; unfold GdE; simp
theorem GdE_false (t : Bool) (A : (Value → World → Prop) → Prop) (w : World) (K : Value → World → Prop) (h : t = false) : GdE (.bool t) true A w K = K undef w := by subst h; unfold GdE; simp
theorem GdEn_true (t : Bool) (A : (Value → World → Prop) → Prop) (w : World) (K : Value → World → Prop) (h : t = false) : GdE (.bool t) false A w K = A K := by subst h; unfold GdE; simp
theorem GdEn_false (t : Bool) (A : (Value → World → Prop) → Prop) (w : World) (K : Value → World → Prop) (h : t = true) : GdE (.bool t) false A w K = K undef w := by subst h; unfold GdE; simp

/-! ### Whole numbers -/
abbrev i64 (n : Int) : Value := .int .i64 n
def wr (n : Int) : Int := IntKind.i64.wrap n
theorem wr_in (n : Int) (h : -9223372036854775808 ≤ n ∧ n ≤ 9223372036854775807) : wr n = n := by
  unfold wr IntKind.wrap
  simp only [IntKind.signed, IntKind.bits]
  simp
  omega
section ints
variable {P : Program} (t : TypeId) (K : Value → Prop)
theorem p_add (a b : Int) : PRun P (binOp .add t (i64 a) (i64 b)) K = K (i64 (wr (a + b))) := PRun_eq (fun _ => rfl) K
theorem p_sub (a b : Int) : PRun P (binOp .sub t (i64 a) (i64 b)) K = K (i64 (wr (a - b))) := PRun_eq (fun _ => rfl) K
theorem p_mul (a b : Int) : PRun P (binOp .mul t (i64 a) (i64 b)) K = K (i64 (wr (a * b))) := PRun_eq (fun _ => rfl) K
theorem p_lss (k : IntKind) (a b : Int) : PRun P (binOp .lss t (.int k a) (.int k b)) K = K (.bool (decide (a < b))) := PRun_eq (fun _ => by simp [binOp, Op.intCmp]) K
theorem p_leq (k : IntKind) (a b : Int) : PRun P (binOp .leq t (.int k a) (.int k b)) K = K (.bool (decide (a ≤ b))) := PRun_eq (fun _ => by simp [binOp, Op.intCmp]) K
theorem p_gtr (k : IntKind) (a b : Int) : PRun P (binOp .gtr t (.int k a) (.int k b)) K = K (.bool (decide (b < a))) := PRun_eq (fun _ => by simp [binOp, Op.intCmp]) K
theorem p_geq (k : IntKind) (a b : Int) : PRun P (binOp .geq t (.int k a) (.int k b)) K = K (.bool (decide (b ≤ a))) := PRun_eq (fun _ => by simp [binOp, Op.intCmp]) K
theorem p_eql (k : IntKind) (a b : Int) (x y : Operand) : PRun P (eqS .eql t x y (.int k a) (.int k b)) K = K (.bool (decide (a = b))) :=
  PRun_eq (fun _ => by simp [eqS, eqGuard, binOp, Op.intCmp]; by_cases h : a = b <;> simp [h]) K
theorem p_neq (k : IntKind) (a b : Int) (x y : Operand) : PRun P (eqS .neq t x y (.int k a) (.int k b)) K = K (.bool (!decide (a = b))) :=
  PRun_eq (fun _ => by simp [eqS, eqGuard, binOp, Op.intCmp]; by_cases h : a = b <;> simp [h]) K
theorem p_not (b : Bool) : PRun P (Op.unary .not (.bool b)) K = K (.bool (!b)) := PRun_eq (fun _ => rfl) K
theorem p_neg (n : Int) : PRun P (Op.unary .neg (i64 n)) K = K (i64 (wr (0 - n))) := PRun_eq (fun _ => rfl) K
theorem p_extract (vs : Array Value) (i : Nat) (v : Value) (h : vs[i]? = some v) : PRun P (Instr.extract (.tuple vs) i) K = K v := PRun_eq (fun _ => by simp [Instr.extract, h]) K
theorem p_extract0 (a : Value) (l : List Value) : PRun P (Instr.extract (.tuple (List.toArray (a :: l))) 0) K = K a := p_extract K _ _ _ (by simp)
theorem p_extract1 (a b : Value) (l : List Value) : PRun P (Instr.extract (.tuple (List.toArray (a :: b :: l))) 1) K = K b := p_extract K _ _ _ (by simp)
theorem p_extract2 (a b c : Value) (l : List Value) : PRun P (Instr.extract (.tuple (List.toArray (a :: b :: c :: l))) 2) K = K c := p_extract K _ _ _ (by simp)
theorem p_max (ts : Array TypeId) (x y : Int) : PRun P (Builtin.max_ ts t #[i64 x, i64 y]) K = K (i64 (max x y)) := PRun_eq (fun w => by
  rw [run_max_int2]; congr 2; rw [Int.max_def]; split <;> split <;> omega) K
theorem p_min (ts : Array TypeId) (x y : Int) : PRun P (Builtin.min_ ts t #[i64 x, i64 y]) K = K (i64 (min x y)) := PRun_eq (fun w => by
  rw [run_min_int2]; congr 2; rw [Int.min_def]; split <;> split <;> omega) K
theorem p_rem (a b : Int) (h : b ≠ 0) : PRun P (binOp .rem t (i64 a) (i64 b)) K = K (i64 (a.tmod b)) := PRun_eq (fun _ => by
  simp [binOp, Op.intDiv, h]) K
theorem p_quo (a b : Int) (h : b ≠ 0) : PRun P (binOp .quo t (i64 a) (i64 b)) K = K (i64 (wr (a.tdiv b))) := PRun_eq (fun _ => by
  simp [binOp, Op.intDiv, h, wr]) K
end ints

/-! ### Memory -/
/-- What is left where a load or a store is not known to go well. -/
def LFail (P : Program) (T : TypeId) (b o : Nat) (w : World) (K : Value → Prop) : Prop := QRun P (Instr.loadAt T (ptr b o)) w K
def L1 (P : Program) (T : TypeId) (w : World) (b o : Nat) (x : Option Obj) (K : Value → Prop) : Prop :=
  match x with
  | some (.cells cs _ _) => (cs[o]?).elim (LFail P T b o w K) K
  | _ => LFail P T b o w K
def Ln (P : Program) (T : TypeId) (n : Nat) (w : World) (b o : Nat) (x : Option Obj) (K : Value → Prop) : Prop :=
  match x with
  | some (.cells cs _ _) => if o + n ≤ cs.size then K (.agg (cs.extract o (o + n))) else LFail P T b o w K
  | _ => LFail P T b o w K
theorem L1_cells (P : Program) (T : TypeId) (w : World) (b o : Nat) (cs : Array Value) (U : TypeId) (fr : Nat × Nat) (K : Value → Prop) :
    L1 P T w b o (some (.cells cs U fr)) K = (cs[o]?).elim (LFail P T b o w K) K := rfl
theorem Ln_cells (P : Program) (T : TypeId) (n : Nat) (w : World) (b o : Nat) (cs : Array Value) (U : TypeId) (fr : Nat × Nat) (K : Value → Prop) :
    Ln P T n w b o (some (.cells cs U fr)) K = if o + n ≤ cs.size then K (.agg (cs.extract o (o + n))) else LFail P T b o w K := rfl
theorem cell_Hp {w : World} {b : Nat} {cs : Array Value} {U : TypeId} {fr : Nat × Nat} (h : Hp w b = some (.cells cs U fr)) (j : Nat) : w.cell? ⟨b, j, none⟩ = cs[j]? := cell_of_row w b j cs U fr h
section mem
variable {P : Program} {T : TypeId}
theorem run_load1 (ha : ∀ w, (isAgg T).run P w = .ok false w) {w : World} {b o : Nat} {v : Value} (h : w.cell? ⟨b, o, none⟩ = some v) : (Instr.loadAt T (ptr b o)).run P w = .ok v w := by
  show (Instr.sureAddr (ptr b o) >>= fun x => loadVar T x).run P w = _
  simp only [Instr.sureAddr, Sem.run_bind, Sem.run_pure, Result.andThen_ok]
  unfold loadVar
  rw [Sem.run_bind, ha, Result.andThen_ok]
  simp only [Bool.false_eq_true, if_false]
  unfold load
  simp only [Sem.run, h]
theorem run_loadn {n : Nat} (ha : ∀ w, (isAgg T).run P w = .ok true w) (hs : ∀ w, (sizeOf T).run P w = .ok n w) {w : World} {b o : Nat} {cs : Array Value} {U : TypeId} {fr : Nat × Nat}
    (h : Hp w b = some (.cells cs U fr)) (hn : o + n ≤ cs.size) : (Instr.loadAt T (ptr b o)).run P w = .ok (.agg (cs.extract o (o + n))) w := by
  show (Instr.sureAddr (ptr b o) >>= fun x => loadVar T x).run P w = _
  simp only [Instr.sureAddr, Sem.run_bind, Sem.run_pure, Result.andThen_ok]
  unfold loadVar
  rw [Sem.run_bind, ha, Result.andThen_ok]
  simp only [if_true]
  rw [Sem.run_bind, hs, Result.andThen_ok, Sem.run_bind]
  have key : ∀ (m i : Nat) (acc : Array Value), o + i + m ≤ cs.size → (loadCellsFrom ⟨b, o, none⟩ i m acc).run P w = .ok (acc ++ cs.extract (o + i) (o + i + m)) w := by
    intro m
    induction m with
    | zero => intro i acc _; simp [loadCellsFrom]; omega
    | succ m ih =>
      intro i acc hm
      unfold loadCellsFrom
      have hcell : w.cell? ((⟨b, o, none⟩ : Addr).add i) = some (cs[o + i]'(by omega)) := by
        have e : ((⟨b, o, none⟩ : Addr).add i) = ⟨b, o + i, none⟩ := by unfold Addr.add; split <;> simp_all
        rw [e, cell_Hp h, Array.getElem?_eq_getElem (by omega)]
      rw [Sem.run_bind]
      unfold load
      simp only [Sem.run, hcell, Result.andThen_ok]
      rw [ih (i + 1) _ (by omega)]
      congr 1
      have e1 : cs.extract (o + i) (o + i + (m + 1)) = #[cs[o + i]'(by omega)] ++ cs.extract (o + (i + 1)) (o + (i + 1) + m) := by
        apply Array.ext_getElem?
        intro j
        rw [Array.getElem?_append]
        simp only [Array.getElem?_extract, List.size_toArray, List.length_cons, List.length_nil]
        by_cases hj : j < 1
        · have : j = 0 := by omega
          subst this
          rw [if_pos (by omega), if_pos (by omega)]
          simp
        · rw [if_neg hj]
          by_cases hj2 : j < m + 1
          · rw [if_pos (by omega), if_pos (by omega)]
            congr 1; omega
          · rw [if_neg (by omega), if_neg (by omega)]
      rw [e1, ← Array.append_assoc]
      congr 1
  unfold loadCells
  have := key n 0 #[] (by omega)
  simp only [Nat.add_zero, Array.empty_append] at this
  rw [this]; rfl
theorem q_load1 (ha : ∀ w, (isAgg T).run P w = .ok false w) (w : World) (b o : Nat) (K : Value → Prop) : QRun P (Instr.loadAt T (ptr b o)) w K = L1 P T w b o (Hp w b) K := by
  unfold L1
  split
  · rename_i cs U fr h
    cases hv : cs[o]? with
    | none => rfl
    | some v => exact QRun_eq (run_load1 ha (by rw [cell_Hp h]; exact hv)) K
  · rfl
theorem q_loadn {n : Nat} (ha : ∀ w, (isAgg T).run P w = .ok true w) (hs : ∀ w, (sizeOf T).run P w = .ok n w) (w : World) (b o : Nat) (K : Value → Prop) :
    QRun P (Instr.loadAt T (ptr b o)) w K = Ln P T n w b o (Hp w b) K := by
  unfold Ln
  split
  · rename_i cs U fr h
    split
    · rename_i hn; exact QRun_eq (run_loadn ha hs h hn) K
    · rfl
  · rfl

/-- A part of a row written anew. -/
def splice (cs : Array Value) (o : Nat) (vs : Array Value) : Array Value := cs.extract 0 o ++ vs ++ cs.extract (o + vs.size) cs.size
theorem splice_size {cs vs : Array Value} {o : Nat} (h : o + vs.size ≤ cs.size) : (splice cs o vs).size = cs.size := by simp [splice]; omega
theorem splice_all (cs vs : Array Value) (h : vs.size = cs.size) : splice cs 0 vs = vs := by simp [splice, h]
theorem splice_get {cs vs : Array Value} {o : Nat} (h : o + vs.size ≤ cs.size) (i : Nat) : (splice cs o vs)[i]? = if o ≤ i ∧ i < o + vs.size then vs[i - o]? else cs[i]? := by
  unfold splice
  rw [Array.getElem?_append, Array.getElem?_append]
  simp only [Array.size_append, Array.size_extract, Nat.min_def, Array.getElem?_extract]
  have e0 : (if o ≤ cs.size then o else cs.size) - 0 = o := by split <;> omega
  by_cases h1 : i < o
  · rw [if_neg (by omega : ¬ (o ≤ i ∧ i < o + vs.size))]
    simp only [e0]
    rw [if_pos (by omega), if_pos h1, if_pos (by omega)]; congr 1; omega
  · by_cases h2 : i < o + vs.size
    · simp only [e0]
      rw [if_pos h2, if_neg h1, if_pos (⟨by omega, h2⟩ : o ≤ i ∧ i < o + vs.size)]
    · rw [if_neg (by omega : ¬ (o ≤ i ∧ i < o + vs.size))]
      simp only [e0]
      rw [if_neg h2]
      by_cases h3 : i < cs.size
      · rw [if_pos (by simp; omega)]; congr 1; omega
      · rw [if_neg (by simp; omega), Array.getElem?_eq_none (by omega)]
theorem splice_one (cs : Array Value) (o : Nat) (v : Value) (h : o < cs.size) : splice cs o #[v] = cs.setIfInBounds o v := by
  apply Array.ext_getElem?
  intro i
  rw [splice_get (by simp; omega), Array.getElem?_setIfInBounds]
  simp only [List.size_toArray, List.length_cons, List.length_nil]
  by_cases e : o = i
  · subst e; rw [if_pos ⟨by omega, by omega⟩, if_pos rfl, if_pos h]; simp
  · rw [if_neg (by omega), if_neg e]
end mem
end Go.Lf
