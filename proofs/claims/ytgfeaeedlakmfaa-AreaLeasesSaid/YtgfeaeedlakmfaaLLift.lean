/-
  The proposition of a body, and of a call.
-/
import Derived.Test.YtgfeaeedlakmfaaLDraw3
set_option linter.unusedVariables false
set_option linter.unusedSimpArgs false
set_option linter.unusedSectionVars false
namespace Go.Lf

structure Hints where
  n : Nat
  reg : List (Nat × RH)
  loop : List (Nat × List Nat)
  join : List (Nat × List Nat)

def getK {α : Type} : List (Nat × α) → Nat → Option α
  | [], _ => none
  | (k, a) :: l, i => bif Nat.beq k i then some a else getK l i
def memN (i : Nat) : List Nat → Bool
  | [] => false
  | x :: l => bif Nat.beq i x then true else memN i l
def havoc (E : Env) (asg : List Nat) (junk : Env) : Env := fun i => bif memN i asg then junk i else E i
def setAll (E : Env) : List Nat → List Value → Env
  | x :: l, v :: vs => setAll (E.set x v) l vs
  | _, _ => E
def keyOf : Code → Nat
  | .seq _ b => keyOf b
  | .cond (.tmp t) _ _ => 2 * t + 2
  | .block id _ => 2 * id + 3
  | _ => 0
def keyLoop : Code → Option Nat
  | .region id _ _ => some id
  | .seq a b => match keyLoop a with | some i => some i | none => keyLoop b
  | .cond _ a b => match keyLoop a with | some i => some i | none => keyLoop b
  | .block _ a => keyLoop a
  | .loop a => keyLoop a
  | _ => none
def dsts : List Oper → List Nat
  | [] => []
  | o :: l => match o.dst with | some d => d :: dsts l | none => dsts l
def assigned : Code → List Nat
  | .region _ ops _ => dsts ops.toList
  | .seq a b => assigned a ++ assigned b
  | .cond _ a b => assigned a ++ assigned b
  | .block _ a => assigned a
  | .loop a => assigned a
  | _ => []

@[reducible] def Cur (T : Type) : Nat → Type
  | 0 => World → T
  | n + 1 => Value → Cur T n
def app {T : Type} : (n : Nat) → Cur T n → List Value → World → T
  | 0, k, _, w => k w
  | n + 1, k, v :: l, w => app n (k v) l w
  | n + 1, k, [], w => app n (k undef) [] w
def mk {T : Type} : (n : Nat) → (List Value → World → T) → Cur T n
  | 0, f => f []
  | n + 1, f => fun v => mk n fun l => f (v :: l)
def AllV : Nat → (List Value → Prop) → Prop
  | 0, f => f []
  | n + 1, f => ∀ v, AllV n fun l => f (v :: l)
def LeV : (n : Nat) → Cur Prop n → Cur Prop n → Prop
  | 0, J, r => ∀ w, J w → r w
  | n + 1, J, r => ∀ v, LeV n (J v) (r v)
def LetJ (n : Nat) (body : Cur Prop n → Prop) (r : Cur Prop n) : Prop := ∃ J, body J ∧ LeV n J r
def LoopF (n : Nat) (init : List Value) (w : World) (body : Cur (Cur Prop n → Prop) n) : Prop :=
  ∃ (I : Cur Prop n) (μ : Cur Nat n), app n I init w ∧ AllV n fun vs => ∀ w, app n I vs w → app n body vs w (mk n fun vs' w' => app n I vs' w' ∧ app n μ vs' w' < app n μ vs w)

theorem app_mk {T : Type} (f : List Value → World → T) (n : Nat) (l : List Value) (hl : l.length = n) (w : World) : app n (mk n f) l w = f l w := by
  induction n generalizing f l with
  | zero => simp at hl; subst hl; rfl
  | succ n ih =>
    cases l with
    | nil => simp at hl
    | cons v l => exact ih _ l (by simpa using hl)
theorem AllV_at {f : List Value → Prop} {n : Nat} (h : AllV n f) (l : List Value) (hl : l.length = n) : f l := by
  induction n generalizing f l with
  | zero => simp at hl; subst hl; exact h
  | succ n ih =>
    cases l with
    | nil => simp at hl
    | cons v l => exact ih (h v) l (by simpa using hl)
theorem LeV_at {n : Nat} {J r : Cur Prop n} (h : LeV n J r) (l : List Value) (w : World) (hj : app n J l w) : app n r l w := by
  induction n generalizing l with
  | zero => exact h w hj
  | succ n ih =>
    cases l with
    | nil => exact ih (h undef) [] hj
    | cons v l => exact ih (h v) l hj

abbrev Kx := List (Nat × (Env → World → Prop))
def lift (P : Program) (H : Hints) : Code → Env → World → (Env → World → Prop) → Kx → (Env → World → Prop) → Prop
  | .skip, E, w, nx, _, _ => nx E w
  | .region id ops d, E, w, nx, _, _ =>
    match getK H.reg id with
    | none => False
    | some h => bif d then drawF P H.n ops.toList h nx (2 * ops.toList.length + 2) 0 0 [] E w.drew else seqF P H.n ops.toList nx ops.toList h.cls E w
  | .seq x y, E, w, nx, ex, rt =>
    match getK H.join (keyOf x) with
    | none => lift P H x E w (fun E w => lift P H y E w nx ex rt) ex rt
    | some live => LetJ live.length (fun k => lift P H x E w (fun E' w' => app live.length k (live.map (look H.n E')) w') ex rt)
        (mk live.length fun vs w' => ∀ junk : Env, lift P H y (setAll (havoc E (assigned x) junk) live vs) w' nx ex rt)
  | .cond c x y, E, w, nx, ex, rt => Branch (ev H.n E c) (lift P H x E w nx ex rt) (lift P H y E w nx ex rt)
  | .block id c, E, w, nx, ex, rt => lift P H c E w nx ((id, nx) :: ex) rt
  | .exit id, E, w, _, ex, _ => match getK ex id with | none => False | some k => k E w
  | .ret, E, w, _, _, rt => rt E w
  | .loop c, E, w, _, ex, rt =>
    match keyLoop c with
    | none => False
    | some key =>
      match getK H.loop key with
      | none => False
      | some live => LoopF live.length (live.map (look H.n E)) w (mk live.length fun vs w' k =>
          ∀ junk : Env, lift P H c (setAll (havoc E (assigned c) junk) live vs) w' (fun E' w'' => app live.length k (live.map (look H.n E')) w'') ex rt)
  | _, _, _, _, _, _ => False

def regOk (H : Hints) : Code → Bool
  | .region id ops d => match getK H.reg id with | none => false | some h => bif d then drawOk ops.toList h else ops.toList.all notSelect
  | .seq a b => regOk H a && regOk H b
  | .cond _ a b => regOk H a && regOk H b
  | .block _ a => regOk H a
  | .loop a => regOk H a
  | _ => true

theorem memN_iff {i : Nat} {l : List Nat} : memN i l = true ↔ i ∈ l := by
  induction l with
  | nil => simp [memN]
  | cons x l ih =>
    unfold memN
    cases h : Nat.beq i x with
    | true => simp [Nat.eq_of_beq_eq_true h]
    | false =>
      have : i ≠ x := fun e => by subst e; simp at h
      simp [ih, this]
theorem mem_dsts {s : Nat} {l : List Oper} {o : Oper} (ho : o ∈ l) (hd : o.dst = some s) : s ∈ dsts l := by
  induction l with
  | nil => cases ho
  | cons x l ih =>
    unfold dsts
    cases ho with
    | head => rw [hd]; simp
    | tail _ h => cases x.dst <;> simp [ih h]
/-- What a piece of code does not write is as it was. -/
def Fr (n : Nat) (asg : List Nat) (E E' : Env) : Prop := ∀ s, s < n → s ∉ asg → E' s = E s
theorem Fr.refl (n : Nat) (asg : List Nat) (E : Env) : Fr n asg E E := fun _ _ _ => rfl
theorem Fr.trans {n : Nat} {asg : List Nat} {E E' E'' : Env} (h : Fr n asg E E') (h' : Fr n asg E' E'') : Fr n asg E E'' := fun s hn hs => (h' s hn hs).trans (h s hn hs)
theorem Fr.mono {n : Nat} {a b : List Nat} {E E' : Env} (h : Fr n a E E') (hab : ∀ s ∈ a, s ∈ b) : Fr n b E E' := fun s hn hs => h s hn fun h' => hs (hab s h')
theorem act_congr {n : Nat} {E E' : Env} (h : ∀ i, i < n → E i = E' i) : act n E = act n E' := by
  unfold act
  congr 1
  apply Array.ext
  · simp
  · intro i h1 h2
    simp only [Array.size_ofFn] at h1
    simp [h i h1]
theorem setAll_havoc {n : Nat} {E E' : Env} {asg live : List Nat} (h : Fr n asg E E') : ∀ i, i < n → setAll (havoc E asg E') live (live.map (look n E')) i = E' i := by
  have base : ∀ i, i < n → havoc E asg E' i = E' i := by
    intro i hi
    unfold havoc
    cases hm : memN i asg with
    | true => rfl
    | false => exact (h i hi fun hm' => by rw [memN_iff.2 hm'] at hm; cases hm).symm
  have key : ∀ (live : List Nat) (F : Env), (∀ i, i < n → F i = E' i) → ∀ i, i < n → setAll F live (live.map (look n E')) i = E' i := by
    intro live
    induction live with
    | nil => intro F hF i hi; exact hF i hi
    | cons x l ih =>
      intro F hF i hi
      refine ih _ (fun j hj => ?_) i hi
      rw [set_apply]
      split
      · rename_i e; subst e; rw [look_eq, if_pos hj]
      · exact hF j hj
  exact key live _ base

structure Meets (Q : Exit → Act → World → Prop) (n : Nat) (asg : List Nat) (E : Env) (nx : Env → World → Prop) (ex : Kx) (rt : Env → World → Prop) : Prop where
  next : ∀ E' w, Fr n asg E E' → nx E' w → Q .normal (act n E') w
  exit : ∀ id k, getK ex id = some k → ∀ E' w, Fr n asg E E' → k E' w → Q (.exit id) (act n E') w
  ret : ∀ E' w, rt E' w → Q .ret (act n E') w

theorem lift_wp {P : Program} (hm : P.follows .mixedOrders = true) {H : Hints} : ∀ (c : Code) (E : Env) (w : World) (nx : Env → World → Prop) (ex : Kx) (rt : Env → World → Prop) (Q : Exit → Act → World → Prop),
    regOk H c = true → Meets Q H.n (assigned c) E nx ex rt → lift P H c E w nx ex rt → c.wp P Q (act H.n E) w := by
  intro c
  induction c with
  | skip => intro E w nx ex rt Q _ hM h; exact wp_skip (hM.next _ _ (.refl _ _ _) h)
  | region id ops d =>
    intro E w nx ex rt Q hr hM h
    simp only [regOk] at hr
    simp only [lift] at h
    cases hg : getK H.reg id with
    | none => rw [hg] at h; exact h.elim
    | some r =>
      rw [hg] at h hr
      have hops : ops.toList.toArray = ops := Array.toArray_toList
      have hK : ∀ E' w, (∀ s, (∀ o ∈ ops.toList, o.dst ≠ some s) → E' s = E s) → nx E' w → Q .normal (act H.n E') w :=
        fun E' w hf hn => hM.next _ _ (fun s _ hs => hf s fun o ho e => hs (mem_dsts ho e)) hn
      cases d with
      | true => have := region_draw (r := none) (id := id) hm hr hK h; rw [hops] at this; exact wpIn_wide.1 this
      | false => have := region_seq (r := none) (id := id) hr hK h; rw [hops] at this; exact wpIn_wide.1 this
  | seq x y ihx ihy =>
    intro E w nx ex rt Q hr hM h
    simp only [regOk, Bool.and_eq_true] at hr
    simp only [lift] at h
    have hl : ∀ s ∈ assigned x, s ∈ assigned (.seq x y) := fun s hs => List.mem_append_left _ hs
    have hrr : ∀ s ∈ assigned y, s ∈ assigned (.seq x y) := fun s hs => List.mem_append_right _ hs
    cases hj : getK H.join (keyOf x) with
    | none =>
      rw [hj] at h
      refine wp_seq (ihx E w _ ex rt _ hr.1 ⟨fun E' w' hf hn => ?_, fun id k hk E' w' hf hn => hM.exit id k hk E' w' (hf.mono hl) hn, fun E' w' hn => hM.ret E' w' hn⟩ h)
      exact ihy E' w' nx ex rt Q hr.2 ⟨fun E'' w'' hf' hn' => hM.next _ _ ((hf.mono hl).trans (hf'.mono hrr)) hn', fun id k hk E'' w'' hf' hn' => hM.exit id k hk _ _ ((hf.mono hl).trans (hf'.mono hrr)) hn', hM.ret⟩ hn
    | some live =>
      rw [hj] at h
      obtain ⟨J, h1, h2⟩ := h
      refine wp_seq (ihx E w _ ex rt _ hr.1 ⟨fun E' w' hf hn => ?_, fun id k hk E' w' hf hn => hM.exit id k hk E' w' (hf.mono hl) hn, fun E' w' hn => hM.ret E' w' hn⟩ h1)
      have := LeV_at h2 _ _ hn
      rw [app_mk _ _ _ (by simp)] at this
      have hy := this E'
      show y.wp P Q (act H.n E') w'
      rw [show act H.n E' = act H.n (setAll (havoc E (assigned x) E') live (live.map (look H.n E'))) from (act_congr (setAll_havoc hf)).symm]
      have hfr : ∀ E'', Fr H.n (assigned y) (setAll (havoc E (assigned x) E') live (live.map (look H.n E'))) E'' → Fr H.n (assigned (.seq x y)) E E'' := by
        intro E'' hf' s hs hs'
        rw [hf' s hs fun h' => hs' (hrr s h'), setAll_havoc hf s hs]
        exact hf s hs fun h' => hs' (hl s h')
      exact ihy _ w' nx ex rt Q hr.2 ⟨fun E'' w'' hf' hn' => hM.next E'' w'' (hfr E'' hf') hn', fun id k hk E'' w'' hf' hn' => hM.exit id k hk E'' w'' (hfr E'' hf') hn', hM.ret⟩ hy
  | cond c x y ihx ihy =>
    intro E w nx ex rt Q hr hM h
    simp only [regOk, Bool.and_eq_true] at hr
    simp only [lift] at h
    obtain ⟨t, ht, h1, h2⟩ := h
    refine wp_cond_split (t := t) (by rw [act_eval]; exact ht) (fun e => ?_) (fun e => ?_)
    · exact ihx E w nx ex rt Q hr.1 ⟨fun E' w' hf => hM.next E' w' (hf.mono fun s hs => List.mem_append_left _ hs), fun id k hk E' w' hf => hM.exit id k hk E' w' (hf.mono fun s hs => List.mem_append_left _ hs), hM.ret⟩ (h1 e)
    · exact ihy E w nx ex rt Q hr.2 ⟨fun E' w' hf => hM.next E' w' (hf.mono fun s hs => List.mem_append_right _ hs), fun id k hk E' w' hf => hM.exit id k hk E' w' (hf.mono fun s hs => List.mem_append_right _ hs), hM.ret⟩ (h2 e)
  | block id c ih =>
    intro E w nx ex rt Q hr hM h
    simp only [regOk] at hr
    simp only [lift] at h
    refine wp_block (ih E w nx _ rt _ hr ⟨fun E' w' hf hn => hM.next E' w' hf hn, fun id' k hk E' w' hf hn => ?_, fun E' w' hn => hM.ret E' w' hn⟩ h)
    show Exit.inBlock id Q (.exit id') (act H.n E') w'
    unfold getK at hk
    simp only [Exit.inBlock]
    cases hb : Nat.beq id id' with
    | true =>
      rw [hb] at hk
      simp only [cond_true, Option.some.injEq] at hk
      subst hk
      rw [if_pos (Nat.eq_of_beq_eq_true hb).symm]
      exact hM.next E' w' hf hn
    | false =>
      rw [hb] at hk
      rw [if_neg fun e => by subst e; simp at hb]
      exact hM.exit id' k hk E' w' hf hn
  | exit id =>
    intro E w nx ex rt Q hr hM h
    simp only [lift] at h
    cases hk : getK ex id with
    | none => rw [hk] at h; exact h.elim
    | some k => rw [hk] at h; exact wp_exit (hM.exit id k hk E w (.refl _ _ _) h)
  | ret => intro E w nx ex rt Q _ hM h; exact wp_ret (hM.ret E w h)
  | loop c ih =>
    intro E w nx ex rt Q hr hM h
    simp only [regOk] at hr
    simp only [lift] at h
    cases hkey : keyLoop c with
    | none => rw [hkey] at h; exact h.elim
    | some key =>
      rw [hkey] at h
      simp only [] at h
      cases hl : getK H.loop key with
      | none => rw [hl] at h; exact h.elim
      | some live =>
        rw [hl] at h
        obtain ⟨I, μ, h0, hround⟩ := h
        refine wp_loop (fun a w => ∃ E', a = act H.n E' ∧ Fr H.n (assigned c) E E' ∧ app live.length I (live.map (look H.n E')) w)
          (fun a w => app live.length μ (live.map fun t => a.tmps.getD t undef) w) ⟨E, rfl, .refl _ _ _, h0⟩ ?_
        rintro a w' ⟨E', rfl, hf, hI⟩
        have hb := AllV_at hround (live.map (look H.n E')) (by simp) w' hI
        rw [app_mk _ _ _ (by simp)] at hb
        have hb := hb E'
        rw [show act H.n E' = act H.n (setAll (havoc E (assigned c) E') live (live.map (look H.n E'))) from (act_congr (setAll_havoc hf)).symm]
        have hfr : ∀ E'', Fr H.n (assigned c) (setAll (havoc E (assigned c) E') live (live.map (look H.n E'))) E'' → Fr H.n (assigned c) E E'' :=
          fun E'' hf' s hs hs' => by rw [hf' s hs hs', setAll_havoc hf s hs]; exact hf s hs hs'
        refine ih _ w' _ ex rt _ hr ⟨fun E'' w'' hf' hn' => ?_, fun id k hk E'' w'' hf' hn => hM.exit id k hk E'' w'' (hfr E'' hf') hn, fun E'' w'' hn => hM.ret E'' w'' hn⟩ hb
        rw [app_mk _ _ _ (by simp)] at hn'
        have e1 : ∀ F : Env, (live.map fun t => (act H.n F).tmps.getD t undef) = live.map (look H.n F) := fun F => List.map_congr_left fun t _ => act_getD H.n F t
        have e2 : live.map (look H.n (setAll (havoc E (assigned c) E') live (live.map (look H.n E')))) = live.map (look H.n E') :=
          List.map_congr_left fun t _ => by
            rw [look_eq, look_eq]
            split
            · rename_i ht; exact setAll_havoc hf t ht
            · rfl
        show (∃ E3, act H.n E'' = act H.n E3 ∧ Fr H.n (assigned c) E E3 ∧ app live.length I (live.map (look H.n E3)) w'') ∧
          app live.length μ (live.map fun t => (act H.n E'').tmps.getD t undef) w'' < app live.length μ (live.map fun t => (act H.n _).tmps.getD t undef) w'
        rw [e1, e1, e2]
        exact ⟨⟨E'', rfl, hfr E'' hf', hn'.1⟩, hn'.2⟩
  | rangeFunc => intro E w nx ex rt Q _ _ h; exact h.elim
  | scope => intro E w nx ex rt Q _ _ h; exact h.elim
  | label => intro E w nx ex rt Q _ _ h; exact h.elim
  | goto => intro E w nx ex rt Q _ _ h; exact h.elim
  | refuse => intro E w nx ex rt Q _ _ h; exact h.elim

/-! ### A call -/
def envOf : List Value → Nat → Env
  | [], _ => fun _ => undef
  | v :: l, i => (envOf l (i + 1)).set i v
def resV (P : Program) (n : Nat) (E : Env) : List ResultVar → World → (List Value → Prop) → Prop
  | [], _, K => K []
  | .tmp t :: l, w, K => resV P n E l w fun vs => K (look n E t :: vs)
  | .cell a ty :: l, w, K => QRun P (Instr.loadAt ty (look n E a)) w fun v => resV P n E l w fun vs => K (v :: vs)
def retV : List Value → Value
  | [v] => v
  | vs => .tuple vs.toArray
theorem envOf_get (l : List Value) (k i : Nat) : envOf l k i = if k ≤ i then (l[i - k]?).getD undef else undef := by
  induction l generalizing k with
  | nil => simp [envOf]
  | cons v l ih =>
    simp only [envOf, set_apply, ih]
    by_cases h : i = k
    · subst h; simp
    · rw [if_neg h]
      by_cases h1 : k ≤ i
      · have : k + 1 ≤ i := by omega
        rw [if_pos this, if_pos h1]
        obtain ⟨d, rfl⟩ : ∃ d, i = k + 1 + d := ⟨i - (k + 1), by omega⟩
        rw [show k + 1 + d - (k + 1) = d by omega, show k + 1 + d - k = d + 1 by omega]
        simp
      · rw [if_neg h1, if_neg (by omega)]
theorem act_init (args : List Value) (n : Nat) (h : args.length ≤ n) : ({ tmps := args.toArray ++ Array.replicate (n - args.length) undef, defers := [] } : Act) = act n (envOf args 0) := by
  unfold act
  congr 1
  apply Array.ext
  · simp; omega
  · intro i h1 h2
    simp only [Array.getElem_ofFn, envOf_get, Nat.zero_le, if_true, Nat.sub_zero]
    rw [Array.getElem_append]
    by_cases hi : i < args.length
    · simp [hi]
    · simp [hi]
theorem resV_results {P : Program} {n : Nat} {E : Env} {fn : Func} {w : World} {K : List Value → Prop} (h : resV P n E fn.results.toList w K) :
    ∃ vs, (results fn (act n E).tmps).run P w = .ok (retV vs) w ∧ K vs := by
  have key : ∀ (l : List ResultVar) (K : List Value → Prop), resV P n E l w K →
      ∃ vs, (l.mapM fun | .tmp t => pure ((act n E).tmps.getD t undef) | .cell a t => do loadVar t (← asAddr ((act n E).tmps.getD a undef)) : Sem (List Value)).run P w = .ok vs w ∧ K vs := by
    intro l
    induction l with
    | nil => intro K h; exact ⟨[], rfl, h⟩
    | cons x l ih =>
      intro K h
      cases x with
      | tmp t =>
        obtain ⟨vs, h1, h2⟩ := ih _ h
        refine ⟨_, ?_, h2⟩
        rw [List.mapM_cons]
        rw [Sem.run_bind, Sem.run_pure, Result.andThen_ok, Sem.run_bind, h1, Result.andThen_ok, Sem.run_pure, act_getD]
      | cell a ty =>
        obtain ⟨v, hv, h⟩ := h
        obtain ⟨vs, h1, h2⟩ := ih _ h
        refine ⟨_, ?_, h2⟩
        rw [List.mapM_cons]
        have hl : (do loadVar ty (← asAddr ((act n E).tmps.getD a undef)) : Sem Value).run P w = .ok v w := by
          rw [act_getD]
          unfold Instr.loadAt at hv
          show (asAddr (look n E a) >>= fun x => loadVar ty x).run P w = _
          change (Instr.sureAddr (look n E a) >>= fun x => loadVar ty x).run P w = _ at hv
          cases hx : look n E a <;> rw [hx] at hv <;> simp only [Instr.sureAddr] at hv
          case pointer p => cases p <;> first | exact hv | (simp [stuck, Sem.run_bind] at hv)
          all_goals (simp [stuck, Sem.run_bind] at hv)
        rw [Sem.run_bind, hl, Result.andThen_ok, Sem.run_bind, h1, Result.andThen_ok, Sem.run_pure]
  obtain ⟨vs, h1, h2⟩ := key _ K h
  refine ⟨vs, ?_, h2⟩
  unfold results
  rw [Array.mapM_eq_mapM_toList]
  rw [Sem.run_bind, Sem.run_map]
  refine (congrArg (fun r : Result (List Value) => (r.andThen fun a w' => Result.ok a.toArray w').andThen fun a w' => Sem.run P (pure (if h : a.size = 1 then a[0] else Value.tuple a)) w') h1).trans ?_
  simp only [Result.andThen_ok]
  rw [Sem.run_pure]
  congr 1
  match vs with
  | [] => rfl
  | [v] => rfl
  | v :: u :: l => simp [retV]

theorem lift_call {P : Program} (hm : P.follows .mixedOrders = true) {H : Hints} {f : FuncId} {fn : Func} {c : Code} (hf : P.funcs[f]? = some fn) (hb : fn.body = some c) (hn : fn.ntmps = H.n)
    (hr : regOk H c = true) {args : List Value} (ha : args.length ≤ H.n) {w : World} {K : Value → World → Prop}
    (h : lift P H c (envOf args 0) w (fun E w => resV P H.n E fn.results.toList w fun vs => K (retV vs) w) [] (fun E w => resV P H.n E fn.results.toList w fun vs => K (retV vs) w)) :
    Calls P f args.toArray w (retK K) := by
  refine calls_of_wp hf hb ?_
  rw [hn]
  rw [show (args.toArray ++ Array.replicate (H.n - args.toArray.size) undef) = (act H.n (envOf args 0)).tmps from congrArg Act.tmps (act_init args H.n ha)]
  refine lift_wp hm c (envOf args 0) w _ _ _ _ hr ⟨fun E' w' _ hk => ?_, fun id k hk => by simp [getK] at hk, fun E' w' hk => ?_⟩ h
  · obtain ⟨vs, h1, h2⟩ := resV_results hk
    exact ⟨rfl, _, h1, h2⟩
  · obtain ⟨vs, h1, h2⟩ := resV_results hk
    exact ⟨rfl, _, h1, h2⟩
end Go.Lf
