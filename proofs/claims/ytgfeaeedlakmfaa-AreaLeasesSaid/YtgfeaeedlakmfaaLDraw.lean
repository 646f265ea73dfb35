/-
  A region that draws its order: quiet operations are told as soon as they may run; of those that act each that may be next; a read that may still come behind one that acts must give the same there.
-/
import Derived.Test.YtgfeaeedlakmfaaLCode
set_option linter.unusedVariables false
set_option linter.unusedSimpArgs false
set_option linter.unusedSectionVars false
namespace Go.Lf

def sub (a d : Nat) : Bool := Nat.beq (Nat.land d a) a
def findQ (done : Nat) : List Cls → List Nat → Nat → Option Nat
  | c :: cs, a :: as, i =>
    match c with
    | .e => findQ done cs as (i + 1)
    | _ => bif !Nat.testBit done i && sub a done then some i else findQ done cs as (i + 1)
  | _, _, _ => none
def findE (done : Nat) : List Cls → List Nat → Nat → List Nat
  | c :: cs, a :: as, i =>
    match c with
    | .e => bif !Nat.testBit done i && sub a done then i :: findE done cs as (i + 1) else findE done cs as (i + 1)
    | _ => findE done cs as (i + 1)
  | _, _, _ => []
def rechk (ea : Nat) : List (Nat × (World → Prop)) → World → Prop → Prop
  | [], _, X => X
  | (i, p) :: r, w, X => bif Nat.testBit ea i then rechk ea r w X else p w ∧ rechk ea r w X
def andAll : List Nat → (Nat → Prop) → Prop
  | [], _ => True
  | [i], f => f i
  | i :: l, f => f i ∧ andAll l f
def drawF (P : Program) (n : Nat) (ops : List Oper) (h : RH) (K : Env → World → Prop) : Nat → Nat → Nat → List (Nat × (World → Prop)) → Env → World → Prop
  | 0, _, _, _, _, _ => False
  | fuel + 1, done, ea, pend, E, w =>
    match findQ done h.cls h.anc 0 with
    | some i =>
      match ops[i]? with
      | none => False
      | some o =>
        match (h.cls[i]?).getD .q with
        | .p => quietG P n ops E o .p w fun v => drawF P n ops h K fuel (Nat.lor done (2 ^ i)) ea pend (E.put o.dst v) w
        | _ => quietG P n ops E o .q w fun v => drawF P n ops h K fuel (Nat.lor done (2 ^ i)) ea ((i, predG P n ops E o v) :: pend) (E.put o.dst v) w
    | none =>
      match findE done h.cls h.anc 0 with
      | [] => K E w
      | l => andAll l fun i =>
        match ops[i]? with
        | none => False
        | some o => effG P n ops E o w fun v w' =>
            rechk (Nat.lor ea ((h.anc[i]?).getD 0)) pend w' (drawF P n ops h K fuel (Nat.lor done (2 ^ i)) (Nat.lor ea ((h.anc[i]?).getD 0)) pend (E.put o.dst v) w')

theorem andAll_mem {l : List Nat} {f : Nat → Prop} (h : andAll l f) {i : Nat} (hi : i ∈ l) : f i := by
  induction l with
  | nil => cases hi
  | cons x l ih =>
    cases l with
    | nil => simp at hi; subst hi; exact h
    | cons y l =>
      cases hi with
      | head => exact h.1
      | tail _ hi => exact ih h.2 hi
theorem rechk_out {ea : Nat} {pend : List (Nat × (World → Prop))} {w : World} {X : Prop} (h : rechk ea pend w X) :
    X ∧ ∀ i p, (i, p) ∈ pend → ea.testBit i = false → p w := by
  induction pend with
  | nil => exact ⟨h, fun _ _ h => by cases h⟩
  | cons x r ih =>
    obtain ⟨j, q⟩ := x
    unfold rechk at h
    cases hb : ea.testBit j with
    | true =>
      rw [hb] at h
      obtain ⟨h1, h2⟩ := ih h
      refine ⟨h1, fun i p hm hi => ?_⟩
      cases hm with
      | head => rw [hb] at hi; cases hi
      | tail _ hm => exact h2 i p hm hi
    | false =>
      rw [hb] at h
      obtain ⟨hq, h⟩ := h
      obtain ⟨h1, h2⟩ := ih h
      refine ⟨h1, fun i p hm hi => ?_⟩
      cases hm with
      | head => exact hq
      | tail _ hm => exact h2 i p hm hi
theorem sub_iff {a d : Nat} : sub a d = true ↔ ∀ j, a.testBit j = true → d.testBit j = true := by
  unfold sub
  constructor
  · intro h j hj
    have e : d &&& a = a := Nat.eq_of_beq_eq_true h
    have : (d &&& a).testBit j = true := by rw [e]; exact hj
    rw [Nat.testBit_and] at this
    simp at this
    exact this.1
  · intro h
    have e : d &&& a = a := Nat.eq_of_testBit_eq fun j => by
      rw [Nat.testBit_and]
      cases hj : a.testBit j with
      | false => simp
      | true => simp [h j hj]
    show Nat.beq (d &&& a) a = true
    rw [e]; simp
theorem findQ_some {done : Nat} {cls : List Cls} {anc : List Nat} {k i : Nat} (h : findQ done cls anc k = some i) :
    ∃ j, i = k + j ∧ (∃ c, cls[j]? = some c ∧ c ≠ .e) ∧ ∃ a, anc[j]? = some a ∧ sub a done = true ∧ done.testBit i = false := by
  induction cls generalizing anc k with
  | nil => cases h
  | cons c cs ih =>
    cases anc with
    | nil => cases h
    | cons a as =>
      have step : findQ done cs as (k + 1) = some i → ∃ j, i = k + j ∧ (∃ c', (c :: cs)[j]? = some c' ∧ c' ≠ .e) ∧ ∃ a', (a :: as)[j]? = some a' ∧ sub a' done = true ∧ done.testBit i = false := by
        intro h
        obtain ⟨j, h1, h2, h3⟩ := ih h
        exact ⟨j + 1, by omega, by simpa using h2, by simpa using h3⟩
      have here : c ≠ .e → (bif !Nat.testBit done k && sub a done then some k else findQ done cs as (k + 1)) = some i →
          ∃ j, i = k + j ∧ (∃ c', (c :: cs)[j]? = some c' ∧ c' ≠ .e) ∧ ∃ a', (a :: as)[j]? = some a' ∧ sub a' done = true ∧ done.testBit i = false := by
        intro hc h
        cases hb : (!Nat.testBit done k && sub a done) with
        | false => rw [hb] at h; exact step h
        | true =>
          rw [hb] at h
          simp only [cond_true, Option.some.injEq] at h
          subst h
          simp only [Bool.and_eq_true, Bool.not_eq_true'] at hb
          exact ⟨0, rfl, ⟨c, rfl, hc⟩, a, rfl, hb.2, hb.1⟩
      cases c with
      | e => exact step h
      | p => exact here (by simp) h
      | q => exact here (by simp) h
theorem findQ_none {done : Nat} {cls : List Cls} {anc : List Nat} {k : Nat} (h : findQ done cls anc k = none) :
    ∀ j c a, cls[j]? = some c → c ≠ .e → anc[j]? = some a → sub a done = true → done.testBit (k + j) = true := by
  induction cls generalizing anc k with
  | nil => intro j c a hj; simp at hj
  | cons c0 cs ih =>
    cases anc with
    | nil => intro j c a _ _ ha; simp at ha
    | cons a0 as =>
      intro j c a hj hc ha hsub
      have nxt : findQ done cs as (k + 1) = none := by
        unfold findQ at h
        cases c0 <;> simp only [] at h
        case e => exact h
        all_goals (cases hb : (!Nat.testBit done k && sub a0 done) <;> rw [hb] at h <;> simp at h; exact h)
      cases j with
      | zero =>
        simp at hj ha
        subst hj ha
        unfold findQ at h
        cases c0 <;> simp only [] at h
        case e => exact absurd rfl hc
        all_goals
          cases hb : Nat.testBit done k with
          | true => rfl
          | false => rw [hb, hsub] at h; simp at h
      | succ j =>
        have := ih nxt j c a (by simpa using hj) hc (by simpa using ha) hsub
        simpa [Nat.add_assoc, Nat.add_comm 1 j] using this
theorem findE_mem {done : Nat} {cls : List Cls} {anc : List Nat} {k : Nat} :
    ∀ j a, cls[j]? = some .e → anc[j]? = some a → sub a done = true → done.testBit (k + j) = false → k + j ∈ findE done cls anc k := by
  induction cls generalizing anc k with
  | nil => intro j a hj; simp at hj
  | cons c0 cs ih =>
    cases anc with
    | nil => intro j a _ ha; simp at ha
    | cons a0 as =>
      intro j a hj ha hsub hd
      cases j with
      | zero =>
        simp at hj ha
        subst hj ha
        have hd' : done.testBit k = false := hd
        simp [findE, hd', hsub]
      | succ j =>
        have := ih (k := k + 1) (anc := as) j a (by simpa using hj) (by simpa using ha) hsub (by simpa [Nat.add_assoc, Nat.add_comm 1 j] using hd)
        have e : k + (j + 1) = k + 1 + j := by omega
        rw [e]
        unfold findE
        cases c0 <;> simp only []
        case e => cases (!Nat.testBit done k && sub a0 done) <;> simp [this]
        all_goals exact this
theorem testBit_lor_pow (d i j : Nat) : (Nat.lor d (2 ^ i)).testBit j = (d.testBit j || decide (i = j)) := by
  show (d ||| 2 ^ i).testBit j = _
  rw [Nat.testBit_or, Nat.testBit_two_pow]

/-! ### What is asked of a region's marks -/
def dstOf (ops : List Oper) (i : Nat) : Option Nat := (ops[i]?).bind (·.dst)
def ancAt (h : RH) (i : Nat) : Nat := (h.anc[i]?).getD 0
def upTo (h : RH) (o : Oper) : Nat := o.after.toList.foldl (fun s e => bif Region.binds .any e then Nat.lor s (Nat.lor (2 ^ e.on) (ancAt h e.on)) else s) 0
/-- Each ancestor is a direct one, or a direct one's; edges lead back. -/
def ancOk (h : RH) : List Oper → Nat → Bool
  | [], _ => true
  | o :: l, i => sub (ancAt h i) (upTo h o) && o.after.toList.all (fun e => !Region.binds .any e || Nat.blt e.on i) && ancOk h l (i + 1)
def ordered (h : RH) (i j : Nat) : Bool := Nat.testBit (ancAt h i) j || Nat.testBit (ancAt h j) i
/-- A slot that operation i names is written by i alone, or by operations that stand in an order with i; no slot is written twice. -/
def slotOk (h : RH) (ops : List Oper) (i : Nat) (o : Oper) : List Oper → Nat → Bool
  | [], _ => true
  | x :: l, j => (match x.dst with
      | none => true
      | some d => Nat.beq i j || ((!(namesOf ops o).contains d || ordered h i j) && (match o.dst with | some d' => !Nat.beq d d' | none => true))) && slotOk h ops i o l (j + 1)
def slotsOk (h : RH) (ops : List Oper) : List Oper → Nat → Bool
  | [], _ => true
  | o :: l, i => slotOk h ops i o ops 0 && slotsOk h ops l (i + 1)
def drawOk (ops : List Oper) (h : RH) : Bool :=
  Nat.beq h.cls.length ops.length && Nat.beq h.anc.length ops.length && ops.all notSelect && ancOk h ops 0 && slotsOk h ops ops 0

theorem ancOk_at {h : RH} {l : List Oper} {k : Nat} (hk : ancOk h l k = true) {i : Nat} {o : Oper} (hi : l[i]? = some o) :
    (∀ j, (ancAt h (k + i)).testBit j = true → ∃ e ∈ o.after.toList, Region.binds .any e = true ∧ (e.on = j ∨ (ancAt h e.on).testBit j = true)) ∧
    ∀ e ∈ o.after.toList, Region.binds .any e = true → e.on < k + i := by
  induction l generalizing k i with
  | nil => simp at hi
  | cons x l ih =>
    simp only [ancOk, Bool.and_eq_true] at hk
    obtain ⟨⟨h1, h2⟩, h3⟩ := hk
    cases i with
    | succ i =>
      have := ih h3 (i := i) (by simpa using hi)
      simpa [Nat.add_assoc, Nat.add_comm 1 i] using this
    | zero =>
      simp at hi
      subst hi
      refine ⟨fun j hj => ?_, fun e he hb => ?_⟩
      · have hu := sub_iff.1 h1 j (by simpa using hj)
        have key : ∀ (l : List Edge) (s : Nat), (l.foldl (fun s e => bif Region.binds .any e then Nat.lor s (Nat.lor (2 ^ e.on) (ancAt h e.on)) else s) s).testBit j = true →
            s.testBit j = true ∨ ∃ e ∈ l, Region.binds .any e = true ∧ (e.on = j ∨ (ancAt h e.on).testBit j = true) := by
          intro l
          induction l with
          | nil => intro s hs; exact .inl hs
          | cons e l ihl =>
            intro s hs
            rcases ihl _ hs with hs | ⟨e', he', hb', h'⟩
            · dsimp only at hs
              cases hb : Region.binds .any e with
              | false => rw [hb] at hs; exact .inl hs
              | true =>
                rw [hb] at hs
                simp only [cond_true] at hs
                change (s ||| (2 ^ e.on ||| ancAt h e.on)).testBit j = true at hs
                rw [Nat.testBit_or, Nat.testBit_or, Nat.testBit_two_pow] at hs
                simp only [Bool.or_eq_true, decide_eq_true_eq] at hs
                rcases hs with hs | hs | hs
                · exact .inl hs
                · exact .inr ⟨e, by simp, hb, .inl hs⟩
                · exact .inr ⟨e, by simp, hb, .inr hs⟩
            · exact .inr ⟨e', by simp [he'], hb', h'⟩
        rcases key _ 0 hu with h0 | h0
        · simp at h0
        · exact h0
      · have := List.all_eq_true.1 h2 e he
        rw [hb] at this
        simpa using this
theorem slotsOk_at {h : RH} {ops l : List Oper} {k : Nat} (hk : slotsOk h ops l k = true) {i : Nat} {o : Oper} (hi : l[i]? = some o) : slotOk h ops (k + i) o ops 0 = true := by
  induction l generalizing k i with
  | nil => simp at hi
  | cons x l ih =>
    simp only [slotsOk, Bool.and_eq_true] at hk
    cases i with
    | zero => simp at hi; subst hi; exact hk.1
    | succ i => have := ih hk.2 (i := i) (by simpa using hi); simpa [Nat.add_assoc, Nat.add_comm 1 i] using this
theorem slotOk_at {h : RH} {ops l : List Oper} {i k : Nat} {o : Oper} (hk : slotOk h ops i o l k = true) {j : Nat} {x : Oper} {d : Nat} (hj : l[j]? = some x) (hd : x.dst = some d) (hij : i ≠ k + j) :
    (d ∈ namesOf ops o → ordered h i (k + j) = true) ∧ o.dst ≠ some d := by
  induction l generalizing k j with
  | nil => simp at hj
  | cons y l ih =>
    simp only [slotOk, Bool.and_eq_true] at hk
    cases j with
    | succ j => have := ih hk.2 (j := j) (by simpa using hj) (by omega); simpa [Nat.add_assoc, Nat.add_comm 1 j] using this
    | zero =>
      simp at hj
      subst hj
      have h1 := hk.1
      rw [hd] at h1
      simp only [Bool.or_eq_true, Bool.and_eq_true, Bool.not_eq_true'] at h1
      rcases h1 with h1 | ⟨h1, h2⟩
      · exact absurd (Nat.eq_of_beq_eq_true h1) (by simpa using hij)
      · refine ⟨fun hm => ?_, fun e => ?_⟩
        · rcases h1 with h1 | h1
          · rw [List.contains_iff_mem.2 hm] at h1; cases h1
          · simpa using h1
        · rw [e] at h2; simp at h2
end Go.Lf
