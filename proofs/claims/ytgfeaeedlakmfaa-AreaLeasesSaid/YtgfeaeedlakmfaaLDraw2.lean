/- A part of the proof: Lf.Draw2. -/
import Derived.Test.YtgfeaeedlakmfaaLDraw
set_option linter.unusedVariables false
set_option linter.unusedSimpArgs false
set_option linter.unusedSectionVars false
namespace Go.Lf

/-- Of the actual run: which operations have been carried out (L), what the slots hold (M); of the proposition: which have been told (done), what they hold there (E). -/
structure Inv (P : Program) (n : Nat) (ops : List Oper) (h : RH) (E0 : Env) (L : Array Bool) (done ea : Nat) (pend : List (Nat × (World → Prop))) (E M : Env) (w : World) : Prop where
  size : L.size = ops.length
  sub : ∀ i, i < ops.length → L.getD i true = true → done.testBit i = true
  bound : ∀ i, done.testBit i = true → i < ops.length
  closed : ∀ i, i < ops.length → L.getD i true = true → ∀ j, (ancAt h i).testBit j = true → L.getD j true = true
  dcl : ∀ i, done.testBit i = true → ∀ j, (ancAt h i).testBit j = true → done.testBit j = true
  effs : ∀ i, done.testBit i = true → h.cls[i]? = some .e → L.getD i true = true
  eaL : ∀ j, ea.testBit j = true → L.getD j true = true
  keep : ∀ s, (∀ i, done.testBit i = true → dstOf ops i ≠ some s) → E s = E0 s
  mixL : ∀ s i, i < ops.length → L.getD i true = true → dstOf ops i = some s → M s = E s
  mix0 : ∀ s, (∀ i, i < ops.length → L.getD i true = true → dstOf ops i ≠ some s) → M s = E0 s
  facts : ∀ i o, ops[i]? = some o → done.testBit i = true → L.getD i true = false → ∃ (Ei : Env) (v : Value), (∀ d, o.dst = some d → E d = v) ∧
    (∀ s ∈ namesOf ops o, (∀ j, (ancAt h i).testBit j = true → dstOf ops j = some s → Ei s = E s) ∧ ((∀ j, (ancAt h i).testBit j = true → dstOf ops j ≠ some s) → Ei s = E0 s)) ∧
    QOk P n ops Ei o v w ∧ (h.cls[i]? = some .p → ∀ w', QOk P n ops Ei o v w') ∧ (h.cls[i]? ≠ some .p → (i, predG P n ops Ei o v) ∈ pend)

theorem QOk.later {P : Program} {n : Nat} {ops : List Oper} {E : Env} {o : Oper} {v : Value} {w w' : World} (h : QOk P n ops E o v w) (hp : predG P n ops E o v w') : QOk P n ops E o v w' := by
  unfold QOk at *
  unfold predG at hp
  cases hg : o.guard with
  | none => rw [hg] at hp; exact hp.at
  | some g => obtain ⟨j, want⟩ := g; rw [hg] at hp h; exact ⟨fun hx => (hp hx).at, h.2⟩

section
variable {P : Program} {n : Nat} {ops : List Oper} {h : RH}

theorem dst_apart (hd : drawOk ops h = true) {i j : Nat} {s : Nat} (hi : dstOf ops i = some s) (hj : dstOf ops j = some s) : i = j := by
  simp only [drawOk, Bool.and_eq_true] at hd
  unfold dstOf at hi hj
  cases hoi : ops[i]? with
  | none => rw [hoi] at hi; simp at hi
  | some o =>
    cases hoj : ops[j]? with
    | none => rw [hoj] at hj; simp at hj
    | some x =>
      rw [hoi] at hi; rw [hoj] at hj
      simp at hi hj
      by_cases e : i = j
      · exact e
      · have := slotOk_at (slotsOk_at (k := 0) hd.2 hoi) hoj hj (by omega)
        exact absurd hi this.2
theorem names_ordered (hd : drawOk ops h = true) {i j : Nat} {o : Oper} {s : Nat} (hi : ops[i]? = some o) (hs : s ∈ namesOf ops o) (hj : dstOf ops j = some s) (hij : i ≠ j) :
    (ancAt h i).testBit j = true ∨ (ancAt h j).testBit i = true := by
  simp only [drawOk, Bool.and_eq_true] at hd
  unfold dstOf at hj
  cases hoj : ops[j]? with
  | none => rw [hoj] at hj; simp at hj
  | some x =>
    rw [hoj] at hj
    simp at hj
    have := (slotOk_at (slotsOk_at (k := 0) hd.2 hi) hoj hj (by omega)).1 hs
    simp only [Nat.zero_add, ordered, Bool.or_eq_true] at this
    exact this
theorem draw_lens (hd : drawOk ops h = true) : h.cls.length = ops.length ∧ h.anc.length = ops.length ∧ (∀ o ∈ ops, notSelect o = true) ∧ ancOk h ops 0 = true := by
  simp only [drawOk, Bool.and_eq_true] at hd
  exact ⟨Nat.eq_of_beq_eq_true hd.1.1.1.1, Nat.eq_of_beq_eq_true hd.1.1.1.2, fun o ho => List.all_eq_true.1 hd.1.1.2 o ho, hd.1.2⟩
theorem put_ne {E : Env} {dst : Option Nat} {v : Value} {s : Nat} (h : dst ≠ some s) : E.put dst v s = E s := by
  cases dst with
  | none => rfl
  | some d =>
    show E.set d v s = E s
    rw [set_apply, if_neg]
    rintro rfl
    exact h rfl
theorem put_eq {E : Env} {v : Value} {s : Nat} : E.put (some s) v s = v := by
  show E.set s v s = v
  rw [set_apply, if_pos rfl]
theorem dstOf_eq {i : Nat} {o : Oper} (hi : ops[i]? = some o) : dstOf ops i = o.dst := by simp [dstOf, hi]
theorem lor_bit {d i j : Nat} : (Nat.lor d (2 ^ i)).testBit j = true ↔ d.testBit j = true ∨ i = j := by
  rw [testBit_lor_pow]; simp
theorem ancAt_some {i a : Nat} (h' : h.anc[i]? = some a) : ancAt h i = a := by simp [ancAt, h']

/-- Quiet operations that may run are told, one behind the other. -/
theorem settle (hd : drawOk ops h = true) {K : Env → World → Prop} {E0 M : Env} {L : Array Bool} {w : World} {ea : Nat} : ∀ (fuel done : Nat) (pend : List (Nat × (World → Prop))) (E : Env),
    Inv P n ops h E0 L done ea pend E M w → drawF P n ops h K fuel done ea pend E w →
    ∃ fuel' done' pend' E', Inv P n ops h E0 L done' ea pend' E' M w ∧ findQ done' h.cls h.anc 0 = none ∧ drawF P n ops h K (fuel' + 1) done' ea pend' E' w := by
  intro fuel
  induction fuel with
  | zero => intro done pend E _ hF; exact hF.elim
  | succ fuel ih =>
    intro done pend E I hF
    cases hq : findQ done h.cls h.anc 0 with
    | none => exact ⟨fuel, done, pend, E, I, hq, hF⟩
    | some i =>
      obtain ⟨j, e, ⟨c, hc, hce⟩, a, ha, hsub, hnd⟩ := findQ_some hq
      have e : i = j := by omega
      subst e
      obtain ⟨hl1, hl2, hns, hanc⟩ := draw_lens hd
      have hilt : i < ops.length := by have := (List.getElem?_eq_some_iff.1 hc).1; omega
      obtain ⟨o, ho⟩ : ∃ o, ops[i]? = some o := ⟨_, List.getElem?_eq_getElem hilt⟩
      have hLi : L.getD i true = false := by
        cases hb : L.getD i true with
        | false => rfl
        | true => rw [I.sub i hilt hb] at hnd; cases hnd
      have haw : ancAt h i = a := ancAt_some ha
      have hsub' : ∀ j, (ancAt h i).testBit j = true → done.testBit j = true := by rw [haw]; exact sub_iff.1 hsub
      have step : ∀ (v : Value) (pend' : List (Nat × (World → Prop))), QOk P n ops E o v w → (c = .p → ∀ w', QOk P n ops E o v w') → (∀ x ∈ pend, x ∈ pend') → (c ≠ .p → (i, predG P n ops E o v) ∈ pend') →
          Inv P n ops h E0 L (Nat.lor done (2 ^ i)) ea pend' (E.put o.dst v) M w := by
        intro v pend' hv hvp hpp hpi
        have hdst := dstOf_eq ho
        have hne : ∀ s i', i' ≠ i → dstOf ops i' = some s → o.dst ≠ some s := fun s i' hi' hs he => hi' (dst_apart hd hs (hdst.trans he))
        refine ⟨I.size, fun i' hi' hL => lor_bit.2 (.inl (I.sub i' hi' hL)), fun i' hb => ?_, I.closed, fun i' hb j hj => ?_, fun i' hb hce' => ?_, I.eaL, fun s hs => ?_, fun s i' hi' hL hs => ?_, I.mix0, fun i' o' ho' hb hL => ?_⟩
        · rcases lor_bit.1 hb with hb | rfl
          · exact I.bound i' hb
          · exact hilt
        · rcases lor_bit.1 hb with hb | rfl
          · exact lor_bit.2 (.inl (I.dcl i' hb j hj))
          · exact lor_bit.2 (.inl (hsub' j hj))
        · rcases lor_bit.1 hb with hb | rfl
          · exact I.effs i' hb hce'
          · rw [hc] at hce'; exact absurd (Option.some.inj hce') hce
        · rw [put_ne (by rw [← hdst]; exact hs i (lor_bit.2 (.inr rfl)))]
          exact I.keep s fun i' hb => hs i' (lor_bit.2 (.inl hb))
        · rw [put_ne (hne s i' (fun e => by rw [e, hLi] at hL; cases hL) hs)]
          exact I.mixL s i' hi' hL hs
        · by_cases e : i' = i
          · subst e
            rw [ho] at ho'
            obtain rfl := Option.some.inj ho'
            refine ⟨E, v, fun d hd' => by rw [hd', put_eq], fun s hs => ⟨fun j hj hjs => ?_, fun hno => ?_⟩, hv, fun hp => hvp (by rw [hc] at hp; exact Option.some.inj hp), fun hp => hpi (fun e => hp (by rw [hc, e]))⟩
            · rw [put_ne (hne s j (fun e => by rw [e] at hj; have := hsub' _ hj; rw [this] at hnd; cases hnd) hjs)]
            · refine I.keep s fun j hj hjs => ?_
              have hji : j ≠ i' := fun e => by rw [e, hnd] at hj; cases hj
              rcases names_ordered hd ho hs hjs (fun e => hji e.symm) with hx | hx
              · exact hno j hx hjs
              · have := I.dcl j hj i' hx; rw [this] at hnd; cases hnd
          · have hb' : done.testBit i' = true := (lor_bit.1 hb).resolve_right (fun e' => e e'.symm)
            obtain ⟨Ei, v', h1, h2, h3, h4, h5⟩ := I.facts i' o' ho' hb' hL
            refine ⟨Ei, v', fun d hd' => ?_, fun s hs => ⟨fun j hj hjs => ?_, (h2 s hs).2⟩, h3, h4, fun hp => hpp _ (h5 hp)⟩
            · rw [put_ne (hne d i' e (by rw [dstOf_eq ho', hd']))]; exact h1 d hd'
            · have hji : j ≠ i := fun e' => by
                rw [e'] at hj; have := I.dcl i' hb' i hj; rw [this] at hnd; cases hnd
              rw [put_ne (hne s j hji hjs)]
              exact (h2 s hs).1 j hj hjs
      unfold drawF at hF
      rw [hq] at hF
      simp only [ho, hc, Option.getD_some] at hF
      cases c with
      | e => exact absurd rfl hce
      | p =>
        obtain ⟨v, ⟨hv, hvp⟩, hF⟩ := quietG_ok hF
        exact ih _ _ _ (step v pend hv (fun _ => hvp rfl) (fun _ hx => hx) (fun hx => absurd rfl hx)) hF
      | q =>
        obtain ⟨v, ⟨hv, _⟩, hF⟩ := quietG_ok hF
        exact ih _ _ _ (step v _ hv (fun hx => by cases hx) (fun _ hx => List.mem_cons_of_mem _ hx) (fun _ => List.mem_cons_self)) hF
end
end Go.Lf
