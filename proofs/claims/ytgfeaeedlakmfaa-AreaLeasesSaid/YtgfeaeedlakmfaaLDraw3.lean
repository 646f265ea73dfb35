/- A part of the proof: Lf.Draw3. -/
import Derived.Test.YtgfeaeedlakmfaaLDraw2
set_option linter.unusedVariables false
set_option linter.unusedSimpArgs false
set_option linter.unusedSectionVars false
namespace Go.Lf
section
variable {P : Program} {n : Nat} {ops : List Oper} {h : RH}

theorem findE_out {done : Nat} {cls : List Cls} {anc : List Nat} {k i : Nat} (h : i ∈ findE done cls anc k) :
    ∃ j, i = k + j ∧ cls[j]? = some .e ∧ ∃ a, anc[j]? = some a ∧ sub a done = true ∧ done.testBit i = false := by
  induction cls generalizing anc k with
  | nil => simp [findE] at h
  | cons c cs ih =>
    cases anc with
    | nil => simp [findE] at h
    | cons a as =>
      have step : i ∈ findE done cs as (k + 1) → ∃ j, i = k + j ∧ (c :: cs)[j]? = some .e ∧ ∃ a', (a :: as)[j]? = some a' ∧ sub a' done = true ∧ done.testBit i = false := by
        intro h
        obtain ⟨j, h1, h2, h3⟩ := ih h
        exact ⟨j + 1, by omega, by simpa using h2, by simpa using h3⟩
      unfold findE at h
      cases c <;> simp only [] at h
      case e =>
        cases hb : (!Nat.testBit done k && sub a done) with
        | false => rw [hb] at h; exact step h
        | true =>
          rw [hb] at h
          simp only [cond_true, List.mem_cons] at h
          rcases h with rfl | h
          · simp only [Bool.and_eq_true, Bool.not_eq_true'] at hb
            exact ⟨0, rfl, rfl, a, rfl, hb.2, hb.1⟩
          · exact step h
      all_goals exact step h

theorem unl_set : ∀ (l : List Bool) (i : Nat), l[i]? = some false → ((l.set i true).filter (!·)).length + 1 = (l.filter (!·)).length := by
  intro l
  induction l with
  | nil => intro i hi; simp at hi
  | cons b l ih =>
    intro i hi
    cases i with
    | zero => simp at hi; subst hi; simp
    | succ i =>
      have := ih i (by simpa using hi)
      cases b <;> simp <;> omega

theorem Inv.ready (hd : drawOk ops h = true) {E0 E M : Env} {L : Array Bool} {w : World} {done ea : Nat} {pend : List (Nat × (World → Prop))}
    (I : Inv P n ops h E0 L done ea pend E M w) {i : Nat} (hi : i ∈ Region.ready .any ops.toArray L) :
    i < ops.length ∧ L.getD i true = false ∧ ∃ o, ops[i]? = some o ∧ ∀ j, (ancAt h i).testBit j = true → L.getD j true = true := by
  obtain ⟨h1, o, ho, he⟩ := mem_ready.1 hi
  simp only [List.getElem?_toArray] at ho
  have hlt := (List.getElem?_eq_some_iff.1 ho).1
  obtain ⟨_, _, _, hanc⟩ := draw_lens hd
  refine ⟨hlt, h1, o, ho, fun j hj => ?_⟩
  have hA := ancOk_at hanc ho
  simp only [Nat.zero_add] at hA
  obtain ⟨ed, hm, hb, hor⟩ := hA.1 j hj
  have hon := he ed (by simpa using hm) hb
  have honlt := hA.2 ed hm hb
  have honL : L.getD ed.on true = true := by
    have : ed.on < L.size := by rw [I.size]; omega
    simp only [Array.getD_eq_getD_getElem?, Array.getElem?_eq_getElem this, Option.getD_some] at hon ⊢
    exact hon
  rcases hor with rfl | hor
  · exact honL
  · exact I.closed ed.on (by omega) honL j hor

theorem Inv.allListed (hd : drawOk ops h = true) {E0 E M : Env} {L : Array Bool} {w : World} {done ea : Nat} {pend : List (Nat × (World → Prop))}
    (I : Inv P n ops h E0 L done ea pend E M w) (hr : Region.ready .any ops.toArray L = []) : ∀ i, i < ops.length → L.getD i true = true := by
  intro i
  induction i using Nat.strongRecOn with
  | _ i ih =>
    intro hi
    cases hb : L.getD i true with
    | true => rfl
    | false =>
      obtain ⟨_, _, _, hanc⟩ := draw_lens hd
      obtain ⟨o, ho⟩ : ∃ o, ops[i]? = some o := ⟨_, List.getElem?_eq_getElem hi⟩
      have hA := (ancOk_at hanc ho).2
      have : i ∈ Region.ready .any ops.toArray L := by
        refine mem_ready.2 ⟨hb, o, by simpa using ho, fun e he hbd => ?_⟩
        have hlt := hA e (by simpa using he) hbd
        simp only [Nat.zero_add] at hlt
        have := ih e.on hlt (by omega)
        have hs : e.on < L.size := by rw [I.size]; omega
        simp only [Array.getD_eq_getD_getElem?, Array.getElem?_eq_getElem hs, Option.getD_some] at this ⊢
        exact this
      rw [hr] at this
      cases this

theorem Inv.atEnd (hd : drawOk ops h = true) {K : Env → World → Prop} {E0 E M : Env} {L : Array Bool} {w : World} {done ea fuel : Nat} {pend : List (Nat × (World → Prop))}
    (I : Inv P n ops h E0 L done ea pend E M w) (hq : findQ done h.cls h.anc 0 = none) (hF : drawF P n ops h K (fuel + 1) done ea pend E w)
    (hall : ∀ i, i < ops.length → L.getD i true = true) : K E w ∧ M = E := by
  have hE : findE done h.cls h.anc 0 = [] := by
    cases he : findE done h.cls h.anc 0 with
    | nil => rfl
    | cons x l =>
      obtain ⟨j, e, hc, a, _, _, hnd⟩ := findE_out (i := x) (by rw [he]; exact List.mem_cons_self)
      have e : x = j := by omega
      subst e
      have hlt : x < ops.length := by
        have := (List.getElem?_eq_some_iff.1 hc).1
        rw [(draw_lens hd).1] at this; exact this
      rw [I.sub x hlt (hall x hlt)] at hnd; cases hnd
  unfold drawF at hF
  rw [hq, hE] at hF
  refine ⟨hF, ?_⟩
  funext s
  by_cases hs : ∃ i, i < ops.length ∧ dstOf ops i = some s
  · obtain ⟨i, hi, hs⟩ := hs
    exact I.mixL s i hi (hall i hi) hs
  · rw [I.mix0 s (fun i hi _ e => hs ⟨i, hi, e⟩), I.keep s fun i hb e => hs ⟨i, I.bound i hb, e⟩]

theorem getD_set_self {L : Array Bool} {i : Nat} (j : Nat) : (L.setIfInBounds i true).getD j true = if i = j then true else L.getD j true := by
  by_cases e : i = j
  · subst e
    rw [if_pos rfl]
    simp only [Array.getD_eq_getD_getElem?, Array.getElem?_setIfInBounds]
    by_cases hi : i < L.size <;> simp [hi]
  · rw [if_neg e, getD_set_ne true e]

theorem Inv.listed (hd : drawOk ops h = true) {E0 E M : Env} {L : Array Bool} {w : World} {done ea : Nat} {pend : List (Nat × (World → Prop))}
    (I : Inv P n ops h E0 L done ea pend E M w) {i : Nat} {o : Oper} {v : Value} (hi : i < ops.length) (ho : ops[i]? = some o) (hdone : done.testBit i = true)
    (ha : ∀ j, (ancAt h i).testBit j = true → L.getD j true = true) (hv : ∀ d, o.dst = some d → E d = v) :
    Inv P n ops h E0 (L.setIfInBounds i true) done ea pend E (M.put o.dst v) w := by
  have hdst := dstOf_eq ho
  have hne : ∀ s i', i' ≠ i → dstOf ops i' = some s → o.dst ≠ some s := fun s i' hi' hs he => hi' (dst_apart hd hs (hdst.trans he))
  have mono : ∀ j, L.getD j true = true → (L.setIfInBounds i true).getD j true = true := fun j hj => by rw [getD_set_self]; split <;> first | rfl | exact hj
  have back : ∀ j, (L.setIfInBounds i true).getD j true = true → j ≠ i → L.getD j true = true := fun j hj e => by rw [getD_set_self, if_neg (fun e' => e e'.symm)] at hj; exact hj
  refine ⟨by simpa using I.size, fun i' hi' hL => ?_, I.bound, fun i' hi' hL j hj => ?_, I.dcl, fun i' hb hc => mono _ (I.effs i' hb hc), fun j hj => mono _ (I.eaL j hj), I.keep, fun s i' hi' hL hs => ?_, fun s hs => ?_, fun i' o' ho' hb hL => ?_⟩
  · by_cases e : i' = i
    · subst e; exact hdone
    · exact I.sub i' hi' (back i' hL e)
  · by_cases e : i' = i
    · subst e; exact mono _ (ha j hj)
    · exact mono _ (I.closed i' hi' (back i' hL e) j hj)
  · by_cases e : i' = i
    · subst e
      rw [hdst] at hs
      rw [hs, put_eq, hv s hs]
    · rw [put_ne (hne s i' e hs)]
      exact I.mixL s i' hi' (back i' hL e) hs
  · rw [put_ne (by rw [← hdst]; exact hs i hi (by rw [getD_set_self, if_pos rfl]))]
    exact I.mix0 s fun i' hi' hL => hs i' hi' (mono _ hL)
  · refine I.facts i' o' ho' hb ?_
    rw [getD_set_self] at hL
    split at hL
    · cases hL
    · exact hL

theorem Inv.frame {E0 E M : Env} {L : Array Bool} {w : World} {done ea : Nat} {pend : List (Nat × (World → Prop))}
    (I : Inv P n ops h E0 L done ea pend E M w) (s : Nat) (hs : ∀ o ∈ ops, o.dst ≠ some s) : E s = E0 s := by
  refine I.keep s fun i _ e => ?_
  unfold dstOf at e
  cases ho : ops[i]? with
  | none => rw [ho] at e; simp at e
  | some o => rw [ho] at e; simp at e; exact hs o (List.mem_of_getElem? ho) e

theorem draw_any {r : Option Nat} (hd : drawOk ops h = true) {K : Env → World → Prop} {Q : Exit → Act → World → Prop} {E0 : Env} (hK : ∀ E w, (∀ s, (∀ o ∈ ops, o.dst ≠ some s) → E s = E0 s) → K E w → Q .normal (act n E) w) :
    ∀ (m : Nat) (L : Array Bool) (fuel done ea : Nat) (pend : List (Nat × (World → Prop))) (E M : Env) (w : World), (L.toList.filter (!·)).length = m →
    Inv P n ops h E0 L done ea pend E M w → findQ done h.cls h.anc 0 = none → drawF P n ops h K (fuel + 1) done ea pend E w → wpAnyIn (Gr r) 0 P .any ops.toArray Q m L (act n M) w := by
  intro m
  induction m with
  | zero =>
    intro L fuel done ea pend E M w hm I hq hF
    have hall : ∀ i, i < ops.length → L.getD i true = true := by
      intro i hi
      cases hb : L.getD i true with
      | true => rfl
      | false =>
        have hs : i < L.size := by rw [I.size]; exact hi
        have : false ∈ L.toList.filter (!·) := by
          refine List.mem_filter.2 ⟨?_, rfl⟩
          simp only [Array.getD_eq_getD_getElem?, Array.getElem?_eq_getElem hs, Option.getD_some] at hb
          rw [← hb]; simp
        rw [List.length_eq_zero_iff.1 hm] at this
        cases this
    obtain ⟨hk, rfl⟩ := I.atEnd hd hq hF hall
    refine ⟨?_, hK _ _ (I.frame) hk⟩
    cases hr : Region.ready .any ops.toArray L with
    | nil => rfl
    | cons x l =>
      obtain ⟨h1, h2, _⟩ := I.ready hd (i := x) (by rw [hr]; exact List.mem_cons_self)
      rw [hall x h1] at h2; cases h2
  | succ m ih =>
    intro L fuel done ea pend E M w hm I hq hF
    refine ⟨fun hr => ?_, fun i hi => ?_⟩
    · obtain ⟨hk, rfl⟩ := I.atEnd hd hq hF (I.allListed hd hr)
      exact hK _ _ (I.frame) hk
    · obtain ⟨hilt, hLi, o, ho, hanc⟩ := I.ready hd hi
      obtain ⟨hl1, hl2, hns, hancOk⟩ := draw_lens hd
      have hm' : ((L.setIfInBounds i true).toList.filter (!·)).length = m := by
        have hs : i < L.size := by rw [I.size]; exact hilt
        have : L.toList[i]? = some false := by
          simp only [Array.getD_eq_getD_getElem?, Array.getElem?_eq_getElem hs, Option.getD_some] at hLi
          rw [← hLi]; simp [hs]
        have := unl_set L.toList i this
        simp only [Array.toList_setIfInBounds]
        omega
      have hsel := hns o (List.mem_of_getElem? ho)
      have hancD : ∀ j, (ancAt h i).testBit j = true → done.testBit j = true := by
        intro j hj
        have hjl : j < ops.length := by
          have hA := (ancOk_at hancOk ho)
          simp only [Nat.zero_add] at hA
          rcases Nat.lt_or_ge j ops.length with hlt | hge
          · exact hlt
          · exfalso
            have key : ∀ (k : Nat), k < ops.length → ∀ j, (ancAt h k).testBit j = true → j < k := by
              intro k
              induction k using Nat.strongRecOn with
              | _ k ihk =>
                intro hk j hj
                obtain ⟨x, hx⟩ : ∃ x, ops[k]? = some x := ⟨_, List.getElem?_eq_getElem hk⟩
                have hB := ancOk_at hancOk hx
                simp only [Nat.zero_add] at hB
                obtain ⟨ed, hm, hb, hor⟩ := hB.1 j hj
                have := hB.2 ed hm hb
                rcases hor with rfl | hor
                · exact this
                · have := ihk ed.on this (by omega) j hor; omega
            have := key i hilt j hj
            omega
        exact I.sub j hjl (hanc j hj)
      obtain ⟨c, hc⟩ : ∃ c, h.cls[i]? = some c := ⟨_, List.getElem?_eq_getElem (by omega)⟩
      obtain ⟨a, ha⟩ : ∃ a, h.anc[i]? = some a := ⟨_, List.getElem?_eq_getElem (by omega)⟩
      have hsub : sub a done = true := by rw [← ancAt_some ha]; exact sub_iff.2 hancD
      by_cases hce : c = .e
      · subst hce
        have hnd : done.testBit i = false := by
          cases hb : done.testBit i with
          | false => rfl
          | true => rw [I.effs i hb hc] at hLi; cases hLi
        have hmem := findE_mem (k := 0) i a hc ha hsub (by simpa using hnd)
        simp only [Nat.zero_add] at hmem
        have hag : ∀ s ∈ namesOf ops o, M s = E s := by
          intro s hs
          by_cases hx : ∃ j, j < ops.length ∧ L.getD j true = true ∧ dstOf ops j = some s
          · obtain ⟨j, h1, h2, h3⟩ := hx
            exact I.mixL s j h1 h2 h3
          · rw [I.mix0 s fun j h1 h2 h3 => hx ⟨j, h1, h2, h3⟩, I.keep s fun j hj hjs => ?_]
            have hji : i ≠ j := fun e => by rw [← e, hnd] at hj; cases hj
            rcases names_ordered hd ho hs hjs hji with hy | hy
            · exact hx ⟨j, I.bound j hj, hanc j hy, hjs⟩
            · have := I.dcl j hj i hy; rw [this] at hnd; cases hnd
        unfold drawF at hF
        rw [hq] at hF
        simp only [] at hF
        have hFi : effG P n ops E o w fun v w' => rechk (Nat.lor ea ((h.anc[i]?).getD 0)) pend w' (drawF P n ops h K fuel (Nat.lor done (2 ^ i)) (Nat.lor ea ((h.anc[i]?).getD 0)) pend (E.put o.dst v) w') := by
          cases he : findE done h.cls h.anc 0 with
          | nil => rw [he] at hmem; cases hmem
          | cons x l =>
            rw [he] at hF hmem
            have := andAll_mem hF hmem
            rw [ho] at this
            exact this
        refine wpOpIn_mono ?_ (wpOp_eff ho hsel hag hFi)
        rintro a' w' ⟨v, rfl, hR⟩
        obtain ⟨hF', hpend⟩ := rechk_out hR
        rw [show (h.anc[i]?).getD 0 = a by rw [ha]; rfl] at hF' hpend
        have hdst := dstOf_eq ho
        have hne : ∀ s i', i' ≠ i → dstOf ops i' = some s → o.dst ≠ some s := fun s i' hi' hs he => hi' (dst_apart hd hs (hdst.trans he))
        have mono : ∀ j, L.getD j true = true → (L.setIfInBounds i true).getD j true = true := fun j hj => by rw [getD_set_self]; split <;> first | rfl | exact hj
        have back : ∀ j, (L.setIfInBounds i true).getD j true = true → j ≠ i → L.getD j true = true := fun j hj e => by rw [getD_set_self, if_neg (fun e' => e e'.symm)] at hj; exact hj
        have hself : (L.setIfInBounds i true).getD i true = true := by rw [getD_set_self, if_pos rfl]
        have heaL : ∀ j, (Nat.lor ea a).testBit j = true → (L.setIfInBounds i true).getD j true = true := by
          intro j hj
          change (ea ||| a).testBit j = true at hj
          rw [Nat.testBit_or] at hj
          simp only [Bool.or_eq_true] at hj
          rcases hj with hj | hj
          · exact mono _ (I.eaL j hj)
          · exact mono _ (hanc j (by rw [ancAt_some ha]; exact hj))
        have I' : Inv P n ops h E0 (L.setIfInBounds i true) (Nat.lor done (2 ^ i)) (Nat.lor ea a) pend (E.put o.dst v) (M.put o.dst v) w' := by
          refine ⟨by simpa using I.size, fun i' hi' hL => ?_, fun i' hb => ?_, fun i' hi' hL j hj => ?_, fun i' hb j hj => ?_, fun i' hb hc' => ?_, heaL, fun s hs => ?_, fun s i' hi' hL hs => ?_, fun s hs => ?_, fun i' o' ho' hb hL => ?_⟩
          · by_cases e : i' = i
            · exact lor_bit.2 (.inr e.symm)
            · exact lor_bit.2 (.inl (I.sub i' hi' (back i' hL e)))
          · rcases lor_bit.1 hb with hb | rfl
            · exact I.bound i' hb
            · exact hilt
          · by_cases e : i' = i
            · subst e; exact mono _ (hanc j hj)
            · exact mono _ (I.closed i' hi' (back i' hL e) j hj)
          · rcases lor_bit.1 hb with hb | rfl
            · exact lor_bit.2 (.inl (I.dcl i' hb j hj))
            · exact lor_bit.2 (.inl (hancD j hj))
          · rcases lor_bit.1 hb with hb | rfl
            · exact mono _ (I.effs i' hb hc')
            · exact hself
          · rw [put_ne (by rw [← hdst]; exact hs i (lor_bit.2 (.inr rfl)))]
            exact I.keep s fun i' hb => hs i' (lor_bit.2 (.inl hb))
          · by_cases e : i' = i
            · subst e
              rw [hdst] at hs
              rw [hs, put_eq, put_eq]
            · rw [put_ne (hne s i' e hs), put_ne (hne s i' e hs)]
              exact I.mixL s i' hi' (back i' hL e) hs
          · rw [put_ne (by rw [← hdst]; exact hs i hilt hself)]
            exact I.mix0 s fun i' hi' hL => hs i' hi' (mono _ hL)
          · have e : i' ≠ i := fun e => by rw [e, hself] at hL; cases hL
            have hb' : done.testBit i' = true := (lor_bit.1 hb).resolve_right (fun e' => e e'.symm)
            have hL' : L.getD i' true = false := by
              cases hx : L.getD i' true with
              | false => rfl
              | true => rw [mono _ hx] at hL; cases hL
            obtain ⟨Ei, v', h1, h2, h3, h4, h5⟩ := I.facts i' o' ho' hb' hL'
            refine ⟨Ei, v', fun d hd' => ?_, fun s hs => ⟨fun j hj hjs => ?_, (h2 s hs).2⟩, ?_, h4, h5⟩
            · rw [put_ne (hne d i' e (by rw [dstOf_eq ho', hd']))]; exact h1 d hd'
            · have hji : j ≠ i := fun e' => by
                rw [e'] at hj; have := I.dcl i' hb' i hj; rw [this] at hnd; cases hnd
              rw [put_ne (hne s j hji hjs)]
              exact (h2 s hs).1 j hj hjs
            · by_cases hp : h.cls[i']? = some .p
              · exact h4 hp w'
              · refine h3.later (hpend i' _ (h5 hp) ?_)
                cases hx : (Nat.lor ea a).testBit i' with
                | false => rfl
                | true => rw [heaL i' hx] at hL; cases hL
        obtain ⟨fuel', done', pend', E', I'', hq'', hF''⟩ := settle hd fuel _ pend _ I' hF'
        exact ih _ fuel' done' _ pend' E' _ w' hm' I'' hq'' hF''
      · have hdone : done.testBit i = true := by
          have := findQ_none hq i c a hc hce ha hsub
          simpa using this
        obtain ⟨Ei, v, h1, h2, h3, _, _⟩ := I.facts i o ho hdone hLi
        have hag : ∀ s ∈ namesOf ops o, M s = Ei s := by
          intro s hs
          by_cases hx : ∃ j, (ancAt h i).testBit j = true ∧ dstOf ops j = some s
          · obtain ⟨j, hj, hjs⟩ := hx
            rw [(h2 s hs).1 j hj hjs]
            exact I.mixL s j (I.bound j (hancD j hj)) (hanc j hj) hjs
          · rw [(h2 s hs).2 fun j hj hjs => hx ⟨j, hj, hjs⟩]
            refine I.mix0 s fun j hjl hj hjs => ?_
            have hji : i ≠ j := fun e => by rw [← e, hLi] at hj; cases hj
            rcases names_ordered hd ho hs hjs hji with hy | hy
            · exact hx ⟨j, hy, hjs⟩
            · have := I.closed j hjl hj i hy; rw [this] at hLi; cases hLi
        refine wpOp_quiet ho hsel hag h3 ?_
        exact ih _ fuel done ea pend E _ w hm' (I.listed hd hilt ho hdone hanc h1) hq hF

theorem region_draw {r : Option Nat} {id : Nat} (hm : P.follows .mixedOrders = true) (hd : drawOk ops h = true) {K : Env → World → Prop} {Q : Exit → Act → World → Prop}
    {E : Env} (hK : ∀ E' w, (∀ s, (∀ o ∈ ops, o.dst ≠ some s) → E' s = E s) → K E' w → Q .normal (act n E') w) {w : World} {fuel : Nat} (hF : drawF P n ops h K fuel 0 0 [] E w.drew) : (Code.region id ops.toArray true).wpIn (Gr r) 0 P Q (act n E) w := by
  refine wpIn_region_any hm ?_
  have hz : ∀ i, i < ops.length → ¬ (Array.replicate ops.toArray.size false).getD i true = true := by
    intro i hi
    have : i < (Array.replicate ops.toArray.size false).size := by simpa using hi
    simp [Array.getD_eq_getD_getElem?, hi]
  have I : Inv P n ops h E (Array.replicate ops.toArray.size false) 0 0 [] E E w.drew := by
    refine ⟨by simp, fun i hi hL => absurd hL (hz i hi), fun i hb => by simp at hb, fun i hi hL => absurd hL (hz i hi), fun i hb => by simp at hb, fun i hb => by simp at hb, fun j hb => by simp at hb, fun s _ => rfl,
      fun s i hi hL => absurd hL (hz i hi), fun s _ => rfl, fun i o ho hb => by simp at hb⟩
  obtain ⟨fuel', done', pend', E', I', hq', hF'⟩ := settle hd fuel _ _ _ I hF
  have hlen : ((Array.replicate ops.toArray.size false).toList.filter (!·)).length = ops.toArray.size := by simp
  exact draw_any hd hK _ _ fuel' done' _ pend' E' _ _ hlen I' hq' hF'
end
end Go.Lf
