/- A part of the proof: A.P21. -/
import Derived.Test.YtgfeaeedlakmfaaAP20
set_option linter.unusedVariables false
set_option linter.unusedSimpArgs false
set_option linter.unusedSectionVars false
namespace Go.Proofs
open Go Go.Lf
set_option maxRecDepth 20000
set_option maxHeartbeats 2000000
set_option linter.unusedSimpArgs false
set_option linter.unusedVariables false
/-! The plain law: the area's blocks, in whatever order, and the reference's row. -/
abbrev ltB (x y : Blk) : Prop := cmpB x.key y.key < 0
structure RelB (l m : List Blk) : Prop where
  perm : l.Perm m
  sort : m.Pairwise ltB
theorem cmpB_lt_trans {a b c : List UInt8} (h1 : cmpB a b < 0) (h2 : cmpB b c < 0) : cmpB a c < 0 := by
  have h := cmpB_trans a b c (by omega) (by omega)
  rcases Int.lt_or_eq_of_le h with h | h
  · exact h
  · have e := cmpB_eq a c h
    subst e
    have := cmpB_swap a b; omega
theorem cmpB_le_lt {a b c : List UInt8} (h1 : cmpB a b ≤ 0) (h2 : cmpB b c < 0) : cmpB a c < 0 := by
  rcases Int.lt_or_eq_of_le h1 with h | h
  · exact cmpB_lt_trans h h2
  · rw [cmpB_eq a b h]; exact h2
theorem ltB_ne {x y : Blk} (h : ltB x y) : x.key ≠ y.key := fun e => by unfold ltB at h; rw [e, cmpB_self] at h; omega
theorem sort_inj : ∀ {m : List Blk}, m.Pairwise ltB → ∀ {x y : Blk}, x ∈ m → y ∈ m → x.key = y.key → x = y
  | [], _, _, _, h, _, _ => by cases h
  | z :: m, hs, x, y, hx, hy, e => by
    rw [List.pairwise_cons] at hs
    rcases List.mem_cons.1 hx with hx1 | hx1 <;> rcases List.mem_cons.1 hy with hy1 | hy1
    · rw [hx1, hy1]
    · exact absurd e (ltB_ne (by rw [hx1]; exact hs.1 y hy1))
    · exact absurd e.symm (ltB_ne (by rw [hy1]; exact hs.1 x hx1))
    · exact sort_inj hs.2 hx1 hy1 e
theorem all_eq {l m : List Blk} (h : RelB l m) (L : List BV) (hp : (L.map (·.1)).Perm l) (ho : L.Pairwise leK) : L.map (·.1) = m := by
  refine List.Perm.eq_of_pairwise (le := fun x y : Blk => cmpB x.key y.key ≤ 0) (fun a b ha hb h1 h2 => ?_) ?_ ?_ (hp.trans h.perm)
  · have hs := cmpB_swap a.key b.key
    have e := cmpB_eq a.key b.key (by omega)
    exact sort_inj h.sort ((hp.trans h.perm).mem_iff.1 ha) hb e
  · rw [List.pairwise_map]; exact ho
  · exact h.sort.imp fun h => Int.le_of_lt h
theorem RelB.sweep {l m : List Blk} (h : RelB l m) (now : Int) : RelB (sweepB now l) (sweepB now m) := ⟨h.perm.filter _, h.sort.filter _⟩
theorem hasK_perm {l m : List Blk} (h : l.Perm m) (k : List UInt8) : hasK k l = hasK k m := by
  unfold hasK
  rw [Bool.eq_iff_iff, List.any_eq_true, List.any_eq_true]
  exact ⟨fun ⟨x, hx, e⟩ => ⟨x, h.mem_iff.1 hx, e⟩, fun ⟨x, hx, e⟩ => ⟨x, h.mem_iff.2 hx, e⟩⟩
theorem pairwise_get {m : List Blk} (h : m.Pairwise ltB) {i j : Nat} (hij : i < j) {x y : Blk} (hx : m[i]? = some x) (hy : m[j]? = some y) : ltB x y := by
  obtain ⟨h1, e1⟩ := List.getElem?_eq_some_iff.1 hx
  obtain ⟨h2, e2⟩ := List.getElem?_eq_some_iff.1 hy
  rw [← e1, ← e2]; exact List.pairwise_iff_getElem.1 h i j h1 h2 hij
theorem reletB_key (k : List UInt8) (e : Int) (x : Blk) : (reletB k e x).key = x.key := by unfold reletB; split <;> rfl
theorem relet_at {T : List Blk} (hs : T.Pairwise ltB) {i : Nat} {y : Blk} (hy : T[i]? = some y) (e : Int) : T.map (reletB y.key e) = T.take i ++ [{ y with exp := max y.exp e }] ++ T.drop (i + 1) := by
  have hother : ∀ j z, T[j]? = some z → j ≠ i → reletB y.key e z = z := fun j z hz hj => by
    unfold reletB
    rw [if_neg]
    intro ek
    rcases Nat.lt_or_gt_of_ne hj with h | h
    · exact ltB_ne (pairwise_get hs h hz hy) ek
    · exact ltB_ne (pairwise_get hs h hy hz) ek.symm
  have hi := (List.getElem?_eq_some_iff.1 hy).1
  apply List.ext_getElem?
  intro j
  have hl : (T.take i).length = i := by rw [List.length_take]; omega
  rw [List.getElem?_map, List.append_assoc, List.getElem?_append, hl]
  by_cases h1 : j < i
  · rw [if_pos h1, List.getElem?_take, if_pos h1]
    cases hz : T[j]? with
    | none => rfl
    | some z => rw [Option.map_some, hother j z hz (by omega)]
  · rw [if_neg h1]
    by_cases h2 : j = i
    · subst h2
      rw [hy, Option.map_some]
      simp [reletB]
    · obtain ⟨d, rfl⟩ : ∃ d, j = i + 1 + d := ⟨j - (i + 1), by omega⟩
      rw [show i + 1 + d - i = d + 1 by omega, List.singleton_append, List.getElem?_cons_succ, List.getElem?_drop]
      cases hz : T[i + 1 + d]? with
      | none => rfl
      | some z => rw [Option.map_some, hother _ z hz (by omega)]
theorem put_rel {l m m' : List Blk} {room quota now c : Int} {b : Blk} (h : RelB l m) (hr : RPut room quota now b m c m') : (putB room quota now b l).1 = c ∧ RelB (putB room quota now b l).2 m' := by
  unfold RPut at hr
  unfold putB
  split at hr
  · rename_i h1; rw [if_pos h1, hr.1, hr.2]; exact ⟨rfl, h⟩
  · rename_i h1
    rw [if_neg h1]
    split at hr
    · rename_i h2; rw [if_pos h2, hr.1, hr.2]; exact ⟨rfl, h⟩
    · rename_i h2
      rw [if_neg h2]
      have hST := h.sweep now
      generalize sweepB now l = S at *
      generalize sweepB now m = T at *
      obtain ⟨i, hi, hbef, hat, hcase⟩ := hr
      rw [hasK_perm hST.perm]
      rcases hcase with ⟨y, hy, hyk, rfl, rfl⟩ | ⟨hne, hcase⟩
      · have hk : hasK b.key T = true := List.any_eq_true.2 ⟨y, List.mem_of_getElem? hy, by simp [hyk]⟩
        rw [if_pos hk]
        refine ⟨rfl, ?_⟩
        rw [← hyk, ← relet_at hST.sort hy]
        refine ⟨hST.perm.map _, ?_⟩
        rw [List.pairwise_map]
        exact hST.sort.imp fun {a c} h => by unfold ltB; rw [reletB_key, reletB_key]; exact h
      · have hgt : ∀ j z, i ≤ j → T[j]? = some z → ltB b z := fun j z hj hz => by
          have hTi : ∃ y, T[i]? = some y := ⟨_, List.getElem?_eq_getElem (by have := (List.getElem?_eq_some_iff.1 hz).1; omega)⟩
          obtain ⟨y, hy⟩ := hTi
          have hby : cmpB b.key y.key < 0 := by
            have h1 := hat y hy
            have h2 := hne y hy
            have hs := cmpB_swap y.key b.key
            have h3 : cmpB y.key b.key ≠ 0 := fun e => h2 (cmpB_eq _ _ e)
            omega
          by_cases e : i = j
          · subst e; rw [hy] at hz; cases hz; exact hby
          · exact cmpB_lt_trans hby (pairwise_get hST.sort (by omega) hy hz)
        have hlt : ∀ z ∈ T.take i, ltB z b := hbef
        have hk : hasK b.key T = false := by
          rw [hasK, List.any_eq_false]
          intro z hz
          obtain ⟨j, hj⟩ := List.getElem?_of_mem hz
          simp only [decide_eq_true_eq]
          intro e
          by_cases hji : j < i
          · exact ltB_ne (hlt z (List.mem_of_getElem? (i := j) (by rw [List.getElem?_take, if_pos hji]; exact hj))) e.symm
          · exact ltB_ne (hgt j z (by omega) hj) e
        rw [hk, if_neg (by simp), used_perm hST.perm, total_perm hST.perm]
        rcases hcase with ⟨h3, rfl, rfl⟩ | ⟨h3, h4, rfl, rfl⟩ | ⟨h3, h4, rfl, rfl⟩
        · rw [if_pos (by omega)]; exact ⟨rfl, hST⟩
        · rw [if_neg (by omega), if_pos (by omega)]; exact ⟨rfl, hST⟩
        · rw [if_neg (by omega), if_neg (by omega)]
          refine ⟨rfl, ?_, ?_⟩
          · have h5 : (S ++ [b]).Perm (T ++ [b]) := hST.perm.append_right _
            refine h5.trans ?_
            conv => lhs; rw [← List.take_append_drop i T]
            rw [List.append_assoc, List.append_assoc]
            exact List.Perm.append_left _ List.perm_append_comm
          · rw [List.append_assoc, List.pairwise_append]
            refine ⟨hST.sort.sublist (List.take_sublist _ _), ?_, ?_⟩
            · rw [List.singleton_append, List.pairwise_cons]
              refine ⟨fun z hz => ?_, hST.sort.sublist (List.drop_sublist _ _)⟩
              obtain ⟨j, hj⟩ := List.getElem?_of_mem hz
              rw [List.getElem?_drop] at hj
              exact hgt _ z (by omega) hj
            · intro x hx y hy
              rcases List.mem_append.1 hy with hy | hy
              · rw [List.mem_singleton.1 hy]; exact hlt x hx
              · obtain ⟨j, hj⟩ := List.getElem?_of_mem hy
                rw [List.getElem?_drop] at hj
                exact cmpB_lt_trans (hlt x hx) (hgt _ y (by omega) hj)
/-- dropped: the same is left, and the same is said -/
def dropB (k : List UInt8) (l : List Blk) : List Blk := l.filter fun b => decide (¬ b.key = k)
theorem RelB.drop {l m : List Blk} (h : RelB l m) (k : List UInt8) : RelB (dropB k l) (dropB k m) := ⟨h.perm.filter _, h.sort.filter _⟩
theorem drop_said {l m : List Blk} (h : l.Perm m) (k : List UInt8) : hasK k l = decide ((dropB k m).length < m.length) := by
  rw [hasK_perm h, Bool.eq_iff_iff, decide_eq_true_eq]
  have key : ∀ m : List Blk, (dropB k m).length ≤ m.length ∧ ((dropB k m).length < m.length ↔ hasK k m = true) := by
    intro m
    induction m with
    | nil => exact ⟨Nat.le_refl _, by simp [hasK]⟩
    | cons x m ih =>
      have e : dropB k (x :: m) = if ¬ x.key = k then x :: dropB k m else dropB k m := by
        unfold dropB; rw [List.filter_cons]; simp
      have e2 : hasK k (x :: m) = (decide (k = x.key) || hasK k m) := rfl
      rw [e, e2]
      by_cases hk : x.key = k
      · rw [if_neg (by simp [hk])]
        simp [hk]; omega
      · rw [if_pos hk]
        have : ¬ k = x.key := fun e => hk e.symm
        simp only [List.length_cons, this, decide_false, Bool.false_or]
        constructor
        · omega
        · rw [← ih.2]; omega
  exact (key m).2.symm
/-- what is told of a key -/
def getB (k : List UInt8) (now : Int) (l : List Blk) : Option Blk := l.find? fun b => decide (b.key = k ∧ now < b.exp)
theorem get_perm {l m : List Blk} (h : RelB l m) (k : List UInt8) (now : Int) : getB k now l = getB k now m := by
  unfold getB
  cases hl : l.find? (fun b => decide (b.key = k ∧ now < b.exp)) with
  | none =>
    symm
    rw [List.find?_eq_none] at hl ⊢
    exact fun x hx => hl x (h.perm.mem_iff.2 hx)
  | some x =>
    have hx := List.mem_of_find?_eq_some hl
    have hx' := List.find?_some hl
    simp only [decide_eq_true_eq] at hx'
    cases hm : m.find? (fun b => decide (b.key = k ∧ now < b.exp)) with
    | none =>
      rw [List.find?_eq_none] at hm
      have := hm x (h.perm.mem_iff.1 hx)
      simp [hx'] at this
    | some y =>
      have hy := List.mem_of_find?_eq_some hm
      have hy' := List.find?_some hm
      simp only [decide_eq_true_eq] at hy'
      rw [sort_inj h.sort (h.perm.mem_iff.1 hx) hy (by rw [hx'.1, hy'.1])]
/-- few keys: few blocks -/
theorem nodup_len {α : Type} [DecidableEq α] : ∀ {l m : List α}, l.Nodup → (∀ x ∈ l, x ∈ m) → l.length ≤ m.length
  | [], m, _, _ => Nat.zero_le _
  | x :: l, m, hn, hs => by
    rw [List.nodup_cons] at hn
    have hx := hs x (by simp)
    have := nodup_len (m := m.erase x) hn.2 fun y hy => by
      have hne : y ≠ x := fun e => hn.1 (e ▸ hy)
      exact (List.mem_erase_of_ne hne).2 (hs y (by simp [hy]))
    rw [List.length_erase_of_mem hx] at this
    have := List.length_pos_of_mem hx
    simp only [List.length_cons]; omega
end Go.Proofs
